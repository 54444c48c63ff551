/- slices.Chunk over whole numbers: the iterator, and what it gives where the row is so many parts of one length. -/
import Derived.Test.YtdjonaajfhbfhaaProg
import Derived.Test.YtdjonaajfhbfhaaRangeB
import Derived.Shelf.Abstract
import Derived.Shelf.RegionOpen
import Derived.WalkKit
import Derived.OwnWalkIn
import Derived.TacticsInMore
import Derived.LoopNIn
import Derived.LoopIn
import Derived.Lib.Hide
import Derived.Test.YtdjonaajfhbfhaaWWords
namespace Go.Proofs.Ytdjonaajfhbfhaa.Ck
open Go.RowKit Go.Shelf Go.Proofs.Ytdjonaajfhbfhaa.Rg Go.Proofs.YtdjonaajfhbfhaaW.PrintWords
set_option linter.unusedVariables false
set_option linter.unusedSimpArgs false
attribute [local go_sem] Oper.semAt_some

set_option maxRecDepth 100000 in
set_option maxHeartbeats 4000000 in
theorem chunk_in (F : Fence) (n : Nat) (hf : F.fn 61) (hro : F.round = none) (A : Option Addr) (m c d : Nat) (hd : 1 ≤ d) (w : World) :
    CallsIn F n Try.prog 61 #[.slice A m c, .int .i64 (d : Int)] w fun e w' => e = .returned (.func (.func 67) #[] #[.pointer (some ⟨w.heap.size, 0, none⟩), .pointer (some ⟨w.heap.size + 1, 0, none⟩)]) ∧ w' = (w.alloc (.cells #[.slice A m c] 24)).alloc (.cells #[.int .i64 (d : Int)] 3) := by
  have h1 : decide ((d : Int) < 1) = false := decide_eq_false (by omega)
  have hs : (w.alloc (.cells #[.slice A m c] 24)).heap.size = w.heap.size + 1 := World.size_alloc w _
  refine callsIn_of_wp Try.func61 rfl hf ?_ hro
  simp only [Try.ntmps61, List.size_toArray, List.length_cons, List.length_nil, Nat.reduceAdd, Nat.reduceSub, Array.replicate_succ, Array.replicate_zero, List.push_toArray, List.append_toArray, List.nil_append, List.cons_append]
  gi_wp2
  go_ret
  exact ⟨rfl, rfl⟩
/-- What the iterator reads: its two variables. -/
structure HeldC (Bs Bn : Nat) (A : Option Addr) (m c d : Nat) (W : World) : Prop where
  var : W.cell? ⟨Bs, 0, none⟩ = some (.slice A m c)
  cnt : W.cell? ⟨Bn, 0, none⟩ = some (.int .i64 (d : Int))
def partV (A : Option Addr) (d k : Nat) : Value := .slice (A.map (fun x => x.add (k * d))) d d

set_option maxRecDepth 100000 in
set_option maxHeartbeats 4000000 in
theorem chunk_give (F : Fence) (n : Nat) (hf : F.fn 67) (hro : F.round = none) (hn : 1 ≤ n) (hm : Try.prog.follows .mixedOrders = true) (Bs Bn : Nat) (A : Option Addr) (c d N : Nat) (hd : 1 ≤ d) (hc : N * d ≤ c) (hl : N * d ≤ 1000000)
    (I M : Nat → World → Prop) (hI : ∀ k W, I k W → HeldC Bs Bn A (N * d) c d W) (hM : ∀ k W, M k W → HeldC Bs Bn A (N * d) c d W) :
    GivesB F n Try.prog 67 #[.pointer (some ⟨Bs, 0, none⟩), .pointer (some ⟨Bn, 0, none⟩)] (fun x : Value => #[x]) (fun k => partV A d k) N I M := by
  intro lp W J K hJ hK hsJ hsK hstep hY h0
  refine callsIn_of_wp Try.func67 rfl hf ?_ hro
  simp only [Try.ntmps67, List.size_toArray, List.length_cons, List.length_nil, Nat.reduceAdd, Nat.reduceSub, Array.replicate_succ, Array.replicate_zero, List.push_toArray, List.append_toArray, List.nil_append, List.cons_append]
  have hdr : ∀ k W, J k W → J k W.drew := fun k W h => hsJ k W _ h (below_drew (Below.refl _ _))
  have hdrK : ∀ k W, K k W → K k W.drew := fun k W h => hsK k W _ h (below_drew (Below.refl _ _))
  have hheld : ∀ k W, J k W → HeldC Bs Bn A (N * d) c d W := fun k W h => hI k W (hJ k W h)
  have hheldK : ∀ W, EndOf N J K W → HeldC Bs Bn A (N * d) c d W := fun W h => h.elim (fun h => hheld 0 W h.2) (fun ⟨k, _, h⟩ => hM k W (hK k W h))
  gi_wp2
  obtain ⟨St, hSt⟩ : ∃ St : Nat → World → Prop, St = fun m wr => (m < N ∧ J m wr) ∨ (m = N ∧ EndOf N J K wr) := ⟨_, rfl⟩
  gi_loopw [4] (fun i wr => ∃ k : Nat, k ≤ N ∧ i = .int .i64 ((k * d : Nat) : Int) ∧ St k wr) (fun i _ => N * d - (intOf i).toNat)
  case atStart =>
    refine ⟨0, by omega, by simp, ?_⟩
    rw [hSt]
    by_cases hz : N = 0
    · exact .inr ⟨by omega, .inl ⟨hz, h0⟩⟩
    · exact .inl ⟨by omega, h0⟩
  case round =>
    obtain ⟨k, hk, rfl, hS⟩ := hrel
    by_cases hlt : k < N
    · have hj : J k wr := by
        rw [hSt] at hS
        rcases hS with h | h
        · exact h.2
        · omega
      obtain ⟨hv, hcn⟩ := hheld k wr hj
      have hkd : k * d + d ≤ N * d := by
        have := Nat.mul_le_mul_right d (show k + 1 ≤ N from hlt)
        rw [Nat.succ_mul] at this
        exact this
      have hks : (k + 1) * d = k * d + d := Nat.succ_mul k d
      have hyy := hY k wr.drew hlt (hdr k wr hj)
      have hkz : partV A d k = .slice (A.map (fun x => x.add (k * d))) d d := rfl
      rw [hkz] at hyy
      clear hkz hheld hheldK hI hY h0
      generalize N * d = q at *
      generalize hp : k * d = p at *
      have hd1 : decide ((p : Int) < (q : Int)) = true := decide_eq_true (by omega)
      have hHS := Lib.hid hSt
      have hHp := Lib.hid hp
      clear hS hSt hp
      gi_wp2
      have hmn : ¬ (q - p < d) := by omega
      gi_region_with_o (fail)
      all_goals (try simp only [hmn, if_false])
      all_goals (have hj2 : J k wr.drew := hdr k wr hj)
      all_goals (have hv2 : wr.drew.cell? ⟨Bs, 0, none⟩ = some (.slice A q c) := hv)
      all_goals (have hcn2 : wr.drew.cell? ⟨Bn, 0, none⟩ = some (.int .i64 (d : Int)) := hcn)
      all_goals (generalize wr.drew = w2 at *)
      all_goals (obtain ⟨fn, tmps, assign, body, hy, hR⟩ := hyy)
      all_goals gi_wp2
      all_goals (refine hR.mono ?_; rintro e W3 ⟨rfl, hk3⟩)
      all_goals (have hc3 := hM k W3 (hK k W3 hk3))
      all_goals (have hcn3 := hc3.cnt)
      all_goals clear hc3
      all_goals gi_wp2
      all_goals (refine ⟨⟨k + 1, by omega, by rw [hks, Int.natCast_add], ?_⟩, by simp only [intOf]; omega⟩)
      all_goals rw [hHS.out]
      all_goals (by_cases hend : k + 1 < N)
      all_goals first
        | exact .inl ⟨hend, hstep k W3 hend hk3⟩
        | exact .inr ⟨by omega, .inr ⟨k, by omega, hk3⟩⟩
    · obtain rfl : k = N := by omega
      have hS' : EndOf k J K wr := by
        rw [hSt] at hS
        rcases hS with h | h
        · omega
        · exact h.2
      obtain ⟨hv, hcn⟩ := hheldK wr hS'
      have hd1 : decide (((k * d : Nat) : Int) < ((k * d : Nat) : Int)) = false := decide_eq_false (by omega)
      clear hS hSt hheld hheldK hI hM hY h0
      generalize k * d = q at *
      gi_wp2
      go_end0
      exact ⟨⟨_, rfl⟩, hS'⟩
end Go.Proofs.Ytdjonaajfhbfhaa.Ck
