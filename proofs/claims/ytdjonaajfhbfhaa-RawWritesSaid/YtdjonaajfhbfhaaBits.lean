/- bits.eighth, a byte's bits as an array, and bits.all, the iterator over bytes' bits: what they give. -/
import Derived.Test.YtdjonaajfhbfhaaProg
import Derived.Test.YtdjonaajfhbfhaaRangeB
import Derived.Shelf.Abstract
import Derived.Shelf.RegionOpen
import Derived.WalkKit
import Derived.OwnWalkIn
import Derived.TacticsInMore
import Derived.LoopNIn
import Derived.LoopIn
import Derived.Lib.Hide
namespace Go.Proofs.Ytdjonaajfhbfhaa.Bt
open Go.RowKit Go.Shelf Go.Proofs.Ytdjonaajfhbfhaa.Rg
set_option linter.unusedVariables false
set_option linter.unusedSimpArgs false
attribute [local go_sem] Oper.semAt_some

/-- Bit i of a byte, the highest first. -/
def bitB (c : Int) (i : Nat) : Int := c / 2 ^ (7 - i) % 2
def rowB (c : Int) (j : Nat) : Array Value := ((List.range 8).map fun i => Value.int .i64 (if i < j then bitB c i else 0)).toArray
def byteB (c : Int) : Array Value := ((List.range 8).map fun i => Value.int .i64 (bitB c i)).toArray
set_option maxRecDepth 100000 in
theorem u8_and1 : ∀ x : Fin 256, Go.bits .and .u8 ((x.val : Nat) : Int) 1 = ((x.val % 2 : Nat) : Int) := by decide
theorem bit_val (c : Int) (j : Nat) (h0 : 0 ≤ c) (h1 : c ≤ 255) : wrap64 (Go.bits .and .u8 (c / 2 ^ (7 - j)) 1) = bitB c j := by
  obtain ⟨c, rfl⟩ := Int.eq_ofNat_of_zero_le h0
  have e : ((c : Nat) : Int) / 2 ^ (7 - j) = ((c / 2 ^ (7 - j) : Nat) : Int) := by rw [Int.natCast_ediv]; congr 1
  unfold bitB
  rw [e]
  have hlt : c / 2 ^ (7 - j) < 256 := Nat.lt_of_le_of_lt (Nat.div_le_self _ _) (by omega)
  have e2 : Go.bits .and .u8 ((c / 2 ^ (7 - j) : Nat) : Int) 1 = ((c / 2 ^ (7 - j) % 2 : Nat) : Int) := u8_and1 ⟨_, hlt⟩
  rw [e2]
  generalize c / 2 ^ (7 - j) = x
  unfold wrap64
  omega
theorem rowB_get (c : Int) (j : Nat) (h : j < 8) : (rowB c j)[j]? = some (.int .i64 0) := by
  rcases (show j = 0 ∨ j = 1 ∨ j = 2 ∨ j = 3 ∨ j = 4 ∨ j = 5 ∨ j = 6 ∨ j = 7 by omega) with rfl | rfl | rfl | rfl | rfl | rfl | rfl | rfl <;> rfl
theorem rowB_set (c : Int) (j : Nat) (h : j < 8) : (rowB c j).setIfInBounds j (.int .i64 (bitB c j)) = rowB c (j + 1) := by
  rcases (show j = 0 ∨ j = 1 ∨ j = 2 ∨ j = 3 ∨ j = 4 ∨ j = 5 ∨ j = 6 ∨ j = 7 by omega) with rfl | rfl | rfl | rfl | rfl | rfl | rfl | rfl <;> rfl
theorem rowB_8 (c : Int) : rowB c 8 = byteB c := rfl

set_option maxRecDepth 100000 in
set_option maxHeartbeats 4000000 in
theorem eighth_in (F : Fence) (n : Nat) (hf : F.fn 69) (hro : F.round = none) (c : Int) (hc0 : 0 ≤ c) (hc1 : c ≤ 255) (w : World) :
    CallsIn F n Try.prog 69 #[.int .u8 c] w fun e w' => e = .returned (.agg (byteB c)) ∧ Below w.heap.size w w' := by
  refine callsIn_of_wp Try.func69 rfl hf ?_ hro
  simp only [Try.ntmps69, List.size_toArray, List.length_cons, List.length_nil, Nat.reduceAdd, Nat.reduceSub, Array.replicate_succ, Array.replicate_zero, List.push_toArray, List.append_toArray, List.nil_append, List.cons_append]
  gi_wp2
  gi_loopw [5] (fun i wr => ∃ j : Nat, j ≤ 8 ∧ i = .int .i64 j ∧ wr = (w.alloc (.cells (rowB c 0) 95)).alloc (.cells (rowB c j) 95)) (fun i _ => 8 - (intOf i).toNat)
  case atStart => exact ⟨0, by omega, rfl, rfl⟩
  case round =>
    obtain ⟨j, hj, rfl, rfl⟩ := hrel
    by_cases h8 : j < 8
    · have h1 : decide ((j : Int) < 8) = true := decide_eq_true (by omega)
      have hg := rowB_get c j h8
      have hv := bit_val c j hc0 hc1
      have hs := rowB_set c j h8
      gi_wp2
      exact ⟨⟨j + 1, by omega, rfl, rfl⟩, by simp only [intOf]; omega⟩
    · have h1 : decide ((j : Int) < 8) = false := decide_eq_false (by omega)
      obtain rfl : j = 8 := by omega
      have e8 : rowB c 8 = #[.int .i64 (bitB c 0), .int .i64 (bitB c 1), .int .i64 (bitB c 2), .int .i64 (bitB c 3), .int .i64 (bitB c 4), .int .i64 (bitB c 5), .int .i64 (bitB c 6), .int .i64 (bitB c 7)] := rfl
      have e0 : rowB c 0 = #[.int .i64 0, .int .i64 0, .int .i64 0, .int .i64 0, .int .i64 0, .int .i64 0, .int .i64 0, .int .i64 0] := rfl
      rw [e8, e0]
      clear e8 e0
      gi_wp2
      (try simp only [Exit.inBlock, Exit.then])
      refine bodyPost_ret (results_cell_row (g := w.heap.size) (t := 95) (cs := byteB c) (fr := (0, 0)) rfl _ _ _ rfl (heap_alloc2_old _ _ _) Try.underlying95 rfl (by kernel_rfl)) rfl ?_
      exact ⟨rfl, ((Below.refl _ w).alloc (Nat.le_refl _) _).alloc (by simp) _⟩

theorem all_in (F : Fence) (n : Nat) (hf : F.fn 66) (hro : F.round = none) (A : Option Addr) (m c : Nat) (w : World) :
    CallsIn F n Try.prog 66 #[.slice A m c] w fun e w' => e = .returned (.func (.func 68) #[] #[.pointer (some ⟨w.heap.size, 0, none⟩)]) ∧ w' = w.alloc (.cells #[.slice A m c] 27) := by
  refine callsIn_of_wp Try.func66 rfl hf ?_ hro
  simp only [Try.ntmps66, List.size_toArray, List.length_cons, List.length_nil, Nat.reduceAdd, Nat.reduceSub, Array.replicate_succ, Array.replicate_zero, List.push_toArray, List.append_toArray, List.nil_append, List.cons_append]
  gi_wp2
  go_ret
  exact ⟨rfl, rfl⟩
theorem byteB_get (c : Int) (j : Nat) (h : j < 8) : (byteB c)[j]? = some (.int .i64 (bitB c j)) := by
  rcases (show j = 0 ∨ j = 1 ∨ j = 2 ∨ j = 3 ∨ j = 4 ∨ j = 5 ∨ j = 6 ∨ j = 7 by omega) with rfl | rfl | rfl | rfl | rfl | rfl | rfl | rfl <;> rfl
theorem index_byte (c : Int) (j : Nat) (h : j < 8) (W : World) : (Instr.index 95 (.agg (byteB c)) (.int .i64 (j : Int))).run Try.prog W = .ok (.int .i64 (bitB c j)) W := by
  have hc := byteB_get c j h
  have hn : 0 ≤ (j : Int) ∧ (j : Int) < ((8 : Nat) : Int) := by omega
  simp only [Instr.index, asIntOf, Sem.run_bind, Sem.run_pure, Result.andThen_ok, run_underlying Try.underlying95, hn, and_self, if_true]
  have hs : (sizeOf 3).run Try.prog W = .ok 1 W := by simp [go_sem]
  simp [hs, part, go_sem, hc]
/-- What the iterator reads: the variable of its own, and the bytes. -/
structure HeldB (Bp : Nat) (A : Option Addr) (c : Nat) (l : List Int) (W : World) : Prop where
  var : W.cell? ⟨Bp, 0, none⟩ = some (.slice A l.length c)
  row : ∀ i, i < l.length → ∃ ad, A = some ad ∧ W.cell? (ad.add i) = some (.int .u8 (l.getD i 0))

set_option maxRecDepth 100000 in
set_option maxHeartbeats 4000000 in
theorem all_give (F : Fence) (n : Nat) (hf : F.fn 68) (h8 : F.fn 69) (hro : F.round = none) (hn : 1 ≤ n) (Bp : Nat) (A : Option Addr) (c : Nat) (l : List Int) (hl : l.length ≤ 1000000) (hb : ∀ x ∈ l, 0 ≤ x ∧ x ≤ 255)
    (I M : Nat → World → Prop) (hI : ∀ k W, I k W → HeldB Bp A c l W) :
    GivesB F n Try.prog 68 #[.pointer (some ⟨Bp, 0, none⟩)] (fun x : Int × Int => #[.int .i64 x.1, .int .i64 x.2]) (fun k => ((k : Int), bitB (l.getD (k / 8) 0) (k % 8))) (8 * l.length) I M := by
  intro lp W J K hJ hK hsJ hsK hstep hY h0
  have hv0 := (hI 0 W (hJ 0 W h0)).var
  refine callsIn_of_wp Try.func68 rfl hf ?_ hro
  simp only [Try.ntmps68, List.size_toArray, List.length_cons, List.length_nil, Nat.reduceAdd, Nat.reduceSub, Array.replicate_succ, Array.replicate_zero, List.push_toArray, List.append_toArray, List.nil_append, List.cons_append]
  gi_wp2
  have St : ∃ St : Nat → World → Prop, St = fun m wr => (m < 8 * l.length ∧ J m wr) ∨ (m = 8 * l.length ∧ EndOf (8 * l.length) J K wr) := ⟨_, rfl⟩
  obtain ⟨St, hSt⟩ := St
  gi_loopw [9] (fun i wr => ∃ k : Nat, k ≤ l.length ∧ i = .int .i64 k ∧ St (8 * k) wr) (fun i _ => l.length - (intOf i).toNat)
  case atStart =>
    refine ⟨0, by omega, rfl, ?_⟩
    rw [hSt]
    by_cases hz : l.length = 0
    · exact .inr ⟨by omega, .inl ⟨by omega, h0⟩⟩
    · exact .inl ⟨by omega, h0⟩
  case round =>
    obtain ⟨k, hk, rfl, hS⟩ := hrel
    by_cases hlt : k < l.length
    · have hd : decide ((k : Int) < (l.length : Int)) = true := decide_eq_true (by omega)
      have hj : J (8 * k) wr := by
        rw [hSt] at hS
        rcases hS with h | h
        · exact h.2
        · omega
      obtain ⟨ad, hA, hc⟩ := (hI _ wr (hJ _ wr hj)).row k hlt
      subst hA
      obtain ⟨b0, b1⟩ := hb (l.getD k 0) (by rw [List.getD_eq_getElem?_getD, List.getElem?_eq_getElem hlt]; exact List.getElem_mem hlt)
      generalize hx : l.getD k 0 = x at *
      have HX := Lib.hid hx
      clear hx
      gi_wp2_with (gi_at_call 69; refine (eighth_in F (n - 1) h8 hro x b0 b1 _).mono ?_; rintro e w' ⟨rfl, hB⟩)
      have hj' : J (8 * k) w' := hsJ _ _ _ hj hB
      clear hj hB hS hc
      have hle : 8 * k < 8 * l.length := by omega
      gi_loopw [16] (fun i wr => ∃ j : Nat, j ≤ 8 ∧ i = .int .i64 j ∧ St (8 * k + j) wr) (fun i _ => 8 - (intOf i).toNat)
      case atStart =>
        refine ⟨0, by omega, rfl, ?_⟩
        rw [hSt]
        exact .inl ⟨by omega, hj'⟩
      case round =>
        obtain ⟨j, hj8, rfl, hS2⟩ := hrel
        by_cases hj8' : j < 8
        · have hd2 : decide ((j : Int) < 8) = true := decide_eq_true (by omega)
          rw [hSt] at hS2
          have hjj : J (8 * k + j) wr := by
            rcases hS2 with h | h
            · exact h.2
            · omega
          have hq1 : (8 * k + j) / 8 = k := by omega
          have hq2 : (8 * k + j) % 8 = j := by omega
          have hlt2 : 8 * k + j < 8 * l.length := by omega
          have hyy := hY (8 * k + j) wr hlt2 hjj
          rw [hq1, hq2, HX.out] at hyy
          have e1 : ((8 * k + j : Nat) : Int) = 8 * (k : Int) + (j : Int) := by omega
          simp only [e1] at hyy
          have hidx := index_byte x j hj8'
          obtain ⟨fn, tmps, assign, body, hy, hR⟩ := hyy
          clear hS2 hq1 hq2 e1
          gi_wp2
          refine hR.mono ?_
          rintro e W3 ⟨rfl, hk3⟩
          gi_wp2
          refine ⟨⟨j + 1, by omega, rfl, ?_⟩, by simp only [intOf]; omega⟩
          rw [hSt]
          by_cases hend : 8 * k + (j + 1) < 8 * l.length
          · exact .inl ⟨hend, hstep _ _ hend hk3⟩
          · exact .inr ⟨by omega, .inr ⟨8 * k + j, by omega, hk3⟩⟩
        · have hd2 : decide ((j : Int) < 8) = false := decide_eq_false (by omega)
          obtain rfl : j = 8 := by omega
          gi_wp2
          exact ⟨⟨k + 1, by omega, rfl, hS2⟩, by simp only [intOf]; omega⟩
    · have hd : decide ((k : Int) < (l.length : Int)) = false := decide_eq_false (by omega)
      obtain rfl : k = l.length := by omega
      gi_wp2
      go_end0
      rw [hSt] at hS
      rcases hS with h | h
      · omega
      · exact ⟨⟨_, rfl⟩, h.2⟩
end Go.Proofs.Ytdjonaajfhbfhaa.Bt
