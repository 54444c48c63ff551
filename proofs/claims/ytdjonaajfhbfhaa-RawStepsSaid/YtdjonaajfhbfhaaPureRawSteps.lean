import Derived.Test.YtdjonaajfhbfhaaIraw_New
import Derived.Test.YtdjonaajfhbfhaaIraw_Reader_Error
import Derived.Test.YtdjonaajfhbfhaaIraw_Reader_Left
import Derived.Test.YtdjonaajfhbfhaaIraw_Reader_Put
import Derived.Test.YtdjonaajfhbfhaaIraw_Reader_Rows
import Derived.Test.YtdjonaajfhbfhaaQ1
import Derived.Test.YtdjonaajfhbfhaaQ2
import Derived.Test.YtdjonaajfhbfhaaQ20
import Derived.Test.YtdjonaajfhbfhaaIraw_Reader_row
import Derived.Test.YtdjonaajfhbfhaaIbits_Unpack
import Derived.Test.YtdjonaajfhbfhaaQ21
import Derived.Test.YtdjonaajfhbfhaaQ12
import Derived.Test.YtdjonaajfhbfhaaQ3
import Derived.Test.YtdjonaajfhbfhaaQ16
import Derived.Laws.BitsLemmas
import Derived.Test.YtdjonaajfhbfhaaQ10
import Derived.Test.YtdjonaajfhbfhaaIraw_Read
import Derived.Test.YtdjonaajfhbfhaaQ27
/- Modulo, from nought on. -/
namespace Go.Proofs.Ytdjonaajfhbfhaa.Q
open Go.RowKit Go.Proofs.YtdjonaajfhbfhaaW.PrintWords Go.Proofs.YtdjonaajfhbfhaaW.PrintLast
set_option linter.unusedVariables false
theorem wf_i64 {n : Int} (h : (Lit.int .i64 n).wf = true) : -9223372036854775808 ≤ n ∧ n ≤ 9223372036854775807 := by
  have a : IntKind.i64.min = -9223372036854775808 := by decide
  have b : IntKind.i64.max = 9223372036854775807 := by decide
  simp [Lit.wf, a, b] at h
  omega
theorem wf_u8 {n : Int} (h : (Lit.int .u8 n).wf = true) : 0 ≤ n ∧ n ≤ 255 := by
  have a : IntKind.u8.min = 0 := by decide
  have b : IntKind.u8.max = 255 := by decide
  simp [Lit.wf, a, b] at h
  omega
def aroundZ (n m : Int) : Int := (if n < 0 then -(n + 1) else n) % m
theorem aroundZ_range (n m : Int) (hm : 0 < m) : 0 ≤ aroundZ n m ∧ aroundZ n m < m := ⟨Int.emod_nonneg _ (by omega), Int.emod_lt_of_pos _ hm⟩
theorem around_is (n m : Int) (h0 : -9223372036854775808 ≤ n) (h1 : n ≤ 9223372036854775807) (hm : 0 < m) : chequerref01_Around.f n m = some (aroundZ n m) := by
  unfold chequerref01_Around.f aroundZ
  by_cases h : n < 0
  · rw [if_pos h, if_neg (by omega), if_pos h]
    have w1 : wrap64 (n + 1) = n + 1 := by unfold wrap64; omega
    have w2 : wrap64 (-(n + 1)) = -(n + 1) := by unfold wrap64; omega
    rw [w1, w2, Int.tmod_eq_emod_of_nonneg (by omega)]
  · rw [if_neg h, if_neg (by omega), if_neg h, Int.tmod_eq_emod_of_nonneg (by omega)]
end Go.Proofs.Ytdjonaajfhbfhaa.Q
/- A head that may be. -/
namespace Go.Proofs.Ytdjonaajfhbfhaa.Q
open Go.RowKit Go.Proofs.YtdjonaajfhbfhaaW.PrintWords Go.Proofs.YtdjonaajfhbfhaaW.PrintLast
set_option linter.unusedVariables false
theorem wr_id (n : Int) (h0 : -9223372036854775808 ≤ n) (h1 : n ≤ 9223372036854775807) : wrap64 n = n := by unfold wrap64; omega
end Go.Proofs.Ytdjonaajfhbfhaa.Q
/- The document's example of layer 9. -/
namespace Go.Proofs.Ytdjonaajfhbfhaa.Q
open Go.RowKit Go.Proofs.YtdjonaajfhbfhaaW.PrintWords Go.Proofs.YtdjonaajfhbfhaaW.PrintLast
theorem lives09 : chequerlaw09_lives.f 40 = some true := by decide +kernel
theorem lives_more (k : Nat) (hk : 40 ≤ k) : chequerlaw09_lives.f k = some true := by
  obtain ⟨d, rfl⟩ := Nat.exists_eq_add_of_le hk
  clear hk
  induction d with
  | zero => exact lives09
  | succ d ih => exact chequerlaw09_lives.mono (40 + d) _ ih
end Go.Proofs.Ytdjonaajfhbfhaa.Q
/- A row's pixels, of its bytes, by the document's text. -/
namespace Go.Proofs.Ytdjonaajfhbfhaa.Q
open Go.RowKit Go.Proofs.YtdjonaajfhbfhaaW.PrintWords Go.Proofs.YtdjonaajfhbfhaaW.PrintLast Go.Proofs.Ytdjonaajfhbfhaa.Bt
set_option linter.unusedVariables false
set_option linter.unusedVariables false
def bytesOK (l : List Int) : Prop := ∀ x ∈ l, 0 ≤ x ∧ x ≤ 255
theorem bytesOK_get {l : List Int} (h : bytesOK l) (i : Nat) : 0 ≤ l.getD i 0 ∧ l.getD i 0 ≤ 255 := by
  rw [List.getD_eq_getElem?_getD]
  cases e : l[i]? with
  | none => simp
  | some x => exact h x (List.mem_of_getElem? e)
def bitR (l : List Int) (i : Int) : Int := if i < 0 then -1 else if (l.length : Int) ≤ i / 8 then -1 else bitB (l.getD (i / 8).toNat 0) (i % 8).toNat
theorem refbit_l0 : ∀ (d j k n : Nat), 7 - j = d → j ≤ 7 → d < k → n < 256 → chequerref07_Bit.l0 k (n : Int) (j : Int) = some (((n / 2 ^ d % 2 : Nat) : Int)) := by
  intro d
  induction d with
  | zero =>
    intro j k n hd hj hk hn
    obtain ⟨k, rfl⟩ : ∃ m, k = m + 1 := ⟨k - 1, by omega⟩
    rw [chequerref07_Bit.l0, if_neg (by omega)]
    have e : Int.tmod (n : Int) 2 = ((n / 2 ^ 0 % 2 : Nat) : Int) := by rw [Int.tmod_eq_emod_of_nonneg (by omega), Nat.pow_zero, Nat.div_one]; omega
    rw [e]
  | succ d ih =>
    intro j k n hd hj hk hn
    obtain ⟨k, rfl⟩ : ∃ m, k = m + 1 := ⟨k - 1, by omega⟩
    have w1 : wrap64 (Int.tdiv (n : Int) 2) = ((n / 2 : Nat) : Int) := by rw [Int.tdiv_eq_ediv_of_nonneg (by omega)]; unfold wrap64; omega
    have w2 : wrap64 ((j : Int) + 1) = ((j + 1 : Nat) : Int) := by unfold wrap64; omega
    rw [chequerref07_Bit.l0, if_pos (by omega), w1, w2, ih (j + 1) k (n / 2) (by omega) (by omega) (by omega) (by omega), Nat.div_div_eq_div_mul, ← Nat.pow_succ']
theorem bitB_nat (c i : Nat) : bitB (c : Int) i = ((c / 2 ^ (7 - i) % 2 : Nat) : Int) := by
  unfold bitB
  have e : ((c : Nat) : Int) / 2 ^ (7 - i) = ((c / 2 ^ (7 - i) : Nat) : Int) := by rw [Int.natCast_ediv]; congr 1
  rw [e]
  rfl
theorem refbit_is (l : List Int) (hl : bytesOK l) (i : Int) (h1 : i ≤ 9223372036854775807) (k : Nat) (hk : 8 ≤ k) : chequerref07_Bit.f k l i = some (bitR l i) := by
  unfold chequerref07_Bit.f bitR
  by_cases h0 : i < 0
  · rw [if_pos h0, if_pos h0]
  · rw [if_neg h0, if_neg h0]
    have w1 : wrap64 (Int.tdiv i 8) = i / 8 := by rw [Int.tdiv_eq_ediv_of_nonneg (by omega)]; unfold wrap64; omega
    have t1 : Int.tmod i 8 = i % 8 := Int.tmod_eq_emod_of_nonneg (by omega)
    have b0 : 0 ≤ i / 8 := by omega
    have b1 : 0 ≤ i % 8 ∧ i % 8 < 8 := by omega
    rw [w1, t1]
    generalize i / 8 = q at *
    generalize i % 8 = m at *
    clear w1 t1
    by_cases h2 : q ≥ (l.length : Int)
    · rw [if_pos h2, if_pos (by omega)]
    · rw [if_neg h2, if_pos b0, if_pos (show q < (l.length : Int) by omega), if_neg (show ¬ (l.length : Int) ≤ q by omega)]
      obtain ⟨c0, c1⟩ := bytesOK_get hl q.toNat
      have hrd : rd l q = l.getD q.toNat 0 := rfl
      rw [hrd]
      generalize l.getD q.toNat 0 = c at *
      clear hrd
      obtain ⟨c, rfl⟩ := Int.eq_ofNat_of_zero_le c0
      obtain ⟨m, rfl⟩ := Int.eq_ofNat_of_zero_le b1.1
      have w3 : wrap64 (c : Int) = (c : Int) := by unfold wrap64; omega
      rw [w3, refbit_l0 (7 - m) m k c rfl (by omega) (by omega) (by omega), Int.toNat_natCast, bitB_nat]
theorem wz_succ_ (i : Nat) (h : i ≤ 100000) : wrap64 ((i : Int) + 1) = ((i + 1 : Nat) : Int) := by unfold wrap64; omega
set_option linter.unusedVariables false
theorem refbytes_is (w : Int) (h0 : -9223372036854775808 ≤ w) (h1 : w ≤ 9223372036854775807) (k : Nat) (hk : 1 ≤ k) : chequerref07_Bytes.f k w = some (if w < 1 ∨ 4096 < w then 0 else (w + 7) / 8) := by
  obtain ⟨k, rfl⟩ : ∃ m, k = m + 1 := ⟨k - 1, by omega⟩
  unfold chequerref07_Bytes.f
  by_cases h : w < 1
  · rw [if_pos h, chequerref07_Bytes.j0, if_pos rfl, if_pos (.inl h)]
  · rw [if_neg h]
    by_cases h2 : w > 4096
    · rw [decide_eq_true h2, chequerref07_Bytes.j0, if_pos rfl, if_pos (.inr h2)]
    · rw [decide_eq_false h2, chequerref07_Bytes.j0, if_neg (by decide), if_neg (show ¬ (w < 1 ∨ 4096 < w) by omega)]
      have t : Int.tmod w 8 = w % 8 := Int.tmod_eq_emod_of_nonneg (by omega)
      have w1 : wrap64 (Int.tdiv w 8) = w / 8 := by rw [Int.tdiv_eq_ediv_of_nonneg (by omega)]; unfold wrap64; omega
      have w2 : wrap64 (w / 8 + 1) = w / 8 + 1 := by clear t w1; unfold wrap64; omega
      rw [t, w1, w2]
      clear t w1 w2
      by_cases h3 : w % 8 > 0
      · rw [if_pos h3]
        congr 1
        omega
      · rw [if_neg h3]
        congr 1
        omega
theorem refunpack_go (l : List Int) (hl : bytesOK l) (u : Nat) (hu : u ≤ 4096) (hn : (u + 7) / 8 ≤ l.length) : ∀ (d i k : Nat), u - i = d → i ≤ u → d + 20 < k → chequerref07_Unpack.l0 k l (u : Int) (bits_row l i) (i : Int) = some (bits_row l u, 0) := by
  intro d
  induction d with
  | zero =>
    intro i k hd hi hk
    obtain ⟨k, rfl⟩ : ∃ m, k = m + 1 := ⟨k - 1, by omega⟩
    have e : i = u := by omega
    rw [chequerref07_Unpack.l0, if_neg (by omega), e]
  | succ d ih =>
    intro i k hd hi hk
    obtain ⟨k, rfl⟩ : ∃ m, k = m + 1 := ⟨k - 1, by omega⟩
    have q := ih (i + 1) k (by omega) (by omega) (by omega)
    have hk8 : 8 ≤ k := by omega
    have hi9 : (i : Int) ≤ 9223372036854775807 := by omega
    have hlen : (bits_row l i).length < 17592186044416 := by rw [bits_row_len]; omega
    have c1 : (i : Int) < (u : Int) := by omega
    have hb : bitR l (i : Int) = bitB (l.getD (i / 8) 0) (i % 8) := by
      unfold bitR
      have e1 : ((i : Nat) : Int) / 8 = ((i / 8 : Nat) : Int) := rfl
      have e2 : ((i : Nat) : Int) % 8 = ((i % 8 : Nat) : Int) := rfl
      rw [if_neg (by omega), e1, e2, if_neg (by omega), Int.toNat_natCast, Int.toNat_natCast]
    rw [bits_row_succ] at q
    rw [chequerref07_Unpack.l0, if_pos c1, refbit_is l hl _ hi9 k hk8, Option.bind_some, hb, if_pos hlen, wz_succ_ i (by omega)]
    exact q
theorem refunpack_ok (l : List Int) (hl : bytesOK l) (w : Int) (h0 : 1 ≤ w) (h1 : w ≤ 4096) (hn : (w.toNat + 7) / 8 ≤ l.length) (k : Nat) (hk : 5000 ≤ k) : chequerref07_Unpack.f k l w = some (bits_row l w.toNat, 0) := by
  unfold chequerref07_Unpack.f
  rw [refbytes_is w (by omega) (by omega) k (by omega), Option.bind_some, if_neg (by omega), if_neg (by omega)]
  obtain ⟨u, rfl⟩ := Int.eq_ofNat_of_zero_le (show 0 ≤ w by omega)
  rw [Int.toNat_natCast] at hn ⊢
  exact refunpack_go l hl u (by omega) hn u 0 k (by omega) (by omega) (by omega)
end Go.Proofs.Ytdjonaajfhbfhaa.Q
/- Heads of rasters of bytes: both texts answer the same. -/
namespace Go.Proofs.Ytdjonaajfhbfhaa.Q
open Go.RowKit Go.Proofs.YtdjonaajfhbfhaaW.PrintWords Go.Proofs.YtdjonaajfhbfhaaW.PrintLast
set_option linter.unusedVariables false
theorem refsize_is {k w h m : Int} (e : rawMay k w h m = true) : chequerref06_Size.f k w h m = some ((rawS k w m : Nat) * h) := by
  have h1 := rawMay_is e
  have hsb := rawS_bound e
  have w64 : ∀ x : Int, 0 ≤ x → x ≤ 1610612736 → wrap64 x = x := fun x a b => by unfold wrap64; omega
  have hp : ∀ a b : Int, 0 ≤ a → a ≤ 24576 → 0 ≤ b → b ≤ 65536 → 0 ≤ a * b ∧ a * b ≤ 1610612736 := fun a b a0 a1 b0 b1 => ⟨Int.mul_nonneg a0 b0, by
    have := Int.mul_le_mul a1 b1 b0 (by omega)
    omega⟩
  unfold chequerref06_Size.f
  rw [if_neg (by omega)]
  unfold rawS sampW
  by_cases h4 : k = 4
  · rw [if_pos h4, if_pos h4]
    rw [Int.tmod_eq_emod_of_nonneg (by omega), Int.tdiv_eq_ediv_of_nonneg (by omega), w64 (w / 8) (by omega) (by omega)]
    by_cases hz : w % 8 > 0
    · rw [if_pos hz, w64 (w / 8 + 1) (by omega) (by omega)]
      have := hp (w / 8 + 1) h (by omega) (by omega) (by omega) (by omega)
      rw [w64 _ this.1 this.2]
      congr 2
      omega
    · rw [if_neg hz]
      have := hp (w / 8) h (by omega) (by omega) (by omega) (by omega)
      rw [w64 _ this.1 this.2]
      congr 2
      omega
  · rw [if_neg h4, if_neg h4]
    have q0 := hp w h (by omega) (by omega) (by omega) (by omega)
    have q3 := hp (3 * w) h (by omega) (by omega) (by omega) (by omega)
    have q2 := hp (2 * w) h (by omega) (by omega) (by omega) (by omega)
    have q6 := hp (6 * w) h (by omega) (by omega) (by omega) (by omega)
    have e3 : 3 * (w * h) = 3 * w * h := (Int.mul_assoc 3 w h).symm
    have e2 : 2 * (w * h) = 2 * w * h := (Int.mul_assoc 2 w h).symm
    have e6 : 2 * (3 * w * h) = 6 * w * h := by rw [← Int.mul_assoc, ← Int.mul_assoc]; rfl
    by_cases h6 : k = 6
    · rw [if_pos h6, if_pos h6, w64 (w * h) q0.1 q0.2, e3, w64 (3 * w * h) q3.1 q3.2]
      by_cases hm : m ≤ 255
      · rw [if_neg (by omega), if_pos hm]
        congr 2
        omega
      · rw [if_pos (by omega), if_neg hm, e6, w64 _ q6.1 q6.2]
        congr 2
        omega
    · rw [if_neg h6, if_neg h6, w64 (w * h) q0.1 q0.2]
      by_cases hm : m ≤ 255
      · rw [if_neg (by omega), if_pos hm]
        congr 2
        omega
      · rw [if_pos (by omega), if_neg hm, e2, w64 _ q2.1 q2.2]
        congr 2
        omega
theorem refstride_is {k w h m : Int} (e : rawMay k w h m = true) : chequerref09_Stride.f k w h m = some ((rawS k w m : Nat) : Int) := by
  have h1 := rawMay_is e
  have hsb := rawS_bound e
  unfold chequerref09_Stride.f
  rw [if_neg (by omega), refsize_is e, Option.bind_some, if_neg (by omega), Int.mul_tdiv_cancel _ (by omega)]
  congr 1
  unfold wrap64
  omega
theorem refhead_is (a b c d most : Int) (ha : -9223372036854775808 ≤ a ∧ a ≤ 9223372036854775807) (hb : -9223372036854775808 ≤ b ∧ b ≤ 9223372036854775807) (hc : -9223372036854775808 ≤ c ∧ c ≤ 9223372036854775807) (hd : -9223372036854775808 ≤ d ∧ d ≤ 9223372036854775807) (h0 : 1 ≤ most) (h1 : most ≤ 4096) :
    ∃ k w h m, chequerref09_Head.f a b c d most = some (k, w, h, m) ∧ rawMay k w h m = true ∧ w ≤ most ∧ h ≤ most := by
  have r1 := aroundZ_range a 6 (by omega)
  have r2 := aroundZ_range b most (by omega)
  have r3 := aroundZ_range c most (by omega)
  have r4 := aroundZ_range d 65535 (by omega)
  unfold chequerref09_Head.f chequerref06_Good.f
  rw [around_is a 6 ha.1 ha.2 (by omega), around_is b most hb.1 hb.2 (by omega), around_is c most hc.1 hc.2 (by omega), around_is d 65535 hd.1 hd.2 (by omega)]
  generalize aroundZ a 6 = x at *
  generalize aroundZ b most = y at *
  generalize aroundZ c most = z at *
  generalize aroundZ d 65535 = v at *
  simp only [Option.bind_some, chequerref06_bits.f]
  rw [wr_id (1 + x) (by omega) (by omega), wr_id (1 + y) (by omega) (by omega), wr_id (1 + z) (by omega) (by omega), wr_id (1 + v) (by omega) (by omega)]
  have w3 : wrap64 (1 + x + 3) = x + 4 := by unfold wrap64; omega
  by_cases g1 : 1 + x = 1
  · rw [if_pos g1, Option.bind_some, if_pos rfl, Option.bind_some, if_pos (by show 1 + x < 4; omega), w3]
    exact ⟨x + 4, 1 + y, 1 + z, 1, rfl, decide_eq_true (by omega), by omega, by omega⟩
  · rw [if_neg g1, Option.bind_some]
    by_cases g4 : 1 + x = 4
    · have e : (1 + x == 4) = true := beq_iff_eq.2 g4
      rw [e, if_pos rfl, Option.bind_some, if_neg (by show ¬ 1 + x < 4; omega)]
      exact ⟨1 + x, 1 + y, 1 + z, 1, rfl, decide_eq_true (by omega), by omega, by omega⟩
    · have e : (1 + x == 4) = false := beq_eq_false_iff_ne.2 g4
      rw [e, if_neg (by decide), Option.bind_some]
      by_cases g5 : 1 + x < 4
      · rw [if_pos g5, w3]
        exact ⟨x + 4, 1 + y, 1 + z, 1 + v, rfl, decide_eq_true (by omega), by omega, by omega⟩
      · rw [if_neg g5]
        exact ⟨1 + x, 1 + y, 1 + z, 1 + v, rfl, decide_eq_true (by omega), by omega, by omega⟩
end Go.Proofs.Ytdjonaajfhbfhaa.Q
/- The pixel of samples: both texts answer the same. -/
namespace Go.Proofs.Ytdjonaajfhbfhaa.Q
open Go.RowKit Go.Proofs.YtdjonaajfhbfhaaW.PrintWords Go.Proofs.YtdjonaajfhbfhaaW.PrintLast
set_option linter.unusedVariables false
theorem wraps_u64_63 (n : Int) (h0 : 0 ≤ n) (h1 : n < 2 ^ 63) : IntKind.u64.wrap n = n := by
  simp [IntKind.wrap, IntKind.bits, IntKind.signed]
  omega
theorem u64_in (n : Int) (h0 : 0 ≤ n) (h1 : n ≤ 18446744073709551615) : IntKind.u64.wrap n = n := by
  simp [IntKind.wrap, IntKind.bits, IntKind.signed]
  omega
theorem or16 (v n : Int) (h0 : 0 ≤ v) (h1 : v ≤ 4294967295) (h2 : 0 ≤ n) (h3 : n ≤ 65535) : Go.bits .or .u64 (v * 65536) n = v * 65536 + n :=
  bits_join .u64 63 (by decide) wraps_u64_63 16 _ _ (by omega) (by omega) (by omega) h2 (by omega) (by omega)
theorem or48 (v c : Int) (h0 : 0 ≤ v) (h1 : v ≤ 281474976710655) (h2 : 0 ≤ c) (h3 : c ≤ 3) : Go.bits .or .u64 v (c * 281474976710656) = v + c * 281474976710656 := by
  have e : Go.bits .or .u64 v (c * 281474976710656) = Go.bits .or .u64 (c * 281474976710656) v := by simp only [Go.bits, BitVec.or_comm]
  rw [e, bits_join .u64 63 (by decide) wraps_u64_63 48 _ _ (by omega) (by omega) (by omega) h0 (by omega) (by omega)]
  omega
def inS (n : Int) : Prop := 0 ≤ n ∧ n ≤ 65535
instance (n : Int) : Decidable (inS n) := by unfold inS; infer_instance
theorem in_is (n : Int) : chequerref01_in.f n = some (decide (inS n)) := by
  unfold chequerref01_in.f
  by_cases h : n ≥ 0
  · rw [if_pos h]
    congr 1
    apply decide_eq_decide.2
    unfold inS
    omega
  · have : ¬ inS n := fun e => h e.1
    rw [if_neg h, decide_eq_false this]
/-- The pixel of samples. -/
def pixP : List Int → Int × Int
  | [a] => if inS a then (a + 281474976710656, 0) else (0, 4)
  | [a, b, c] => if inS a ∧ inS b ∧ inS c then (a * 4294967296 + b * 65536 + c + 844424930131968, 0) else (0, 4)
  | _ => (0, 1)
theorem pixP_other (l : List Int) (h1 : l.length ≠ 1) (h3 : l.length ≠ 3) : pixP l = (0, 1) := by
  match l with
  | [] => rfl
  | [a] => simp at h1
  | [a, b] => rfl
  | [a, b, c] => simp at h3
  | a :: b :: c :: d :: r => rfl
theorem list_1 {l : List Int} (h : l.length = 1) : ∃ a, l = [a] := by
  match l, h with
  | [a], _ => exact ⟨a, rfl⟩
theorem list_3 {l : List Int} (h : l.length = 3) : ∃ a b c, l = [a, b, c] := by
  match l, h with
  | [a, b, c], _ => exact ⟨a, b, c, rfl⟩
theorem refpixpack_0 (k : Nat) (x4 : Int) (a b c : Int) (hv : 0 ≤ x4) (hv2 : x4 ≤ 4294967295) (l : List Int) (i : Nat) (hi : i < l.length) (hl : l.length ≤ 3) (ha : l.getD i 0 = a) : chequerref01_Pack.l0 (k + 1) l x4 (i : Int) = if inS a then chequerref01_Pack.l0 k l (x4 * 65536 + a) ((i + 1 : Nat) : Int) else some (0, 4) := by
  have hrd : rd l (i : Int) = a := by unfold rd; rw [Int.toNat_natCast]; exact ha
  have c1 : (i : Int) < (l.length : Int) := by omega
  have c2 : (0 : Int) ≤ (i : Int) := by omega
  have w1 : wrap64 ((i : Int) + 1) = ((i + 1 : Nat) : Int) := by clear hrd; unfold wrap64; omega
  rw [chequerref01_Pack.l0, if_pos c1, if_pos c2, hrd, in_is, Option.bind_some, w1]
  by_cases h : inS a
  · have h' := h
    unfold inS at h'
    have w2 : wrap64 (wrap64 (x4 * 65536) + a) = x4 * 65536 + a := by clear hrd w1; unfold wrap64; omega
    rw [decide_eq_true h, if_pos rfl, if_pos h, w2]
  · rw [decide_eq_false h, if_neg (by decide), if_neg h]
theorem refpixpack_end (k : Nat) (x4 : Int) (l : List Int) (hl : l.length ≤ 3) (hv : 0 ≤ x4) (hv2 : x4 ≤ 281474976710655) : chequerref01_Pack.l0 (k + 1) l x4 (l.length : Int) = some (x4 + (l.length : Int) * 281474976710656, 0) := by
  have w1 : wrap64 ((l.length : Int) * 281474976710656) = (l.length : Int) * 281474976710656 := by unfold wrap64; omega
  have w2 : wrap64 (x4 + (l.length : Int) * 281474976710656) = x4 + (l.length : Int) * 281474976710656 := by clear w1; unfold wrap64; omega
  rw [chequerref01_Pack.l0, if_neg (by omega), w1, w2, u64_in _ (by clear w1 w2; omega) (by clear w1 w2; omega)]
theorem refpixpack_is (l : List Int) (k : Nat) (hk : 10 ≤ k) : chequerref01_Pack.f k l = some (pixP l) := by
  unfold chequerref01_Pack.f
  obtain ⟨k, rfl⟩ : ∃ m, k = m + 6 := ⟨k - 6, by omega⟩
  by_cases h1 : l.length = 1
  · obtain ⟨a, rfl⟩ := list_1 h1
    rw [if_pos (by rfl), chequerref01_Pack.j0, if_neg (by decide)]
    have s0 := refpixpack_0 (k + 4) 0 a 0 0 (by omega) (by omega) [a] 0 (by simp) (by simp) rfl
    rw [show ((0 : Nat) : Int) = 0 from rfl] at s0
    rw [s0]
    by_cases h : inS a
    · have h' := h
      unfold inS at h'
      have s1 := refpixpack_end (k + 3) (0 * 65536 + a) [a] (by simp) (by omega) (by omega)
      rw [if_pos h]
      refine s1.trans ?_
      simp only [pixP]
      rw [if_pos h]
      congr 2
      simp
    · rw [if_neg h]
      simp only [pixP]
      rw [if_neg h]
  · rw [if_neg (by omega)]
    by_cases h3 : l.length = 3
    · obtain ⟨a, b, c, rfl⟩ := list_3 h3
      rw [show (([a, b, c].length : Int) != 3) = false by simp, chequerref01_Pack.j0, if_neg (by decide)]
      have s0 := refpixpack_0 (k + 4) 0 a 0 0 (by omega) (by omega) [a, b, c] 0 (by simp) (by simp) rfl
      rw [show ((0 : Nat) : Int) = 0 from rfl] at s0
      rw [s0]
      simp only [pixP]
      by_cases ha : inS a
      · have ha' := ha
        unfold inS at ha'
        have s1 := refpixpack_0 (k + 3) (0 * 65536 + a) b 0 0 (by omega) (by omega) [a, b, c] 1 (by simp) (by simp) rfl
        rw [if_pos ha]
        refine s1.trans ?_
        by_cases hb : inS b
        · have hb' := hb
          unfold inS at hb'
          have s2 := refpixpack_0 (k + 2) ((0 * 65536 + a) * 65536 + b) c 0 0 (by omega) (by omega) [a, b, c] 2 (by simp) (by simp) rfl
          rw [if_pos hb]
          refine s2.trans ?_
          by_cases hc : inS c
          · have hc' := hc
            unfold inS at hc'
            have s3 := refpixpack_end (k + 1) (((0 * 65536 + a) * 65536 + b) * 65536 + c) [a, b, c] (by simp) (by omega) (by omega)
            rw [if_pos hc, if_pos ⟨ha, hb, hc⟩]
            refine s3.trans ?_
            congr 2
            simp
            omega
          · rw [if_neg hc, if_neg (fun h => hc h.2.2)]
        · rw [if_neg hb, if_neg (fun h => hb h.2.1)]
      · rw [if_neg ha, if_neg (fun h => ha h.1)]
    · rw [show ((l.length : Int) != 3) = true by simp; omega, chequerref01_Pack.j0, if_pos rfl, pixP_other l h1 h3]
theorem pixpack_0 (k : Nat) (x0 : List Int) (x4 : Int) (a : Int) (hv : 0 ≤ x4) (hv2 : x4 ≤ 4294967295) (l : List Int) (i : Nat) (hi : i < l.length) (hl : l.length ≤ 3) (ha : l.getD i 0 = a) : pix_Pack.l0 (k + 1) x0 x4 l (l.length : Int) (i : Int) = if inS a then pix_Pack.l0 k x0 (x4 * 65536 + a) l (l.length : Int) ((i + 1 : Nat) : Int) else some (0, 4) := by
  have hrd : rd l (i : Int) = a := by unfold rd; rw [Int.toNat_natCast]; exact ha
  have c1 : (i : Int) < (l.length : Int) := by omega
  have c2 : (0 : Int) ≤ (i : Int) := by omega
  have w1 : wrap64 ((i : Int) + 1) = ((i + 1 : Nat) : Int) := by clear hrd; unfold wrap64; omega
  rw [pix_Pack.l0, if_pos c1, if_pos c2, if_pos c1, hrd, w1]
  clear hrd w1
  by_cases h : a < 0
  · rw [if_pos h, if_neg (show ¬ inS a from fun e => by have := e.1; omega)]
  · rw [if_neg h]
    by_cases h2 : a > 65535
    · rw [if_pos h2, if_neg (show ¬ inS a from fun e => by have := e.2; omega)]
    · rw [if_neg h2, if_pos (show inS a from ⟨by omega, by omega⟩), u64_in (x4 * 65536) (by omega) (by omega), u64_in a (by omega) (by omega), or16 x4 a hv hv2 (by omega) (by omega)]
theorem pixpack_end (k : Nat) (x0 : List Int) (x4 : Int) (l : List Int) (h0 : x0.length ≤ 3) (hv : 0 ≤ x4) (hv2 : x4 ≤ 281474976710655) : pix_Pack.l0 (k + 1) x0 x4 l (l.length : Int) (l.length : Int) = some (x4 + (x0.length : Int) * 281474976710656, 0) := by
  rw [pix_Pack.l0, if_neg (by omega), u64_in (x0.length : Int) (by omega) (by omega), u64_in _ (by omega) (by omega), or48 x4 _ hv hv2 (by omega) (by omega)]
theorem pixpack_is (l : List Int) (k : Nat) (hk : 10 ≤ k) : pix_Pack.f k l = some (pixP l) := by
  unfold pix_Pack.f
  obtain ⟨k, rfl⟩ : ∃ m, k = m + 6 := ⟨k - 6, by omega⟩
  by_cases h1 : l.length = 1
  · obtain ⟨a, rfl⟩ := list_1 h1
    rw [if_pos (by rfl), pix_Pack.j0, if_neg (by decide)]
    have s0 := pixpack_0 (k + 4) [a] 0 a (by omega) (by omega) [a] 0 (by simp) (by simp) rfl
    rw [show ((0 : Nat) : Int) = 0 from rfl] at s0
    rw [s0]
    by_cases h : inS a
    · have h' := h
      unfold inS at h'
      have s1 := pixpack_end (k + 3) [a] (0 * 65536 + a) [a] (by simp) (by omega) (by omega)
      rw [if_pos h]
      refine s1.trans ?_
      simp only [pixP]
      rw [if_pos h]
      congr 2
      simp
    · rw [if_neg h]
      simp only [pixP]
      rw [if_neg h]
  · rw [if_neg (by omega)]
    by_cases h3 : l.length = 3
    · obtain ⟨a, b, c, rfl⟩ := list_3 h3
      rw [show (([a, b, c].length : Int) != 3) = false by simp, pix_Pack.j0, if_neg (by decide)]
      have s0 := pixpack_0 (k + 4) [a, b, c] 0 a (by omega) (by omega) [a, b, c] 0 (by simp) (by simp) rfl
      rw [show ((0 : Nat) : Int) = 0 from rfl] at s0
      rw [s0]
      simp only [pixP]
      by_cases ha : inS a
      · have ha' := ha
        unfold inS at ha'
        have s1 := pixpack_0 (k + 3) [a, b, c] (0 * 65536 + a) b (by omega) (by omega) [a, b, c] 1 (by simp) (by simp) rfl
        rw [if_pos ha]
        refine s1.trans ?_
        by_cases hb : inS b
        · have hb' := hb
          unfold inS at hb'
          have s2 := pixpack_0 (k + 2) [a, b, c] ((0 * 65536 + a) * 65536 + b) c (by omega) (by omega) [a, b, c] 2 (by simp) (by simp) rfl
          rw [if_pos hb]
          refine s2.trans ?_
          by_cases hc : inS c
          · have hc' := hc
            unfold inS at hc'
            have s3 := pixpack_end (k + 1) [a, b, c] (((0 * 65536 + a) * 65536 + b) * 65536 + c) [a, b, c] (by simp) (by omega) (by omega)
            rw [if_pos hc, if_pos ⟨ha, hb, hc⟩]
            refine s3.trans ?_
            congr 2
            simp
            omega
          · rw [if_neg hc, if_neg (fun h => hc h.2.2)]
        · rw [if_neg hb, if_neg (fun h => hb h.2.1)]
      · rw [if_neg ha, if_neg (fun h => ha h.1)]
    · rw [show ((l.length : Int) != 3) = true by simp; omega, pix_Pack.j0, if_pos rfl, pixP_other l h1 h3]
end Go.Proofs.Ytdjonaajfhbfhaa.Q
/- A row's samples, and its pixels: both texts answer the same. -/
namespace Go.Proofs.Ytdjonaajfhbfhaa.Q
open Go.RowKit Go.Proofs.YtdjonaajfhbfhaaW.PrintWords Go.Proofs.YtdjonaajfhbfhaaW.PrintLast
set_option linter.unusedVariables false
theorem byteL_get {b : List Int} (h : byteL b) (i : Nat) : 0 ≤ b.getD i 0 ∧ b.getD i 0 ≤ 255 := by
  rw [List.getD_eq_getElem?_getD]
  cases e : b[i]? with
  | none => simp
  | some x => exact h x (List.mem_of_getElem? e)
theorem byteL_take {b : List Int} (h : byteL b) (n : Nat) : byteL (b.take n) := fun x hx => h x (List.mem_of_mem_take hx)
theorem byteL_drop {b : List Int} (h : byteL b) (n : Nat) : byteL (b.drop n) := fun x hx => h x (List.mem_of_mem_drop hx)
/-- The samples that bytes have: as many as are whole. -/
def sampsL (m : Int) (b : List Int) : List Int := (List.range (b.length / sampW m)).map (sampV m b)
theorem sampW_12 (m : Int) : 1 ≤ sampW m ∧ sampW m ≤ 2 := by unfold sampW; split <;> omega
theorem sampsL_len (m : Int) (b : List Int) : (sampsL m b).length = b.length / sampW m := by simp [sampsL]
theorem wr_u8 (x : Int) (h : 0 ≤ x ∧ x ≤ 255) : wrap64 x = x := by unfold wrap64; omega
theorem wr_two (x y : Int) (h : 0 ≤ x ∧ x ≤ 255) (g : 0 ≤ y ∧ y ≤ 255) : wrap64 (wrap64 (x * 256) + y) = x * 256 + y := by
  have e : wrap64 (x * 256) = x * 256 := by unfold wrap64; omega
  rw [e]
  clear e
  unfold wrap64
  omega
theorem wr_add (a b : Nat) (h : a + b ≤ 1000000) : wrap64 ((a : Int) + (b : Int)) = ((a + b : Nat) : Int) := by unfold wrap64; omega
theorem samples_go (m : Int) (b : List Int) (hb : byteL b) (hl : b.length ≤ 100000) : ∀ (d i k : Nat), b.length / sampW m - i = d → i ≤ b.length / sampW m → d < k → chequerref09_Samples.l0 k b ((List.range i).map (sampV m b)) ((sampW m : Nat) : Int) (((sampW m) * i : Nat) : Int) = some (sampsL m b) := by
  intro d
  induction d with
  | zero =>
    intro i k hd hi hk
    obtain ⟨k, rfl⟩ : ∃ q, k = q + 1 := ⟨k - 1, by omega⟩
    have e : i = b.length / sampW m := by omega
    have hs := sampW_12 m
    have h1 := Nat.div_add_mod b.length (sampW m)
    have h2 := Nat.mod_lt b.length (show 0 < sampW m by omega)
    have h3 : sampW m * i = sampW m * (b.length / sampW m) := by rw [e]
    have c0 : ¬ ((sampW m * i + sampW m : Nat) : Int) ≤ (b.length : Int) := by omega
    have hw := wr_add (sampW m * i) (sampW m) (by omega)
    rw [chequerref09_Samples.l0, hw, if_neg c0, e]
    rfl
  | succ d ih =>
    intro i k hd hi hk
    obtain ⟨k, rfl⟩ : ∃ q, k = q + 1 := ⟨k - 1, by omega⟩
    have hs := sampW_12 m
    have hlt : i + 1 ≤ b.length / sampW m := by omega
    have h0 : sampW m * (i + 1) ≤ b.length := Nat.le_trans (Nat.mul_le_mul_left _ hlt) (Nat.mul_div_le _ _)
    have h5 : sampW m * (i + 1) = sampW m * i + sampW m := Nat.mul_succ _ _
    have hir : i ≤ sampW m * i := Nat.le_mul_of_pos_left i (by omega)
    have hq := ih (i + 1) k (by omega) hlt (by omega)
    rw [List.range_succ, List.map_append] at hq
    have hll : ((List.range i).map (sampV m b)).length < 17592186044416 := by rw [List.length_map, List.length_range]; omega
    have hrd : ∀ j : Nat, rd b (j : Int) = b.getD j 0 := fun j => by unfold rd; rw [Int.toNat_natCast]
    have w255 : ∀ j : Nat, wrap64 (b.getD j 0) = b.getD j 0 := fun j => wr_u8 _ (byteL_get hb j)
    have c1 : ((sampW m * (i + 1) : Nat) : Int) ≤ (b.length : Int) := by omega
    have c2 : (0 : Int) ≤ ((sampW m * i : Nat) : Int) := by omega
    have c3 : ((sampW m * i : Nat) : Int) < (b.length : Int) := by omega
    have c4 : sampW m * i + sampW m ≤ 1000000 := by omega
    by_cases hm : m ≤ 255
    · have e1 : sampW m = 1 := by unfold sampW; rw [if_pos hm]
      have ev : sampV m b i = b.getD i 0 := by unfold sampV; rw [if_pos hm]
      have c5 : ¬ ((sampW m : Nat) : Int) = 2 := by rw [e1]; decide
      have e3 : sampW m * i = i := by rw [e1, Nat.one_mul]
      have hw := wr_add (sampW m * i) (sampW m) c4
      rw [← h5] at hw
      rw [chequerref09_Samples.l0, hw, if_pos c1, if_pos c2, if_pos c3, hrd, w255, if_neg c5, if_pos hll, e3, ← ev]
      exact hq
    · have e2 : sampW m = 2 := by unfold sampW; rw [if_neg hm]
      have ev : sampV m b i = b.getD (2 * i) 0 * 256 + b.getD (2 * i + 1) 0 := by unfold sampV; rw [if_neg hm]
      have c5 : ((sampW m : Nat) : Int) = 2 := by rw [e2]; rfl
      have c6 : (0 : Int) ≤ ((sampW m * i + 1 : Nat) : Int) := by omega
      have c7 : ((sampW m * i + 1 : Nat) : Int) < (b.length : Int) := by omega
      have c8 : sampW m * i + 1 ≤ 1000000 := by omega
      have hw := wr_add (sampW m * i) (sampW m) c4
      rw [← h5] at hw
      have hn : wrap64 (((sampW m * i : Nat) : Int) + 1) = ((sampW m * i + 1 : Nat) : Int) := wr_add (sampW m * i) 1 c8
      have e3 : sampW m * i = 2 * i := by rw [e2]
      have hv := wr_two _ _ (byteL_get hb (sampW m * i)) (byteL_get hb (sampW m * i + 1))
      rw [chequerref09_Samples.l0, hw, if_pos c1, if_pos c2, if_pos c3, hrd, w255, if_pos c5, hn, if_pos c6, if_pos c7, if_pos hll, hrd, w255, hv, e3, ← ev]
      exact hq
theorem samples_is (k w h m : Int) (b : List Int) (hb : byteL b) (hl : b.length ≤ 100000) (K : Nat) (hK : 100001 ≤ K) : chequerref09_Samples.f K b k w h m = some (sampsL m b) := by
  unfold chequerref09_Samples.f
  have hw : chequerref09_wide.f k w h m = some ((sampW m : Nat) : Int) := by
    unfold chequerref09_wide.f sampW
    by_cases h : m ≤ 255
    · rw [if_neg (by omega), if_pos h]; rfl
    · rw [if_pos (by omega), if_neg h]; rfl
  rw [hw, Option.bind_some]
  exact samples_go m b hb hl _ 0 K rfl (Nat.zero_le _) (by have := Nat.div_le_self b.length (sampW m); omega)
/-- The pixels of a row. -/
def rowV (k w m : Int) (b : List Int) : List Int := (List.range w.toNat).map fun j => (pixP (partL (rowL k w m b) (rowD k) j)).1
theorem raw_row_is (k w m : Int) (b : List Int) : raw_row.f k w m b = some (rowV k w m b) := by
  unfold raw_row.f
  rw [if_pos (List.all_eq_true.2 (fun j _ => by rw [pixpack_is _ 10 (Nat.le_refl _)]; rfl))]
  unfold rowV
  congr 1
  apply List.map_congr_left
  intro j _
  rw [pixpack_is _ 10 (Nat.le_refl _)]
  rfl
theorem row_go (l : List Int) (d N : Nat) (hd : 1 ≤ d ∧ d ≤ 3) (hl : l.length = N * d) (hb : l.length ≤ 100000) : ∀ (r i k : Nat), N - i = r → i ≤ N → r + 20 < k → chequerref09_Row.l0 k l (d : Int) ((List.range i).map fun j => (pixP (partL l d j)).1) ((i * d : Nat) : Int) = some ((List.range N).map fun j => (pixP (partL l d j)).1) := by
  intro r
  induction r with
  | zero =>
    intro i k hr hi hk
    obtain ⟨k, rfl⟩ : ∃ q, k = q + 1 := ⟨k - 1, by omega⟩
    have e : i = N := by omega
    subst e
    have c0 : ¬ ((i * d + d : Nat) : Int) ≤ (l.length : Int) := by omega
    have hw := wr_add (i * d) d (by omega)
    rw [chequerref09_Row.l0, hw, if_neg c0]
  | succ r ih =>
    intro i k hr hi hk
    obtain ⟨k, rfl⟩ : ∃ q, k = q + 1 := ⟨k - 1, by omega⟩
    have h1 := Nat.mul_le_mul_right d (show i + 1 ≤ N by omega)
    have h2 : (i + 1) * d = i * d + d := Nat.succ_mul i d
    have hii : i ≤ i * d := Nat.le_mul_of_pos_right i hd.1
    have hq := ih (i + 1) k (by omega) (by omega) (by omega)
    rw [List.range_succ, List.map_append] at hq
    have hpart : (l.take ((((i + 1) * d : Nat) : Int)).toNat).drop (((i * d : Nat) : Int)).toNat = partL l d i := by
      rw [Int.toNat_natCast, Int.toNat_natCast]
      unfold partL
      rw [List.drop_take, h2, Nat.add_sub_cancel_left]
    have c1 : (((i + 1) * d : Nat) : Int) ≤ (l.length : Int) := by omega
    have c2 : (0 : Int) ≤ ((i * d : Nat) : Int) := by omega
    have c3 : ((i * d : Nat) : Int) ≤ (((i + 1) * d : Nat) : Int) := by omega
    have c4 : ((List.range i).map fun j => (pixP (partL l d j)).1).length < 17592186044416 := by rw [List.length_map, List.length_range]; omega
    have c5 : 10 ≤ k := by omega
    have hw := wr_add (i * d) d (by omega)
    rw [← h2] at hw
    rw [chequerref09_Row.l0, hw, if_pos c1, if_pos c2, if_pos c3, hpart, refpixpack_is _ _ c5, Option.bind_some, if_pos c4]
    exact hq
theorem refrow_is (k w h m : Int) (e : rawMay k w h m = true) (b : List Int) (hb : byteL b) (hl : b.length = rawS k w m) (K : Nat) (hK : 200000 ≤ K) : chequerref09_Row.f K b k w h m = some (rowV k w m b) := by
  have h1 := rawMay_is e
  have hS := rawS_bound e
  have hlen := rowL_len e hl
  obtain ⟨K, rfl⟩ : ∃ q, K = q + 2 := ⟨K - 2, by omega⟩
  unfold chequerref09_Row.f
  rw [samples_is k w h m b hb (by omega) _ (by omega), Option.bind_some]
  by_cases h4 : k = 4
  · have hbn : (w.toNat + 7) / 8 ≤ b.length := by rw [hl]; unfold rawS; rw [if_pos h4]; omega
    have hrow : rowL k w m b = bits_row b w.toNat := by unfold rowL; rw [if_pos h4]
    have hD : rowD k = 1 := by unfold rowD; rw [if_neg (by omega)]
    rw [if_pos h4, refunpack_ok b hb w (by omega) (by omega) hbn _ (by omega), Option.bind_some, chequerref09_Row.j0, if_neg (by omega), chequerref09_Row.j1]
    have := row_go (rowL k w m b) (rowD k) w.toNat (by rw [hD]; omega) hlen (by rw [hlen, hD]; omega) w.toNat 0 K rfl (by omega) (by omega)
    rw [hrow, hD] at this
    unfold rowV
    rw [hrow, hD]
    have e0 : ((0 * 1 : Nat) : Int) = 0 := rfl
    rw [e0] at this
    exact this
  · have hrow : rowL k w m b = sampsL m b := by unfold rowL; rw [if_neg h4]; rfl
    rw [if_neg h4, chequerref09_Row.j0]
    by_cases h6 : k = 6
    · have hD : rowD k = 3 := by unfold rowD; rw [if_pos h6]
      rw [if_pos h6, chequerref09_Row.j1]
      have := row_go (rowL k w m b) (rowD k) w.toNat (by rw [hD]; omega) hlen (by rw [hlen, hD]; omega) w.toNat 0 K rfl (by omega) (by omega)
      rw [hrow, hD] at this
      unfold rowV
      rw [hrow, hD]
      have e0 : ((0 * 3 : Nat) : Int) = 0 := rfl
      rw [e0] at this
      exact this
    · have hD : rowD k = 1 := by unfold rowD; rw [if_neg h6]
      rw [if_neg h6, chequerref09_Row.j1]
      have := row_go (rowL k w m b) (rowD k) w.toNat (by rw [hD]; omega) hlen (by rw [hlen, hD]; omega) w.toNat 0 K rfl (by omega) (by omega)
      rw [hrow, hD] at this
      unfold rowV
      rw [hrow, hD]
      have e0 : ((0 * 1 : Nat) : Int) = 0 := rfl
      rw [e0] at this
      exact this
end Go.Proofs.Ytdjonaajfhbfhaa.Q
/- With which byte a raster is wrong, by the document's text. -/
namespace Go.Proofs.Ytdjonaajfhbfhaa.Q
open Go.RowKit Go.Proofs.YtdjonaajfhbfhaaW.PrintWords Go.Proofs.YtdjonaajfhbfhaaW.PrintLast
set_option linter.unusedVariables false
/-- Among the first n bytes a sample is too great. -/
def badIdx (k m : Int) (b : List Int) (n : Nat) : Prop := k ≠ 4 ∧ ∃ i : Nat, sampW m * (i + 1) ≤ n ∧ sampV m b i > m
theorem bad_go (s : Nat) (hs : 1 ≤ s ∧ s ≤ 2) (l : List Int) (hl : l.length ≤ 100000) (k w h m : Int) : ∀ (d i K : Nat), l.length - i = d → i ≤ l.length → d < K → (∀ j, j < i → l.getD j 0 ≤ m) →
    ∃ fb : Nat, chequerref09_Bad.l0 K (s : Int) l (i : Int) k w h m = some (fb : Int) ∧ ((fb = 0 ∧ ∀ j, j < l.length → l.getD j 0 ≤ m) ∨ ∃ j, j < l.length ∧ l.getD j 0 > m ∧ (∀ j', j' < j → l.getD j' 0 ≤ m) ∧ fb = s * (j + 1)) := by
  intro d
  induction d with
  | zero =>
    intro i K hd hi hK hb
    obtain ⟨K, rfl⟩ : ∃ q, K = q + 1 := ⟨K - 1, by omega⟩
    refine ⟨0, ?_, .inl ⟨rfl, fun j hj => hb j (by omega)⟩⟩
    rw [chequerref09_Bad.l0, if_neg (by omega)]
    rfl
  | succ d ih =>
    intro i K hd hi hK hb
    obtain ⟨K, rfl⟩ : ∃ q, K = q + 1 := ⟨K - 1, by omega⟩
    have hrd : rd l (i : Int) = l.getD i 0 := by unfold rd; rw [Int.toNat_natCast]
    have c1 : (i : Int) < (l.length : Int) := by omega
    have c2 : (0 : Int) ≤ (i : Int) := by omega
    by_cases hv : l.getD i 0 > m
    · refine ⟨s * (i + 1), ?_, .inr ⟨i, by omega, hv, hb, rfl⟩⟩
      have h1 : s * (i + 1) ≤ 2 * (i + 1) := Nat.mul_le_mul_right _ hs.2
      have hw : wrap64 ((s : Int) * ((i + 1 : Nat) : Int)) = ((s * (i + 1) : Nat) : Int) := by
        rw [← Int.natCast_mul]
        exact wr_id _ (by omega) (by omega)
      rw [chequerref09_Bad.l0, if_pos c1, if_pos c2, hrd, if_pos hv, wz_succ_ i (by omega), hw]
    · obtain ⟨fb, h1, h2⟩ := ih (i + 1) K (by omega) (by omega) (by omega) (fun j hj => by
        rcases Nat.lt_or_ge j i with h | h
        · exact hb j h
        · obtain rfl : j = i := by omega
          omega)
      refine ⟨fb, ?_, h2⟩
      rw [chequerref09_Bad.l0, if_pos c1, if_pos c2, hrd, if_neg hv, wz_succ_ i (by omega)]
      exact h1
theorem sampsL_get {m : Int} {b : List Int} {j : Nat} (h : j < b.length / sampW m) : (sampsL m b).getD j 0 = sampV m b j := by
  unfold sampsL
  rw [List.getD_eq_getElem?_getD, List.getElem?_map, List.getElem?_range h]
  rfl
theorem refbad_is {k w h m : Int} (e : rawMay k w h m = true) (b : List Int) (hb : byteL b) (hl : b.length ≤ 1000) (K : Nat) (hK : 200000 ≤ K) :
    ∃ fb : Nat, chequerref09_Bad.f K b k w h m = some (fb : Int) ∧ fb ≤ b.length ∧ fb ≤ rawS k w m * h.toNat ∧ ∀ n, n ≤ b.length → n ≤ rawS k w m * h.toNat → ((0 < fb ∧ fb ≤ n) ↔ badIdx k m b n) := by
  have h1 := rawMay_is e
  unfold chequerref09_Bad.f
  by_cases h4 : k = 4
  · rw [if_pos h4]
    exact ⟨0, rfl, by omega, by omega, fun n _ _ => ⟨fun h => absurd h.1 (by omega), fun h => absurd h4 h.1⟩⟩
  · rw [if_neg h4]
    have hw : chequerref09_wide.f k w h m = some ((sampW m : Nat) : Int) := by
      unfold chequerref09_wide.f sampW
      by_cases h : m ≤ 255
      · rw [if_neg (by omega), if_pos h]; rfl
      · rw [if_pos (by omega), if_neg h]; rfl
    have hsz : ((rawS k w m : Nat) : Int) * h = ((rawS k w m * h.toNat : Nat) : Int) := by
      rw [Int.natCast_mul]
      congr 1
      omega
    rw [hw, Option.bind_some, refsize_is e, Option.bind_some, hsz]
    generalize rawS k w m * h.toNat = Z at *
    have hmn : mn (b.length : Int) (Z : Int) = ((min b.length Z : Nat) : Int) := by unfold mn; split <;> omega
    rw [hmn, if_pos (by omega), if_pos (by omega), Int.toNat_natCast]
    generalize hq : min b.length Z = q at *
    have hql : (b.take q).length = q := by rw [List.length_take]; omega
    rw [samples_is k w h m _ (byteL_take hb q) (by omega) K (by omega), Option.bind_some]
    have hs := sampW_12 m
    have hsl : (sampsL m (b.take q)).length = q / sampW m := by rw [sampsL_len, hql]
    have hdq := Nat.div_le_self q (sampW m)
    obtain ⟨fb, hf, hc⟩ := bad_go (sampW m) hs (sampsL m (b.take q)) (by omega) k w h m _ 0 K rfl (by omega) (by omega) (fun j hj => by omega)
    have hfq : fb ≤ q := by
      rcases hc with ⟨h0, _⟩ | ⟨j, hj, _, _, h0⟩
      · omega
      · rw [h0]
        rw [hsl] at hj
        exact Nat.le_trans (Nat.mul_le_mul_left _ hj) (Nat.mul_div_le _ _)
    refine ⟨fb, hf, by omega, by omega, fun n hn1 hn2 => ?_⟩
    have hget : ∀ j, j < q / sampW m → (sampsL m (b.take q)).getD j 0 = sampV m b j := fun j hj => by
      rw [sampsL_get (by rw [hql]; exact hj)]
      exact sampV_take (Nat.le_trans (Nat.mul_le_mul_left _ hj) (Nat.mul_div_le _ _))
    have hin : ∀ i, sampW m * (i + 1) ≤ n → i < q / sampW m := fun i hi => by
      have h5 : (i + 1) * sampW m ≤ q := by rw [Nat.mul_comm]; omega
      have h6 := (Nat.le_div_iff_mul_le (show 0 < sampW m by omega)).2 h5
      omega
    rcases hc with ⟨rfl, hall⟩ | ⟨j, hj, hv, hmin, rfl⟩
    · constructor
      · exact fun h => absurd h.1 (by omega)
      · rintro ⟨_, i, hi, hv⟩
        have hi2 := hin i hi
        have := hall i (by rw [hsl]; exact hi2)
        rw [hget i hi2] at this
        omega
    · rw [hsl] at hj
      rw [hget j hj] at hv
      constructor
      · exact fun h => ⟨h4, j, h.2, hv⟩
      · rintro ⟨_, i, hi, hv2⟩
        have hi2 := hin i hi
        have hji : j ≤ i := by
          rcases Nat.lt_or_ge i j with h | h
          · have := hmin i h
            rw [hget i hi2] at this
            omega
          · exact h
        exact ⟨Nat.mul_pos (by omega) (by omega), Nat.le_trans (Nat.mul_le_mul_left _ (by omega)) hi⟩
end Go.Proofs.Ytdjonaajfhbfhaa.Q
/- A raster that is read: both texts answer the same. -/
namespace Go.Proofs.Ytdjonaajfhbfhaa.Q
open Go.RowKit Go.Proofs.YtdjonaajfhbfhaaW.PrintWords Go.Proofs.YtdjonaajfhbfhaaW.PrintLast
set_option linter.unusedVariables false
/-- What was told of the row under way, behind n bytes. -/
def curL (S : Nat) (b : List Int) (n : Nat) : List Int := (b.take n).drop (n / S * S)
/-- Row r's pixels. -/
def rowAt (k w m : Int) (b : List Int) (r : Nat) : List Int := rowV k w m ((b.drop (r * rawS k w m)).take (rawS k w m))
theorem rawS_wide {k w m : Int} (h4 : k ≠ 4) : ∃ q, rawS k w m = sampW m * q := ⟨w.toNat * (if k = 6 then 3 else 1), by unfold rawS; rw [if_neg h4, Nat.mul_comm]⟩
theorem sampV_drop (m : Int) (b : List Int) (a j : Nat) : sampV m (b.drop (sampW m * a)) j = sampV m b (a + j) := by
  have hg : ∀ x i, (b.drop x).getD i 0 = b.getD (x + i) 0 := fun x i => by rw [List.getD_eq_getElem?_getD, List.getD_eq_getElem?_getD, List.getElem?_drop]
  unfold sampV
  by_cases h : m ≤ 255
  · have e : sampW m = 1 := by unfold sampW; rw [if_pos h]
    rw [if_pos h, if_pos h, hg, e, Nat.one_mul]
  · have e : sampW m = 2 := by unfold sampW; rw [if_neg h]
    rw [if_neg h, if_neg h, hg, hg, e, show 2 * a + 2 * j = 2 * (a + j) by omega, show 2 * a + (2 * j + 1) = 2 * (a + j) + 1 by omega]
theorem take_snoc {b : List Int} {n : Nat} (h : n < b.length) : b.take (n + 1) = b.take n ++ [b.getD n 0] := by
  rw [List.take_add_one, List.getElem?_eq_getElem h, List.getD_eq_getElem?_getD, List.getElem?_eq_getElem h]
  rfl
theorem curL_len {S : Nat} (hS : 1 ≤ S) {b : List Int} {n : Nat} (h : n ≤ b.length) : (curL S b n).length = n % S := by
  unfold curL
  rw [List.length_drop, List.length_take, Nat.min_eq_left h]
  have := Nat.div_add_mod n S
  rw [Nat.mul_comm] at this
  omega
theorem cur_snoc {S : Nat} (hS : 1 ≤ S) {b : List Int} {n : Nat} (h : n < b.length) : curL S b n ++ [b.getD n 0] = (b.take (n + 1)).drop (n / S * S) := by
  unfold curL
  rw [take_snoc h, List.drop_append_of_le_length (by rw [List.length_take, Nat.min_eq_left (by omega)]; exact Nat.div_mul_le_self n S)]
theorem divmod_next {S n : Nat} (hS : 1 ≤ S) (h : n % S + 1 < S) : (n + 1) / S = n / S ∧ (n + 1) % S = n % S + 1 := by
  have h1 := Nat.div_add_mod n S
  have h2 : n + 1 = S * (n / S) + (n % S + 1) := by omega
  constructor
  · rw [h2, Nat.mul_add_div (by omega), Nat.div_eq_of_lt h, Nat.add_zero]
  · rw [h2, Nat.mul_add_mod, Nat.mod_eq_of_lt h]
theorem divmod_full {S n : Nat} (hS : 1 ≤ S) (h : n % S + 1 = S) : (n + 1) / S = n / S + 1 ∧ (n + 1) % S = 0 ∧ n + 1 = (n / S + 1) * S := by
  have h1 := Nat.div_add_mod n S
  have h2 : n + 1 = (n / S + 1) * S := by rw [Nat.succ_mul, Nat.mul_comm]; omega
  exact ⟨by rw [h2, Nat.mul_div_cancel _ (by omega)], by rw [h2, Nat.mul_mod_left], h2⟩
/-- A byte more: is the raster wrong with it? -/
theorem bad_step {k w h m : Int} (e : rawMay k w h m = true) {b : List Int} {n : Nat} (hn : n < b.length) (hb : ¬ badIdx k m b n) :
    (k ≠ 4 ∧ (n % rawS k w m + 1) % sampW m = 0 ∧ sampV m (curL (rawS k w m) b n ++ [b.getD n 0]) ((n % rawS k w m + 1) / sampW m - 1) > m) ↔ badIdx k m b (n + 1) := by
  have hS := rawS_bound e
  have hs := sampW_12 m
  rw [cur_snoc hS.1 hn]
  have h1 := Nat.div_add_mod n (rawS k w m)
  constructor
  · rintro ⟨h4, hz, hv⟩
    obtain ⟨q, hq⟩ := rawS_wide (w := w) (m := m) h4
    have ha : n / rawS k w m * rawS k w m = sampW m * (n / rawS k w m * q) := by
      conv => lhs; rw [hq]
      rw [← Nat.mul_assoc, ← Nat.mul_assoc, Nat.mul_comm (n / (sampW m * q)) (sampW m), ← hq]
    rw [ha, sampV_drop] at hv
    generalize hc : n % rawS k w m + 1 = c at *
    have h2 : 1 ≤ c / sampW m := Nat.div_pos (Nat.le_of_dvd (by omega) (Nat.dvd_of_mod_eq_zero hz)) (by omega)
    have h3 : sampW m * (c / sampW m) = c := Nat.mul_div_cancel' (Nat.dvd_of_mod_eq_zero hz)
    have h5 : sampW m * (n / rawS k w m * q + (c / sampW m - 1) + 1) = n + 1 := by
      rw [show n / rawS k w m * q + (c / sampW m - 1) + 1 = n / rawS k w m * q + c / sampW m by omega, Nat.mul_add, h3, ← ha, Nat.mul_comm]
      omega
    rw [sampV_take (by omega)] at hv
    exact ⟨h4, _, by omega, hv⟩
  · rintro ⟨h4, i, hi, hv⟩
    obtain ⟨q, hq⟩ := rawS_wide (w := w) (m := m) h4
    have hi2 : sampW m * (i + 1) = n + 1 := by
      rcases Nat.lt_or_ge n (sampW m * (i + 1)) with h | h
      · omega
      · exact absurd ⟨h4, i, h, hv⟩ hb
    have ha : n / rawS k w m * rawS k w m = sampW m * (n / rawS k w m * q) := by
      conv => lhs; rw [hq]
      rw [← Nat.mul_assoc, ← Nat.mul_assoc, Nat.mul_comm (n / (sampW m * q)) (sampW m), ← hq]
    generalize hc : n % rawS k w m + 1 = c at *
    have h6 : sampW m * (n / rawS k w m * q) + c = sampW m * (i + 1) := by rw [← ha, Nat.mul_comm]; omega
    have hle : n / rawS k w m * q ≤ i + 1 := by
      rcases Nat.lt_or_ge (i + 1) (n / rawS k w m * q) with h | h
      · have := Nat.mul_le_mul_left (sampW m) h
        rw [Nat.mul_succ] at this
        omega
      · exact h
    have h7 : c = sampW m * (i + 1 - n / rawS k w m * q) := by rw [Nat.mul_sub]; omega
    have h8 : c / sampW m = i + 1 - n / rawS k w m * q := by rw [h7, Nat.mul_div_cancel_left _ (by omega)]
    have h9 : c % sampW m = 0 := by rw [h7, Nat.mul_mod_right]
    have h10 : 1 ≤ i + 1 - n / rawS k w m * q := by
      rcases Nat.eq_zero_or_pos (i + 1 - n / rawS k w m * q) with h | h
      · rw [h, Nat.mul_zero] at h7; omega
      · exact h
    refine ⟨h4, h9, ?_⟩
    rw [ha, sampV_drop, h8, show n / rawS k w m * q + (i + 1 - n / rawS k w m * q - 1) = i by omega, sampV_take (by omega)]
    exact hv
theorem put_list {k w h m : Int} (e : rawMay k w h m = true) {b : List Int} (hb : byteL b) {n : Nat} (hn : n < b.length) : putL (encB (curL (rawS k w m) b n)) ((n % rawS k w m : Nat) : Int) (b.getD n 0) = curL (rawS k w m) b n ++ [b.getD n 0] := by
  have hS := rawS_bound e
  unfold putL
  rw [Int.toNat_natCast]
  have h1 := dec_enc (curL (rawS k w m) b n) (byteL_drop (byteL_take hb n) _)
  rw [curL_len hS.1 (by omega)] at h1
  rw [h1]
theorem raw_put_bad {k w h m : Int} (e : rawMay k w h m = true) {b : List Int} (hb : byteL b) {n : Nat} (hn : n < b.length) (h0 : ¬ badIdx k m b n) (h1 : badIdx k m b (n + 1)) :
    ∃ code n5 : Int, raw_Reader_Put.f k w h m (encB (curL (rawS k w m) b n)) ((n % rawS k w m : Nat) : Int) ((n / rawS k w m : Nat) : Int) 0 0 (b.getD n 0) = some ([], 2, k, w, h, m, code, n5, ((n / rawS k w m : Nat) : Int), 2, 5) := by
  have hS := rawS_bound e
  have hbs := (bad_step e hn h0).2 h1
  refine ⟨encB (curL (rawS k w m) b n) + b.getD n 0 * 256 ^ (((n % rawS k w m : Nat) : Int)).toNat, ((n % rawS k w m : Nat) : Int) + 1, ?_⟩
  unfold raw_Reader_Put.f
  rw [if_neg (by simp), if_pos (byteL_get hb n), put_list e hb hn]
  have hl : (curL (rawS k w m) b n ++ [b.getD n 0]).length = n % rawS k w m + 1 := by rw [List.length_append, curL_len hS.1 (by omega)]; rfl
  rw [hl, if_pos hbs]
theorem raw_put_more {k w h m : Int} (e : rawMay k w h m = true) {b : List Int} (hb : byteL b) {n : Nat} (hn : n < b.length) (h0 : ¬ badIdx k m b n) (h1 : ¬ badIdx k m b (n + 1)) (hc : n % rawS k w m + 1 < rawS k w m) :
    raw_Reader_Put.f k w h m (encB (curL (rawS k w m) b n)) ((n % rawS k w m : Nat) : Int) ((n / rawS k w m : Nat) : Int) 0 0 (b.getD n 0) = some ([], 0, k, w, h, m, encB (curL (rawS k w m) b (n + 1)), (((n + 1) % rawS k w m : Nat) : Int), (((n + 1) / rawS k w m : Nat) : Int), 0, 0) := by
  have hS := rawS_bound e
  have hbs := fun x => h1 ((bad_step e hn h0).1 x)
  obtain ⟨d1, d2⟩ := divmod_next hS.1 hc
  have hl : (curL (rawS k w m) b n ++ [b.getD n 0]).length = n % rawS k w m + 1 := by rw [List.length_append, curL_len hS.1 (by omega)]; rfl
  have hcode : encB (curL (rawS k w m) b n) + b.getD n 0 * 256 ^ (((n % rawS k w m : Nat) : Int)).toNat = encB (curL (rawS k w m) b (n + 1)) := by
    rw [Int.toNat_natCast, show curL (rawS k w m) b (n + 1) = curL (rawS k w m) b n ++ [b.getD n 0] by rw [cur_snoc hS.1 hn]; unfold curL; rw [d1], enc_snoc, curL_len hS.1 (by omega)]
  unfold raw_Reader_Put.f
  rw [if_neg (by simp), if_pos (byteL_get hb n), put_list e hb hn, hl, if_neg hbs, if_pos hc, hcode, d1, d2]
  rfl
theorem raw_put_row {k w h m : Int} (e : rawMay k w h m = true) {b : List Int} (hb : byteL b) {n : Nat} (hn : n < b.length) (h0 : ¬ badIdx k m b n) (h1 : ¬ badIdx k m b (n + 1)) (hc : n % rawS k w m + 1 = rawS k w m) :
    raw_Reader_Put.f k w h m (encB (curL (rawS k w m) b n)) ((n % rawS k w m : Nat) : Int) ((n / rawS k w m : Nat) : Int) 0 0 (b.getD n 0) = some (rowAt k w m b (n / rawS k w m), (if (((n + 1) / rawS k w m : Nat) : Int) = h then 1 else 0), k, w, h, m, encB (curL (rawS k w m) b (n + 1)), (((n + 1) % rawS k w m : Nat) : Int), (((n + 1) / rawS k w m : Nat) : Int), (if (((n + 1) / rawS k w m : Nat) : Int) = h then 1 else 0), 0) := by
  have hS := rawS_bound e
  have hbs := fun x => h1 ((bad_step e hn h0).1 x)
  obtain ⟨d1, d2, d3⟩ := divmod_full hS.1 hc
  have hl : (curL (rawS k w m) b n ++ [b.getD n 0]).length = n % rawS k w m + 1 := by rw [List.length_append, curL_len hS.1 (by omega)]; rfl
  have hcur : curL (rawS k w m) b (n + 1) = [] := by
    unfold curL
    rw [← List.length_eq_zero_iff, List.length_drop, List.length_take, d1, ← d3]
    omega
  have hrow : curL (rawS k w m) b n ++ [b.getD n 0] = (b.drop (n / rawS k w m * rawS k w m)).take (rawS k w m) := by
    rw [cur_snoc hS.1 hn, List.drop_take]
    congr 1
    rw [d3, Nat.succ_mul]
    omega
  have er : ((n / rawS k w m : Nat) : Int) + 1 = ((n / rawS k w m + 1 : Nat) : Int) := rfl
  unfold raw_Reader_Put.f
  rw [if_neg (by simp), if_pos (byteL_get hb n), put_list e hb hn, hl, if_neg hbs, if_neg (by omega), raw_row_is, Option.bind_some, hcur, d2, d1, hrow, er]
  rfl
/-- The first r rows' pixels. -/
def rowsTo (k w m : Int) (b : List Int) : Nat → List Int
  | 0 => []
  | r + 1 => rowsTo k w m b r ++ rowAt k w m b r
theorem rowAt_len (k w m : Int) (b : List Int) (r : Nat) : (rowAt k w m b r).length = w.toNat := by simp [rowAt, rowV]
/-- What reading comes to. -/
noncomputable def readV (k w h m : Int) (b : List Int) : List Int × Int :=
  open Classical in if badIdx k m b (min b.length (rawS k w m * h.toNat)) then ([], 5) else if b.length < rawS k w m * h.toNat then ([], 6) else (rowsTo k w m b h.toNat, 0)
theorem samerow_go (l : List Int) (hl : l.length ≤ 100000) : ∀ (d i K : Nat), l.length - i = d → i ≤ l.length → d < K → chequerref03_SameRow.l0 K l l (i : Int) = some true := by
  intro d
  induction d with
  | zero =>
    intro i K hd hi hK
    obtain ⟨K, rfl⟩ : ∃ q, K = q + 1 := ⟨K - 1, by omega⟩
    rw [chequerref03_SameRow.l0, if_neg (by omega)]
  | succ d ih =>
    intro i K hd hi hK
    obtain ⟨K, rfl⟩ : ∃ q, K = q + 1 := ⟨K - 1, by omega⟩
    rw [chequerref03_SameRow.l0, if_pos (by omega), if_pos (by omega), if_pos (by omega), if_pos rfl, wz_succ_ i (by omega)]
    exact ih (i + 1) K (by omega) (by omega) (by omega)
theorem samerow_is (l : List Int) (hl : l.length ≤ 100000) (K : Nat) (hK : l.length < K) : chequerref03_SameRow.f K l l = some true := by
  unfold chequerref03_SameRow.f
  rw [if_pos rfl]
  exact samerow_go l hl _ 0 K rfl (by omega) (by omega)
end Go.Proofs.Ytdjonaajfhbfhaa.Q
/- What a reader tells of each byte is the document's: for any bytes and any head. No condition. -/
namespace Go.Proofs.Ytdjonaajfhbfhaa.Pure
open Go.RowKit Go.Proofs.Ytdjonaajfhbfhaa.Q Go.Proofs.YtdjonaajfhbfhaaW.PrintWords Go.Proofs.YtdjonaajfhbfhaaW.PrintLast
set_option linter.unusedVariables false
theorem steps_j2 (K : Nat) (hK : 100001 ≤ K) (b : List Int) (S fb rows i : Int) (l : List Int) (status kind k w h m p0 p1 p2 p3 p4 p5 p6 p7 p8 : Int) (hl : l.length ≤ 100000) (hs : status = kind) (h6 : p6 = rows)
    (hleft : (if p7 = 0 then (p2 - p6) * ((rawS p0 p1 p3 : Nat) : Int) - p5 else 0) = (if kind = 0 then wrap64 (wrap64 (wrap64 (S * h) - i) - 1) else 0)) (h8 : p8 = if kind = 2 then 5 else 0) :
    chequerlaw09_RawSteps.j2 (K + 3) b S fb rows i l status l kind k w h m p0 p1 p2 p3 p4 p5 p6 p7 p8 = chequerlaw09_RawSteps.l0 K b S fb rows (wrap64 (i + 1)) k w h m p0 p1 p2 p3 p4 p5 p6 p7 p8 := by
  have e2 : chequerlaw09_RawSteps.j2 (K + 3) b S fb rows i l status l kind k w h m p0 p1 p2 p3 p4 p5 p6 p7 p8 = chequerlaw09_RawSteps.j3 (K + 2) b S fb rows i l status l kind (if kind = 0 then wrap64 (wrap64 (wrap64 (S * h) - i) - 1) else 0) k w h m p0 p1 p2 p3 p4 p5 p6 p7 p8 := by
    rw [chequerlaw09_RawSteps.j2]
    by_cases c : kind = 0
    · rw [if_pos c, if_pos c]
    · rw [if_neg c, if_neg c]
  have e3 : ∀ y, chequerlaw09_RawSteps.j3 (K + 2) b S fb rows i l status l kind y k w h m p0 p1 p2 p3 p4 p5 p6 p7 p8 = chequerlaw09_RawSteps.j4 (K + 1) b S fb rows i l status l kind y (if kind = 2 then 5 else 0) k w h m p0 p1 p2 p3 p4 p5 p6 p7 p8 := by
    intro y
    rw [chequerlaw09_RawSteps.j3]
    by_cases c : kind = 2
    · rw [if_pos c, if_pos c]
    · rw [if_neg c, if_neg c]
  rw [e2, e3, chequerlaw09_RawSteps.j4, samerow_is l hl K (by omega), Option.bind_some, if_pos rfl, if_pos hs]
  unfold raw_Reader_Rows.f raw_Reader_Left.f raw_Reader_Error.f
  rw [Option.bind_some, if_pos h6, Option.bind_some, if_pos hleft, Option.bind_some, if_pos h8]
theorem steps_end {k w h m : Int} (e : rawMay k w h m = true) {b : List Int} (K : Nat) (hK : 40 ≤ K) (fb rows : Int) (p0 p1 p2 p3 p4 p5 p6 p7 p8 : Int) :
    chequerlaw09_RawSteps.l0 (K + 1) b ((rawS k w m : Nat) : Int) fb rows ((b.length : Nat) : Int) k w h m p0 p1 p2 p3 p4 p5 p6 p7 p8 = some true := by
  rw [chequerlaw09_RawSteps.l0, if_neg (by omega), raw_stride_is e, Option.bind_some, if_pos rfl, lives_more K hK]
  rfl
/-- It is wrong: it stays so. -/
theorem steps_wrong {k w h m : Int} (e : rawMay k w h m = true) {b : List Int} (hl : b.length ≤ 1000) (fb : Nat) (rows : Int) (p0 p1 p2 p3 p4 p5 p6 : Int) (h6 : p6 = rows) : ∀ (d i K : Nat), b.length - i = d → i ≤ b.length → 5 * d + 300000 ≤ K → 0 < fb → fb ≤ i →
    chequerlaw09_RawSteps.l0 K b ((rawS k w m : Nat) : Int) (fb : Int) rows (i : Int) k w h m p0 p1 p2 p3 p4 p5 p6 2 5 = some true := by
  intro d
  induction d with
  | zero =>
    intro i K hd hi hK h0 h1
    obtain ⟨K, rfl⟩ : ∃ q, K = q + 1 := ⟨K - 1, by omega⟩
    obtain rfl : i = b.length := by omega
    exact steps_end e K (by omega) _ _ _ _ _ _ _ _ _ _ _
  | succ d ih =>
    intro i K hd hi hK h0 h1
    obtain ⟨K, rfl⟩ : ∃ q, K = q + 5 := ⟨K - 5, by omega⟩
    have hp : ∀ c, raw_Reader_Put.f p0 p1 p2 p3 p4 p5 p6 2 5 c = some ([], 2, p0, p1, p2, p3, p4, p5, p6, 2, 5) := fun c => by unfold raw_Reader_Put.f; rw [if_pos (by decide)]
    have hw : wrap64 ((i : Int) + 1) = ((i + 1 : Nat) : Int) := wz_succ_ i (by omega)
    have hq := ih (i + 1) K (by omega) (by omega) (by omega) h0 (by omega)
    have hge : decide (((i + 1 : Nat) : Int) ≥ (fb : Int)) = true := decide_eq_true (by omega)
    have c1 : (i : Int) < (b.length : Int) := by omega
    have c2 : (0 : Int) ≤ (i : Int) := by omega
    have c3 : (fb : Int) > 0 := by omega
    rw [chequerlaw09_RawSteps.l0, if_pos c1, if_pos c2, hp, Option.bind_some, if_pos c3, hw, hge, chequerlaw09_RawSteps.j1, if_pos rfl,
      steps_j2 K (by omega) b _ _ _ _ [] 2 2 k w h m p0 p1 p2 p3 p4 p5 p6 2 5 (by simp) rfl h6 (by rw [if_neg (by decide), if_neg (by decide)]) (by rw [if_pos rfl]), hw]
    exact hq
/-- It is over: it stays so. -/
theorem steps_over {k w h m : Int} (e : rawMay k w h m = true) {b : List Int} (hl : b.length ≤ 1000) (rows : Int) (p0 p1 p2 p3 p4 p5 p6 : Int) (h6 : p6 = rows) : ∀ (d i K : Nat), b.length - i = d → i ≤ b.length → 5 * d + 300000 ≤ K → rawS k w m * h.toNat ≤ i →
    chequerlaw09_RawSteps.l0 K b ((rawS k w m : Nat) : Int) 0 rows (i : Int) k w h m p0 p1 p2 p3 p4 p5 p6 1 0 = some true := by
  intro d
  induction d with
  | zero =>
    intro i K hd hi hK h0
    obtain ⟨K, rfl⟩ : ∃ q, K = q + 1 := ⟨K - 1, by omega⟩
    obtain rfl : i = b.length := by omega
    exact steps_end e K (by omega) _ _ _ _ _ _ _ _ _ _ _
  | succ d ih =>
    intro i K hd hi hK h0
    obtain ⟨K, rfl⟩ : ∃ q, K = q + 5 := ⟨K - 5, by omega⟩
    have hm := rawMay_is e
    have hp : ∀ c, raw_Reader_Put.f p0 p1 p2 p3 p4 p5 p6 1 0 c = some ([], 1, p0, p1, p2, p3, p4, p5, p6, 1, 0) := fun c => by unfold raw_Reader_Put.f; rw [if_pos (by decide)]
    have hq := ih (i + 1) K (by omega) (by omega) (by omega) (by omega)
    have hsz : ((rawS k w m : Nat) : Int) * h = ((rawS k w m * h.toNat : Nat) : Int) := by
      rw [Int.natCast_mul]
      congr 1
      omega
    have hw2 : wrap64 (((rawS k w m : Nat) : Int) * h) = ((rawS k w m * h.toNat : Nat) : Int) := by rw [hsz]; exact wr_id _ (by omega) (by omega)
    have c1 : (i : Int) < (b.length : Int) := by omega
    have c2 : (0 : Int) ≤ (i : Int) := by omega
    have c4 : ((i + 1 : Nat) : Int) > ((rawS k w m * h.toNat : Nat) : Int) := by omega
    have hw : wrap64 ((i : Int) + 1) = ((i + 1 : Nat) : Int) := wz_succ_ i (by clear hw2; omega)
    rw [chequerlaw09_RawSteps.l0, if_pos c1, if_pos c2, hp, Option.bind_some, if_neg (by decide), chequerlaw09_RawSteps.j1, if_neg (by decide), hw, hw2, if_pos c4,
      steps_j2 K (by clear hw hw2; omega) b _ _ _ _ [] 1 1 k w h m p0 p1 p2 p3 p4 p5 p6 1 0 (by simp) rfl h6 (by rw [if_neg (by decide), if_neg (by decide)]) (by rw [if_neg (by decide)]), hw]
    exact hq
theorem steps_go {k w h m : Int} (e : rawMay k w h m = true) {b : List Int} (hb : byteL b) (hl : b.length ≤ 1000) (fb : Nat) (hiff : ∀ n, n ≤ b.length → n ≤ rawS k w m * h.toNat → ((0 < fb ∧ fb ≤ n) ↔ badIdx k m b n)) (hfl : fb ≤ b.length) (hfs : fb ≤ rawS k w m * h.toNat) : ∀ (d i K : Nat), b.length - i = d → i ≤ b.length → 5 * d + 300000 ≤ K → i < rawS k w m * h.toNat → ¬ badIdx k m b i →
    chequerlaw09_RawSteps.l0 K b ((rawS k w m : Nat) : Int) (fb : Int) ((i / rawS k w m : Nat) : Int) (i : Int) k w h m k w h m (encB (curL (rawS k w m) b i)) ((i % rawS k w m : Nat) : Int) ((i / rawS k w m : Nat) : Int) 0 0 = some true := by
  have hS := rawS_bound e
  have hm := rawMay_is e
  intro d
  induction d with
  | zero =>
    intro i K hd hi hK hz h0
    obtain ⟨K, rfl⟩ : ∃ q, K = q + 1 := ⟨K - 1, by omega⟩
    obtain rfl : i = b.length := by omega
    exact steps_end e K (by omega) _ _ _ _ _ _ _ _ _ _ _
  | succ d ih =>
    intro i K hd hi hK hz h0
    obtain ⟨K, rfl⟩ : ∃ q, K = q + 5 := ⟨K - 5, by omega⟩
    have hlt : i < b.length := by omega
    have hrd : rd b (i : Int) = b.getD i 0 := by unfold rd; rw [Int.toNat_natCast]
    have hnext := hiff (i + 1) (by omega) (by omega)
    have c1 : (i : Int) < (b.length : Int) := by omega
    have c2 : (0 : Int) ≤ (i : Int) := by omega
    have hsz : ((rawS k w m : Nat) : Int) * h = ((rawS k w m * h.toNat : Nat) : Int) := by
      rw [Int.natCast_mul]
      congr 1
      omega
    have hzb : rawS k w m * h.toNat ≤ 1610612736 := by
      have := Nat.mul_le_mul hS.2 (show h.toNat ≤ 65536 by omega)
      omega
    have hw2 : wrap64 (((rawS k w m : Nat) : Int) * h) = ((rawS k w m * h.toNat : Nat) : Int) := by rw [hsz]; exact wr_id _ (by omega) (by omega)
    have HW2 := Aside0.mk hw2
    clear hw2
    by_cases h1 : badIdx k m b (i + 1)
    · obtain ⟨code, n5, hp⟩ := raw_put_bad e hb hlt h0 h1
      have hf := hnext.2 h1
      have hge : decide (((i + 1 : Nat) : Int) ≥ (fb : Int)) = true := decide_eq_true (by omega)
      have c3 : (fb : Int) > 0 := by omega
      have hq := steps_wrong e hl fb ((i / rawS k w m : Nat) : Int) k w h m code n5 _ rfl d (i + 1) K (by omega) (by omega) (by omega) hf.1 hf.2
      have hw : wrap64 ((i : Int) + 1) = ((i + 1 : Nat) : Int) := wz_succ_ i (by omega)
      rw [chequerlaw09_RawSteps.l0, if_pos c1, if_pos c2, hrd, hp, Option.bind_some, if_pos c3, hw, hge, chequerlaw09_RawSteps.j1, if_pos rfl,
        steps_j2 K (by clear hw; omega) b _ _ _ _ [] 2 2 k w h m k w h m code n5 _ 2 5 (by simp) rfl rfl (by rw [if_neg (by decide), if_neg (by decide)]) (by rw [if_pos rfl]), hw]
      exact hq
    · have hnf : ¬ (0 < fb ∧ fb ≤ i + 1) := fun x => h1 (hnext.1 x)
      -- the test with bad
      have hbadtest : ∀ (l : List Int) (st : Int) (p0 p1 p2 p3 p4 p5 p6 p7 p8 : Int) (K' : Nat), (if (fb : Int) > 0 then chequerlaw09_RawSteps.j1 K' b ((rawS k w m : Nat) : Int) (fb : Int) ((i / rawS k w m : Nat) : Int) (i : Int) l st [] 0 (decide (wrap64 ((i : Int) + 1) ≥ (fb : Int))) k w h m p0 p1 p2 p3 p4 p5 p6 p7 p8 else chequerlaw09_RawSteps.j1 K' b ((rawS k w m : Nat) : Int) (fb : Int) ((i / rawS k w m : Nat) : Int) (i : Int) l st [] 0 false k w h m p0 p1 p2 p3 p4 p5 p6 p7 p8) = chequerlaw09_RawSteps.j1 K' b ((rawS k w m : Nat) : Int) (fb : Int) ((i / rawS k w m : Nat) : Int) (i : Int) l st [] 0 false k w h m p0 p1 p2 p3 p4 p5 p6 p7 p8 := by
        intro l st p0 p1 p2 p3 p4 p5 p6 p7 p8 K'
        by_cases c : (fb : Int) > 0
        · have hd2 : decide (((i + 1 : Nat) : Int) ≥ (fb : Int)) = false := decide_eq_false (by omega)
          rw [if_pos c, wz_succ_ i (by omega), hd2]
        · rw [if_neg c]
      have HBT := Aside0.mk hbadtest
      clear hbadtest
      have c5 : ¬ ((i + 1 : Nat) : Int) > ((rawS k w m * h.toNat : Nat) : Int) := by omega
      have c6 : ¬ ((rawS k w m : Nat) : Int) = 0 := by omega
      have htm : Int.tmod ((i + 1 : Nat) : Int) ((rawS k w m : Nat) : Int) = (((i + 1) % rawS k w m : Nat) : Int) := by
        rw [Int.tmod_eq_emod_of_nonneg (by omega)]
        rfl
      have hdm := Nat.div_add_mod i (rawS k w m)
      have hrh : i / rawS k w m < h.toNat := Nat.div_lt_of_lt_mul hz
      have hleft : ∀ r n5 : Nat, rawS k w m * r + n5 = i + 1 → (h - (r : Int)) * ((rawS k w m : Nat) : Int) - (n5 : Int) = ((rawS k w m * h.toNat : Nat) : Int) - (i : Int) - 1 := fun r n5 hh => by
        have : (r : Int) * ((rawS k w m : Nat) : Int) = ((rawS k w m * r : Nat) : Int) := by rw [Int.natCast_mul, Int.mul_comm]
        rw [Int.sub_mul, this, Int.mul_comm h, hsz]
        omega
      rcases Nat.lt_or_ge (i % rawS k w m + 1) (rawS k w m) with hc | hc
      · obtain ⟨d1, d2⟩ := divmod_next hS.1 hc
        have hlt2 : i + 1 < rawS k w m * h.toNat := by
          have h4 := Nat.mul_le_mul_left (rawS k w m) (show i / rawS k w m + 1 ≤ h.toNat from hrh)
          rw [Nat.mul_succ] at h4
          omega
        have hq := ih (i + 1) K (by omega) (by omega) (by omega) hlt2 h1
        have hne : ¬ (((i + 1) % rawS k w m : Nat) : Int) = 0 := by rw [d2]; omega
        have hlf := hleft ((i + 1) / rawS k w m) ((i + 1) % rawS k w m) (Nat.div_add_mod _ _)
        have hv : wrap64 (wrap64 (((rawS k w m * h.toNat : Nat) : Int) - (i : Int)) - 1) = ((rawS k w m * h.toNat : Nat) : Int) - (i : Int) - 1 := by
          rw [wr_id (((rawS k w m * h.toNat : Nat) : Int) - (i : Int)) (by omega) (by omega)]
          exact wr_id _ (by omega) (by omega)
        have HV := Aside0.mk hv
        clear hv
        have hK2 : 100001 ≤ K := by omega
        have hw : wrap64 ((i : Int) + 1) = ((i + 1 : Nat) : Int) := wz_succ_ i (by omega)
        rw [chequerlaw09_RawSteps.l0, if_pos c1, if_pos c2, hrd, raw_put_more e hb hlt h0 h1 hc, Option.bind_some, HBT.out, chequerlaw09_RawSteps.j1, if_neg (by decide), hw, HW2.out, if_neg c5, if_neg c6, htm, if_neg hne,
          steps_j2 K hK2 b _ _ _ _ [] 0 0 k w h m k w h m _ _ _ 0 0 (by simp) rfl (by rw [d1]) (by rw [if_pos rfl, if_pos rfl, HW2.out, HV.out]; exact hlf) (by rw [if_neg (by decide)]), hw]
        rw [d1] at hq ⊢
        exact hq
      · have hc2 : i % rawS k w m + 1 = rawS k w m := by have := Nat.mod_lt i (show rawS k w m > 0 by omega); omega
        obtain ⟨d1, d2, d3⟩ := divmod_full hS.1 hc2
        have hz2 : (((i + 1) % rawS k w m : Nat) : Int) = 0 := by rw [d2]; rfl
        have hsub : i + 1 - rawS k w m = i / rawS k w m * rawS k w m := by rw [d3, Nat.succ_mul]; omega
        have hge : rawS k w m ≤ i + 1 := by omega
        have hlenr : ((b.drop (i / rawS k w m * rawS k w m)).take (rawS k w m)).length = rawS k w m := by rw [List.length_take, List.length_drop]; omega
        have hrow : chequerref09_Row.f (K + 3) ((b.drop (i / rawS k w m * rawS k w m)).take (rawS k w m)) k w h m = some (Go.Proofs.Ytdjonaajfhbfhaa.Q.rowAt k w m b (i / rawS k w m)) := refrow_is k w h m e _ (byteL_take (byteL_drop hb _) _) hlenr (K + 3) (by omega)
        have hpart : (b.take (((i + 1 : Nat) : Int)).toNat).drop (((i + 1 - rawS k w m : Nat) : Int)).toNat = (b.drop (i / rawS k w m * rawS k w m)).take (rawS k w m) := by
          rw [Int.toNat_natCast, Int.toNat_natCast, List.drop_take, hsub]
          congr 1
          omega
        have hws : wrap64 (((i + 1 : Nat) : Int) - ((rawS k w m : Nat) : Int)) = ((i + 1 - rawS k w m : Nat) : Int) := (wr_id _ (by omega) (by omega)).trans (by omega)
        have HWS := Aside0.mk hws
        clear hws
        have b1 : (0 : Int) ≤ ((i + 1 - rawS k w m : Nat) : Int) := by omega
        have b2 : ((i + 1 - rawS k w m : Nat) : Int) ≤ ((i + 1 : Nat) : Int) := by omega
        have b3 : ((i + 1 : Nat) : Int) ≤ (b.length : Int) := by omega
        have hwr : wrap64 (((i / rawS k w m : Nat) : Int) + 1) = (((i + 1) / rawS k w m : Nat) : Int) := by
          rw [d1]
          have := Nat.div_le_self i (rawS k w m)
          exact wz_succ_ _ (by omega)
        have HWR := Aside0.mk hwr
        clear hwr
        have hrl : (Go.Proofs.Ytdjonaajfhbfhaa.Q.rowAt k w m b (i / rawS k w m)).length ≤ 100000 := by rw [rowAt_len]; omega
        have hK2 : 100001 ≤ K := by omega
        have hlf := hleft ((i + 1) / rawS k w m) ((i + 1) % rawS k w m) (Nat.div_add_mod _ _)
        have hv : wrap64 (wrap64 (((rawS k w m * h.toNat : Nat) : Int) - (i : Int)) - 1) = ((rawS k w m * h.toNat : Nat) : Int) - (i : Int) - 1 := by
          rw [wr_id (((rawS k w m * h.toNat : Nat) : Int) - (i : Int)) (by omega) (by omega)]
          exact wr_id _ (by omega) (by omega)
        have HV := Aside0.mk hv
        clear hv
        by_cases hover : (((i + 1) / rawS k w m : Nat) : Int) = h
        · have ho : (if (((i + 1) / rawS k w m : Nat) : Int) = h then (1 : Int) else 0) = 1 := if_pos hover
          have hh : (i + 1) / rawS k w m = h.toNat := by omega
          have hfull : i + 1 = rawS k w m * h.toNat := by rw [← hh, d1, Nat.mul_comm]; exact d3
          have hfz : fb = 0 := by
            rcases Nat.eq_zero_or_pos fb with h | h
            · exact h
            · exact absurd ⟨h, by omega⟩ hnf
          have hq := steps_over e hl (((i + 1) / rawS k w m : Nat) : Int) k w h m (encB (curL (rawS k w m) b (i + 1))) (((i + 1) % rawS k w m : Nat) : Int) _ rfl d (i + 1) K (by omega) (by omega) (by omega) (by omega)
          have hw : wrap64 ((i : Int) + 1) = ((i + 1 : Nat) : Int) := wz_succ_ i (by omega)
          rw [chequerlaw09_RawSteps.l0, if_pos c1, if_pos c2, hrd, raw_put_row e hb hlt h0 h1 hc2, Option.bind_some, HBT.out, chequerlaw09_RawSteps.j1, if_neg (by decide), hw, HW2.out, if_neg c5, if_neg c6, htm, if_pos hz2, HWS.out, if_pos b1, if_pos b2, if_pos b3, hpart, hrow, Option.bind_some, HWR.out, if_pos hover]
          simp only [ho]
          rw [steps_j2 K hK2 b _ _ _ _ (Go.Proofs.Ytdjonaajfhbfhaa.Q.rowAt k w m b (i / rawS k w m)) 1 1 k w h m k w h m _ _ _ 1 0 hrl rfl rfl (by rw [if_neg (by decide), if_neg (by decide)]) (by rw [if_neg (by decide)]), hw, hfz]
          exact hq
        · have ho : (if (((i + 1) / rawS k w m : Nat) : Int) = h then (1 : Int) else 0) = 0 := if_neg hover
          have hlt2 : i + 1 < rawS k w m * h.toNat := by
            have h4 : (i + 1) / rawS k w m ≠ h.toNat := by omega
            rw [d1] at h4
            have h5 := Nat.mul_le_mul_left (rawS k w m) (show i / rawS k w m + 1 + 1 ≤ h.toNat by omega)
            rw [Nat.mul_succ] at h5
            rw [Nat.mul_comm] at d3
            omega
          have hq := ih (i + 1) K (by omega) (by omega) (by omega) hlt2 h1
          have hw : wrap64 ((i : Int) + 1) = ((i + 1 : Nat) : Int) := wz_succ_ i (by omega)
          rw [chequerlaw09_RawSteps.l0, if_pos c1, if_pos c2, hrd, raw_put_row e hb hlt h0 h1 hc2, Option.bind_some, HBT.out, chequerlaw09_RawSteps.j1, if_neg (by decide), hw, HW2.out, if_neg c5, if_neg c6, htm, if_pos hz2, HWS.out, if_pos b1, if_pos b2, if_pos b3, hpart, hrow, Option.bind_some, HWR.out, if_neg hover]
          simp only [ho]
          rw [steps_j2 K hK2 b _ _ _ _ (Go.Proofs.Ytdjonaajfhbfhaa.Q.rowAt k w m b (i / rawS k w m)) 0 0 k w h m k w h m _ _ _ 0 0 hrl rfl rfl (by rw [if_pos rfl, if_pos rfl, HW2.out, HV.out]; exact hlf) (by rw [if_neg (by decide)]), hw]
          exact hq
theorem RawSteps : chequerlaw09_RawSteps.Pure := by
  intro l0 a b c d hl0 hl1 hx ha hb hc hd
  obtain ⟨k, w, h, m, hg, ho, _, _⟩ := refhead_is a b c d 4 (wf_i64 ha) (wf_i64 hb) (wf_i64 hc) (wf_i64 hd) (by omega) (by omega)
  have hS := rawS_bound ho
  have hm := rawMay_is ho
  refine ⟨301000, ?_⟩
  unfold chequerlaw09_RawSteps.f
  have hmn : mn (l0.length : Int) 80 = ((min l0.length 80 : Nat) : Int) := by unfold mn; split <;> omega
  have hby : byteL (l0.take (min l0.length 80)) := byteL_take (fun x hh => wf_u8 (hx x hh)) _
  have hlen : (l0.take (min l0.length 80)).length ≤ 80 := by rw [List.length_take]; omega
  have hN : raw_New.f k w h m = some (k, w, h, m, 0, 0, 0, 0, 0, 0) := by unfold raw_New.f; rw [if_pos ho]
  obtain ⟨fb, hf, hf1, hf2, hiff⟩ := refbad_is ho _ hby (by omega) 301000 (by omega)
  rw [hmn, if_pos (by omega), if_pos (by omega), hg, Option.bind_some, hN, Option.bind_some, if_pos rfl, refstride_is ho, Option.bind_some, Int.toNat_natCast, hf, Option.bind_some]
  have h0 : ¬ badIdx k m (l0.take (min l0.length 80)) 0 := by
    rintro ⟨_, i, hi, _⟩
    have := sampW_12 m
    have h2 := Nat.mul_le_mul_right (i + 1) this.1
    omega
  have hc0 : curL (rawS k w m) (l0.take (min l0.length 80)) 0 = [] := by unfold curL; rw [List.take_zero, List.drop_nil]
  have hgo := steps_go ho hby (by omega) fb hiff hf1 hf2 _ 0 301000 rfl (by omega) (by omega) (Nat.mul_pos (by omega) (by omega)) h0
  rw [Nat.zero_div, Nat.zero_mod, hc0] at hgo
  exact hgo
end Go.Proofs.Ytdjonaajfhbfhaa.Pure
