import Derived.Test.YtdjonaajfhbfhaaIpix_Unpack
import Derived.Test.YtdjonaajfhbfhaaIraw_Read
import Derived.Test.YtdjonaajfhbfhaaIraw_Reader_Put
import Derived.Test.YtdjonaajfhbfhaaIraw_Reader_row
import Derived.Test.YtdjonaajfhbfhaaIraw_Write
import Derived.Test.YtdjonaajfhbfhaaQ1
import Derived.Test.YtdjonaajfhbfhaaQ21
import Derived.Test.YtdjonaajfhbfhaaQ17
import Derived.Test.YtdjonaajfhbfhaaQ3
import Derived.Laws.BitsLemmas
import Derived.Test.YtdjonaajfhbfhaaQ2
import Derived.Test.YtdjonaajfhbfhaaIbits_Unpack
import Derived.Test.YtdjonaajfhbfhaaQ11
import Derived.Test.YtdjonaajfhbfhaaQ13
import Derived.Test.YtdjonaajfhbfhaaQ12
import Derived.Test.YtdjonaajfhbfhaaQ8
import Derived.Test.YtdjonaajfhbfhaaQ4
import Derived.Test.YtdjonaajfhbfhaaQ9
import Derived.Test.YtdjonaajfhbfhaaQ22
/- Modulo, from nought on. -/
namespace Go.Proofs.Ytdjonaajfhbfhaa.Q
open Go.RowKit Go.Proofs.YtdjonaajfhbfhaaW.PrintWords Go.Proofs.YtdjonaajfhbfhaaW.PrintLast
set_option linter.unusedVariables false
theorem wf_i64 {n : Int} (h : (Lit.int .i64 n).wf = true) : -9223372036854775808 ≤ n ∧ n ≤ 9223372036854775807 := by
  have a : IntKind.i64.min = -9223372036854775808 := by decide
  have b : IntKind.i64.max = 9223372036854775807 := by decide
  simp [Lit.wf, a, b] at h
  omega
theorem wf_u8 {n : Int} (h : (Lit.int .u8 n).wf = true) : 0 ≤ n ∧ n ≤ 255 := by
  have a : IntKind.u8.min = 0 := by decide
  have b : IntKind.u8.max = 255 := by decide
  simp [Lit.wf, a, b] at h
  omega
theorem wf_u64 {n : Int} (h : (Lit.int .u64 n).wf = true) : 0 ≤ n ∧ n ≤ 18446744073709551615 := by
  have a : IntKind.u64.min = 0 := by decide
  have b : IntKind.u64.max = 18446744073709551615 := by decide
  simp [Lit.wf, a, b] at h
  omega
def aroundZ (n m : Int) : Int := (if n < 0 then -(n + 1) else n) % m
theorem aroundZ_range (n m : Int) (hm : 0 < m) : 0 ≤ aroundZ n m ∧ aroundZ n m < m := ⟨Int.emod_nonneg _ (by omega), Int.emod_lt_of_pos _ hm⟩
theorem around_is (n m : Int) (h0 : -9223372036854775808 ≤ n) (h1 : n ≤ 9223372036854775807) (hm : 0 < m) : chequerref01_Around.f n m = some (aroundZ n m) := by
  unfold chequerref01_Around.f aroundZ
  by_cases h : n < 0
  · rw [if_pos h, if_neg (by omega), if_pos h]
    have w1 : wrap64 (n + 1) = n + 1 := by unfold wrap64; omega
    have w2 : wrap64 (-(n + 1)) = -(n + 1) := by unfold wrap64; omega
    rw [w1, w2, Int.tmod_eq_emod_of_nonneg (by omega)]
  rw [if_neg h, if_neg (by omega), if_neg h, Int.tmod_eq_emod_of_nonneg (by omega)]
end Go.Proofs.Ytdjonaajfhbfhaa.Q
/- The document's example of layer 9. -/
namespace Go.Proofs.Ytdjonaajfhbfhaa.Q
open Go.RowKit Go.Proofs.YtdjonaajfhbfhaaW.PrintWords Go.Proofs.YtdjonaajfhbfhaaW.PrintLast
theorem lives09 : chequerlaw09_lives.f 40 = some true := by decide +kernel
theorem lives_more (k : Nat) (hk : 40 ≤ k) : chequerlaw09_lives.f k = some true := by
  obtain ⟨d, rfl⟩ := Nat.exists_eq_add_of_le hk
  clear hk
  induction d with
  | zero => exact lives09
  | succ d ih => exact chequerlaw09_lives.mono (40 + d) _ ih
end Go.Proofs.Ytdjonaajfhbfhaa.Q
/- The pixel of samples: both texts answer the same. -/
namespace Go.Proofs.Ytdjonaajfhbfhaa.Q
open Go.RowKit Go.Proofs.YtdjonaajfhbfhaaW.PrintWords Go.Proofs.YtdjonaajfhbfhaaW.PrintLast
set_option linter.unusedVariables false
theorem wraps_u64_63 (n : Int) (h0 : 0 ≤ n) (h1 : n < 2 ^ 63) : IntKind.u64.wrap n = n := by
  simp [IntKind.wrap, IntKind.bits, IntKind.signed]
  omega
theorem u64_in (n : Int) (h0 : 0 ≤ n) (h1 : n ≤ 18446744073709551615) : IntKind.u64.wrap n = n := by
  simp [IntKind.wrap, IntKind.bits, IntKind.signed]
  omega
theorem or16 (v n : Int) (h0 : 0 ≤ v) (h1 : v ≤ 4294967295) (h2 : 0 ≤ n) (h3 : n ≤ 65535) : Go.bits .or .u64 (v * 65536) n = v * 65536 + n :=
  bits_join .u64 63 (by decide) wraps_u64_63 16 _ _ (by omega) (by omega) (by omega) h2 (by omega) (by omega)
theorem or48 (v c : Int) (h0 : 0 ≤ v) (h1 : v ≤ 281474976710655) (h2 : 0 ≤ c) (h3 : c ≤ 3) : Go.bits .or .u64 v (c * 281474976710656) = v + c * 281474976710656 := by
  have e : Go.bits .or .u64 v (c * 281474976710656) = Go.bits .or .u64 (c * 281474976710656) v := by simp only [Go.bits, BitVec.or_comm]
  rw [e, bits_join .u64 63 (by decide) wraps_u64_63 48 _ _ (by omega) (by omega) (by omega) h0 (by omega) (by omega)]
  omega
def inS (n : Int) : Prop := 0 ≤ n ∧ n ≤ 65535
instance (n : Int) : Decidable (inS n) := by unfold inS; infer_instance
theorem in_is (n : Int) : chequerref01_in.f n = some (decide (inS n)) := by
  unfold chequerref01_in.f
  by_cases h : n ≥ 0
  · rw [if_pos h]
    congr 1
    apply decide_eq_decide.2
    unfold inS
    omega
  have : ¬ inS n := fun e => h e.1
  rw [if_neg h, decide_eq_false this]
/-- The pixel of samples. -/
def pixP : List Int → Int × Int
  | [a] => if inS a then (a + 281474976710656, 0) else (0, 4)
  | [a, b, c] => if inS a ∧ inS b ∧ inS c then (a * 4294967296 + b * 65536 + c + 844424930131968, 0) else (0, 4)
  | _ => (0, 1)
theorem pixP_other (l : List Int) (h1 : l.length ≠ 1) (h3 : l.length ≠ 3) : pixP l = (0, 1) := by
  match l with
  | [] => rfl
  | [a] => simp at h1
  | [a, b] => rfl
  | [a, b, c] => simp at h3
  | a :: b :: c :: d :: r => rfl
theorem list_1 {l : List Int} (h : l.length = 1) : ∃ a, l = [a] := by
  match l, h with
  | [a], _ => exact ⟨a, rfl⟩
theorem list_3 {l : List Int} (h : l.length = 3) : ∃ a b c, l = [a, b, c] := by
  match l, h with
  | [a, b, c], _ => exact ⟨a, b, c, rfl⟩
theorem refpixpack_0 (k : Nat) (x4 : Int) (a b c : Int) (hv : 0 ≤ x4) (hv2 : x4 ≤ 4294967295) (l : List Int) (i : Nat) (hi : i < l.length) (hl : l.length ≤ 3) (ha : l.getD i 0 = a) : chequerref01_Pack.l0 (k + 1) l x4 (i : Int) = if inS a then chequerref01_Pack.l0 k l (x4 * 65536 + a) ((i + 1 : Nat) : Int) else some (0, 4) := by
  have hrd : rd l (i : Int) = a := by unfold rd; rw [Int.toNat_natCast]; exact ha
  have c1 : (i : Int) < (l.length : Int) := by omega
  have c2 : (0 : Int) ≤ (i : Int) := by omega
  have w1 : wrap64 ((i : Int) + 1) = ((i + 1 : Nat) : Int) := by clear hrd; unfold wrap64; omega
  rw [chequerref01_Pack.l0, if_pos c1, if_pos c2, hrd, in_is, Option.bind_some, w1]
  by_cases h : inS a
  · have h' := h
    unfold inS at h'
    have w2 : wrap64 (wrap64 (x4 * 65536) + a) = x4 * 65536 + a := by clear hrd w1; unfold wrap64; omega
    rw [decide_eq_true h, if_pos rfl, if_pos h, w2]
  rw [decide_eq_false h, if_neg (by decide), if_neg h]
theorem refpixpack_end (k : Nat) (x4 : Int) (l : List Int) (hl : l.length ≤ 3) (hv : 0 ≤ x4) (hv2 : x4 ≤ 281474976710655) : chequerref01_Pack.l0 (k + 1) l x4 (l.length : Int) = some (x4 + (l.length : Int) * 281474976710656, 0) := by
  have w1 : wrap64 ((l.length : Int) * 281474976710656) = (l.length : Int) * 281474976710656 := by unfold wrap64; omega
  have w2 : wrap64 (x4 + (l.length : Int) * 281474976710656) = x4 + (l.length : Int) * 281474976710656 := by clear w1; unfold wrap64; omega
  rw [chequerref01_Pack.l0, if_neg (by omega), w1, w2, u64_in _ (by clear w1 w2; omega) (by clear w1 w2; omega)]
theorem refpixpack_is (l : List Int) (k : Nat) (hk : 10 ≤ k) : chequerref01_Pack.f k l = some (pixP l) := by
  unfold chequerref01_Pack.f
  obtain ⟨k, rfl⟩ : ∃ m, k = m + 6 := ⟨k - 6, by omega⟩
  by_cases h1 : l.length = 1
  · obtain ⟨a, rfl⟩ := list_1 h1
    rw [if_pos (by rfl), chequerref01_Pack.j0, if_neg (by decide)]
    have s0 := refpixpack_0 (k + 4) 0 a 0 0 (by omega) (by omega) [a] 0 (by simp) (by simp) rfl; rw [show ((0 : Nat) : Int) = 0 from rfl] at s0
    rw [s0]
    by_cases h : inS a
    · have h' := h
      unfold inS at h'
      have s1 := refpixpack_end (k + 3) (0 * 65536 + a) [a] (by simp) (by omega) (by omega)
      rw [if_pos h]
      refine s1.trans ?_; simp only [pixP]
      rw [if_pos h]
      congr 2
      simp
    rw [if_neg h]
    simp only [pixP]
    rw [if_neg h]
  rw [if_neg (by omega)]
  by_cases h3 : l.length = 3
  · obtain ⟨a, b, c, rfl⟩ := list_3 h3
    rw [show (([a, b, c].length : Int) != 3) = false by simp, chequerref01_Pack.j0, if_neg (by decide)]
    have s0 := refpixpack_0 (k + 4) 0 a 0 0 (by omega) (by omega) [a, b, c] 0 (by simp) (by simp) rfl; rw [show ((0 : Nat) : Int) = 0 from rfl] at s0
    rw [s0]
    simp only [pixP]
    by_cases ha : inS a
    · have ha' := ha
      unfold inS at ha'
      have s1 := refpixpack_0 (k + 3) (0 * 65536 + a) b 0 0 (by omega) (by omega) [a, b, c] 1 (by simp) (by simp) rfl
      rw [if_pos ha]
      refine s1.trans ?_
      by_cases hb : inS b
      · have hb' := hb
        unfold inS at hb'
        have s2 := refpixpack_0 (k + 2) ((0 * 65536 + a) * 65536 + b) c 0 0 (by omega) (by omega) [a, b, c] 2 (by simp) (by simp) rfl
        rw [if_pos hb]
        refine s2.trans ?_
        by_cases hc : inS c
        · have hc' := hc
          unfold inS at hc'
          have s3 := refpixpack_end (k + 1) (((0 * 65536 + a) * 65536 + b) * 65536 + c) [a, b, c] (by simp) (by omega) (by omega)
          rw [if_pos hc, if_pos ⟨ha, hb, hc⟩]
          refine s3.trans ?_
          congr 2
          simp
          omega
        rw [if_neg hc, if_neg (fun h => hc h.2.2)]
      rw [if_neg hb, if_neg (fun h => hb h.2.1)]
    rw [if_neg ha, if_neg (fun h => ha h.1)]
  rw [show ((l.length : Int) != 3) = true by simp; omega, chequerref01_Pack.j0, if_pos rfl, pixP_other l h1 h3]
theorem pixpack_0 (k : Nat) (x0 : List Int) (x4 : Int) (a : Int) (hv : 0 ≤ x4) (hv2 : x4 ≤ 4294967295) (l : List Int) (i : Nat) (hi : i < l.length) (hl : l.length ≤ 3) (ha : l.getD i 0 = a) : pix_Pack.l0 (k + 1) x0 x4 l (l.length : Int) (i : Int) = if inS a then pix_Pack.l0 k x0 (x4 * 65536 + a) l (l.length : Int) ((i + 1 : Nat) : Int) else some (0, 4) := by
  have hrd : rd l (i : Int) = a := by unfold rd; rw [Int.toNat_natCast]; exact ha
  have c1 : (i : Int) < (l.length : Int) := by omega
  have c2 : (0 : Int) ≤ (i : Int) := by omega
  have w1 : wrap64 ((i : Int) + 1) = ((i + 1 : Nat) : Int) := by clear hrd; unfold wrap64; omega
  rw [pix_Pack.l0, if_pos c1, if_pos c2, if_pos c1, hrd, w1]
  clear hrd w1
  by_cases h : a < 0
  · rw [if_pos h, if_neg (show ¬ inS a from fun e => by have := e.1; omega)]
  rw [if_neg h]
  by_cases h2 : a > 65535
  · rw [if_pos h2, if_neg (show ¬ inS a from fun e => by have := e.2; omega)]
  rw [if_neg h2, if_pos (show inS a from ⟨by omega, by omega⟩), u64_in (x4 * 65536) (by omega) (by omega), u64_in a (by omega) (by omega), or16 x4 a hv hv2 (by omega) (by omega)]
theorem pixpack_end (k : Nat) (x0 : List Int) (x4 : Int) (l : List Int) (h0 : x0.length ≤ 3) (hv : 0 ≤ x4) (hv2 : x4 ≤ 281474976710655) : pix_Pack.l0 (k + 1) x0 x4 l (l.length : Int) (l.length : Int) = some (x4 + (x0.length : Int) * 281474976710656, 0) := by
  rw [pix_Pack.l0, if_neg (by omega), u64_in (x0.length : Int) (by omega) (by omega), u64_in _ (by omega) (by omega), or48 x4 _ hv hv2 (by omega) (by omega)]
theorem pixpack_is (l : List Int) (k : Nat) (hk : 10 ≤ k) : pix_Pack.f k l = some (pixP l) := by
  unfold pix_Pack.f
  obtain ⟨k, rfl⟩ : ∃ m, k = m + 6 := ⟨k - 6, by omega⟩
  by_cases h1 : l.length = 1
  · obtain ⟨a, rfl⟩ := list_1 h1
    rw [if_pos (by rfl), pix_Pack.j0, if_neg (by decide)]
    have s0 := pixpack_0 (k + 4) [a] 0 a (by omega) (by omega) [a] 0 (by simp) (by simp) rfl; rw [show ((0 : Nat) : Int) = 0 from rfl] at s0
    rw [s0]
    by_cases h : inS a
    · have h' := h
      unfold inS at h'
      have s1 := pixpack_end (k + 3) [a] (0 * 65536 + a) [a] (by simp) (by omega) (by omega)
      rw [if_pos h]
      refine s1.trans ?_; simp only [pixP]
      rw [if_pos h]
      congr 2
      simp
    rw [if_neg h]
    simp only [pixP]
    rw [if_neg h]
  rw [if_neg (by omega)]
  by_cases h3 : l.length = 3
  · obtain ⟨a, b, c, rfl⟩ := list_3 h3
    rw [show (([a, b, c].length : Int) != 3) = false by simp, pix_Pack.j0, if_neg (by decide)]
    have s0 := pixpack_0 (k + 4) [a, b, c] 0 a (by omega) (by omega) [a, b, c] 0 (by simp) (by simp) rfl; rw [show ((0 : Nat) : Int) = 0 from rfl] at s0
    rw [s0]
    simp only [pixP]
    by_cases ha : inS a
    · have ha' := ha
      unfold inS at ha'
      have s1 := pixpack_0 (k + 3) [a, b, c] (0 * 65536 + a) b (by omega) (by omega) [a, b, c] 1 (by simp) (by simp) rfl
      rw [if_pos ha]
      refine s1.trans ?_
      by_cases hb : inS b
      · have hb' := hb
        unfold inS at hb'
        have s2 := pixpack_0 (k + 2) [a, b, c] ((0 * 65536 + a) * 65536 + b) c (by omega) (by omega) [a, b, c] 2 (by simp) (by simp) rfl
        rw [if_pos hb]
        refine s2.trans ?_
        by_cases hc : inS c
        · have hc' := hc
          unfold inS at hc'
          have s3 := pixpack_end (k + 1) [a, b, c] (((0 * 65536 + a) * 65536 + b) * 65536 + c) [a, b, c] (by simp) (by omega) (by omega)
          rw [if_pos hc, if_pos ⟨ha, hb, hc⟩]
          refine s3.trans ?_
          congr 2
          simp
          omega
        rw [if_neg hc, if_neg (fun h => hc h.2.2)]
      rw [if_neg hb, if_neg (fun h => hb h.2.1)]
    rw [if_neg ha, if_neg (fun h => ha h.1)]
  rw [show ((l.length : Int) != 3) = true by simp; omega, pix_Pack.j0, if_pos rfl, pixP_other l h1 h3]
end Go.Proofs.Ytdjonaajfhbfhaa.Q
/- A head that may be. -/
namespace Go.Proofs.Ytdjonaajfhbfhaa.Q
open Go.RowKit Go.Proofs.YtdjonaajfhbfhaaW.PrintWords Go.Proofs.YtdjonaajfhbfhaaW.PrintLast
set_option linter.unusedVariables false
theorem wr_id (n : Int) (h0 : -9223372036854775808 ≤ n) (h1 : n ≤ 9223372036854775807) : wrap64 n = n := by unfold wrap64; omega
end Go.Proofs.Ytdjonaajfhbfhaa.Q
/- A row's pixels, of its bytes, by the document's text. -/
namespace Go.Proofs.Ytdjonaajfhbfhaa.Q
open Go.RowKit Go.Proofs.YtdjonaajfhbfhaaW.PrintWords Go.Proofs.YtdjonaajfhbfhaaW.PrintLast Go.Proofs.Ytdjonaajfhbfhaa.Bt
set_option linter.unusedVariables false
set_option linter.unusedVariables false
def bytesOK (l : List Int) : Prop := ∀ x ∈ l, 0 ≤ x ∧ x ≤ 255
theorem wz_succ_ (i : Nat) (h : i ≤ 100000) : wrap64 ((i : Int) + 1) = ((i + 1 : Nat) : Int) := by unfold wrap64; omega
set_option linter.unusedVariables false
end Go.Proofs.Ytdjonaajfhbfhaa.Q
/- Heads of rasters of bytes: both texts answer the same. -/
namespace Go.Proofs.Ytdjonaajfhbfhaa.Q
open Go.RowKit Go.Proofs.YtdjonaajfhbfhaaW.PrintWords Go.Proofs.YtdjonaajfhbfhaaW.PrintLast
set_option linter.unusedVariables false
theorem refrawmay_is (k w h m : Int) : chequerref09_May.f k w h m = some (rawMay k w h m) := by
  unfold chequerref09_May.f chequerref06_May.f rawMay chequerref06_bits.f
  by_cases c1 : k < 1
  · rw [if_pos c1, Option.bind_some, if_neg (by decide), decide_eq_false (by omega)]
  rw [if_neg c1]
  by_cases c2 : k > 6
  · rw [if_pos c2, Option.bind_some, if_neg (by decide), decide_eq_false (by omega)]
  rw [if_neg c2]
  by_cases c3 : w < 1
  · rw [if_pos c3, Option.bind_some, if_neg (by decide), decide_eq_false (by omega)]
  rw [if_neg c3]
  by_cases c4 : w > 4096
  · rw [if_pos c4, Option.bind_some, if_neg (by decide), decide_eq_false (by omega)]
  rw [if_neg c4]
  by_cases c5 : h < 1
  · rw [if_pos c5, Option.bind_some, if_neg (by decide), decide_eq_false (by omega)]
  rw [if_neg c5]
  by_cases c6 : h > 65536
  · rw [if_pos c6, Option.bind_some, if_neg (by decide), decide_eq_false (by omega)]
  rw [if_neg c6]
  by_cases c7 : m < 1
  · rw [if_pos c7, Option.bind_some, if_neg (by decide), decide_eq_false (by omega)]
  rw [if_neg c7]
  by_cases c8 : m > 65535
  · rw [if_pos c8, Option.bind_some, if_neg (by decide), decide_eq_false (by omega)]
  rw [if_neg c8]
  by_cases c9 : m = 1
  · rw [if_pos c9, Option.bind_some, if_pos rfl]
    congr 1
    rw [decide_eq_decide]
    omega
  rw [if_neg c9]
  by_cases ca : k = 1
  · rw [if_pos ca, Option.bind_some, Option.bind_some, if_neg (by decide), decide_eq_false (by omega)]
  rw [if_neg ca, Option.bind_some, Option.bind_some]
  by_cases cb : k = 4
  · rw [if_neg (by simp [cb]), decide_eq_false (by omega)]
  have e : (k == 4) = false := beq_eq_false_iff_ne.2 cb
  rw [e, if_pos (by decide)]
  congr 1
  rw [decide_eq_decide]
  omega
theorem refsize_is {k w h m : Int} (e : rawMay k w h m = true) : chequerref06_Size.f k w h m = some ((rawS k w m : Nat) * h) := by
  have h1 := rawMay_is e
  have hsb := rawS_bound e
  have w64 : ∀ x : Int, 0 ≤ x → x ≤ 1610612736 → wrap64 x = x := fun x a b => by unfold wrap64; omega
  have hp : ∀ a b : Int, 0 ≤ a → a ≤ 24576 → 0 ≤ b → b ≤ 65536 → 0 ≤ a * b ∧ a * b ≤ 1610612736 := fun a b a0 a1 b0 b1 => ⟨Int.mul_nonneg a0 b0, by
    have := Int.mul_le_mul a1 b1 b0 (by omega)
    omega⟩
  unfold chequerref06_Size.f
  rw [if_neg (by omega)]
  unfold rawS sampW
  by_cases h4 : k = 4
  · rw [if_pos h4, if_pos h4]
    rw [Int.tmod_eq_emod_of_nonneg (by omega), Int.tdiv_eq_ediv_of_nonneg (by omega), w64 (w / 8) (by omega) (by omega)]
    by_cases hz : w % 8 > 0
    · rw [if_pos hz, w64 (w / 8 + 1) (by omega) (by omega)]
      have := hp (w / 8 + 1) h (by omega) (by omega) (by omega) (by omega)
      rw [w64 _ this.1 this.2]
      congr 2
      omega
    rw [if_neg hz]
    have := hp (w / 8) h (by omega) (by omega) (by omega) (by omega)
    rw [w64 _ this.1 this.2]
    congr 2
    omega
  rw [if_neg h4, if_neg h4]
  have q0 := hp w h (by omega) (by omega) (by omega) (by omega)
  have q3 := hp (3 * w) h (by omega) (by omega) (by omega) (by omega)
  have q2 := hp (2 * w) h (by omega) (by omega) (by omega) (by omega)
  have q6 := hp (6 * w) h (by omega) (by omega) (by omega) (by omega)
  have e3 : 3 * (w * h) = 3 * w * h := (Int.mul_assoc 3 w h).symm
  have e2 : 2 * (w * h) = 2 * w * h := (Int.mul_assoc 2 w h).symm
  have e6 : 2 * (3 * w * h) = 6 * w * h := by rw [← Int.mul_assoc, ← Int.mul_assoc]; rfl
  by_cases h6 : k = 6
  · rw [if_pos h6, if_pos h6, w64 (w * h) q0.1 q0.2, e3, w64 (3 * w * h) q3.1 q3.2]
    by_cases hm : m ≤ 255
    · rw [if_neg (by omega), if_pos hm]
      congr 2
      omega
    rw [if_pos (by omega), if_neg hm, e6, w64 _ q6.1 q6.2]
    congr 2
    omega
  rw [if_neg h6, if_neg h6, w64 (w * h) q0.1 q0.2]
  by_cases hm : m ≤ 255
  · rw [if_neg (by omega), if_pos hm]
    congr 2
    omega
  rw [if_pos (by omega), if_neg hm, e2, w64 _ q2.1 q2.2]
  congr 2
  omega
theorem refhead_is (a b c d most : Int) (ha : -9223372036854775808 ≤ a ∧ a ≤ 9223372036854775807) (hb : -9223372036854775808 ≤ b ∧ b ≤ 9223372036854775807) (hc : -9223372036854775808 ≤ c ∧ c ≤ 9223372036854775807) (hd : -9223372036854775808 ≤ d ∧ d ≤ 9223372036854775807) (h0 : 1 ≤ most) (h1 : most ≤ 4096) :
    ∃ k w h m, chequerref09_Head.f a b c d most = some (k, w, h, m) ∧ rawMay k w h m = true ∧ w ≤ most ∧ h ≤ most := by
  have r1 := aroundZ_range a 6 (by omega)
  have r2 := aroundZ_range b most (by omega)
  have r3 := aroundZ_range c most (by omega)
  have r4 := aroundZ_range d 65535 (by omega)
  unfold chequerref09_Head.f chequerref06_Good.f
  rw [around_is a 6 ha.1 ha.2 (by omega), around_is b most hb.1 hb.2 (by omega), around_is c most hc.1 hc.2 (by omega), around_is d 65535 hd.1 hd.2 (by omega)]
  generalize aroundZ a 6 = x at *
  generalize aroundZ b most = y at *
  generalize aroundZ c most = z at *
  generalize aroundZ d 65535 = v at *
  simp only [Option.bind_some, chequerref06_bits.f]
  rw [wr_id (1 + x) (by omega) (by omega), wr_id (1 + y) (by omega) (by omega), wr_id (1 + z) (by omega) (by omega), wr_id (1 + v) (by omega) (by omega)]
  have w3 : wrap64 (1 + x + 3) = x + 4 := by unfold wrap64; omega
  by_cases g1 : 1 + x = 1
  · rw [if_pos g1, Option.bind_some, if_pos rfl, Option.bind_some, if_pos (by show 1 + x < 4; omega), w3]
    exact ⟨x + 4, 1 + y, 1 + z, 1, rfl, decide_eq_true (by omega), by omega, by omega⟩
  rw [if_neg g1, Option.bind_some]
  by_cases g4 : 1 + x = 4
  · have e : (1 + x == 4) = true := beq_iff_eq.2 g4
    rw [e, if_pos rfl, Option.bind_some, if_neg (by show ¬ 1 + x < 4; omega)]
    exact ⟨1 + x, 1 + y, 1 + z, 1, rfl, decide_eq_true (by omega), by omega, by omega⟩
  have e : (1 + x == 4) = false := beq_eq_false_iff_ne.2 g4
  rw [e, if_neg (by decide), Option.bind_some]
  by_cases g5 : 1 + x < 4
  · rw [if_pos g5, w3]
    exact ⟨x + 4, 1 + y, 1 + z, 1 + v, rfl, decide_eq_true (by omega), by omega, by omega⟩
  rw [if_neg g5]
  exact ⟨1 + x, 1 + y, 1 + z, 1 + v, rfl, decide_eq_true (by omega), by omega, by omega⟩
end Go.Proofs.Ytdjonaajfhbfhaa.Q
/- A row's samples, and its pixels: both texts answer the same. -/
namespace Go.Proofs.Ytdjonaajfhbfhaa.Q
open Go.RowKit Go.Proofs.YtdjonaajfhbfhaaW.PrintWords Go.Proofs.YtdjonaajfhbfhaaW.PrintLast
set_option linter.unusedVariables false
theorem byteL_get {b : List Int} (h : byteL b) (i : Nat) : 0 ≤ b.getD i 0 ∧ b.getD i 0 ≤ 255 := by
  rw [List.getD_eq_getElem?_getD]
  cases e : b[i]? with
  | none => simp
  | some x => exact h x (List.mem_of_getElem? e)
theorem byteL_take {b : List Int} (h : byteL b) (n : Nat) : byteL (b.take n) := fun x hx => h x (List.mem_of_mem_take hx)
theorem byteL_drop {b : List Int} (h : byteL b) (n : Nat) : byteL (b.drop n) := fun x hx => h x (List.mem_of_mem_drop hx)
theorem sampW_12 (m : Int) : 1 ≤ sampW m ∧ sampW m ≤ 2 := by unfold sampW; split <;> omega
/-- The pixels of a row. -/
def rowV (k w m : Int) (b : List Int) : List Int := (List.range w.toNat).map fun j => (pixP (partL (rowL k w m b) (rowD k) j)).1
theorem raw_row_is (k w m : Int) (b : List Int) : raw_row.f k w m b = some (rowV k w m b) := by
  unfold raw_row.f
  rw [if_pos (List.all_eq_true.2 (fun j _ => by rw [pixpack_is _ 10 (Nat.le_refl _)]; rfl))]
  unfold rowV
  congr 1
  apply List.map_congr_left
  intro j _
  rw [pixpack_is _ 10 (Nat.le_refl _)]
  rfl
end Go.Proofs.Ytdjonaajfhbfhaa.Q
/- With which byte a raster is wrong, by the document's text. -/
namespace Go.Proofs.Ytdjonaajfhbfhaa.Q
open Go.RowKit Go.Proofs.YtdjonaajfhbfhaaW.PrintWords Go.Proofs.YtdjonaajfhbfhaaW.PrintLast
set_option linter.unusedVariables false
/-- Among the first n bytes a sample is too great. -/
def badIdx (k m : Int) (b : List Int) (n : Nat) : Prop := k ≠ 4 ∧ ∃ i : Nat, sampW m * (i + 1) ≤ n ∧ sampV m b i > m
theorem badIdx_mono {k m : Int} {b : List Int} {n n' : Nat} (h : badIdx k m b n) (hn : n ≤ n') : badIdx k m b n' := by
  obtain ⟨h4, i, hi, hv⟩ := h
  exact ⟨h4, i, by omega, hv⟩
end Go.Proofs.Ytdjonaajfhbfhaa.Q
/- A pixel's samples, formats, and what is made of any numbers: the document's functions told in plain lists. -/
namespace Go.Proofs.Ytdjonaajfhbfhaa.Q
open Go.RowKit Go.Proofs.YtdjonaajfhbfhaaW.PrintWords Go.Proofs.YtdjonaajfhbfhaaW.PrintLast
set_option linter.unusedVariables false
theorem wz (n : Int) (h0 : -9223372036854775808 ≤ n) (h1 : n ≤ 9223372036854775807) : wrap64 n = n := by unfold wrap64; omega
theorem pixunpack_is (p : Int) (h0 : 0 ≤ p) (h1 : p ≤ 18446744073709551615) : pix_Unpack.f p = some (pixL p) := by unfold pix_Unpack.f; rw [if_pos ⟨h0, h1⟩]
theorem refunpack_is (p : Int) (h0 : 0 ≤ p) (h1 : p ≤ 18446744073709551615) : chequerref01_Unpack.f p = some (pixL p) := by
  unfold chequerref01_Unpack.f
  have r0 : 0 ≤ p % 281474976710656 := by omega
  have r1 : p % 281474976710656 < 281474976710656 := by omega
  have e1 : p % 281474976710656 / 4294967296 = p / 4294967296 % 65536 := by omega
  have e2 : p % 281474976710656 / 65536 % 65536 = p / 65536 % 65536 := by omega
  have e3 : p % 281474976710656 % 65536 = p % 65536 := by omega
  have e4 : p % 281474976710656 < 65536 ↔ p / 4294967296 % 65536 = 0 ∧ p / 65536 % 65536 = 0 := by omega
  have b1 : 0 ≤ p % 281474976710656 / 4294967296 ∧ p % 281474976710656 / 4294967296 < 65536 := by omega
  have b2 : 0 ≤ p % 281474976710656 / 65536 ∧ p % 281474976710656 / 65536 < 4294967296 := by omega
  have q0 : 0 ≤ p / 281474976710656 ∧ p / 281474976710656 ≤ 65535 := by omega
  have t0 : Int.tdiv p 281474976710656 = p / 281474976710656 := Int.tdiv_eq_ediv_of_nonneg h0
  have t1 : Int.tmod p 281474976710656 = p % 281474976710656 := Int.tmod_eq_emod_of_nonneg h0
  have w1 : wrap64 (p % 281474976710656) = p % 281474976710656 := wz _ (by omega) (by omega)
  have t2 : Int.tdiv (p % 281474976710656) 4294967296 = p % 281474976710656 / 4294967296 := Int.tdiv_eq_ediv_of_nonneg r0
  have t3 : Int.tdiv (p % 281474976710656) 65536 = p % 281474976710656 / 65536 := Int.tdiv_eq_ediv_of_nonneg r0
  have w2 : wrap64 (p % 281474976710656 / 4294967296) = p % 281474976710656 / 4294967296 := wz _ (by omega) (by omega)
  have w3 : wrap64 (p % 281474976710656 / 65536) = p % 281474976710656 / 65536 := wz _ (by omega) (by omega)
  have t4 : Int.tmod (p % 281474976710656 / 65536) 65536 = p % 281474976710656 / 65536 % 65536 := Int.tmod_eq_emod_of_nonneg b2.1
  have t5 : Int.tmod (p % 281474976710656) 65536 = p % 281474976710656 % 65536 := Int.tmod_eq_emod_of_nonneg r0
  rw [t0, t1, u64_in _ q0.1 (by omega), w1, t2, t3, w2, w3, t4, t5, e1, e2, e3]
  unfold pixL
  by_cases c3 : p / 281474976710656 = 3
  · rw [if_pos c3, if_pos c3]
  rw [if_neg c3, if_neg c3]
  by_cases c1 : p / 281474976710656 = 1
  · rw [if_pos c1]
    by_cases c : p % 281474976710656 < 65536
    · have c' := e4.1 c
      rw [if_pos c, if_pos ⟨c1, c'⟩]
      congr 2
      clear w1 w2 w3 t0 t1 t2 t3 t4 t5
      omega
    rw [if_neg c, if_neg (fun h => c (e4.2 h.2))]
  rw [if_neg c1, if_neg (fun h => c1 h.1)]
def formP (c m : Int) : Bool := decide ((c = 1 ∨ c = 3) ∧ 1 ≤ m ∧ m ≤ 65535)
/-- A sample made of the number at a place. -/
def gd (l : List Int) (m : Int) (i : Nat) : Int := if i < l.length then aroundZ (l.getD i 0) (m + 1) else 0
def goodL (l : List Int) (c m : Int) : List Int := if c = 1 then [gd l m 0] else [gd l m 0, gd l m 1, gd l m 2]
theorem gd_range (l : List Int) (m : Int) (i : Nat) (h : 1 ≤ m) : 0 ≤ gd l m i ∧ gd l m i ≤ m := by
  unfold gd
  have := aroundZ_range (l.getD i 0) (m + 1) (by omega)
  split <;> omega
theorem good_step (k : Nat) (l x : List Int) (c m : Int) (hm : 1 ≤ m ∧ m ≤ 65535) (i : Nat) (hx : x.length ≤ 3) (hl : ∀ y ∈ l, -9223372036854775808 ≤ y ∧ y ≤ 9223372036854775807) (hi : i < x.length) (hil : i < l.length) :
    chequerref01_Good.l0 (k + 1) l x (i : Int) c m = chequerref01_Good.l0 k l (x.set i (gd l m i)) ((i + 1 : Nat) : Int) c m := by
  have c1 : (i : Int) < (x.length : Int) := by omega
  have c2 : (i : Int) < (l.length : Int) := by omega
  have c3 : (0 : Int) ≤ (i : Int) := by omega
  have w1 : wrap64 ((i : Int) + 1) = ((i + 1 : Nat) : Int) := (wz _ (by omega) (by omega)).trans (by simp)
  have w2 : wrap64 (m + 1) = m + 1 := wz _ (by omega) (by omega)
  have hrd : rd l (i : Int) = l.getD i 0 := by unfold rd; rw [Int.toNat_natCast]
  have hy : -9223372036854775808 ≤ l.getD i 0 ∧ l.getD i 0 ≤ 9223372036854775807 := by
    rw [List.getD_eq_getElem?_getD, List.getElem?_eq_getElem hil]
    exact hl _ (List.getElem_mem hil)
  have hp : 0 < m + 1 := by omega
  rw [chequerref01_Good.l0, if_pos c1, if_pos c2, if_pos c3, w1, w2, hrd, around_is _ _ hy.1 hy.2 hp, Option.bind_some, Int.toNat_natCast]
  unfold gd
  rw [if_pos hil]
theorem good_short (k : Nat) (l x : List Int) (c m : Int) (i : Nat) (hk : 10 ≤ k) (hi : i < x.length) (hil : l.length ≤ i) : chequerref01_Good.l0 (k + 1) l x (i : Int) c m = some (pixP x).1 := by
  have c1 : (i : Int) < (x.length : Int) := by omega
  have c2 : ¬ (i : Int) < (l.length : Int) := by omega
  rw [chequerref01_Good.l0, if_pos c1, if_neg c2, refpixpack_is x k hk, Option.bind_some]
theorem good_end (k : Nat) (l x : List Int) (c m : Int) (i : Nat) (hk : 10 ≤ k) (hi : i = x.length) : chequerref01_Good.l0 (k + 1) l x (i : Int) c m = some (pixP x).1 := by
  have c1 : ¬ (i : Int) < (x.length : Int) := by omega
  rw [chequerref01_Good.l0, if_neg c1, refpixpack_is x k hk, Option.bind_some]
theorem goodsamp_is (l : List Int) (c m : Int) (hc : c = 1 ∨ c = 3) (hm : 1 ≤ m ∧ m ≤ 65535) (hl : ∀ y ∈ l, -9223372036854775808 ≤ y ∧ y ≤ 9223372036854775807) (k : Nat) (hk : 20 ≤ k) :
    chequerref01_Good.f k l c m = some (pixP (goodL l c m)).1 := by
  unfold chequerref01_Good.f
  obtain ⟨k, rfl⟩ : ∃ n, k = n + 14 := ⟨k - 14, by omega⟩
  have g : ∀ i, l.length ≤ i → gd l m i = 0 := fun i h => by unfold gd; rw [if_neg (by omega)]
  rcases hc with rfl | rfl
  · rw [if_pos (by decide), if_pos (by decide), show List.replicate (1 : Int).toNat (0 : Int) = [0] from rfl, show (0 : Int) = ((0 : Nat) : Int) from rfl]
    unfold goodL
    rw [if_pos rfl]
    by_cases h : 0 < l.length
    · rw [good_step (k + 13) l [((0 : Nat) : Int)] 1 m hm 0 (by simp) hl (by simp) h]
      exact good_end _ _ _ _ _ _ (by omega) (by simp)
    rw [g 0 (by omega)]
    exact good_short _ _ _ _ _ _ (by omega) (by simp) (by omega)
  rw [if_pos (by decide), if_pos (by decide), show List.replicate (3 : Int).toNat (0 : Int) = [0, 0, 0] from rfl, show (0 : Int) = ((0 : Nat) : Int) from rfl]
  unfold goodL
  rw [if_neg (by decide)]
  by_cases h : 0 < l.length
  · rw [good_step (k + 13) l _ 3 m hm 0 (by simp) hl (by simp) h]
    by_cases h1 : 1 < l.length
    · rw [good_step (k + 12) l _ 3 m hm 1 (by simp) hl (by simp) h1]
      by_cases h2 : 2 < l.length
      · rw [good_step (k + 11) l _ 3 m hm 2 (by simp) hl (by simp) h2]
        exact good_end _ _ _ _ _ _ (by omega) (by simp)
      rw [g 2 (by omega)]
      exact good_short _ _ _ _ _ _ (by omega) (by simp) (by omega)
    rw [g 1 (by omega), g 2 (by omega)]
    exact good_short _ _ _ _ _ _ (by omega) (by simp) (by omega)
  rw [g 0 (by omega), g 1 (by omega), g 2 (by omega)]
  exact good_short _ _ _ _ _ _ (by omega) (by simp) (by omega)
theorem pixL_1 (a : Int) (h : 0 ≤ a ∧ a ≤ 65535) : pixL (a + 281474976710656) = [a] := by
  unfold pixL
  rw [if_neg (by omega), if_pos (by omega)]
  congr 1
  omega
theorem pixL_3 (a b c : Int) (ha : 0 ≤ a ∧ a ≤ 65535) (hb : 0 ≤ b ∧ b ≤ 65535) (hc : 0 ≤ c ∧ c ≤ 65535) : pixL (a * 4294967296 + b * 65536 + c + 844424930131968) = [a, b, c] := by
  unfold pixL
  rw [if_pos (by omega), show (a * 4294967296 + b * 65536 + c + 844424930131968) / 4294967296 % 65536 = a by omega, show (a * 4294967296 + b * 65536 + c + 844424930131968) / 65536 % 65536 = b by omega, show (a * 4294967296 + b * 65536 + c + 844424930131968) % 65536 = c by omega]
theorem pixP_1 (a : Int) (h : 0 ≤ a ∧ a ≤ 65535) : pixP [a] = (a + 281474976710656, 0) := by simp only [pixP]; exact if_pos h
theorem pixP_3 (a b c : Int) (ha : 0 ≤ a ∧ a ≤ 65535) (hb : 0 ≤ b ∧ b ≤ 65535) (hc : 0 ≤ c ∧ c ≤ 65535) : pixP [a, b, c] = (a * 4294967296 + b * 65536 + c + 844424930131968, 0) := by simp only [pixP]; exact if_pos ⟨ha, hb, hc⟩
/-- A pixel whose samples are there is made again of them. -/
theorem pixP_pixL (p : Int) (h0 : 0 ≤ p) (h1 : p ≤ 18446744073709551615) (h : pixL p ≠ []) : pixP (pixL p) = (p, 0) := by
  unfold pixL at h ⊢
  by_cases c3 : p / 281474976710656 = 3
  · rw [if_pos c3, pixP_3 _ _ _ (by omega) (by omega) (by omega)]
    congr 1
    omega
  rw [if_neg c3] at h ⊢
  by_cases c1 : p / 281474976710656 = 1 ∧ p / 4294967296 % 65536 = 0 ∧ p / 65536 % 65536 = 0
  · rw [if_pos c1, pixP_1 _ (by omega)]
    congr 1
    omega
  rw [if_neg c1] at h
  exact absurd rfl h
/-- What a list of one or three samples is packed to. -/
theorem pix_of (l : List Int) (h : l.length = 1 ∨ l.length = 3) (hl : ∀ x ∈ l, 0 ≤ x ∧ x ≤ 65535) : ∃ p, pixP l = (p, 0) ∧ 0 ≤ p ∧ p ≤ 18446744073709551615 ∧ pixL p = l := by
  rcases h with h | h
  · obtain ⟨a, rfl⟩ := list_1 h
    have ha := hl a (by simp)
    exact ⟨_, pixP_1 a ha, by omega, by omega, pixL_1 a ha⟩
  obtain ⟨a, b, c, rfl⟩ := list_3 h
  have ha := hl a (by simp)
  have hb := hl b (by simp)
  have hc := hl c (by simp)
  exact ⟨_, pixP_3 a b c ha hb hc, by omega, by omega, pixL_3 a b c ha hb hc⟩
theorem goodL_len (l : List Int) (c m : Int) (hc : c = 1 ∨ c = 3) : ((goodL l c m).length : Int) = c := by
  unfold goodL
  rcases hc with rfl | rfl
  · rw [if_pos rfl]; rfl
  rw [if_neg (by decide)]; rfl
theorem goodL_mem (l : List Int) (c m : Int) (hm : 1 ≤ m ∧ m ≤ 65535) : ∀ x ∈ goodL l c m, 0 ≤ x ∧ x ≤ m := by
  intro x hx
  have g := fun i => gd_range l m i hm.1
  unfold goodL at hx
  split at hx
  · simp at hx; subst hx; exact g 0
  simp at hx
  rcases hx with rfl | rfl | rfl
  · exact g 0
  · exact g 1
  exact g 2
/-- The good pixel: its samples. -/
theorem good_pix (l : List Int) (c m : Int) (hc : c = 1 ∨ c = 3) (hm : 1 ≤ m ∧ m ≤ 65535) (hl : ∀ y ∈ l, -9223372036854775808 ≤ y ∧ y ≤ 9223372036854775807) (k : Nat) (hk : 20 ≤ k) :
    ∃ p, chequerref01_Good.f k l c m = some p ∧ 0 ≤ p ∧ p ≤ 18446744073709551615 ∧ pixL p = goodL l c m ∧ pixP (goodL l c m) = (p, 0) := by
  have hlen := goodL_len l c m hc
  obtain ⟨p, h1, h2, h3, h4⟩ := pix_of (goodL l c m) (by omega) (fun x hx => by have := goodL_mem l c m hm x hx; omega)
  exact ⟨p, by rw [goodsamp_is l c m hc hm hl k hk, h1], h2, h3, h4, h1⟩
theorem pixL_len (p : Int) : (pixL p).length = 0 ∨ (pixL p).length = 1 ∨ (pixL p).length = 3 := by
  unfold pixL
  split
  · simp
  split <;> simp
theorem pixL_mem (p : Int) (h0 : 0 ≤ p) : ∀ x ∈ pixL p, 0 ≤ x ∧ x ≤ 65535 := by
  intro x hx
  unfold pixL at hx
  split at hx
  · simp at hx
    rcases hx with rfl | rfl | rfl <;> omega
  split at hx
  · simp at hx
    subst hx
    omega
  simp at hx
end Go.Proofs.Ytdjonaajfhbfhaa.Q
/- Formats, and whether a pixel is of one: both texts answer the same. -/
namespace Go.Proofs.Ytdjonaajfhbfhaa.Q
open Go.RowKit Go.Proofs.YtdjonaajfhbfhaaW.PrintWords Go.Proofs.YtdjonaajfhbfhaaW.PrintLast
set_option linter.unusedVariables false
theorem format_is (c m : Int) : pix_Format.f c m = some (formP c m) := by
  unfold pix_Format.f formP
  by_cases c1 : c = 1
  · rw [if_pos c1]
    by_cases h : m ≥ 1
    · rw [if_pos h]
      congr 1
      apply decide_eq_decide.2
      omega
    rw [if_neg h, decide_eq_false (by omega)]
  rw [if_neg c1]
  by_cases c3 : c = 3
  · rw [if_pos c3]
    by_cases h : m ≥ 1
    · rw [if_pos h]
      congr 1
      apply decide_eq_decide.2
      omega
    rw [if_neg h, decide_eq_false (by omega)]
  rw [if_neg c3, decide_eq_false (by omega)]
theorem refformat_is (c m : Int) : chequerref01_Format.f c m = some (formP c m) := by
  unfold chequerref01_Format.f formP
  by_cases c1 : c = 1
  · rw [if_pos c1]
    by_cases h : m > 0
    · rw [if_pos h]
      congr 1
      apply decide_eq_decide.2
      omega
    rw [if_neg h, decide_eq_false (by omega)]
  rw [if_neg c1]
  by_cases c3 : c = 3
  · rw [if_pos c3]
    by_cases h : m > 0
    · rw [if_pos h]
      congr 1
      apply decide_eq_decide.2
      omega
    rw [if_neg h, decide_eq_false (by omega)]
  rw [if_neg c3, decide_eq_false (by omega)]
/-- Whether a pixel is of a format. -/
def fitsP (p c m : Int) : Bool := formP c m && decide (((pixL p).length : Int) = c) && decide (∀ x ∈ pixL p, x ≤ m)
theorem max_1 (k : Nat) (a : Int) : slices_Max_int_int.f (k + 3) [a] = some a := by
  unfold slices_Max_int_int.f
  rw [if_neg (by simp), if_pos (by simp), slices_Max_int_int.l0, if_neg (by simp)]
  rfl
theorem max_3 (k : Nat) (a b c : Int) : slices_Max_int_int.f (k + 3) [a, b, c] = some (mx (mx a b) c) := by
  unfold slices_Max_int_int.f
  have w1 : wrap64 (1 + 1) = 2 := wz _ (by omega) (by omega)
  have w2 : wrap64 (2 + 1) = 3 := wz _ (by omega) (by omega)
  rw [if_neg (by simp), if_pos (by simp), slices_Max_int_int.l0, if_pos (by simp), if_pos (by decide), w1, slices_Max_int_int.l0, if_pos (by simp), if_pos (by decide), w2, slices_Max_int_int.l0, if_neg (by simp)]
  rfl
theorem formP_c {c m : Int} (h : formP c m = true) : c = 1 ∨ c = 3 := (of_decide_eq_true h).1
theorem fits_is (p c m : Int) (h0 : 0 ≤ p) (h1 : p ≤ 18446744073709551615) (k : Nat) (hk : 10 ≤ k) : pix_Fits.f k p c m = some (fitsP p c m) := by
  unfold pix_Fits.f fitsP
  obtain ⟨k, rfl⟩ : ∃ n, k = n + 3 := ⟨k - 3, by omega⟩
  rw [pixunpack_is p h0 h1, Option.bind_some, format_is, Option.bind_some]
  cases hf : formP c m with
  | false => rw [if_neg (by decide)]; rfl
  | true =>
    rw [if_pos rfl]
    have hc := formP_c hf
    by_cases hl : ((pixL p).length : Int) = c
    · rw [if_pos hl]
      rcases pixL_len p with h | h | h
      · omega
      · obtain ⟨a, ha⟩ := list_1 h
        rw [ha] at hl ⊢
        rw [max_1, Option.bind_some, decide_eq_true hl]
        simp
      obtain ⟨a, b, d, ha⟩ := list_3 h
      rw [ha] at hl ⊢
      rw [max_3, Option.bind_some, decide_eq_true hl]
      simp only [Bool.true_and]
      congr 1
      apply decide_eq_decide.2
      simp
      unfold mx
      repeat' split
      all_goals omega
    rw [if_neg hl, decide_eq_false hl]
    rfl
theorem reffits_go (p c m : Int) (x : List Int) (hx : x.length ≤ 3) : ∀ (d i k : Nat), x.length - i ≤ d → i ≤ x.length → (∀ j, j < i → x.getD j 0 ≤ m) → d < k → chequerref01_Fits.l0 k x (i : Int) c m = some (formP c m && decide ((x.length : Int) = c) && decide (∀ y ∈ x, y ≤ m)) := by
  intro d
  induction d with
  | zero =>
    intro i k hd hi h hk
    obtain ⟨k, rfl⟩ : ∃ n, k = n + 1 := ⟨k - 1, by omega⟩
    rw [chequerref01_Fits.l0, if_neg (by omega), refformat_is, Option.bind_some]
    have hall : ∀ y ∈ x, y ≤ m := by
      intro y hy
      obtain ⟨j, hj, rfl⟩ := List.mem_iff_getElem.1 hy
      have := h j (by omega)
      rwa [List.getD_eq_getElem?_getD, List.getElem?_eq_getElem hj] at this
    rw [decide_eq_true hall]
    cases formP c m with
    | false => rfl
    | true =>
      rw [if_pos rfl]
      congr 1
      rw [Bool.true_and, Bool.and_true]
      by_cases e : (x.length : Int) = c
      · rw [beq_iff_eq.2 e, decide_eq_true e]
      rw [beq_eq_false_iff_ne.2 e, decide_eq_false e]
  | succ d ih =>
    intro i k hd hi h hk
    by_cases hlt : i < x.length
    · obtain ⟨k, rfl⟩ : ∃ n, k = n + 1 := ⟨k - 1, by omega⟩
      have q1 : x.length - (i + 1) ≤ d := by omega
      have q2 : i + 1 ≤ x.length := by omega
      have q3 : d < k := by omega
      have c1 : (i : Int) < (x.length : Int) := by omega
      have c2 : (0 : Int) ≤ (i : Int) := by omega
      have w1 : wrap64 ((i : Int) + 1) = ((i + 1 : Nat) : Int) := (wz _ (by omega) (by omega)).trans (by simp)
      have hrd : rd x (i : Int) = x.getD i 0 := by unfold rd; rw [Int.toNat_natCast]
      rw [chequerref01_Fits.l0, if_pos c1, if_pos c2, hrd, w1]
      by_cases e : x.getD i 0 > m
      · have hall : ¬ ∀ y ∈ x, y ≤ m := by
          intro ha
          rw [List.getD_eq_getElem?_getD, List.getElem?_eq_getElem hlt] at e
          have := ha _ (List.getElem_mem hlt)
          simp at e
          omega
        rw [if_pos e, decide_eq_false hall, Bool.and_false]
      rw [if_neg e]
      exact ih (i + 1) k q1 q2 (fun j hj => by
        rcases Nat.lt_or_ge j i with h' | h'
        · exact h j h'
        obtain rfl : j = i := by omega
        omega) q3
    exact ih i k (by omega) hi h (by omega)
theorem reffits_is (p c m : Int) (h0 : 0 ≤ p) (h1 : p ≤ 18446744073709551615) (k : Nat) (hk : 10 ≤ k) : chequerref01_Fits.f k p c m = some (fitsP p c m) := by
  unfold chequerref01_Fits.f fitsP
  rw [refunpack_is p h0 h1, Option.bind_some]
  exact reffits_go p c m (pixL p) (by have := pixL_len p; omega) (pixL p).length 0 k (by omega) (by omega) (fun j hj => by omega) (by have := pixL_len p; omega)
end Go.Proofs.Ytdjonaajfhbfhaa.Q
/- Pixels that are good for a head, made of any numbers; a raster of them, by the document's text. -/
namespace Go.Proofs.Ytdjonaajfhbfhaa.Q
open Go.RowKit Go.Proofs.YtdjonaajfhbfhaaW.PrintWords Go.Proofs.YtdjonaajfhbfhaaW.PrintLast
set_option linter.unusedVariables false
/-- A pixel that is of the head's format. -/
def goodP (k m p : Int) : Prop := 0 ≤ p ∧ p ≤ 18446744073709551615 ∧ (pixL p).length = rowD k ∧ ∀ x ∈ pixL p, 0 ≤ x ∧ x ≤ m
theorem refform_is (k w h m : Int) (hk : 4 ≤ k) : chequerref06_Format.f k w h m = some (((rowD k : Nat) : Int), m) := by
  unfold chequerref06_Format.f rowD
  rw [if_neg (by omega)]
  by_cases h6 : k = 6
  · rw [if_pos h6, if_pos h6]; rfl
  rw [if_neg h6, if_neg h6]; rfl
theorem rowD_or (k : Int) : rowD k = 1 ∨ rowD k = 3 := by unfold rowD; split <;> omega
theorem goodP_of {k m : Int} (hm : 1 ≤ m ∧ m ≤ 65535) (l : List Int) (hl : ∀ y ∈ l, -9223372036854775808 ≤ y ∧ y ≤ 9223372036854775807) (K : Nat) (hK : 20 ≤ K) :
    ∃ p, chequerref01_Good.f K l ((rowD k : Nat) : Int) m = some p ∧ goodP k m p := by
  have hc : ((rowD k : Nat) : Int) = 1 ∨ ((rowD k : Nat) : Int) = 3 := by rcases rowD_or k with h | h <;> rw [h] <;> decide
  obtain ⟨p, h1, h2, h3, h4, _⟩ := good_pix l _ m hc hm hl K hK
  refine ⟨p, h1, h2, h3, ?_, ?_⟩
  · have := goodL_len l _ m hc
    rw [h4]
    omega
  rw [h4]
  exact goodL_mem l _ m hm
theorem pix_at (i d x n : Nat) (hi : i ≤ 1000) (hd : d ≤ 3) (hx : x ≤ 3) : Int.tmod (wrap64 (wrap64 ((i : Int) * (d : Int)) + (x : Int))) (n : Int) = (((i * d + x) % n : Nat) : Int) := by
  have hb : i * d ≤ i * 3 := Nat.mul_le_mul_left _ hd
  rw [← Int.natCast_mul]
  generalize i * d = q at *
  have e1 : wrap64 (q : Int) = (q : Int) := wr_id _ (by omega) (by omega)
  rw [e1]
  clear e1
  have e2 : wrap64 ((q : Int) + (x : Int)) = ((q + x : Nat) : Int) := wr_id _ (by omega) (by omega)
  rw [e2, Int.tmod_eq_emod_of_nonneg (by omega)]
  rfl
theorem i64_get {l : List Int} (hl : ∀ y ∈ l, -9223372036854775808 ≤ y ∧ y ≤ 9223372036854775807) (i : Nat) : -9223372036854775808 ≤ l.getD i 0 ∧ l.getD i 0 ≤ 9223372036854775807 := by
  rw [List.getD_eq_getElem?_getD]
  cases e : l[i]? with
  | none => simp
  | some x => exact hl x (List.mem_of_getElem? e)
theorem i64_snoc {l : List Int} (hl : ∀ y ∈ l, -9223372036854775808 ≤ y ∧ y ≤ 9223372036854775807) {z : Int} (hz : -9223372036854775808 ≤ z ∧ z ≤ 9223372036854775807) : ∀ y ∈ l ++ [z], -9223372036854775808 ≤ y ∧ y ≤ 9223372036854775807 := by
  intro y hy
  rcases List.mem_append.1 hy with h | h
  · exact hl y h
  rw [List.mem_singleton.1 h]; exact hz
theorem len_snoc (l : List Int) (y : Int) : (l ++ [y]).length = l.length + 1 := by simp
theorem pixels_in {k w h m : Int} (hm : 1 ≤ m ∧ m ≤ 65535) (l : List Int) (hl : ∀ y ∈ l, -9223372036854775808 ≤ y ∧ y ≤ 9223372036854775807) (x6 : List Int) (i : Nat) (hi : i ≤ 1000) (h6 : x6.length = i) :
    ∀ (t : Nat) (x8 : List Int) (K : Nat), x8.length + t = rowD k → (∀ y ∈ x8, -9223372036854775808 ≤ y ∧ y ≤ 9223372036854775807) → t + 30 ≤ K →
    ∃ p, goodP k m p ∧ chequerref08_Pixels.l1 K l x6 (i : Int) x8 ((x8.length : Nat) : Int) k w h m ((rowD k : Nat) : Int) m = chequerref08_Pixels.l0 (K - t - 1) l (x6 ++ [p]) ((i + 1 : Nat) : Int) k w h m ((rowD k : Nat) : Int) m := by
  have hd := rowD_or k
  intro t
  induction t with
  | zero =>
    intro x8 K ht hx hK
    obtain ⟨K, rfl⟩ : ∃ q, K = q + 1 := ⟨K - 1, by omega⟩
    obtain ⟨p, hp, hg⟩ := goodP_of (k := k) hm x8 hx K (by omega)
    refine ⟨p, hg, ?_⟩
    rw [chequerref08_Pixels.l1, if_neg (by omega), hp, Option.bind_some, if_pos (by omega), wz_succ_ i (by omega)]
    rfl
  | succ t ih =>
    intro x8 K ht hx hK
    obtain ⟨K, rfl⟩ : ∃ q, K = q + 1 := ⟨K - 1, by omega⟩
    have c1 : ((x8.length : Nat) : Int) < ((rowD k : Nat) : Int) := by omega
    have c2 : x8.length < 17592186044416 := by omega
    have c5 : rowD k ≤ 3 := by omega
    have c6 : x8.length ≤ 3 := by omega
    have e1 : K + 1 - (t + 1) - 1 = K - t - 1 := by omega
    have hl2 : ∀ y : Int, (x8 ++ [y]).length + t = rowD k := fun y => by rw [len_snoc]; omega
    have hK2 : t + 30 ≤ K := by omega
    have hw : wrap64 ((x8.length : Int) + 1) = ((x8.length + 1 : Nat) : Int) := wz_succ_ _ (by omega)
    rw [chequerref08_Pixels.l1, if_pos c1, e1]
    by_cases hz : 0 < l.length
    · have hlt := Nat.mod_lt (i * rowD k + x8.length) hz
      have c3 : (((i * rowD k + x8.length) % l.length : Nat) : Int) < (l.length : Int) := Int.ofNat_lt.2 hlt
      have c4 : (0 : Int) ≤ (((i * rowD k + x8.length) % l.length : Nat) : Int) := Int.natCast_nonneg _
      have hrd : rd l (((i * rowD k + x8.length) % l.length : Nat) : Int) = l.getD ((i * rowD k + x8.length) % l.length) 0 := by unfold rd; rw [Int.toNat_natCast]
      have hz1 : (l.length : Int) > 0 := Int.ofNat_lt.2 hz
      have hz2 : ¬ (l.length : Int) = 0 := Int.ne_of_gt hz1
      rw [if_pos hz1, if_neg hz2, pix_at i (rowD k) x8.length l.length hi c5 c6, if_pos c4, if_pos c3, if_pos c2, hrd, hw]
      have := ih (x8 ++ [l.getD ((i * rowD k + x8.length) % l.length) 0]) K (hl2 _) (i64_snoc hx (i64_get hl _)) hK2
      rw [len_snoc] at this
      exact this
    have hz1 : ¬ (l.length : Int) > 0 := fun h => hz (Int.ofNat_lt.1 h)
    rw [if_neg hz1, if_pos c2, hw]
    have := ih (x8 ++ [0]) K (hl2 _) (i64_snoc hx (by decide)) hK2
    rw [len_snoc] at this
    exact this
theorem pixels_go {k w h m : Int} (hm : 1 ≤ m ∧ m ≤ 65535) (l : List Int) (hl : ∀ y ∈ l, -9223372036854775808 ≤ y ∧ y ≤ 9223372036854775807) (N : Nat) (hN : wrap64 (w * h) = (N : Int)) (hNb : N ≤ 1000) :
    ∀ (n i K : Nat) (x6 : List Int), N - i = n → i ≤ N → x6.length = i → (∀ p ∈ x6, goodP k m p) → 5 * n + 60 ≤ K → ∃ P, chequerref08_Pixels.l0 K l x6 (i : Int) k w h m ((rowD k : Nat) : Int) m = some P ∧ P.length = N ∧ ∀ p ∈ P, goodP k m p := by
  have hd := rowD_or k
  intro n
  induction n with
  | zero =>
    intro i K x6 hn hi h6 hg hK
    obtain ⟨K, rfl⟩ : ∃ q, K = q + 1 := ⟨K - 1, by omega⟩
    refine ⟨x6, ?_, by omega, hg⟩
    rw [chequerref08_Pixels.l0, hN, if_neg (by omega)]
  | succ n ih =>
    intro i K x6 hn hi h6 hg hK
    obtain ⟨K, rfl⟩ : ∃ q, K = q + 1 := ⟨K - 1, by omega⟩
    obtain ⟨p, hp, he⟩ := pixels_in (k := k) (w := w) (h := h) hm l hl x6 i (by omega) h6 (rowD k) [] K (by simp) (fun y hy => by cases hy) (by omega)
    obtain ⟨P, h1, h2, h3⟩ := ih (i + 1) (K - rowD k - 1) (x6 ++ [p]) (by omega) (by omega) (by rw [List.length_append, h6]; rfl) (fun q hq => by
      rcases List.mem_append.1 hq with h | h
      · exact hg q h
      rw [List.mem_singleton.1 h]; exact hp) (by omega)
    refine ⟨P, ?_, h2, h3⟩
    rw [chequerref08_Pixels.l0, hN, if_pos (by omega)]
    exact he.trans h1
theorem pixels_is {k w h m : Int} (e : rawMay k w h m = true) (hw : w ≤ 30) (hh : h ≤ 4) (l : List Int) (hl : ∀ y ∈ l, -9223372036854775808 ≤ y ∧ y ≤ 9223372036854775807) (K : Nat) (hK : 1000 ≤ K) :
    ∃ P, chequerref08_Pixels.f K l k w h m = some P ∧ P.length = w.toNat * h.toNat ∧ ∀ p ∈ P, goodP k m p := by
  have h1 := rawMay_is e
  have hb : w.toNat * h.toNat ≤ 30 * 4 := Nat.mul_le_mul (by omega) (by omega)
  have hN : wrap64 (w * h) = ((w.toNat * h.toNat : Nat) : Int) := by
    have e1 : w * h = ((w.toNat * h.toNat : Nat) : Int) := by
      rw [Int.natCast_mul]
      congr 1 <;> omega
    rw [e1]
    exact wr_id _ (by omega) (by omega)
  unfold chequerref08_Pixels.f
  rw [refform_is k w h m (by omega), Option.bind_some]
  exact pixels_go (by omega) l hl _ hN (by omega) _ 0 K [] rfl (by omega) rfl (fun p hp => by cases hp) (by omega)
end Go.Proofs.Ytdjonaajfhbfhaa.Q
/- A row's bytes, and back, for rasters of bytes. -/
namespace Go.Proofs.Ytdjonaajfhbfhaa.Q
open Go.RowKit Go.Proofs.YtdjonaajfhbfhaaW.PrintWords Go.Proofs.YtdjonaajfhbfhaaW.PrintLast Go.Proofs.Ytdjonaajfhbfhaa.Bt
set_option linter.unusedVariables false
theorem bytes_is (a : Int) (h0 : -9223372036854775808 ≤ a) (h1 : a ≤ 9223372036854775807) : bits_Bytes.f a = some (if a < 1 ∨ 4096 < a then 0 else (a + 7) / 8) := by
  unfold bits_Bytes.f bits_sized.f
  by_cases c1 : a ≥ 1
  · rw [if_pos c1, Option.bind_some]
    by_cases c2 : a ≤ 4096
    · rw [decide_eq_true c2, if_pos rfl, if_neg (by omega)]
      have e : wrap64 (wrap64 (a + 8) - 1) = a + 7 := by unfold wrap64; omega
      rw [e, Int.tdiv_eq_ediv_of_nonneg (by omega)]
      congr 1
      unfold wrap64
      omega
    rw [decide_eq_false c2, if_neg (by decide), if_pos (by omega)]
  rw [if_neg c1, Option.bind_some, if_neg (by decide), if_pos (by omega)]
/-- Byte j of a row's bytes, of the pixels' numbers. -/
def byteP (l : List Int) (j : Nat) : Int :=
  l.getD (8 * j) 0 * 128 + l.getD (8 * j + 1) 0 * 64 + l.getD (8 * j + 2) 0 * 32 + l.getD (8 * j + 3) 0 * 16 + l.getD (8 * j + 4) 0 * 8 + l.getD (8 * j + 5) 0 * 4 + l.getD (8 * j + 6) 0 * 2 + l.getD (8 * j + 7) 0
def packL (l : List Int) : List Int := (List.range ((l.length + 7) / 8)).map fun j => byteP l j
def only01 (l : List Int) : Prop := ∀ x ∈ l, x = 0 ∨ x = 1
instance (l : List Int) : Decidable (only01 l) := by unfold only01; infer_instance
def packS (l : List Int) : List Int × Int := if l.length < 1 ∨ 4096 < l.length then ([], 1) else if only01 l then (packL l, 0) else ([], 1)
theorem only01_get {l : List Int} (h : only01 l) (i : Nat) : l.getD i 0 = 0 ∨ l.getD i 0 = 1 := by
  rw [List.getD_eq_getElem?_getD]
  cases e : l[i]? with
  | none => exact .inl rfl
  | some x => exact h x (List.mem_of_getElem? e)
theorem byteP_range {l : List Int} (h : only01 l) (j : Nat) : 0 ≤ byteP l j ∧ byteP l j ≤ 255 := by
  unfold byteP
  have h0 := only01_get h (8 * j)
  have h1 := only01_get h (8 * j + 1)
  have h2 := only01_get h (8 * j + 2)
  have h3 := only01_get h (8 * j + 3)
  have h4 := only01_get h (8 * j + 4)
  have h5 := only01_get h (8 * j + 5)
  have h6 := only01_get h (8 * j + 6)
  have h7 := only01_get h (8 * j + 7)
  generalize l.getD (8 * j) 0 = y0 at *
  generalize l.getD (8 * j + 1) 0 = y1 at *
  generalize l.getD (8 * j + 2) 0 = y2 at *
  generalize l.getD (8 * j + 3) 0 = y3 at *
  generalize l.getD (8 * j + 4) 0 = y4 at *
  generalize l.getD (8 * j + 5) 0 = y5 at *
  generalize l.getD (8 * j + 6) 0 = y6 at *
  generalize l.getD (8 * j + 7) 0 = y7 at *
  omega
theorem getD_take (l : List Int) (i m : Nat) : (l.take i).getD m 0 = if m < i then l.getD m 0 else 0 := by
  rw [List.getD_eq_getElem?_getD, List.getD_eq_getElem?_getD, List.getElem?_take]
  split <;> rfl
theorem byteP_same (l : List Int) (q r : Nat) (hr : r < 8) : byteP (l.take (8 * q + r + 1)) q = byteP (l.take (8 * q + r)) q + l.getD (8 * q + r) 0 * 2 ^ (7 - r) := by
  have e : ∀ t, (l.take (8 * q + r + 1)).getD (8 * q + t) 0 = (l.take (8 * q + r)).getD (8 * q + t) 0 + (if t = r then l.getD (8 * q + r) 0 else 0) := by
    intro t
    rw [getD_take, getD_take]
    by_cases h : t = r
    · subst h
      rw [if_pos rfl, if_pos (by omega), if_neg (by omega)]
      omega
    rw [if_neg h]
    by_cases h2 : t < r
    · rw [if_pos (by omega), if_pos (by omega)]
      omega
    rw [if_neg (by omega), if_neg (by omega)]
    omega
  have e0 : (l.take (8 * q + r + 1)).getD (8 * q) 0 = (l.take (8 * q + r)).getD (8 * q) 0 + (if 0 = r then l.getD (8 * q + r) 0 else 0) := e 0
  unfold byteP
  rw [e0, e 1, e 2, e 3, e 4, e 5, e 6, e 7]
  clear e e0
  generalize (l.take (8 * q + r)).getD (8 * q) 0 = y0
  generalize (l.take (8 * q + r)).getD (8 * q + 1) 0 = y1
  generalize (l.take (8 * q + r)).getD (8 * q + 2) 0 = y2
  generalize (l.take (8 * q + r)).getD (8 * q + 3) 0 = y3
  generalize (l.take (8 * q + r)).getD (8 * q + 4) 0 = y4
  generalize (l.take (8 * q + r)).getD (8 * q + 5) 0 = y5
  generalize (l.take (8 * q + r)).getD (8 * q + 6) 0 = y6
  generalize (l.take (8 * q + r)).getD (8 * q + 7) 0 = y7
  generalize l.getD (8 * q + r) 0 = x
  rcases (show r = 0 ∨ r = 1 ∨ r = 2 ∨ r = 3 ∨ r = 4 ∨ r = 5 ∨ r = 6 ∨ r = 7 by omega) with rfl | rfl | rfl | rfl | rfl | rfl | rfl | rfl <;> simp <;> omega
theorem byteP_other (l : List Int) (i j : Nat) (h : j ≠ i / 8) : byteP (l.take (i + 1)) j = byteP (l.take i) j := by
  have e : ∀ t, t < 8 → (l.take (i + 1)).getD (8 * j + t) 0 = (l.take i).getD (8 * j + t) 0 := by
    intro t ht
    rw [getD_take, getD_take]
    by_cases hlt : 8 * j + t < i
    · rw [if_pos hlt, if_pos (by omega)]
    rw [if_neg hlt, if_neg (by omega)]
  have e0 : (l.take (i + 1)).getD (8 * j) 0 = (l.take i).getD (8 * j) 0 := e 0 (by omega)
  unfold byteP
  rw [e0, e 1 (by omega), e 2 (by omega), e 3 (by omega), e 4 (by omega), e 5 (by omega), e 6 (by omega), e 7 (by omega)]
set_option maxRecDepth 100000 in
theorem or_u8_0 : ∀ x : Fin 256, Go.bits .or .u8 ((x.val : Nat) : Int) 0 = ((x.val : Nat) : Int) := by decide
set_option maxRecDepth 100000 in
theorem or_u8_r : ∀ (r : Fin 8) (y : Fin (2 ^ r.val)), Go.bits .or .u8 ((y.val * 2 ^ (8 - r.val) : Nat) : Int) ((2 ^ (7 - r.val) : Nat) : Int) = ((y.val * 2 ^ (8 - r.val) + 2 ^ (7 - r.val) : Nat) : Int) := by decide
theorem shl_1 : ∀ r : Fin 8, (shl .i64 1 ((7 - r.val : Nat) : Int)) % 256 = ((2 ^ (7 - r.val) : Nat) : Int) := by decide
theorem shl_0 : ∀ r : Fin 8, (shl .i64 0 ((7 - r.val : Nat) : Int)) % 256 = 0 := by decide
theorem byteP_mul (l : List Int) (h : only01 l) (q r : Nat) (hr : r < 8) : ∃ y : Nat, y < 2 ^ r ∧ byteP (l.take (8 * q + r)) q = ((y * 2 ^ (8 - r) : Nat) : Int) := by
  have h0 := only01_get h (8 * q)
  have h1 := only01_get h (8 * q + 1)
  have h2 := only01_get h (8 * q + 2)
  have h3 := only01_get h (8 * q + 3)
  have h4 := only01_get h (8 * q + 4)
  have h5 := only01_get h (8 * q + 5)
  have h6 := only01_get h (8 * q + 6)
  unfold byteP
  simp only [getD_take]
  generalize l.getD (8 * q) 0 = y0 at *
  generalize l.getD (8 * q + 1) 0 = y1 at *
  generalize l.getD (8 * q + 2) 0 = y2 at *
  generalize l.getD (8 * q + 3) 0 = y3 at *
  generalize l.getD (8 * q + 4) 0 = y4 at *
  generalize l.getD (8 * q + 5) 0 = y5 at *
  generalize l.getD (8 * q + 6) 0 = y6 at *
  rcases (show r = 0 ∨ r = 1 ∨ r = 2 ∨ r = 3 ∨ r = 4 ∨ r = 5 ∨ r = 6 ∨ r = 7 by omega) with rfl | rfl | rfl | rfl | rfl | rfl | rfl | rfl
  · exact ⟨0, by decide, by simp [show ∀ t, ¬ (8 * q + t < 8 * q) from fun t => by omega]⟩
  · exact ⟨y0.toNat, by omega, by simp; omega⟩
  · exact ⟨(y0 * 2 + y1).toNat, by omega, by simp; omega⟩
  · exact ⟨(y0 * 4 + y1 * 2 + y2).toNat, by omega, by simp; omega⟩
  · exact ⟨(y0 * 8 + y1 * 4 + y2 * 2 + y3).toNat, by omega, by simp; omega⟩
  · exact ⟨(y0 * 16 + y1 * 8 + y2 * 4 + y3 * 2 + y4).toNat, by omega, by simp; omega⟩
  · exact ⟨(y0 * 32 + y1 * 16 + y2 * 8 + y3 * 4 + y4 * 2 + y5).toNat, by omega, by simp; omega⟩
  exact ⟨(y0 * 64 + y1 * 32 + y2 * 16 + y3 * 8 + y4 * 4 + y5 * 2 + y6).toNat, by omega, by simp; omega⟩
/-- The bytes behind i pixels. -/
def stP (l : List Int) (B i : Nat) : List Int := (List.range B).map fun j => byteP (l.take i) j
theorem stP_len (l : List Int) (B i : Nat) : (stP l B i).length = B := by simp [stP]
theorem stP_get (l : List Int) (B i j : Nat) (h : j < B) : (stP l B i).getD j 0 = byteP (l.take i) j := by
  unfold stP
  rw [List.getD_eq_getElem?_getD, List.getElem?_map, List.getElem?_range h]
  rfl
theorem stP_set (l : List Int) (B i : Nat) (v : Int) (h : i / 8 < B) (hv : v = byteP (l.take (i + 1)) (i / 8)) : (stP l B i).set (i / 8) v = stP l B (i + 1) := by
  apply List.ext_getElem?
  intro m
  rw [List.getElem?_set, stP_len]
  by_cases hm : i / 8 = m
  · subst hm
    rw [if_pos rfl, if_pos h]
    unfold stP
    rw [List.getElem?_map, List.getElem?_range h, hv]
    rfl
  rw [if_neg hm]
  unfold stP
  by_cases hmB : m < B
  · rw [List.getElem?_map, List.getElem?_map, List.getElem?_range hmB]
    show some (byteP (l.take i) m) = some (byteP (l.take (i + 1)) m)
    rw [byteP_other l i m (fun e => hm e.symm)]
  rw [List.getElem?_eq_none (by simp; omega), List.getElem?_eq_none (by simp; omega)]
theorem stP_nil (l : List Int) (B : Nat) : stP l B 0 = List.replicate B 0 := by
  apply List.ext_getElem?
  intro m
  unfold stP
  rw [List.getElem?_map, List.getElem?_replicate]
  by_cases h : m < B
  · rw [List.getElem?_range h, if_pos h]
    rfl
  rw [if_neg h, List.getElem?_eq_none (by simp; omega)]
  rfl
theorem only01_split (l : List Int) (i : Nat) (h : i < l.length) (ho : only01 (l.take i)) : (l.getD i 0 = 0 ∨ l.getD i 0 = 1) ↔ only01 (l.take (i + 1)) := by
  have e : l.take (i + 1) = l.take i ++ [l.getD i 0] := by
    rw [List.take_add_one, List.getElem?_eq_getElem h, List.getD_eq_getElem?_getD, List.getElem?_eq_getElem h]
    rfl
  rw [e]
  constructor
  · intro hx x hm
    rcases List.mem_append.1 hm with h1 | h1
    · exact ho x h1
    rw [List.mem_singleton.1 h1]; exact hx
  intro hx
  exact hx _ (List.mem_append.2 (.inr (List.mem_singleton.2 rfl)))
theorem pack_step (l : List Int) (i : Nat) (h : only01 (l.take (i + 1))) (hi : i < l.length) : Go.bits .or .u8 (byteP (l.take i) (i / 8)) ((shl .i64 (l.getD i 0) ((7 - i % 8 : Nat) : Int)) % 256) = byteP (l.take (i + 1)) (i / 8) := by
  have hr : i % 8 < 8 := Nat.mod_lt _ (by decide)
  have hiq : i = 8 * (i / 8) + i % 8 := by omega
  have hm : ∃ y : Nat, y < 2 ^ (i % 8) ∧ byteP (l.take i) (i / 8) = ((y * 2 ^ (8 - i % 8) : Nat) : Int) := by
    have := byteP_mul (l.take (i + 1)) h (i / 8) (i % 8) hr
    rw [← hiq, List.take_take, Nat.min_eq_left (by omega)] at this
    exact this
  obtain ⟨y, hy, hy2⟩ := hm
  have hs := byteP_same l (i / 8) (i % 8) hr
  rw [← hiq] at hs
  rw [hs, hy2]
  have hx : l.getD i 0 = 0 ∨ l.getD i 0 = 1 := by
    have := only01_get h i
    rw [getD_take, if_pos (by omega)] at this
    exact this
  rcases hx with e | e
  · rw [e, shl_0 ⟨i % 8, hr⟩, Int.zero_mul, Int.add_zero]
    have hlt : y * 2 ^ (8 - i % 8) < 256 := by
      have : y * 2 ^ (8 - i % 8) < 2 ^ (i % 8) * 2 ^ (8 - i % 8) := Nat.mul_lt_mul_of_pos_right hy (Nat.pow_pos (by decide))
      rw [← Nat.pow_add, show i % 8 + (8 - i % 8) = 8 by omega] at this
      exact this
    exact or_u8_0 ⟨_, hlt⟩
  rw [e, shl_1 ⟨i % 8, hr⟩, Int.one_mul]
  have := or_u8_r ⟨i % 8, hr⟩ ⟨y, hy⟩
  rw [this]
  push_cast
  rfl
theorem wz_succ (i : Nat) (h : i ≤ 100000) : wrap64 ((i : Int) + 1) = ((i + 1 : Nat) : Int) := by unfold wrap64; omega
theorem wz_tdiv8 (i : Nat) (h : i ≤ 100000) : wrap64 (Int.tdiv (i : Int) 8) = ((i / 8 : Nat) : Int) := by rw [Int.tdiv_eq_ediv_of_nonneg (by omega)]; unfold wrap64; omega
theorem wz_tmod8 (i : Nat) : Int.tmod (i : Int) 8 = ((i % 8 : Nat) : Int) := by rw [Int.tmod_eq_emod_of_nonneg (by omega)]; rfl
theorem wz_7 (r : Nat) (h : r < 8) : wrap64 (7 - (r : Int)) = ((7 - r : Nat) : Int) := by unfold wrap64; omega
theorem wz_8 (j : Nat) (h : j ≤ 100000) : wrap64 (((8 * j : Nat) : Int) + 8) = ((8 * (j + 1) : Nat) : Int) := by unfold wrap64; omega
theorem wz_dbl (v y : Int) (h0 : 0 ≤ v) (h1 : v < 256) (hy : y = 0 ∨ y = 1) : wrap64 (wrap64 (v * 2) + y) = v * 2 + y := by unfold wrap64; omega
theorem wz_dbl1 (v : Int) (h0 : 0 ≤ v) (h1 : v < 256) : wrap64 (v * 2) = v * 2 := by unfold wrap64; omega
theorem pack_go (l : List Int) (hl : l.length ≤ 4096) : ∀ (d i k : Nat), l.length - i ≤ d → i ≤ l.length → only01 (l.take i) → d < k →
    bits_Pack.l0 k (stP l ((l.length + 7) / 8) i) l (l.length : Int) (i : Int) = some (if only01 l then (packL l, 0) else ([], 1)) := by
  intro d
  induction d with
  | zero =>
    intro i k hd hi ho hk
    obtain ⟨k, rfl⟩ : ∃ m, k = m + 1 := ⟨k - 1, by omega⟩
    have e : i = l.length := by omega
    subst e; rw [List.take_length] at ho
    rw [bits_Pack.l0, if_neg (by omega), if_pos ho]
    have : stP l ((l.length + 7) / 8) l.length = packL l := by unfold stP packL; rw [List.take_length]
    rw [this]
  | succ d ih =>
    intro i k hd hi ho hk
    obtain ⟨k, rfl⟩ : ∃ m, k = m + 1 := ⟨k - 1, by omega⟩
    by_cases hlt : i < l.length
    · have hi2 : i ≤ 100000 := by omega
      have hi3 : i % 8 < 8 := Nat.mod_lt _ (by decide)
      have hq : i / 8 < (l.length + 7) / 8 := by omega
      have hsp := only01_split l i hlt ho
      have c1 : (i : Int) < (l.length : Int) := by omega
      have c2 : (0 : Int) ≤ (i : Int) := by omega
      have c3 : (0 : Int) ≤ ((i / 8 : Nat) : Int) := by omega
      have c4 : ((i / 8 : Nat) : Int) < ((stP l ((l.length + 7) / 8) i).length : Int) := by rw [stP_len]; omega
      have c5 : (0 : Int) ≤ ((7 - i % 8 : Nat) : Int) := by omega
      have hrs : rd (stP l ((l.length + 7) / 8) i) ((i / 8 : Nat) : Int) = byteP (l.take i) (i / 8) := by
        unfold rd
        rw [Int.toNat_natCast]
        exact stP_get l _ i _ hq
      have key : (l.getD i 0 = 0 ∨ l.getD i 0 = 1) → bits_Pack.l0 k ((stP l ((l.length + 7) / 8) i).set (i / 8) (Go.bits .or .u8 (byteP (l.take i) (i / 8)) ((shl .i64 (l.getD i 0) ((7 - i % 8 : Nat) : Int)) % 256))) l (l.length : Int) ((i + 1 : Nat) : Int) = some (if only01 l then (packL l, 0) else ([], 1)) := by
        intro hx
        rw [stP_set l _ i _ hq (pack_step l i (hsp.1 hx) hlt)]
        exact ih (i + 1) k (by omega) (by omega) (hsp.1 hx) (by omega)
      have hrd : rd l (i : Int) = l.getD i 0 := by unfold rd; rw [Int.toNat_natCast]
      rw [bits_Pack.l0, hrd, wz_tmod8 i, wz_tdiv8 i hi2, wz_7 _ hi3, wz_succ i hi2, hrs, Int.toNat_natCast, if_pos c1, if_pos c2, if_pos c1, if_pos c3, if_pos c4, if_pos c5]
      by_cases h0 : l.getD i 0 = 0
      · rw [if_pos h0]
        exact key (.inl h0)
      rw [if_neg h0]
      by_cases h1 : l.getD i 0 = 1
      · rw [if_pos h1]
        exact key (.inr h1)
      rw [if_neg h1]
      have : ¬ only01 l := fun h => by
        rcases only01_get h i with e | e
        · exact h0 e
        exact h1 e
      rw [if_neg this]
    exact ih i (k + 1) (by omega) hi ho (by omega)
theorem pack_is (l : List Int) (hl : l.length ≤ 9223372036854775807) (k : Nat) (hk : 5000 ≤ k) : bits_Pack.f k l = some (packS l) := by
  unfold bits_Pack.f packS
  have hs : bits_sized.f (l.length : Int) = some (decide (1 ≤ l.length ∧ l.length ≤ 4096)) := by
    unfold bits_sized.f
    by_cases h : (l.length : Int) ≥ 1
    · rw [if_pos h]
      congr 1
      apply decide_eq_decide.2
      omega
    rw [if_neg h]
    congr 1
    rw [decide_eq_false (by omega)]
  rw [hs, Option.bind_some]
  by_cases h : l.length < 1 ∨ 4096 < l.length
  · rw [if_pos h, decide_eq_false (by omega), if_neg (by decide)]
  rw [if_neg h, decide_eq_true (by omega), if_pos rfl, bytes_is _ (by omega) (by omega), Option.bind_some, if_neg (show ¬ ((l.length : Int) < 1 ∨ 4096 < (l.length : Int)) by omega)]
  have e : ((l.length : Int) + 7) / 8 = (((l.length + 7) / 8 : Nat) : Int) := by omega
  rw [e, Int.toNat_natCast, if_pos (by omega), if_pos (by omega), ← stP_nil l]
  have := pack_go l (by omega) l.length 0 k (by omega) (by omega) (fun x hx => by simp at hx) (by omega)
  rw [show ((0 : Nat) : Int) = 0 from rfl] at this
  rw [this]
/-- What the document's text has collected behind t of eight pixels. -/
def pvP (l : List Int) (j : Nat) : Nat → Int
  | 0 => 0
  | t + 1 => pvP l j t * 2 + l.getD (8 * j + t) 0
theorem pvP_8 (l : List Int) (j : Nat) : pvP l j 8 = byteP l j := by
  simp only [pvP, byteP, Nat.add_zero]
  omega
theorem pvP_range (l : List Int) (j : Nat) : ∀ t, t ≤ 8 → (∀ i, i < 8 * j + t → l.getD i 0 = 0 ∨ l.getD i 0 = 1) → 0 ≤ pvP l j t ∧ pvP l j t < 2 ^ t := by
  intro t
  induction t with
  | zero => intro _ _; simp [pvP]
  | succ t ih =>
    intro ht h
    obtain ⟨a, b⟩ := ih (by omega) (fun i hi => h i (by omega))
    have hx := h (8 * j + t) (by omega)
    have e : (2 : Int) ^ (t + 1) = 2 ^ t * 2 := Int.pow_succ 2 t
    rw [e]
    simp only [pvP]
    generalize (2 : Int) ^ t = p at *
    omega
theorem getD_out (l : List Int) (i : Nat) (h : l.length ≤ i) : l.getD i 0 = 0 := by
  rw [List.getD_eq_getElem?_getD, List.getElem?_eq_none h]
  rfl
theorem refpack_l1 (l : List Int) (hl : l.length ≤ 4096) (j : Nat) (hj : j ≤ 600) (x4 : List Int) (hx4 : x4.length ≤ 1000) (R : List Int × Int) (K : Nat) (hbad : ¬ only01 l → R = ([], 1))
    (hnext : (∀ i, i < 8 * j + 8 → l.getD i 0 = 0 ∨ l.getD i 0 = 1) → ∀ k, K ≤ k → chequerref07_Pack.l0 k l (x4 ++ [byteP l j]) ((8 * (j + 1) : Nat) : Int) = some R) :
    ∀ (d t k : Nat), 8 - t = d → t ≤ 8 → (∀ i, i < 8 * j + t → l.getD i 0 = 0 ∨ l.getD i 0 = 1) → K + d < k → chequerref07_Pack.l1 k l x4 ((8 * j : Nat) : Int) (pvP l j t) ((8 * j + t : Nat) : Int) = some R := by
  intro d
  induction d with
  | zero =>
    intro t k hd ht h hk
    obtain rfl : t = 8 := by omega
    obtain ⟨k, rfl⟩ : ∃ m, k = m + 1 := ⟨k - 1, by omega⟩
    obtain ⟨a, b⟩ := pvP_range l j 8 (by omega) h
    have hm : pvP l j 8 % 256 = byteP l j := by
      rw [← pvP_8]
      exact Int.emod_eq_of_lt a (by simpa using b)
    have c1 : ¬ ((8 * j + 8 : Nat) : Int) < ((8 * (j + 1) : Nat) : Int) := by omega
    have c2 : x4.length < 140737488355328 := by omega
    have hk' : K ≤ k := by omega
    rw [chequerref07_Pack.l1, wz_8 j (by omega), hm, if_neg c1, if_pos c2]
    exact hnext h k hk'
  | succ d ih =>
    intro t k hd ht h hk
    obtain ⟨k, rfl⟩ : ∃ m, k = m + 1 := ⟨k - 1, by omega⟩
    obtain ⟨a, b⟩ := pvP_range l j t (by omega) h
    have hb : (2 : Int) ^ t ≤ 256 := by
      rcases (show t = 0 ∨ t = 1 ∨ t = 2 ∨ t = 3 ∨ t = 4 ∨ t = 5 ∨ t = 6 ∨ t = 7 by omega) with rfl | rfl | rfl | rfl | rfl | rfl | rfl | rfl <;> decide
    have hv : pvP l j t < 256 := Int.lt_of_lt_of_le b hb
    clear hb b
    have c1 : ((8 * j + t : Nat) : Int) < ((8 * (j + 1) : Nat) : Int) := by omega
    have c2 : (0 : Int) ≤ ((8 * j + t : Nat) : Int) := by omega
    have hd' : 8 - (t + 1) = d := by omega
    have ht' : t + 1 ≤ 8 := by omega
    have hk' : K + d < k := by omega
    have step : ∀ y, l.getD (8 * j + t) 0 = y → (y = 0 ∨ y = 1) → chequerref07_Pack.l1 k l x4 ((8 * j : Nat) : Int) (pvP l j t * 2 + y) ((8 * j + (t + 1) : Nat) : Int) = some R := by
      intro y hy hy2
      have : pvP l j t * 2 + y = pvP l j (t + 1) := by simp only [pvP]; rw [hy]
      rw [this]
      refine ih (t + 1) k hd' ht' (fun i hi => ?_) hk'
      by_cases e : i = 8 * j + t
      · rw [e, hy]; exact hy2
      exact h i (by omega)
    have hlast : ¬ ((8 * j + t : Nat) : Int) < (l.length : Int) → l.getD (8 * j + t) 0 = 0 := fun h => getD_out l _ (by clear step ih; omega)
    have hj1 : j ≤ 100000 := by omega
    have hj2 : 8 * j + t ≤ 100000 := by omega
    have ws := wz_succ (8 * j + t) hj2
    have hrd : rd l ((8 * j + t : Nat) : Int) = l.getD (8 * j + t) 0 := by unfold rd; rw [Int.toNat_natCast]
    rw [chequerref07_Pack.l1, wz_8 j hj1, ws, hrd, if_pos c1]
    clear ws hrd
    by_cases hlen : ((8 * j + t : Nat) : Int) < (l.length : Int)
    · rw [if_pos hlen, if_pos c2]
      by_cases h0 : l.getD (8 * j + t) 0 = 0
      · rw [if_pos h0, wz_dbl _ _ a hv (.inl h0)]
        exact step _ rfl (.inl h0)
      rw [if_neg h0]
      by_cases h1 : l.getD (8 * j + t) 0 = 1
      · rw [if_pos h1, wz_dbl _ _ a hv (.inr h1)]
        exact step _ rfl (.inr h1)
      rw [if_neg h1, hbad (fun ho => by
        rcases only01_get ho (8 * j + t) with e | e
        · exact h0 e
        exact h1 e)]
    rw [if_neg hlen, wz_dbl1 _ a hv]
    have := step 0 (hlast hlen) (.inl rfl)
    rw [Int.add_zero] at this
    exact this
theorem refpack_l0 (l : List Int) (hl : l.length ≤ 4096) (R : List Int × Int) (hR : R = if only01 l then (packL l, 0) else ([], 1)) : ∀ (d j k : Nat), (l.length + 7) / 8 - j = d → j ≤ (l.length + 7) / 8 → (∀ i, i < 8 * j → l.getD i 0 = 0 ∨ l.getD i 0 = 1) → 20 * d + 2 < k →
    chequerref07_Pack.l0 k l ((List.range j).map fun j => byteP l j) ((8 * j : Nat) : Int) = some R := by
  intro d
  induction d with
  | zero =>
    intro j k hd hj h hk
    obtain ⟨k, rfl⟩ : ∃ m, k = m + 1 := ⟨k - 1, by omega⟩
    have e : j = (l.length + 7) / 8 := by omega
    subst e
    have ho : only01 l := by
      intro x hx
      obtain ⟨i, hi, rfl⟩ := List.getElem_of_mem hx
      have := h i (by omega)
      rw [List.getD_eq_getElem?_getD, List.getElem?_eq_getElem hi] at this
      exact this
    rw [chequerref07_Pack.l0, if_neg (by omega), hR, if_pos ho]
    rfl
  | succ d ih =>
    intro j k hd hj h hk
    obtain ⟨k, rfl⟩ : ∃ m, k = m + 1 := ⟨k - 1, by omega⟩
    rw [chequerref07_Pack.l0, if_pos (by omega)]
    have := refpack_l1 l hl j (by omega) ((List.range j).map fun j => byteP l j) (by simp; omega) R (20 * d + 3) (fun hb => by rw [hR, if_neg hb]) (fun h8 k' hk' => by
      have e := ih (j + 1) k' (by omega) (by omega) (fun i hi => h8 i (by omega)) (by omega); rw [List.range_succ, List.map_append] at e
      exact e) 8 0 k (by omega) (by omega) (fun i hi => h i (by omega)) (by omega)
    exact this
theorem refpack_is (l : List Int) (k : Nat) (hk : 20000 ≤ k) : chequerref07_Pack.f k l = some (packS l) := by
  unfold chequerref07_Pack.f packS
  obtain ⟨k, rfl⟩ : ∃ m, k = m + 1 := ⟨k - 1, by omega⟩
  by_cases h : l.length < 1 ∨ 4096 < l.length
  · rw [if_pos h]
    by_cases h1 : (l.length : Int) < 1
    · rw [if_pos h1, chequerref07_Pack.j0, if_pos rfl]
    rw [if_neg h1, decide_eq_true (by omega), chequerref07_Pack.j0, if_pos rfl]
  rw [if_neg h, if_neg (by omega), decide_eq_false (by omega), chequerref07_Pack.j0, if_neg (by decide)]
  have := refpack_l0 l (by omega) _ rfl ((l.length + 7) / 8) 0 k (by omega) (by omega) (fun i hi => by omega) (by omega)
  exact this.trans (by split <;> rfl)
theorem packL_len (l : List Int) : (packL l).length = (l.length + 7) / 8 := by simp [packL]
theorem packL_get (l : List Int) (j : Nat) (h : j < (l.length + 7) / 8) : (packL l).getD j 0 = byteP l j := by
  unfold packL
  rw [List.getD_eq_getElem?_getD, List.getElem?_map, List.getElem?_range h]
  rfl
theorem packL_bytes {l : List Int} (h : only01 l) : bytesOK (packL l) := by
  intro x hx
  obtain ⟨j, _, rfl⟩ := List.mem_map.1 hx
  exact byteP_range h j
theorem only01_le {l : List Int} (h : only01 l) (i : Nat) : 0 ≤ l.getD i 0 ∧ l.getD i 0 ≤ 1 := by
  rcases only01_get h i with e | e <;> rw [e] <;> decide
set_option maxHeartbeats 2000000 in
theorem bitB_byteP {l : List Int} (h : only01 l) (j t : Nat) (ht : t < 8) : bitB (byteP l j) t = l.getD (8 * j + t) 0 := by
  have h0 := only01_le h (8 * j)
  have h1 := only01_le h (8 * j + 1)
  have h2 := only01_le h (8 * j + 2)
  have h3 := only01_le h (8 * j + 3)
  have h4 := only01_le h (8 * j + 4)
  have h5 := only01_le h (8 * j + 5)
  have h6 := only01_le h (8 * j + 6)
  have h7 := only01_le h (8 * j + 7)
  unfold bitB byteP
  rcases (show t = 0 ∨ t = 1 ∨ t = 2 ∨ t = 3 ∨ t = 4 ∨ t = 5 ∨ t = 6 ∨ t = 7 by omega) with rfl | rfl | rfl | rfl | rfl | rfl | rfl | rfl <;> simp only [Nat.add_zero, Nat.sub_zero, Nat.reduceSub, Nat.sub_self, Int.reducePow, Int.pow_zero, Int.pow_succ] <;>
  (generalize l.getD (8 * j) 0 = y0 at *
   generalize l.getD (8 * j + 1) 0 = y1 at *
   generalize l.getD (8 * j + 2) 0 = y2 at *
   generalize l.getD (8 * j + 3) 0 = y3 at *
   generalize l.getD (8 * j + 4) 0 = y4 at *
   generalize l.getD (8 * j + 5) 0 = y5 at *
   generalize l.getD (8 * j + 6) 0 = y6 at *
   generalize l.getD (8 * j + 7) 0 = y7 at *
   omega)
theorem row_pack {l : List Int} (h : only01 l) : bits_row (packL l) l.length = l := by
  apply List.ext_getElem?
  intro i
  unfold bits_row
  rw [List.getElem?_map]
  by_cases hi : i < l.length
  · rw [List.getElem?_range hi, List.getElem?_eq_getElem hi]
    show some (bitB ((packL l).getD (i / 8) 0) (i % 8)) = _
    rw [packL_get l (i / 8) (by omega), bitB_byteP h _ _ (Nat.mod_lt _ (by decide)), Nat.div_add_mod, List.getD_eq_getElem?_getD, List.getElem?_eq_getElem hi]
    rfl
  rw [List.getElem?_eq_none (by simp; omega), List.getElem?_eq_none (by omega)]
  rfl
end Go.Proofs.Ytdjonaajfhbfhaa.Q
/- A raster that is read: both texts answer the same. -/
namespace Go.Proofs.Ytdjonaajfhbfhaa.Q
open Go.RowKit Go.Proofs.YtdjonaajfhbfhaaW.PrintWords Go.Proofs.YtdjonaajfhbfhaaW.PrintLast
set_option linter.unusedVariables false
/-- What was told of the row under way, behind n bytes. -/
def curL (S : Nat) (b : List Int) (n : Nat) : List Int := (b.take n).drop (n / S * S)
/-- Row r's pixels. -/
def rowAt (k w m : Int) (b : List Int) (r : Nat) : List Int := rowV k w m ((b.drop (r * rawS k w m)).take (rawS k w m))
theorem rawS_wide {k w m : Int} (h4 : k ≠ 4) : ∃ q, rawS k w m = sampW m * q := ⟨w.toNat * (if k = 6 then 3 else 1), by unfold rawS; rw [if_neg h4, Nat.mul_comm]⟩
theorem sampV_drop (m : Int) (b : List Int) (a j : Nat) : sampV m (b.drop (sampW m * a)) j = sampV m b (a + j) := by
  have hg : ∀ x i, (b.drop x).getD i 0 = b.getD (x + i) 0 := fun x i => by rw [List.getD_eq_getElem?_getD, List.getD_eq_getElem?_getD, List.getElem?_drop]
  unfold sampV
  by_cases h : m ≤ 255
  · have e : sampW m = 1 := by unfold sampW; rw [if_pos h]
    rw [if_pos h, if_pos h, hg, e, Nat.one_mul]
  have e : sampW m = 2 := by unfold sampW; rw [if_neg h]
  rw [if_neg h, if_neg h, hg, hg, e, show 2 * a + 2 * j = 2 * (a + j) by omega, show 2 * a + (2 * j + 1) = 2 * (a + j) + 1 by omega]
theorem take_snoc {b : List Int} {n : Nat} (h : n < b.length) : b.take (n + 1) = b.take n ++ [b.getD n 0] := by
  rw [List.take_add_one, List.getElem?_eq_getElem h, List.getD_eq_getElem?_getD, List.getElem?_eq_getElem h]
  rfl
theorem curL_len {S : Nat} (hS : 1 ≤ S) {b : List Int} {n : Nat} (h : n ≤ b.length) : (curL S b n).length = n % S := by
  unfold curL
  rw [List.length_drop, List.length_take, Nat.min_eq_left h]
  have := Nat.div_add_mod n S
  rw [Nat.mul_comm] at this
  omega
theorem cur_snoc {S : Nat} (hS : 1 ≤ S) {b : List Int} {n : Nat} (h : n < b.length) : curL S b n ++ [b.getD n 0] = (b.take (n + 1)).drop (n / S * S) := by
  unfold curL
  rw [take_snoc h, List.drop_append_of_le_length (by rw [List.length_take, Nat.min_eq_left (by omega)]; exact Nat.div_mul_le_self n S)]
theorem divmod_next {S n : Nat} (hS : 1 ≤ S) (h : n % S + 1 < S) : (n + 1) / S = n / S ∧ (n + 1) % S = n % S + 1 := by
  have h1 := Nat.div_add_mod n S
  have h2 : n + 1 = S * (n / S) + (n % S + 1) := by omega
  constructor
  · rw [h2, Nat.mul_add_div (by omega), Nat.div_eq_of_lt h, Nat.add_zero]
  rw [h2, Nat.mul_add_mod, Nat.mod_eq_of_lt h]
theorem divmod_full {S n : Nat} (hS : 1 ≤ S) (h : n % S + 1 = S) : (n + 1) / S = n / S + 1 ∧ (n + 1) % S = 0 ∧ n + 1 = (n / S + 1) * S := by
  have h1 := Nat.div_add_mod n S
  have h2 : n + 1 = (n / S + 1) * S := by rw [Nat.succ_mul, Nat.mul_comm]; omega
  exact ⟨by rw [h2, Nat.mul_div_cancel _ (by omega)], by rw [h2, Nat.mul_mod_left], h2⟩
/-- A byte more: is the raster wrong with it? -/
theorem bad_step {k w h m : Int} (e : rawMay k w h m = true) {b : List Int} {n : Nat} (hn : n < b.length) (hb : ¬ badIdx k m b n) :
    (k ≠ 4 ∧ (n % rawS k w m + 1) % sampW m = 0 ∧ sampV m (curL (rawS k w m) b n ++ [b.getD n 0]) ((n % rawS k w m + 1) / sampW m - 1) > m) ↔ badIdx k m b (n + 1) := by
  have hS := rawS_bound e
  have hs := sampW_12 m
  rw [cur_snoc hS.1 hn]
  have h1 := Nat.div_add_mod n (rawS k w m)
  constructor
  · rintro ⟨h4, hz, hv⟩
    obtain ⟨q, hq⟩ := rawS_wide (w := w) (m := m) h4
    have ha : n / rawS k w m * rawS k w m = sampW m * (n / rawS k w m * q) := by
      conv => lhs; rw [hq]
      rw [← Nat.mul_assoc, ← Nat.mul_assoc, Nat.mul_comm (n / (sampW m * q)) (sampW m), ← hq]
    rw [ha, sampV_drop] at hv
    generalize hc : n % rawS k w m + 1 = c at *
    have h2 : 1 ≤ c / sampW m := Nat.div_pos (Nat.le_of_dvd (by omega) (Nat.dvd_of_mod_eq_zero hz)) (by omega)
    have h3 : sampW m * (c / sampW m) = c := Nat.mul_div_cancel' (Nat.dvd_of_mod_eq_zero hz)
    have h5 : sampW m * (n / rawS k w m * q + (c / sampW m - 1) + 1) = n + 1 := by
      rw [show n / rawS k w m * q + (c / sampW m - 1) + 1 = n / rawS k w m * q + c / sampW m by omega, Nat.mul_add, h3, ← ha, Nat.mul_comm]
      omega
    rw [sampV_take (by omega)] at hv
    exact ⟨h4, _, by omega, hv⟩
  rintro ⟨h4, i, hi, hv⟩
  obtain ⟨q, hq⟩ := rawS_wide (w := w) (m := m) h4
  have hi2 : sampW m * (i + 1) = n + 1 := by
    rcases Nat.lt_or_ge n (sampW m * (i + 1)) with h | h
    · omega
    exact absurd ⟨h4, i, h, hv⟩ hb
  have ha : n / rawS k w m * rawS k w m = sampW m * (n / rawS k w m * q) := by
    conv => lhs; rw [hq]
    rw [← Nat.mul_assoc, ← Nat.mul_assoc, Nat.mul_comm (n / (sampW m * q)) (sampW m), ← hq]
  generalize hc : n % rawS k w m + 1 = c at *
  have h6 : sampW m * (n / rawS k w m * q) + c = sampW m * (i + 1) := by rw [← ha, Nat.mul_comm]; omega
  have hle : n / rawS k w m * q ≤ i + 1 := by
    rcases Nat.lt_or_ge (i + 1) (n / rawS k w m * q) with h | h
    · have := Nat.mul_le_mul_left (sampW m) h
      rw [Nat.mul_succ] at this
      omega
    exact h
  have h7 : c = sampW m * (i + 1 - n / rawS k w m * q) := by rw [Nat.mul_sub]; omega
  have h8 : c / sampW m = i + 1 - n / rawS k w m * q := by rw [h7, Nat.mul_div_cancel_left _ (by omega)]
  have h9 : c % sampW m = 0 := by rw [h7, Nat.mul_mod_right]
  have h10 : 1 ≤ i + 1 - n / rawS k w m * q := by
    rcases Nat.eq_zero_or_pos (i + 1 - n / rawS k w m * q) with h | h
    · rw [h, Nat.mul_zero] at h7; omega
    exact h
  refine ⟨h4, h9, ?_⟩
  rw [ha, sampV_drop, h8, show n / rawS k w m * q + (i + 1 - n / rawS k w m * q - 1) = i by omega, sampV_take (by omega)]
  exact hv
theorem put_list {k w h m : Int} (e : rawMay k w h m = true) {b : List Int} (hb : byteL b) {n : Nat} (hn : n < b.length) : putL (encB (curL (rawS k w m) b n)) ((n % rawS k w m : Nat) : Int) (b.getD n 0) = curL (rawS k w m) b n ++ [b.getD n 0] := by
  have hS := rawS_bound e
  unfold putL
  rw [Int.toNat_natCast]
  have h1 := dec_enc (curL (rawS k w m) b n) (byteL_drop (byteL_take hb n) _)
  rw [curL_len hS.1 (by omega)] at h1
  rw [h1]
theorem raw_put_bad {k w h m : Int} (e : rawMay k w h m = true) {b : List Int} (hb : byteL b) {n : Nat} (hn : n < b.length) (h0 : ¬ badIdx k m b n) (h1 : badIdx k m b (n + 1)) :
    ∃ code n5 : Int, raw_Reader_Put.f k w h m (encB (curL (rawS k w m) b n)) ((n % rawS k w m : Nat) : Int) ((n / rawS k w m : Nat) : Int) 0 0 (b.getD n 0) = some ([], 2, k, w, h, m, code, n5, ((n / rawS k w m : Nat) : Int), 2, 5) := by
  have hS := rawS_bound e
  have hbs := (bad_step e hn h0).2 h1
  refine ⟨encB (curL (rawS k w m) b n) + b.getD n 0 * 256 ^ (((n % rawS k w m : Nat) : Int)).toNat, ((n % rawS k w m : Nat) : Int) + 1, ?_⟩
  unfold raw_Reader_Put.f
  rw [if_neg (by simp), if_pos (byteL_get hb n), put_list e hb hn]
  have hl : (curL (rawS k w m) b n ++ [b.getD n 0]).length = n % rawS k w m + 1 := by rw [List.length_append, curL_len hS.1 (by omega)]; rfl
  rw [hl, if_pos hbs]
theorem raw_put_more {k w h m : Int} (e : rawMay k w h m = true) {b : List Int} (hb : byteL b) {n : Nat} (hn : n < b.length) (h0 : ¬ badIdx k m b n) (h1 : ¬ badIdx k m b (n + 1)) (hc : n % rawS k w m + 1 < rawS k w m) :
    raw_Reader_Put.f k w h m (encB (curL (rawS k w m) b n)) ((n % rawS k w m : Nat) : Int) ((n / rawS k w m : Nat) : Int) 0 0 (b.getD n 0) = some ([], 0, k, w, h, m, encB (curL (rawS k w m) b (n + 1)), (((n + 1) % rawS k w m : Nat) : Int), (((n + 1) / rawS k w m : Nat) : Int), 0, 0) := by
  have hS := rawS_bound e
  have hbs := fun x => h1 ((bad_step e hn h0).1 x)
  obtain ⟨d1, d2⟩ := divmod_next hS.1 hc
  have hl : (curL (rawS k w m) b n ++ [b.getD n 0]).length = n % rawS k w m + 1 := by rw [List.length_append, curL_len hS.1 (by omega)]; rfl
  have hcode : encB (curL (rawS k w m) b n) + b.getD n 0 * 256 ^ (((n % rawS k w m : Nat) : Int)).toNat = encB (curL (rawS k w m) b (n + 1)) := by
    rw [Int.toNat_natCast, show curL (rawS k w m) b (n + 1) = curL (rawS k w m) b n ++ [b.getD n 0] by rw [cur_snoc hS.1 hn]; unfold curL; rw [d1], enc_snoc, curL_len hS.1 (by omega)]
  unfold raw_Reader_Put.f
  rw [if_neg (by simp), if_pos (byteL_get hb n), put_list e hb hn, hl, if_neg hbs, if_pos hc, hcode, d1, d2]
  rfl
theorem raw_put_row {k w h m : Int} (e : rawMay k w h m = true) {b : List Int} (hb : byteL b) {n : Nat} (hn : n < b.length) (h0 : ¬ badIdx k m b n) (h1 : ¬ badIdx k m b (n + 1)) (hc : n % rawS k w m + 1 = rawS k w m) :
    raw_Reader_Put.f k w h m (encB (curL (rawS k w m) b n)) ((n % rawS k w m : Nat) : Int) ((n / rawS k w m : Nat) : Int) 0 0 (b.getD n 0) = some (rowAt k w m b (n / rawS k w m), (if (((n + 1) / rawS k w m : Nat) : Int) = h then 1 else 0), k, w, h, m, encB (curL (rawS k w m) b (n + 1)), (((n + 1) % rawS k w m : Nat) : Int), (((n + 1) / rawS k w m : Nat) : Int), (if (((n + 1) / rawS k w m : Nat) : Int) = h then 1 else 0), 0) := by
  have hS := rawS_bound e
  have hbs := fun x => h1 ((bad_step e hn h0).1 x)
  obtain ⟨d1, d2, d3⟩ := divmod_full hS.1 hc
  have hl : (curL (rawS k w m) b n ++ [b.getD n 0]).length = n % rawS k w m + 1 := by rw [List.length_append, curL_len hS.1 (by omega)]; rfl
  have hcur : curL (rawS k w m) b (n + 1) = [] := by
    unfold curL
    rw [← List.length_eq_zero_iff, List.length_drop, List.length_take, d1, ← d3]
    omega
  have hrow : curL (rawS k w m) b n ++ [b.getD n 0] = (b.drop (n / rawS k w m * rawS k w m)).take (rawS k w m) := by
    rw [cur_snoc hS.1 hn, List.drop_take]
    congr 1
    rw [d3, Nat.succ_mul]
    omega
  have er : ((n / rawS k w m : Nat) : Int) + 1 = ((n / rawS k w m + 1 : Nat) : Int) := rfl
  unfold raw_Reader_Put.f
  rw [if_neg (by simp), if_pos (byteL_get hb n), put_list e hb hn, hl, if_neg hbs, if_neg (by omega), raw_row_is, Option.bind_some, hcur, d2, d1, hrow, er]
  rfl
/-- The first r rows' pixels. -/
def rowsTo (k w m : Int) (b : List Int) : Nat → List Int
  | 0 => []
  | r + 1 => rowsTo k w m b r ++ rowAt k w m b r
theorem rowAt_len (k w m : Int) (b : List Int) (r : Nat) : (rowAt k w m b r).length = w.toNat := by simp [rowAt, rowV]
theorem rowsTo_len (k w m : Int) (b : List Int) : ∀ r, (rowsTo k w m b r).length = r * w.toNat
  | 0 => by simp [rowsTo]
  | r + 1 => by rw [rowsTo, List.length_append, rowsTo_len k w m b r, rowAt_len, Nat.succ_mul]
/-- What reading comes to. -/
noncomputable def readV (k w h m : Int) (b : List Int) : List Int × Int :=
  open Classical in if badIdx k m b (min b.length (rawS k w m * h.toNat)) then ([], 5) else if b.length < rawS k w m * h.toNat then ([], 6) else (rowsTo k w m b h.toNat, 0)
theorem read_go {k w h m : Int} (e : rawMay k w h m = true) {b : List Int} (hb : byteL b) (hl : b.length ≤ 1000) : ∀ (d n : Nat), b.length - n = d → n ≤ b.length → n < rawS k w m * h.toNat → ¬ badIdx k m b n →
    raw_ReadL (b.drop n) (rowsTo k w m b (n / rawS k w m)) k w h m (encB (curL (rawS k w m) b n)) ((n % rawS k w m : Nat) : Int) ((n / rawS k w m : Nat) : Int) 0 0 = some (readV k w h m b) := by
  have hS := rawS_bound e
  have hm := rawMay_is e
  intro d
  induction d with
  | zero =>
    intro n hd hn hz h0
    obtain rfl : n = b.length := by omega
    rw [List.drop_length]
    unfold readV
    rw [if_neg (by rw [Nat.min_eq_left (by omega)]; exact h0), if_pos hz]
    rfl
  | succ d ih =>
    intro n hd hn hz h0
    have hlt : n < b.length := by omega
    have hdrop : b.drop n = b.getD n 0 :: b.drop (n + 1) := by
      rw [List.drop_eq_getElem_cons hlt, List.getD_eq_getElem?_getD, List.getElem?_eq_getElem hlt]
      rfl
    have hr : n / rawS k w m ≤ n := Nat.div_le_self _ _
    have hlim : ∀ l : List Int, l.length ≤ 4096 → (rowsTo k w m b (n / rawS k w m)).length + l.length ≤ 17592186044416 := fun l hll => by
      rw [rowsTo_len]
      have := Nat.mul_le_mul (show n / rawS k w m ≤ 1000 by omega) (show w.toNat ≤ 4096 by omega)
      omega
    rw [hdrop, raw_ReadL]
    by_cases h1 : badIdx k m b (n + 1)
    · obtain ⟨code, n5, hp⟩ := raw_put_bad e hb hlt h0 h1
      rw [hp, Option.bind_some, if_pos (hlim [] (by simp)), if_neg (show ¬ (2 : Int) = 1 by decide), if_pos rfl]
      unfold readV
      rw [if_pos (badIdx_mono h1 (by omega))]
    rcases Nat.lt_or_ge (n % rawS k w m + 1) (rawS k w m) with hc | hc
    · rw [raw_put_more e hb hlt h0 h1 hc, Option.bind_some, if_pos (hlim [] (by simp)), if_neg (show ¬ (0 : Int) = 1 by decide), if_neg (show ¬ (0 : Int) = 2 by decide), List.append_nil]
      obtain ⟨d1, d2⟩ := divmod_next hS.1 hc
      have hq := ih (n + 1) (by omega) (by omega) (by
        have h2 := Nat.div_add_mod n (rawS k w m)
        have h3 : n / rawS k w m < h.toNat := Nat.div_lt_of_lt_mul hz
        have h4 := Nat.mul_le_mul_left (rawS k w m) (show n / rawS k w m + 1 ≤ h.toNat from h3); rw [Nat.mul_succ] at h4
        omega) h1
      rw [d1] at hq ⊢
      exact hq
    have hc2 : n % rawS k w m + 1 = rawS k w m := by have := Nat.mod_lt n (show rawS k w m > 0 by omega); omega
    obtain ⟨d1, d2, d3⟩ := divmod_full hS.1 hc2
    rw [raw_put_row e hb hlt h0 h1 hc2, Option.bind_some, if_pos (hlim _ (by rw [rowAt_len]; omega))]
    have hrows : rowsTo k w m b (n / rawS k w m) ++ rowAt k w m b (n / rawS k w m) = rowsTo k w m b ((n + 1) / rawS k w m) := by rw [d1, rowsTo]
    by_cases hover : (((n + 1) / rawS k w m : Nat) : Int) = h
    · have ho : (if (((n + 1) / rawS k w m : Nat) : Int) = h then (1 : Int) else 0) = 1 := if_pos hover
      have hh : (n + 1) / rawS k w m = h.toNat := by omega
      have hfull : n + 1 = rawS k w m * h.toNat := by rw [← hh, d1, Nat.mul_comm]; exact d3
      simp only [ho]
      rw [if_pos trivial, hrows, hh]
      unfold readV
      rw [if_neg (by rw [Nat.min_eq_right (by omega), ← hfull]; exact h1), if_neg (by omega)]
    have ho : (if (((n + 1) / rawS k w m : Nat) : Int) = h then (1 : Int) else 0) = 0 := if_neg hover
    have hlt2 : n + 1 < rawS k w m * h.toNat := by
      have h3 : n / rawS k w m < h.toNat := Nat.div_lt_of_lt_mul hz
      have h4 : (n + 1) / rawS k w m ≠ h.toNat := by omega
      rw [d1] at h4; have h5 := Nat.mul_le_mul_left (rawS k w m) (show n / rawS k w m + 1 + 1 ≤ h.toNat by omega); rw [Nat.mul_succ] at h5; rw [Nat.mul_comm] at d3
      omega
    have hq := ih (n + 1) (by omega) (by omega) hlt2 h1; simp only [ho]
    rw [if_neg (by decide), if_neg (by decide), hrows]
    exact hq
theorem rawread_is {k w h m : Int} (e : rawMay k w h m = true) {b : List Int} (hb : byteL b) (hl : b.length ≤ 1000) : raw_Read.f b k w h m = some (readV k w h m b) := by
  have hS := rawS_bound e
  have hm := rawMay_is e
  unfold raw_Read.f
  rw [if_pos e]
  have h0 : ¬ badIdx k m b 0 := by
    rintro ⟨_, i, hi, _⟩
    have := sampW_12 m
    have h2 := Nat.mul_le_mul_right (i + 1) this.1
    omega
  have := read_go e hb hl b.length 0 rfl (by omega) (Nat.mul_pos (by omega) (by omega)) h0
  have hc : curL (rawS k w m) b 0 = [] := by unfold curL; rw [List.take_zero, List.drop_nil]
  rw [Nat.zero_div, Nat.zero_mod, List.drop_zero, hc] at this
  exact this
theorem samerow_go (l : List Int) (hl : l.length ≤ 100000) : ∀ (d i K : Nat), l.length - i = d → i ≤ l.length → d < K → chequerref03_SameRow.l0 K l l (i : Int) = some true := by
  intro d
  induction d with
  | zero =>
    intro i K hd hi hK
    obtain ⟨K, rfl⟩ : ∃ q, K = q + 1 := ⟨K - 1, by omega⟩
    rw [chequerref03_SameRow.l0, if_neg (by omega)]
  | succ d ih =>
    intro i K hd hi hK
    obtain ⟨K, rfl⟩ : ∃ q, K = q + 1 := ⟨K - 1, by omega⟩
    rw [chequerref03_SameRow.l0, if_pos (by omega), if_pos (by omega), if_pos (by omega), if_pos rfl, wz_succ_ i (by omega)]
    exact ih (i + 1) K (by omega) (by omega) (by omega)
theorem samerow_is (l : List Int) (hl : l.length ≤ 100000) (K : Nat) (hK : l.length < K) : chequerref03_SameRow.f K l l = some true := by
  unfold chequerref03_SameRow.f
  rw [if_pos rfl]
  exact samerow_go l hl _ 0 K rfl (by omega) (by omega)
end Go.Proofs.Ytdjonaajfhbfhaa.Q
/- A raster of good pixels, by the document's text: its bytes. -/
namespace Go.Proofs.Ytdjonaajfhbfhaa.Q
open Go.RowKit Go.Proofs.YtdjonaajfhbfhaaW.PrintWords Go.Proofs.YtdjonaajfhbfhaaW.PrintLast
set_option linter.unusedVariables false
/-- A sample's bytes, and rows of bits. -/
def sampB (m s : Int) : List Int := if m ≤ 255 then [s % 256] else [s / 256 % 256, s % 256]
def packRows (w : Nat) : List Int → List Int → List Int
  | _, [] => []
  | x, s :: L => if (x ++ [s]).length = w then packL (x ++ [s]) ++ packRows w [] L else packRows w (x ++ [s]) L
/-- The bytes of a raster of samples. -/
def writeL (k w m : Int) (S : List Int) : List Int := if k = 4 then packRows w.toNat [] S else S.flatMap (sampB m)
theorem wide_is (k w h m : Int) : chequerref09_wide.f k w h m = some ((sampW m : Nat) : Int) := by
  unfold chequerref09_wide.f sampW
  by_cases h : m ≤ 255
  · rw [if_neg (by omega), if_pos h]; rfl
  rw [if_pos (by omega), if_neg h]; rfl
theorem fits_good {k m p : Int} (hm : 1 ≤ m ∧ m ≤ 65535) (hp : goodP k m p) : fitsP p ((rowD k : Nat) : Int) m = true := by
  unfold fitsP formP
  have hd := rowD_or k
  rw [decide_eq_true (show (((rowD k : Nat) : Int) = 1 ∨ ((rowD k : Nat) : Int) = 3) ∧ 1 ≤ m ∧ m ≤ 65535 from ⟨by omega, hm⟩), decide_eq_true (show ((pixL p).length : Int) = ((rowD k : Nat) : Int) by rw [hp.2.2.1]), decide_eq_true (fun x hx => (hp.2.2.2 x hx).2)]
  rfl
theorem fits_bad {k m p : Int} (h0 : 0 ≤ p ∧ p ≤ 18446744073709551615) (hp : ¬ goodP k m p) : fitsP p ((rowD k : Nat) : Int) m = false := by
  rw [Bool.eq_false_iff]
  intro h
  unfold fitsP at h
  rw [Bool.and_eq_true, Bool.and_eq_true] at h
  have h1 := of_decide_eq_true h.1.2
  have h2 := of_decide_eq_true h.2
  exact hp ⟨h0.1, h0.2, by omega, fun x hx => ⟨(pixL_mem p h0.1 x hx).1, h2 x hx⟩⟩
theorem b_hi (s : Int) (h : 0 ≤ s ∧ s ≤ 65535) : (wrap64 (Int.tdiv s 256)) % 256 = s / 256 % 256 := by
  rw [Int.tdiv_eq_ediv_of_nonneg h.1]
  have : wrap64 (s / 256) = s / 256 := wr_id _ (by omega) (by omega)
  rw [this]
theorem b_lo (s : Int) (h : 0 ≤ s ∧ s ≤ 65535) : (Int.tmod s 256) % 256 = s % 256 := by
  rw [Int.tmod_eq_emod_of_nonneg h.1]
  omega
theorem write_in (P : List Int) (x8 : List Int) (i : Nat) (hi : i ≤ 1000) (k w h m : Int) (x11 : List Int) (h11 : ∀ x ∈ x11, 0 ≤ x ∧ x ≤ 65535) (hn : x11.length ≤ 3) : ∀ (t j K : Nat) (x7 : List Int), x11.length - j = t → j ≤ x11.length → x7.length + 2 * t ≤ 100000 → t < K →
    chequerref09_Write.l1 K P x7 x8 (i : Int) x11 (j : Int) k w h m = chequerref09_Write.l0 (K - t - 1) P (x7 ++ (x11.drop j).flatMap (sampB m)) x8 ((i + 1 : Nat) : Int) k w h m := by
  intro t
  induction t with
  | zero =>
    intro j K x7 ht hj h7 hK
    obtain ⟨K, rfl⟩ : ∃ q, K = q + 1 := ⟨K - 1, by omega⟩
    have hw := wz_succ_ i (by omega)
    have c1 : ¬ (j : Int) < (x11.length : Int) := by omega
    have hd : x11.drop j = [] := List.drop_eq_nil_of_le (by omega)
    rw [chequerref09_Write.l1, if_neg c1, hw, hd, List.flatMap_nil, List.append_nil]
    rfl
  | succ t ih =>
    intro j K x7 ht hj h7 hK
    obtain ⟨K, rfl⟩ : ∃ q, K = q + 1 := ⟨K - 1, by omega⟩
    have hlt : j < x11.length := by omega
    have c1 : (j : Int) < (x11.length : Int) := by omega
    have c2 : (0 : Int) ≤ (j : Int) := by omega
    have c3 : x7.length < 140737488355328 := by omega
    have e1 : K + 1 - (t + 1) - 1 = K - t - 1 := by omega
    have hrd : rd x11 (j : Int) = x11[j] := by unfold rd; rw [Int.toNat_natCast, List.getD_eq_getElem?_getD, List.getElem?_eq_getElem hlt]; rfl
    have hs := h11 _ (List.getElem_mem hlt)
    have hdr : x11.drop j = x11[j] :: x11.drop (j + 1) := List.drop_eq_getElem_cons hlt
    have hjj : j ≤ 3 := by omega
    have h1 := ih (j + 1) K
    have hK2 : t < K := by omega
    have ht2 : x11.length - (j + 1) = t := by omega
    have h72 : x7.length + 1 + 1 + 2 * t ≤ 100000 := by omega
    have h73 : x7.length + 1 + 2 * t ≤ 100000 := by omega
    have c4 : x7.length + 1 < 140737488355328 := by omega
    have hw := wz_succ_ j (by omega)
    rw [chequerref09_Write.l1, if_pos c1, wide_is, Option.bind_some, e1, hdr, List.flatMap_cons]
    by_cases hm : m ≤ 255
    · have e2 : ¬ ((sampW m : Nat) : Int) = 2 := by unfold sampW; rw [if_pos hm]; decide
      have e3 : sampB m x11[j] = [x11[j] % 256] := by unfold sampB; rw [if_pos hm]
      rw [if_neg e2, if_pos c2, if_pos c3, hrd, b_lo _ hs, hw, h1 _ ht2 hlt (by rw [len_snoc]; exact h73) hK2, e3, List.append_assoc]
    have e2 : ((sampW m : Nat) : Int) = 2 := by unfold sampW; rw [if_neg hm]; rfl
    have e3 : sampB m x11[j] = [x11[j] / 256 % 256, x11[j] % 256] := by unfold sampB; rw [if_neg hm]
    rw [if_pos e2, if_pos c2, if_pos c3, Option.bind_some, hrd, b_hi _ hs, b_lo _ hs, if_pos (by rw [len_snoc]; exact c4), hw, h1 _ ht2 hlt (by rw [len_snoc, len_snoc]; exact h72) hK2, e3, List.append_assoc, List.append_assoc]
    rfl
theorem sampB_len (m s : Int) : (sampB m s).length = sampW m := by unfold sampB sampW; split <;> rfl
theorem sampsB_len (m : Int) (S : List Int) : (S.flatMap (sampB m)).length = S.length * sampW m := by
  induction S with
  | nil => simp
  | cons s S ih => rw [List.flatMap_cons, List.length_append, ih, sampB_len, List.length_cons, Nat.succ_mul, Nat.add_comm]
theorem pix_range {k m p : Int} (hm : m ≤ 65535) (hp : goodP k m p) : ∀ x ∈ pixL p, 0 ≤ x ∧ x ≤ 65535 := fun x hx => by
  have := hp.2.2.2 x hx
  omega
theorem write_go {k w h m : Int} (e : rawMay k w h m = true) (h4 : k ≠ 4) (P : List Int) (hP : ∀ p ∈ P, 0 ≤ p ∧ p ≤ 18446744073709551615) (hN : P.length ≤ 200) : ∀ (t i K : Nat) (x7 : List Int), P.length - i = t → i ≤ P.length → x7.length ≤ 6 * i → 10 * t + 60 ≤ K →
    chequerref09_Write.l0 K P x7 [] (i : Int) k w h m = (open Classical in if (∀ p ∈ P.drop i, goodP k m p) then some (x7 ++ ((P.drop i).flatMap pixL).flatMap (sampB m), 0) else some ([], 1)) := by
  have hmm := rawMay_is e
  have hd := rowD_or k
  intro t
  induction t with
  | zero =>
    intro i K x7 ht hi h7 hK
    obtain ⟨K, rfl⟩ : ∃ q, K = q + 1 := ⟨K - 1, by omega⟩
    have c1 : ¬ (i : Int) < (P.length : Int) := by omega
    have hdr : P.drop i = [] := List.drop_eq_nil_of_le (by omega)
    rw [chequerref09_Write.l0, if_neg c1, hdr, if_pos (fun p hp => by cases hp), List.flatMap_nil, List.flatMap_nil, List.append_nil]
  | succ t ih =>
    intro i K x7 ht hi h7 hK
    obtain ⟨K, rfl⟩ : ∃ q, K = q + 1 := ⟨K - 1, by omega⟩
    have hlt : i < P.length := by omega
    have c1 : (i : Int) < (P.length : Int) := by omega
    have c2 : (0 : Int) ≤ (i : Int) := by omega
    have hrd : rd P (i : Int) = P[i] := by unfold rd; rw [Int.toNat_natCast, List.getD_eq_getElem?_getD, List.getElem?_eq_getElem hlt]; rfl
    have hp0 := hP _ (List.getElem_mem hlt)
    have hdr : P.drop i = P[i] :: P.drop (i + 1) := List.drop_eq_getElem_cons hlt
    have hr := reffits_is P[i] ((rowD k : Nat) : Int) m hp0.1 hp0.2 K (by omega)
    by_cases hp : goodP k m P[i]
    rotate_left
    · rw [chequerref09_Write.l0, if_pos c1, if_pos c2, refform_is k w h m (by omega), Option.bind_some, hrd, hr, Option.bind_some, fits_bad hp0 hp, if_neg (by decide), if_neg (fun hx => hp (hx _ (by rw [hdr]; exact List.mem_cons_self ..)))]
    have hiff : (∀ p ∈ P.drop i, goodP k m p) ↔ (∀ p ∈ P.drop (i + 1), goodP k m p) := ⟨fun hx p hm => hx p (by rw [hdr]; exact List.mem_cons_of_mem _ hm), fun hx p hm => by
      rw [hdr] at hm
      rcases List.mem_cons.1 hm with h_ | h_
      · rw [h_]; exact hp
      exact hx p h_⟩
    have hlen : (pixL P[i]).length = rowD k := hp.2.2.1
    have hsw := sampW_12 m; have hb := sampsB_len m (pixL P[i])
    have hb2 : (pixL P[i]).length * sampW m ≤ (pixL P[i]).length * 2 := Nat.mul_le_mul_left _ hsw.2
    have q1 : (x7 ++ (pixL P[i]).flatMap (sampB m)).length ≤ 6 * (i + 1) := by rw [List.length_append, hb]; omega
    have h1 := write_in P [] i (by omega) k w h m (pixL P[i]) (pix_range (by omega) hp) (by omega) (pixL P[i]).length 0 K x7 (by omega) (by omega) (by omega) (by omega); have h2 := ih (i + 1) (K - (pixL P[i]).length - 1) (x7 ++ (pixL P[i]).flatMap (sampB m)) (by omega) (by omega) q1 (by omega); rw [List.drop_zero] at h1
    rw [chequerref09_Write.l0, if_pos c1, if_pos c2, refform_is k w h m (by omega), Option.bind_some, hrd, hr, Option.bind_some, fits_good (by omega) hp, if_pos rfl, refunpack_is _ hp.1 hp.2.1, Option.bind_some, if_neg h4]
    refine h1.trans (h2.trans ?_)
    by_cases hall : ∀ p ∈ P.drop (i + 1), goodP k m p
    · rw [if_pos hall, if_pos (hiff.2 hall), hdr, List.flatMap_cons, List.flatMap_append, List.append_assoc]
    rw [if_neg hall, if_neg (fun x => hall (hiff.1 x))]
theorem write_go4 {w h m : Int} (e : rawMay 4 w h m = true) (hw : w ≤ 30) (P : List Int) (hP : ∀ p ∈ P, 0 ≤ p ∧ p ≤ 18446744073709551615) (hN : P.length ≤ 200) : ∀ (t i K : Nat) (x7 x8 : List Int), P.length - i = t → i ≤ P.length → x7.length ≤ 4 * i → x8.length < w.toNat → only01 x8 → t + 30000 ≤ K →
    chequerref09_Write.l0 K P x7 x8 (i : Int) 4 w h m = (open Classical in if (∀ p ∈ P.drop i, goodP 4 m p) then some (x7 ++ packRows w.toNat x8 ((P.drop i).flatMap pixL), 0) else some ([], 1)) := by
  have hmm := rawMay_is e
  have hd : rowD 4 = 1 := by unfold rowD; rw [if_neg (by decide)]
  intro t
  induction t with
  | zero =>
    intro i K x7 x8 ht hi h7 h8 ho hK
    obtain ⟨K, rfl⟩ : ∃ q, K = q + 1 := ⟨K - 1, by omega⟩
    have c1 : ¬ (i : Int) < (P.length : Int) := by omega
    have hdr : P.drop i = [] := List.drop_eq_nil_of_le (by omega)
    rw [chequerref09_Write.l0, if_neg c1, hdr, if_pos (fun p hp => by cases hp), List.flatMap_nil, packRows, List.append_nil]
  | succ t ih =>
    intro i K x7 x8 ht hi h7 h8 ho hK
    obtain ⟨K, rfl⟩ : ∃ q, K = q + 1 := ⟨K - 1, by omega⟩
    have hlt : i < P.length := by omega
    have c1 : (i : Int) < (P.length : Int) := by omega
    have c2 : (0 : Int) ≤ (i : Int) := by omega
    have hrd : rd P (i : Int) = P[i] := by unfold rd; rw [Int.toNat_natCast, List.getD_eq_getElem?_getD, List.getElem?_eq_getElem hlt]; rfl
    have hp0 := hP _ (List.getElem_mem hlt)
    have hdr : P.drop i = P[i] :: P.drop (i + 1) := List.drop_eq_getElem_cons hlt
    have hr := reffits_is P[i] ((rowD 4 : Nat) : Int) m hp0.1 hp0.2 K (by omega)
    by_cases hp : goodP 4 m P[i]
    rotate_left
    · rw [chequerref09_Write.l0, if_pos c1, if_pos c2, refform_is 4 w h m (by omega), Option.bind_some, hrd, hr, Option.bind_some, fits_bad hp0 hp, if_neg (by decide), if_neg (fun hx => hp (hx _ (by rw [hdr]; exact List.mem_cons_self ..)))]
    have hiff : (∀ p ∈ P.drop i, goodP 4 m p) ↔ (∀ p ∈ P.drop (i + 1), goodP 4 m p) := ⟨fun hx p hm => hx p (by rw [hdr]; exact List.mem_cons_of_mem _ hm), fun hx p hm => by
      rw [hdr] at hm
      rcases List.mem_cons.1 hm with h_ | h_
      · rw [h_]; exact hp
      exact hx p h_⟩
    by_cases hall : ∀ p ∈ P.drop (i + 1), goodP 4 m p
    rotate_left
    · rw [if_neg (fun x => hall (hiff.1 x))]
      have hlen : (pixL P[i]).length = 1 := hp.2.2.1.trans hd
      obtain ⟨s, hs⟩ := list_1 hlen
      have hs1 := hp.2.2.2 s (by rw [hs]; simp)
      have ho2 : only01 (x8 ++ [s]) := by
        intro y hy
        rcases List.mem_append.1 hy with h | h
        · exact ho y h
        rw [List.mem_singleton.1 h]; omega
      have c3 : x8.length < 17592186044416 := by omega
      have hlw : (x8 ++ [s]).length = x8.length + 1 := len_snoc _ _
      have hw1 := Aside0.mk (wz_succ_ i (by omega))
      have hzz : (0 : Int) < (([s] : List Int).length : Int) := by simp
      have hrz : rd [s] 0 = s := rfl
      rw [chequerref09_Write.l0, if_pos c1, if_pos c2, refform_is 4 w h m (by omega), Option.bind_some, hrd, hr, Option.bind_some, fits_good (by omega) hp, if_pos rfl, refunpack_is _ hp.1 hp.2.1, Option.bind_some, if_pos rfl, hs, if_pos hzz, if_pos c3, Option.bind_some, hrz, hw1.out]
      by_cases hf : x8.length + 1 = w.toNat
      · have c4 : ((x8 ++ [s]).length : Int) = w := by rw [hlw]; omega
        have c5 : (x8 ++ [s]).length = w.toNat := by rw [hlw]; exact hf
        have hpk : chequerref07_Pack.f K (x8 ++ [s]) = some (packL (x8 ++ [s]), 0) := by
          rw [refpack_is _ K (by omega)]
          unfold packS
          rw [if_neg (by omega), if_pos ho2]
        have hpl : (packL (x8 ++ [s])).length ≤ 4 := by rw [packL_len, hlw]; omega
        have c6 : x7.length + (packL (x8 ++ [s])).length < 140737488355328 := by omega
        have h2 := ih (i + 1) K (x7 ++ packL (x8 ++ [s])) [] (by omega) (by omega) (by rw [List.length_append]; omega) (by show 0 < _; omega) (fun y hy => by cases hy) (by omega)
        rw [if_pos c4, hpk, Option.bind_some, if_pos c6]
        rw [if_neg hall] at h2
        exact h2
      have c4 : ¬ ((x8 ++ [s]).length : Int) = w := by rw [hlw]; omega
      have c5 : ¬ (x8 ++ [s]).length = w.toNat := by rw [hlw]; exact hf
      have h2 := ih (i + 1) K x7 (x8 ++ [s]) (by omega) (by omega) (by omega) (by rw [hlw]; omega) ho2 (by omega)
      rw [if_neg c4]
      rw [if_neg hall] at h2
      exact h2
    rw [if_pos (hiff.2 hall)]
    have hlen : (pixL P[i]).length = 1 := hp.2.2.1.trans hd
    obtain ⟨s, hs⟩ := list_1 hlen
    have hs1 := hp.2.2.2 s (by rw [hs]; simp)
    have ho2 : only01 (x8 ++ [s]) := by
      intro y hy
      rcases List.mem_append.1 hy with h | h
      · exact ho y h
      rw [List.mem_singleton.1 h]; omega
    have c3 : x8.length < 17592186044416 := by omega
    have hlw : (x8 ++ [s]).length = x8.length + 1 := len_snoc _ _
    have hw1 := Aside0.mk (wz_succ_ i (by omega))
    have hzz : (0 : Int) < (([s] : List Int).length : Int) := by simp
    have hrz : rd [s] 0 = s := rfl
    rw [chequerref09_Write.l0, if_pos c1, if_pos c2, refform_is 4 w h m (by omega), Option.bind_some, hrd, hr, Option.bind_some, fits_good (by omega) hp, if_pos rfl, refunpack_is _ hp.1 hp.2.1, Option.bind_some, if_pos rfl, hdr, List.flatMap_cons, hs, if_pos hzz, if_pos c3, Option.bind_some, hrz, hw1.out, List.singleton_append, packRows]
    by_cases hf : x8.length + 1 = w.toNat
    · have c4 : ((x8 ++ [s]).length : Int) = w := by rw [hlw]; omega
      have c5 : (x8 ++ [s]).length = w.toNat := by rw [hlw]; exact hf
      have hpk : chequerref07_Pack.f K (x8 ++ [s]) = some (packL (x8 ++ [s]), 0) := by
        rw [refpack_is _ K (by omega)]
        unfold packS
        rw [if_neg (by omega), if_pos ho2]
      have hpl : (packL (x8 ++ [s])).length ≤ 4 := by rw [packL_len, hlw]; omega
      have c6 : x7.length + (packL (x8 ++ [s])).length < 140737488355328 := by omega
      have h2 := ih (i + 1) K (x7 ++ packL (x8 ++ [s])) [] (by omega) (by omega) (by rw [List.length_append]; omega) (by show 0 < _; omega) (fun y hy => by cases hy) (by omega)
      rw [if_pos c4, hpk, Option.bind_some, if_pos c6, if_pos c5, ← List.append_assoc]
      rw [if_pos hall] at h2
      exact h2
    have c4 : ¬ ((x8 ++ [s]).length : Int) = w := by rw [hlw]; omega
    have c5 : ¬ (x8 ++ [s]).length = w.toNat := by rw [hlw]; exact hf
    have h2 := ih (i + 1) K x7 (x8 ++ [s]) (by omega) (by omega) (by omega) (by rw [hlw]; omega) ho2 (by omega)
    rw [if_neg c4, if_neg c5]
    rw [if_pos hall] at h2
    exact h2
/-- The document's raster of good pixels. -/
theorem refwrite_all {k w h m : Int} (e : rawMay k w h m = true) (hw : w ≤ 30) (hh : h ≤ 4) (P : List Int) (hl : P.length = w.toNat * h.toNat) (hP : ∀ p ∈ P, 0 ≤ p ∧ p ≤ 18446744073709551615) (K : Nat) (hK : 40000 ≤ K) :
    chequerref09_Write.f K P k w h m = (open Classical in if (∀ p ∈ P, goodP k m p) then some (writeL k w m (P.flatMap pixL), 0) else some ([], 1)) := by
  have hmm := rawMay_is e
  have hb : w.toNat * h.toNat ≤ 30 * 4 := Nat.mul_le_mul (by omega) (by omega)
  have hN : wrap64 (w * h) = (P.length : Int) := by
    have e1 : w * h = ((w.toNat * h.toNat : Nat) : Int) := by
      rw [Int.natCast_mul]
      congr 1 <;> omega
    rw [e1, ← hl]
    exact wr_id _ (by omega) (by omega)
  unfold chequerref09_Write.f writeL
  rw [refrawmay_is, Option.bind_some, e, if_pos rfl, hN, if_pos rfl]
  by_cases h4 : k = 4
  · subst h4
    rw [if_pos rfl]
    have := write_go4 e hw P hP (by omega) P.length 0 K [] [] (by omega) (by omega) (by simp) (by show 0 < _; omega) (fun y hy => by cases hy) (by omega)
    rw [List.drop_zero, List.nil_append] at this
    exact this
  rw [if_neg h4]
  have := write_go e h4 P hP (by omega) P.length 0 K [] (by omega) (by omega) (by simp) (by omega)
  rw [List.drop_zero, List.nil_append] at this
  exact this
theorem refwrite_is {k w h m : Int} (e : rawMay k w h m = true) (hw : w ≤ 30) (hh : h ≤ 4) (P : List Int) (hl : P.length = w.toNat * h.toNat) (hP : ∀ p ∈ P, goodP k m p) (K : Nat) (hK : 40000 ≤ K) :
    chequerref09_Write.f K P k w h m = some (writeL k w m (P.flatMap pixL), 0) := by
  rw [refwrite_all e hw hh P hl (fun p hp => ⟨(hP p hp).1, (hP p hp).2.1⟩) K hK, if_pos hP]
end Go.Proofs.Ytdjonaajfhbfhaa.Q
/- A raster of pixels is the document's, or refused; it is read as it was, whatever is behind: for any head, any numbers, any pixel among them, any bytes behind. No condition. -/
namespace Go.Proofs.Ytdjonaajfhbfhaa.Pure
open Go.RowKit Go.Proofs.Ytdjonaajfhbfhaa.Q Go.Proofs.YtdjonaajfhbfhaaW.PrintWords Go.Proofs.YtdjonaajfhbfhaaW.PrintLast
set_option linter.unusedVariables false
/-- The samples of good pixels. -/
theorem samps_good {k m : Int} {P : List Int} (hP : ∀ p ∈ P, goodP k m p) : ∀ x ∈ P.flatMap pixL, 0 ≤ x ∧ x ≤ m := by
  intro x hx
  obtain ⟨p, hp, hx⟩ := List.mem_flatMap.1 hx
  exact (hP p hp).2.2.2 x hx
theorem samps_len {k m : Int} {P : List Int} (hP : ∀ p ∈ P, goodP k m p) : (P.flatMap pixL).length = P.length * rowD k := by
  induction P with
  | nil => simp
  | cons p P ih => rw [List.flatMap_cons, List.length_append, ih (fun q hq => hP q (List.mem_cons_of_mem _ hq)), (hP p (List.mem_cons_self ..)).2.2.1, List.length_cons, Nat.succ_mul, Nat.add_comm]
/-- The samples of the bytes are the samples. -/
theorem sampV_B {m : Int} (hm : m ≤ 65535) : ∀ (S : List Int), (∀ x ∈ S, 0 ≤ x ∧ x ≤ m) → ∀ i, sampV m (S.flatMap (sampB m)) i = S.getD i 0
  | [], _, i => by unfold sampV; split <;> simp
  | s :: S, h, i => by
    have hs := h s (List.mem_cons_self ..); have ih := sampV_B hm S (fun x hx => h x (List.mem_cons_of_mem _ hx))
    rw [List.flatMap_cons]
    by_cases h8 : m ≤ 255
    · have e : sampB m s = [s] := by unfold sampB; rw [if_pos h8, Int.emod_eq_of_lt hs.1 (by omega)]
      have e2 : ∀ b j, sampV m b j = b.getD j 0 := fun b j => by unfold sampV; rw [if_pos h8]
      rw [e, e2]
      cases i with
      | zero => rfl
      | succ i =>
        have := ih i
        rw [e2] at this
        exact this
    have e : sampB m s = [s / 256, s % 256] := by unfold sampB; rw [if_neg h8, Int.emod_eq_of_lt (show 0 ≤ s / 256 by omega) (by omega)]
    have e2 : ∀ b j, sampV m b j = b.getD (2 * j) 0 * 256 + b.getD (2 * j + 1) 0 := fun b j => by unfold sampV; rw [if_neg h8]
    rw [e, e2]
    cases i with
    | zero =>
      show s / 256 * 256 + s % 256 = s
      omega
    | succ i =>
      have := ih i
      rw [e2] at this
      exact this
theorem bytes_B {m : Int} : ∀ (S : List Int), byteL (S.flatMap (sampB m)) := by
  intro S x hx
  obtain ⟨s, _, hx⟩ := List.mem_flatMap.1 hx
  unfold sampB at hx
  split at hx
  · rw [List.mem_singleton.1 hx]; omega
  rcases List.mem_cons.1 hx with h | h
  · rw [h]; omega
  rw [List.mem_singleton.1 h]; omega
theorem rows_bytes (w : Nat) : ∀ (L x : List Int), only01 x → only01 L → byteL (packRows w x L)
  | [], x, _, _ => by intro y hy; simp [packRows] at hy
  | s :: L, x, hx, hL => by
    have h2 : only01 (x ++ [s]) := fun y hy => by
      rcases List.mem_append.1 hy with h | h
      · exact hx y h
      rw [List.mem_singleton.1 h]; exact hL s (List.mem_cons_self ..)
    have h3 : only01 L := fun y hy => hL y (List.mem_cons_of_mem _ hy)
    rw [packRows]
    split
    · intro y hy
      rcases List.mem_append.1 hy with h | h
      · exact packL_bytes h2 y h
      exact rows_bytes w L [] (fun y hy => by cases hy) h3 y h
    exact rows_bytes w L (x ++ [s]) h2 h3
theorem rows_len (w : Nat) (hw : 1 ≤ w) : ∀ (L x : List Int), x.length < w → (packRows w x L).length = (x.length + L.length) / w * ((w + 7) / 8)
  | [], x, hx => by
    rw [packRows, List.length_nil, Nat.add_zero, Nat.div_eq_of_lt hx, Nat.zero_mul]
  | s :: L, x, hx => by
    rw [packRows]
    have e : (x ++ [s]).length = x.length + 1 := len_snoc _ _
    by_cases hf : (x ++ [s]).length = w
    · rw [if_pos hf, List.length_append, rows_len w hw L [] (by show 0 < w; omega), packL_len, hf, List.length_cons, List.length_nil, Nat.zero_add, show x.length + (L.length + 1) = L.length + w by omega, Nat.add_div_right _ (by omega), Nat.succ_mul, Nat.add_comm]
    rw [if_neg hf, rows_len w hw L (x ++ [s]) (by omega), e, List.length_cons, Nat.add_assoc, Nat.add_comm 1]
/-- The document's raster of good pixels: so long, of bytes, and none is wrong. -/
theorem write_facts {k w h m : Int} (e : rawMay k w h m = true) {P : List Int} (hl : P.length = w.toNat * h.toNat) (hP : ∀ p ∈ P, goodP k m p) :
    (writeL k w m (P.flatMap pixL)).length = rawS k w m * h.toNat ∧ byteL (writeL k w m (P.flatMap pixL)) ∧ ∀ n, ¬ badIdx k m (writeL k w m (P.flatMap pixL)) n := by
  have hm := rawMay_is e
  have hs := samps_good hP
  have hn := samps_len hP
  unfold writeL
  by_cases h4 : k = 4
  · have ho : only01 (P.flatMap pixL) := fun x hx => by have := hs x hx; omega
    have hd : rowD k = 1 := by unfold rowD; rw [if_neg (by omega)]
    rw [if_pos h4]
    refine ⟨?_, rows_bytes _ _ _ (fun y hy => by cases hy) ho, fun n hb => hb.1 h4⟩
    rw [rows_len w.toNat (by omega) _ _ (by show 0 < _; omega), hn, hd, hl, List.length_nil, Nat.zero_add, Nat.mul_one, Nat.mul_div_cancel_left _ (by omega), Nat.mul_comm]
    unfold rawS
    rw [if_pos h4]
  rw [if_neg h4]
  refine ⟨?_, bytes_B _, ?_⟩
  · rw [sampsB_len, hn, hl]
    unfold rawS rowD
    rw [if_neg h4]
    rw [Nat.mul_assoc w.toNat h.toNat, Nat.mul_comm h.toNat, ← Nat.mul_assoc, Nat.mul_assoc _ h.toNat, Nat.mul_comm h.toNat, ← Nat.mul_assoc]
  rintro n ⟨_, i, _, hv⟩
  rw [sampV_B (by omega) _ hs] at hv
  rw [List.getD_eq_getElem?_getD] at hv
  cases hx : (P.flatMap pixL)[i]? with
  | none => rw [hx] at hv; simp at hv; omega
  | some y =>
    rw [hx] at hv
    have := hs y (List.mem_of_getElem? hx)
    simp at hv
    omega
/-- The bytes of row y; of so many rows from there on. -/
def rowB (P : List Int) (V : Nat) (k m : Int) (y : Nat) : List Int := if k = 4 then packL (rowP P V y) else (rowP P V y).flatMap (sampB m)
def tailB (P : List Int) (V : Nat) (k m : Int) : Nat → Nat → List Int
  | 0, _ => []
  | n + 1, y => rowB P V k m y ++ tailB P V k m n (y + 1)
theorem part_next {P : List Int} {V H y : Nat} (hl : P.length = V * H) (hy : y < H) : P.drop (y * V) = partP P V y ++ P.drop ((y + 1) * V) := by
  have h1 := Nat.mul_le_mul_left V (show y + 1 ≤ H from hy)
  have h2 : (y + 1) * V = y * V + V := Nat.succ_mul y V
  have h3 : V * (y + 1) = y * V + V := by rw [Nat.mul_comm, h2]
  have h := congrArg (List.drop (y * V)) (List.take_append_drop ((y + 1) * V) P).symm
  rw [List.drop_append_of_le_length (by rw [List.length_take]; omega)] at h
  exact h
theorem part_good {k m : Int} {P : List Int} (hP : ∀ p ∈ P, goodP k m p) (V y : Nat) : ∀ p ∈ partP P V y, goodP k m p := fun p hp => hP p (List.mem_of_mem_take (List.mem_of_mem_drop hp))
theorem row_facts {k m : Int} {P : List Int} {V H y : Nat} (hl : P.length = V * H) (hP : ∀ p ∈ P, goodP k m p) (hy : y < H) : (rowP P V y).length = V * rowD k ∧ ∀ x ∈ rowP P V y, 0 ≤ x ∧ x ≤ m := by
  have h1 := samps_len (part_good hP V y)
  rw [part_len hl hy] at h1
  exact ⟨h1, samps_good (part_good hP V y)⟩
theorem rowB_len {k m : Int} {P : List Int} {V H y : Nat} (hl : P.length = V * H) (hP : ∀ p ∈ P, goodP k m p) (hy : y < H) : (rowB P V k m y).length = rawS k (V : Int) m := by
  have h1 := (row_facts hl hP hy).1
  unfold rowB rawS
  rw [Int.toNat_natCast]
  by_cases h4 : k = 4
  · have hd : rowD k = 1 := by unfold rowD; rw [if_neg (by omega)]
    rw [if_pos h4, if_pos h4, packL_len, h1, hd, Nat.mul_one]
  rw [if_neg h4, if_neg h4, sampsB_len, h1]
  rfl
theorem flat_none (f : Int → List Int) (hf : ∀ s, f s = []) : ∀ l : List Int, l.flatMap f = []
  | [] => rfl
  | x :: l => by rw [List.flatMap_cons, hf, flat_none f hf l]; rfl
theorem own_row {k m : Int} {P : List Int} {V H y : Nat} (hm : k = 4 → m = 1) (hV : 1 ≤ V ∧ V ≤ 30) (hl : P.length = V * H) (hP : ∀ p ∈ P, goodP k m p) (hy : y < H) : ∃ o, own0P k (rowP P V y) = some o ∧ o ++ (rowP P V y).flatMap (wrB k m) = rowB P V k m y := by
  obtain ⟨h1, h2⟩ := row_facts hl hP hy
  unfold own0P rowB
  by_cases h4 : k = 4
  · have hd : rowD k = 1 := by unfold rowD; rw [if_neg (by omega)]
    have hm1 := hm h4
    have ho : only01 (rowP P V y) := fun x hx => by have := h2 x hx; omega
    have hp : packS (rowP P V y) = (packL (rowP P V y), 0) := by
      unfold packS
      rw [if_neg (by rw [h1, hd]; omega), if_pos ho]
    rw [if_pos h4, pack_is _ (by rw [h1, hd]; omega) 5000 (Nat.le_refl _), Option.bind_some, hp, if_pos h4]
    exact ⟨_, rfl, by rw [flat_none _ (fun s => by unfold wrB; rw [if_pos h4]), List.append_nil]⟩
  rw [if_neg h4, if_neg h4]
  have hw : wrB k m = sampB m := by
    funext s
    unfold wrB sampB
    rw [if_neg h4]
    by_cases h : m ≤ 255
    · rw [if_neg (by omega), if_pos h]
    rw [if_pos (by omega), if_neg h]
  exact ⟨[], rfl, by rw [hw]; rfl⟩
theorem rows_are {k m : Int} {P : List Int} {V H : Nat} (hm : k = 4 → m = 1) (hV : 1 ≤ V ∧ V ≤ 30) (hl : P.length = V * H) (hP : ∀ p ∈ P, goodP k m p) : ∀ n y, y + n = H → rowsP P V (rawS k (V : Int) m) k m n y = some (tailB P V k m n y)
  | 0, _, _ => rfl
  | n + 1, y, h => by
    have hy : y < H := by omega
    obtain ⟨o, h1, h2⟩ := own_row hm hV hl hP hy
    rw [rowsP, h1, Option.bind_some, h2, if_pos (rowB_len hl hP hy), rows_are hm hV hl hP n (y + 1) (by omega), Option.bind_some]
    rfl
theorem tail_len {k m : Int} {P : List Int} {V H : Nat} (hl : P.length = V * H) (hP : ∀ p ∈ P, goodP k m p) : ∀ n y, y + n = H → (tailB P V k m n y).length = n * rawS k (V : Int) m
  | 0, _, _ => by simp [tailB]
  | n + 1, y, h => by rw [tailB, List.length_append, rowB_len hl hP (by omega), tail_len hl hP n (y + 1) (by omega), Nat.succ_mul, Nat.add_comm]
theorem pack_row (V : Nat) (L : List Int) : ∀ (s x : List Int), s ≠ [] → x.length + s.length = V → packRows V x (s ++ L) = packL (x ++ s) ++ packRows V [] L
  | [], _, h, _ => absurd rfl h
  | [a], x, _, h => by
    have e : (x ++ [a]).length = V := by rw [len_snoc]; exact h
    rw [List.singleton_append, packRows, if_pos e]
  | a :: b :: s, x, _, h => by
    have e : ¬ (x ++ [a]).length = V := by rw [len_snoc]; simp at h; omega
    have e2 : (x ++ [a]).length + (b :: s).length = V := by rw [len_snoc]; simp at h ⊢; omega
    rw [List.cons_append, packRows, if_neg e, pack_row V L (b :: s) (x ++ [a]) (by simp) e2, List.append_assoc]
    rfl
theorem write_tail {k m : Int} {P : List Int} {V H : Nat} (hV : 1 ≤ V) (hl : P.length = V * H) (hP : ∀ p ∈ P, goodP k m p) : ∀ n y, y + n = H → (if k = 4 then packRows V [] ((P.drop (y * V)).flatMap pixL) else ((P.drop (y * V)).flatMap pixL).flatMap (sampB m)) = tailB P V k m n y
  | 0, y, h => by
    have e : P.drop (y * V) = [] := List.drop_eq_nil_of_le (by rw [hl, Nat.mul_comm]; exact Nat.le_of_eq (by rw [show y = H by omega]))
    rw [e]
    split <;> rfl
  | n + 1, y, h => by
    have hy : y < H := by omega
    obtain ⟨h1, _⟩ := row_facts hl hP hy
    have ih := write_tail hV hl hP n (y + 1) (by omega)
    rw [part_next hl hy, List.flatMap_append]
    show _ = rowB P V k m y ++ tailB P V k m n (y + 1)
    rw [← ih]
    unfold rowB rowP
    by_cases h4 : k = 4
    · have hd : rowD k = 1 := by unfold rowD; rw [if_neg (by omega)]
      have hne : (partP P V y).flatMap pixL ≠ [] := by
        intro e
        have h2 : (rowP P V y).length = 0 := by unfold rowP; rw [e]; rfl
        rw [h1, hd] at h2
        omega
      have hpr := pack_row V ((P.drop ((y + 1) * V)).flatMap pixL) ((partP P V y).flatMap pixL) [] hne (by
        show 0 + (rowP P V y).length = V
        rw [h1, hd]
        omega)
      rw [if_pos h4, if_pos h4, if_pos h4, hpr, List.nil_append]
    rw [if_neg h4, if_neg h4, if_neg h4, List.flatMap_append]
theorem writeL_tail {k m : Int} {P : List Int} {V H : Nat} (hV : 1 ≤ V) (hl : P.length = V * H) (hP : ∀ p ∈ P, goodP k m p) : writeL k (V : Int) m (P.flatMap pixL) = tailB P V k m H 0 := by
  have h := write_tail hV hl hP H 0 (by omega)
  rw [Nat.zero_mul, List.drop_zero] at h
  unfold writeL
  rw [Int.toNat_natCast]
  exact h
theorem tail_drop {k m : Int} {P : List Int} {V H : Nat} (hl : P.length = V * H) (hP : ∀ p ∈ P, goodP k m p) : ∀ y, y ≤ H → (tailB P V k m H 0).drop (y * rawS k (V : Int) m) = tailB P V k m (H - y) y
  | 0, _ => by rw [Nat.zero_mul, List.drop_zero, Nat.sub_zero]
  | y + 1, h => by
    rw [Nat.succ_mul, ← List.drop_drop, tail_drop hl hP y (by omega), show H - y = (H - (y + 1)) + 1 by omega]
    show (rowB P V k m y ++ tailB P V k m (H - (y + 1)) (y + 1)).drop _ = _
    exact List.drop_left' (rowB_len hl hP (by omega))
theorem tail_row {k m : Int} {P : List Int} {V H y : Nat} (hl : P.length = V * H) (hP : ∀ p ∈ P, goodP k m p) (hy : y < H) (more : List Int) : ((tailB P V k m H 0 ++ more).drop (y * rawS k (V : Int) m)).take (rawS k (V : Int) m) = rowB P V k m y := by
  have h1 := tail_len hl hP H 0 (by omega)
  have h2 := Nat.mul_le_mul_right (rawS k (V : Int) m) (Nat.le_of_lt hy)
  rw [List.drop_append_of_le_length (by rw [h1]; exact h2), tail_drop hl hP y (Nat.le_of_lt hy), show H - y = (H - (y + 1)) + 1 by omega]
  show ((rowB P V k m y ++ tailB P V k m (H - (y + 1)) (y + 1)) ++ more).take _ = _
  rw [List.append_assoc]
  exact List.take_left' (rowB_len hl hP hy)
theorem part_pix {d : Nat} : ∀ (L : List Int) (j : Nat), (∀ p ∈ L, (pixL p).length = d) → j < L.length → partL (L.flatMap pixL) d j = pixL (L.getD j 0)
  | [], j, _, h => by simp at h
  | p :: L, 0, hd, _ => by
    unfold partL
    rw [Nat.zero_mul, List.drop_zero, List.flatMap_cons]
    exact List.take_left' (hd p (List.mem_cons_self ..))
  | p :: L, j + 1, hd, h => by
    have ih := part_pix L j (fun q hq => hd q (List.mem_cons_of_mem _ hq)) (by simp at h; omega)
    unfold partL at ih ⊢
    rw [List.flatMap_cons, Nat.succ_mul, Nat.add_comm, ← List.drop_drop, List.drop_left' (hd p (List.mem_cons_self ..)), ih]
    rfl
theorem map_getD (L : List Int) : (List.range L.length).map (fun j => L.getD j 0) = L := by
  apply List.ext_getElem
  · simp
  intro i h1 h2
  simp [List.getD_eq_getElem?_getD, h2]
theorem rowV_row {k m : Int} {P : List Int} {V H y : Nat} (hm : k = 4 → m = 1) (hm2 : m ≤ 65535) (hl : P.length = V * H) (hP : ∀ p ∈ P, goodP k m p) (hy : y < H) : rowV k (V : Int) m (rowB P V k m y) = partP P V y := by
  obtain ⟨h1, h2⟩ := row_facts hl hP hy
  have hpl := part_len hl hy
  have hrow : rowL k (V : Int) m (rowB P V k m y) = rowP P V y := by
    unfold rowL rowB
    rw [Int.toNat_natCast]
    by_cases h4 : k = 4
    · have hd : rowD k = 1 := by unfold rowD; rw [if_neg (by omega)]
      have hm1 := hm h4
      have ho : only01 (rowP P V y) := fun x hx => by have := h2 x hx; omega
      have hr := row_pack ho; rw [h1, hd, Nat.mul_one] at hr
      rw [if_pos h4, if_pos h4, hr]
    have hs := (sampW_12 m).1
    have hf : sampV m ((rowP P V y).flatMap (sampB m)) = fun i => (rowP P V y).getD i 0 := funext fun i => sampV_B hm2 _ h2 i
    rw [if_neg h4, if_neg h4, sampsB_len, Nat.mul_div_cancel _ (by omega), hf, map_getD]
  unfold rowV
  rw [Int.toNat_natCast, hrow]
  have hmap : (List.range V).map (fun j => (pixP (partL (rowP P V y) (rowD k) j)).1) = (List.range (partP P V y).length).map (fun j => (partP P V y).getD j 0) := by
    rw [hpl]
    apply List.map_congr_left
    intro j hj
    have hj2 : j < (partP P V y).length := by rw [hpl]; exact List.mem_range.1 hj
    have hg := part_good hP V y; unfold rowP
    rw [part_pix _ j (fun p hp => (hg p hp).2.2.1) hj2]
    have hmem : (partP P V y).getD j 0 ∈ partP P V y := by rw [List.getD_eq_getElem?_getD, List.getElem?_eq_getElem hj2]; exact List.getElem_mem hj2
    have hgp := hg _ hmem
    rw [pixP_pixL _ hgp.1 hgp.2.1 (by
      intro e
      have h3 := hgp.2.2.1; rw [e] at h3
      have := rowD_or k
      simp at h3
      omega)]
  rw [hmap, map_getD]
theorem rows_back {k m : Int} {P : List Int} {V H : Nat} (hm : k = 4 → m = 1) (hm2 : m ≤ 65535) (hl : P.length = V * H) (hP : ∀ p ∈ P, goodP k m p) (more : List Int) : ∀ r, r ≤ H → rowsTo k (V : Int) m (tailB P V k m H 0 ++ more) r = P.take (r * V)
  | 0, _ => by rw [Nat.zero_mul, List.take_zero]; rfl
  | r + 1, h => by
    have h2 : r * V ≤ (r + 1) * V := Nat.mul_le_mul_right V (Nat.le_succ r)
    have h3 : P.take ((r + 1) * V) = P.take (r * V) ++ partP P V r := by
      have h4 := (List.take_append_drop (r * V) (P.take ((r + 1) * V))).symm; rw [List.take_take, Nat.min_eq_left h2] at h4
      exact h4
    rw [rowsTo, rows_back hm hm2 hl hP more r (by omega), h3]
    congr 1
    unfold Go.Proofs.Ytdjonaajfhbfhaa.Q.rowAt
    rw [tail_row hl hP (by omega) more, rowV_row hm hm2 hl hP (by omega)]
theorem rawS_small {k m : Int} {V : Nat} (hV : V ≤ 30) : rawS k (V : Int) m ≤ 180 := by
  unfold rawS sampW
  split
  · omega
  split <;> split <;> omega
theorem read_back {k m : Int} {V H : Nat} (e : rawMay k (V : Int) (H : Int) m = true) (hV : V ≤ 30) (hH : H ≤ 4) {P : List Int} (hl : P.length = V * H) (hP : ∀ p ∈ P, goodP k m p) (more : List Int) (hb : byteL more) (hn : more.length ≤ 5) :
    raw_Read.f (writeL k (V : Int) m (P.flatMap pixL) ++ more) k (V : Int) (H : Int) m = some (P, 0) := by
  have hmm := rawMay_is e
  obtain ⟨f1, f2, f3⟩ := write_facts e (by rw [Int.toNat_natCast, Int.toNat_natCast]; exact hl) hP
  have hS := rawS_small hV (k := k) (m := m)
  have hSH : rawS k (V : Int) m * H ≤ 180 * 4 := Nat.mul_le_mul hS hH
  rw [Int.toNat_natCast] at f1
  have hlen : (writeL k (V : Int) m (P.flatMap pixL) ++ more).length ≤ 1000 := by rw [List.length_append, f1]; omega
  have hby : byteL (writeL k (V : Int) m (P.flatMap pixL) ++ more) := fun x hx => by
    rcases List.mem_append.1 hx with h | h
    · exact f2 x h
    exact hb x h
  rw [rawread_is e hby hlen]
  unfold readV
  rw [Int.toNat_natCast]
  have hmin : min (writeL k (V : Int) m (P.flatMap pixL) ++ more).length (rawS k (V : Int) m * H) = rawS k (V : Int) m * H := Nat.min_eq_right (by rw [List.length_append, f1]; omega)
  have hnb : ¬ badIdx k m (writeL k (V : Int) m (P.flatMap pixL) ++ more) (rawS k (V : Int) m * H) := by
    rintro ⟨h4, j, hj, hv⟩
    apply f3 (rawS k (V : Int) m * H)
    refine ⟨h4, j, hj, ?_⟩
    have ht : (writeL k (V : Int) m (P.flatMap pixL) ++ more).take (rawS k (V : Int) m * H) = writeL k (V : Int) m (P.flatMap pixL) := List.take_left' f1
    rw [← ht, sampV_take hj]
    exact hv
  rw [hmin, if_neg hnb, if_neg (by rw [List.length_append, f1]; omega), writeL_tail (by omega) hl hP, rows_back (by omega) (by omega) hl hP more H (Nat.le_refl _), List.take_of_length_le (by rw [hl, Nat.mul_comm]; exact Nat.le_refl _)]
theorem read_cut {k m : Int} {V H : Nat} (e : rawMay k (V : Int) (H : Int) m = true) (hV : V ≤ 30) (hH : H ≤ 4) {P : List Int} (hl : P.length = V * H) (hP : ∀ p ∈ P, goodP k m p) (n : Nat) (hn : n < rawS k (V : Int) m * H) :
    raw_Read.f ((writeL k (V : Int) m (P.flatMap pixL)).take n) k (V : Int) (H : Int) m = some ([], 6) := by
  obtain ⟨f1, f2, f3⟩ := write_facts e (by rw [Int.toNat_natCast, Int.toNat_natCast]; exact hl) hP
  have hS := rawS_small hV (k := k) (m := m)
  have hSH : rawS k (V : Int) m * H ≤ 180 * 4 := Nat.mul_le_mul hS hH
  rw [Int.toNat_natCast] at f1
  have htl : ((writeL k (V : Int) m (P.flatMap pixL)).take n).length = n := by rw [List.length_take, f1]; omega
  rw [rawread_is e (byteL_take f2 n) (by omega)]
  unfold readV
  rw [Int.toNat_natCast, htl, if_neg (by
    rintro ⟨h4, j, hj, hv⟩
    have hj2 : sampW m * (j + 1) ≤ n := Nat.le_trans hj (Nat.min_le_left _ _)
    rw [sampV_take hj2] at hv
    exact f3 _ ⟨h4, j, hj2, hv⟩), if_pos hn]
theorem ch_is (k : Int) : (if k = 6 then (3 : Int) else 1) = ((rowD k : Nat) : Int) := by
  unfold rowD
  split <;> rfl
theorem cont_is {k m : Int} {P : List Int} (hr : ∀ p ∈ P, 0 ≤ p ∧ p ≤ 18446744073709551615) (hl : P.length ≤ 1000) : slices_ContainsFunc_Fits.f P ((rowD k : Nat) : Int) m = some (P.any fun p => !fitsP p ((rowD k : Nat) : Int) m) := by
  have hf : ∀ p ∈ P, pix_Fits.f 10 p ((rowD k : Nat) : Int) m = some (fitsP p ((rowD k : Nat) : Int) m) := fun p hp => fits_is p _ m (hr p hp).1 (hr p hp).2 10 (Nat.le_refl _)
  unfold slices_ContainsFunc_Fits.f
  rw [if_pos ⟨by omega, List.all_eq_true.2 (fun p hp => by rw [hf p hp]; rfl)⟩]
  congr 1
  rw [Bool.eq_iff_iff, List.any_eq_true, List.any_eq_true]
  constructor
  · rintro ⟨p, hp, h⟩
    rw [hf p hp] at h; refine ⟨p, hp, ?_⟩
    cases hx : fitsP p ((rowD k : Nat) : Int) m with
    | true => rw [hx] at h; simp at h
    | false => rfl
  rintro ⟨p, hp, h⟩
  refine ⟨p, hp, ?_⟩
  rw [hf p hp]
  cases hx : fitsP p ((rowD k : Nat) : Int) m with
  | true => rw [hx] at h; simp at h
  | false => rfl
/-- The program's text: a raster of any pixels. -/
theorem rawwrite_all {k m : Int} {V H : Nat} (e : rawMay k (V : Int) (H : Int) m = true) (hV : V ≤ 30) (hH : H ≤ 4) (P : List Int) (hl : P.length = V * H) (hr : ∀ p ∈ P, 0 ≤ p ∧ p ≤ 18446744073709551615) :
    raw_Write.f P k (V : Int) (H : Int) m = (open Classical in if (∀ p ∈ P, goodP k m p) then some (writeL k (V : Int) m (P.flatMap pixL), 0) else some ([], 1)) := by
  have hmm := rawMay_is e
  have hVH : V * H ≤ 30 * 4 := Nat.mul_le_mul hV hH
  unfold raw_Write.f
  rw [if_pos ⟨e, by omega, by omega⟩, Int.toNat_natCast, Int.toNat_natCast, if_pos hl, ch_is, cont_is hr (by omega), Option.bind_some]
  by_cases hg : ∀ p ∈ P, goodP k m p
  · have ha : (P.any fun p => !fitsP p ((rowD k : Nat) : Int) m) = false := by
      rw [List.any_eq_false]
      intro p hp
      rw [fits_good (by omega) (hg p hp)]
      decide
    rw [ha, if_neg (by decide), if_pos hg, rows_are (by omega) (by omega) hl hg H 0 (by omega), Option.bind_some, writeL_tail (by omega) hl hg]
  have ha : (P.any fun p => !fitsP p ((rowD k : Nat) : Int) m) = true := by
    rw [List.any_eq_true]
    have hx : ∃ p, p ∈ P ∧ ¬ goodP k m p := by
      apply Classical.byContradiction
      intro hn
      exact hg (fun p hp => Classical.byContradiction fun hq => hn ⟨p, hp, hq⟩)
    obtain ⟨p, hp, hq⟩ := hx
    exact ⟨p, hp, by rw [fits_bad (hr p hp) hq]; rfl⟩
  rw [ha, if_pos rfl, if_neg hg]
theorem rawwrite_part {k m : Int} {V H : Nat} (e : rawMay k (V : Int) (H : Int) m = true) (hV : V ≤ 30) (hH : H ≤ 4) (P : List Int) (hl : P.length ≠ V * H) : raw_Write.f P k (V : Int) (H : Int) m = some ([], 1) := by
  unfold raw_Write.f
  rw [if_pos ⟨e, by omega, by omega⟩, Int.toNat_natCast, Int.toNat_natCast, if_neg hl]
theorem good_range {k m : Int} {P : List Int} (hP : ∀ p ∈ P, goodP k m p) : ∀ p ∈ P, 0 ≤ p ∧ p ≤ 18446744073709551615 := fun p hp => ⟨(hP p hp).1, (hP p hp).2.1⟩
theorem h_four (h : Int) (h0 : 1 ≤ h) : ∃ H : Nat, wrap64 (1 + Int.tmod h 4) = (H : Int) ∧ 1 ≤ H ∧ H ≤ 4 := by
  rw [Int.tmod_eq_emod_of_nonneg (by omega)]
  refine ⟨(1 + h % 4).toNat, ?_, by omega, by omega⟩
  unfold wrap64
  omega
theorem may_four {k w h m : Int} (e : rawMay k w h m = true) {H : Nat} (h1 : 1 ≤ H) (h2 : H ≤ 4) : rawMay k w (H : Int) m = true := by
  have := rawMay_is e
  exact decide_eq_true (by omega)
theorem RawWrites : chequerlaw09_RawWrites.Pure := by
  intro a b c d l1 a2 a3 l4 ha hb hc hd hl0 hl1 hx h2 h3 hm0 hm1 hy
  obtain ⟨k, w, h, m, hg, ho, hw30, hh30⟩ := refhead_is a b c d 30 (wf_i64 ha) (wf_i64 hb) (wf_i64 hc) (wf_i64 hd) (by omega) (by omega)
  have hmm := rawMay_is ho
  obtain ⟨V, rfl⟩ : ∃ V : Nat, w = (V : Int) := ⟨w.toNat, by omega⟩
  obtain ⟨H, hH, hH1, hH4⟩ := h_four h (by omega)
  have e := may_four ho hH1 hH4
  have hV1 : 1 ≤ V := by omega
  have hV : V ≤ 30 := by omega
  clear hw30 hh30 hmm
  obtain ⟨P, hP, hPl, hPg⟩ := pixels_is e (by omega) (by omega) l1 (fun y hy => wf_i64 (hx y hy)) 50002 (by omega)
  rw [Int.toNat_natCast, Int.toNat_natCast] at hPl
  have hVH : V * H ≤ 30 * 4 := Nat.mul_le_mul hV hH4
  have hVH0 : 0 < V * H := Nat.mul_pos hV1 hH1
  have hS := rawS_small hV (k := k) (m := m)
  have hS1 := (rawS_bound e).1
  have hSH : rawS k (V : Int) m * H ≤ 180 * 4 := Nat.mul_le_mul hS hH4
  have hSH0 : 0 < rawS k (V : Int) m * H := Nat.mul_pos hS1 hH1
  have f1 := (write_facts e (by rw [Int.toNat_natCast, Int.toNat_natCast]; exact hPl) hPg).1
  rw [Int.toNat_natCast] at f1
  have hW := rawwrite_all e hV hH4 P hPl (good_range hPg)
  rw [if_pos hPg] at hW
  have hR := refwrite_is e (by omega) (by omega) P (by rw [Int.toNat_natCast, Int.toNat_natCast]; exact hPl) hPg 50002 (by omega)
  have hmn : mn (l4.length : Int) 5 = ((min l4.length 5 : Nat) : Int) := by unfold mn; split <;> omega
  have hmb : byteL (l4.take (min l4.length 5)) := byteL_take (fun x hh => wf_u8 (hy x hh)) _
  have hml : (l4.take (min l4.length 5)).length ≤ 5 := by rw [List.length_take]; omega
  have hback := read_back e hV hH4 hPl hPg _ hmb hml
  have hcut := read_cut e hV hH4 hPl hPg (rawS k (V : Int) m * H - 1) (by omega)
  have hr := aroundZ_range a2 (P.length : Int) (by omega)
  obtain ⟨n, hn⟩ : ∃ n : Nat, aroundZ a2 (P.length : Int) = (n : Int) := ⟨(aroundZ a2 (P.length : Int)).toNat, by omega⟩
  have hnl : n < P.length := by omega
  have hp := wf_u64 h3
  have hQl : (P.set n a3).length = V * H := by rw [List.length_set]; exact hPl
  have hQr : ∀ p ∈ P.set n a3, 0 ≤ p ∧ p ≤ 18446744073709551615 := fun p hp2 => by
    rcases List.mem_or_eq_of_mem_set hp2 with h | h
    · exact good_range hPg p h
    rw [h]; exact hp
  have hW2 := rawwrite_all e hV hH4 (P.set n a3) hQl hQr
  have hR2 := refwrite_all e (by omega) (by omega) (P.set n a3) (by rw [Int.toNat_natCast, Int.toNat_natCast]; exact hQl) hQr 50000 (by omega)
  have hT : ((P.set n a3).take n).length ≠ V * H := by rw [List.length_take]; omega
  have hW3 := rawwrite_part e hV hH4 _ hT
  have hsz := refsize_is e
  refine ⟨50002, ?_⟩
  unfold chequerlaw09_RawWrites.f
  rw [hg, Option.bind_some]
  simp only [hH]
  rw [hP, Option.bind_some, hW, Option.bind_some, hR, Option.bind_some, if_pos rfl, if_pos rfl, if_pos rfl, hsz, Option.bind_some]
  generalize writeL k (V : Int) m (P.flatMap pixL) = B at *
  have hne : ((B.length : Int) != ((rawS k (V : Int) m : Nat) : Int) * (H : Int)) = false := by
    rw [f1, Int.natCast_mul]
    exact bne_self_eq_false _
  simp only [hne]
  have hwl : wrap64 ((B.length : Int) - 1) = ((rawS k (V : Int) m * H - 1 : Nat) : Int) := by
    rw [f1]
    generalize rawS k (V : Int) m * H = q at *
    clear hmn hn; unfold wrap64
    omega
  rw [chequerlaw09_RawWrites.j0, if_neg (by decide), List.nil_append, if_pos (by rw [List.length_nil, f1]; omega), Option.bind_some, hmn, if_pos (by omega), if_pos (by omega), Int.toNat_natCast, if_pos (by rw [f1]; omega), hback, Option.bind_some, hwl, if_pos (by omega), if_pos (by rw [f1]; omega), Int.toNat_natCast, hcut, Option.bind_some]
  simp only []
  rw [if_pos trivial, samerow_is P (by omega) 50001 (by omega), Option.bind_some, if_pos rfl, if_pos trivial]
  rw [chequerlaw09_RawWrites.j1, if_neg (by decide), around_is a2 (P.length : Int) (wf_i64 h2).1 (wf_i64 h2).2 (by omega), Option.bind_some, hn, if_pos (by omega), if_pos (by omega), Option.bind_some, Int.toNat_natCast, hW2, hR2]
  have hfin : ∀ X : List Int × Int, ((some X).bind fun bt297 => ((some X).bind fun bt301 => (if (n : Int) ≤ (P.length : Int) then ((raw_Write.f ((P.set n a3).take n) k (V : Int) (H : Int) m).bind fun bt309 => (if (strOfNums bt297.1).toList = (strOfNums bt301.1).toList then (if bt297.2 = bt301.2 then (if (bt309.1.length : Int) = 0 then (if bt309.2 = 1 then ((chequerlaw09_lives.f 50000).bind fun t313 => (some t313)) else (some false)) else (some false)) else (some false)) else (some false))) else (none)))) = some true := by
    intro X
    rw [Option.bind_some, Option.bind_some, if_pos (by omega), hW3, Option.bind_some, if_pos rfl, if_pos rfl, if_pos rfl, lives_more 50000 (by omega)]
    rfl
  split
  · exact hfin _
  exact hfin _
end Go.Proofs.Ytdjonaajfhbfhaa.Pure
