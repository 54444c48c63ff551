/- The pixel of samples: both texts answer the same. -/
import Derived.Test.YtjpaabjhlaibfaaQ1
import Derived.Laws.BitsLemmas
namespace Go.Proofs.Ytjpaabjhlaibfaa.Q
open Go.RowKit Go.Proofs.YtjpaabjhlaibfaaW.PrintWords Go.Proofs.YtjpaabjhlaibfaaW.PrintLast
set_option linter.unusedVariables false
theorem wraps_u64_63 (n : Int) (h0 : 0 ≤ n) (h1 : n < 2 ^ 63) : IntKind.u64.wrap n = n := by
  simp [IntKind.wrap, IntKind.bits, IntKind.signed]
  omega
theorem u64_in (n : Int) (h0 : 0 ≤ n) (h1 : n ≤ 18446744073709551615) : IntKind.u64.wrap n = n := by
  simp [IntKind.wrap, IntKind.bits, IntKind.signed]
  omega
theorem or16 (v n : Int) (h0 : 0 ≤ v) (h1 : v ≤ 4294967295) (h2 : 0 ≤ n) (h3 : n ≤ 65535) : Go.bits .or .u64 (v * 65536) n = v * 65536 + n :=
  bits_join .u64 63 (by decide) wraps_u64_63 16 _ _ (by omega) (by omega) (by omega) h2 (by omega) (by omega)
theorem or48 (v c : Int) (h0 : 0 ≤ v) (h1 : v ≤ 281474976710655) (h2 : 0 ≤ c) (h3 : c ≤ 3) : Go.bits .or .u64 v (c * 281474976710656) = v + c * 281474976710656 := by
  have e : Go.bits .or .u64 v (c * 281474976710656) = Go.bits .or .u64 (c * 281474976710656) v := by simp only [Go.bits, BitVec.or_comm]
  rw [e, bits_join .u64 63 (by decide) wraps_u64_63 48 _ _ (by omega) (by omega) (by omega) h0 (by omega) (by omega)]
  omega
def inS (n : Int) : Prop := 0 ≤ n ∧ n ≤ 65535
instance (n : Int) : Decidable (inS n) := by unfold inS; infer_instance
theorem in_is (n : Int) : chequerref01_in.f n = some (decide (inS n)) := by
  unfold chequerref01_in.f
  by_cases h : n ≥ 0
  · rw [if_pos h]
    congr 1
    apply decide_eq_decide.2
    unfold inS
    omega
  · have : ¬ inS n := fun e => h e.1
    rw [if_neg h, decide_eq_false this]
/-- The pixel of samples. -/
def pixP : List Int → Int × Int
  | [a] => if inS a then (a + 281474976710656, 0) else (0, 4)
  | [a, b, c] => if inS a ∧ inS b ∧ inS c then (a * 4294967296 + b * 65536 + c + 844424930131968, 0) else (0, 4)
  | _ => (0, 1)
theorem pixP_other (l : List Int) (h1 : l.length ≠ 1) (h3 : l.length ≠ 3) : pixP l = (0, 1) := by
  match l with
  | [] => rfl
  | [a] => simp at h1
  | [a, b] => rfl
  | [a, b, c] => simp at h3
  | a :: b :: c :: d :: r => rfl
theorem list_1 {l : List Int} (h : l.length = 1) : ∃ a, l = [a] := by
  match l, h with
  | [a], _ => exact ⟨a, rfl⟩
theorem list_3 {l : List Int} (h : l.length = 3) : ∃ a b c, l = [a, b, c] := by
  match l, h with
  | [a, b, c], _ => exact ⟨a, b, c, rfl⟩
theorem refpixpack_0 (k : Nat) (x4 : Int) (a b c : Int) (hv : 0 ≤ x4) (hv2 : x4 ≤ 4294967295) (l : List Int) (i : Nat) (hi : i < l.length) (hl : l.length ≤ 3) (ha : l.getD i 0 = a) : chequerref01_Pack.l0 (k + 1) l x4 (i : Int) = if inS a then chequerref01_Pack.l0 k l (x4 * 65536 + a) ((i + 1 : Nat) : Int) else some (0, 4) := by
  have hrd : rd l (i : Int) = a := by unfold rd; rw [Int.toNat_natCast]; exact ha
  have c1 : (i : Int) < (l.length : Int) := by omega
  have c2 : (0 : Int) ≤ (i : Int) := by omega
  have w1 : wrap64 ((i : Int) + 1) = ((i + 1 : Nat) : Int) := by clear hrd; unfold wrap64; omega
  rw [chequerref01_Pack.l0, if_pos c1, if_pos c2, hrd, in_is, Option.bind_some, w1]
  by_cases h : inS a
  · have h' := h
    unfold inS at h'
    have w2 : wrap64 (wrap64 (x4 * 65536) + a) = x4 * 65536 + a := by clear hrd w1; unfold wrap64; omega
    rw [decide_eq_true h, if_pos rfl, if_pos h, w2]
  · rw [decide_eq_false h, if_neg (by decide), if_neg h]
theorem refpixpack_end (k : Nat) (x4 : Int) (l : List Int) (hl : l.length ≤ 3) (hv : 0 ≤ x4) (hv2 : x4 ≤ 281474976710655) : chequerref01_Pack.l0 (k + 1) l x4 (l.length : Int) = some (x4 + (l.length : Int) * 281474976710656, 0) := by
  have w1 : wrap64 ((l.length : Int) * 281474976710656) = (l.length : Int) * 281474976710656 := by unfold wrap64; omega
  have w2 : wrap64 (x4 + (l.length : Int) * 281474976710656) = x4 + (l.length : Int) * 281474976710656 := by clear w1; unfold wrap64; omega
  rw [chequerref01_Pack.l0, if_neg (by omega), w1, w2, u64_in _ (by clear w1 w2; omega) (by clear w1 w2; omega)]
theorem refpixpack_is (l : List Int) (k : Nat) (hk : 10 ≤ k) : chequerref01_Pack.f k l = some (pixP l) := by
  unfold chequerref01_Pack.f
  obtain ⟨k, rfl⟩ : ∃ m, k = m + 6 := ⟨k - 6, by omega⟩
  by_cases h1 : l.length = 1
  · obtain ⟨a, rfl⟩ := list_1 h1
    rw [if_pos (by rfl), chequerref01_Pack.j0, if_neg (by decide)]
    have s0 := refpixpack_0 (k + 4) 0 a 0 0 (by omega) (by omega) [a] 0 (by simp) (by simp) rfl
    rw [show ((0 : Nat) : Int) = 0 from rfl] at s0
    rw [s0]
    by_cases h : inS a
    · have h' := h
      unfold inS at h'
      have s1 := refpixpack_end (k + 3) (0 * 65536 + a) [a] (by simp) (by omega) (by omega)
      rw [if_pos h]
      refine s1.trans ?_
      simp only [pixP]
      rw [if_pos h]
      congr 2
      simp
    · rw [if_neg h]
      simp only [pixP]
      rw [if_neg h]
  · rw [if_neg (by omega)]
    by_cases h3 : l.length = 3
    · obtain ⟨a, b, c, rfl⟩ := list_3 h3
      rw [show (([a, b, c].length : Int) != 3) = false by simp, chequerref01_Pack.j0, if_neg (by decide)]
      have s0 := refpixpack_0 (k + 4) 0 a 0 0 (by omega) (by omega) [a, b, c] 0 (by simp) (by simp) rfl
      rw [show ((0 : Nat) : Int) = 0 from rfl] at s0
      rw [s0]
      simp only [pixP]
      by_cases ha : inS a
      · have ha' := ha
        unfold inS at ha'
        have s1 := refpixpack_0 (k + 3) (0 * 65536 + a) b 0 0 (by omega) (by omega) [a, b, c] 1 (by simp) (by simp) rfl
        rw [if_pos ha]
        refine s1.trans ?_
        by_cases hb : inS b
        · have hb' := hb
          unfold inS at hb'
          have s2 := refpixpack_0 (k + 2) ((0 * 65536 + a) * 65536 + b) c 0 0 (by omega) (by omega) [a, b, c] 2 (by simp) (by simp) rfl
          rw [if_pos hb]
          refine s2.trans ?_
          by_cases hc : inS c
          · have hc' := hc
            unfold inS at hc'
            have s3 := refpixpack_end (k + 1) (((0 * 65536 + a) * 65536 + b) * 65536 + c) [a, b, c] (by simp) (by omega) (by omega)
            rw [if_pos hc, if_pos ⟨ha, hb, hc⟩]
            refine s3.trans ?_
            congr 2
            simp
            omega
          · rw [if_neg hc, if_neg (fun h => hc h.2.2)]
        · rw [if_neg hb, if_neg (fun h => hb h.2.1)]
      · rw [if_neg ha, if_neg (fun h => ha h.1)]
    · rw [show ((l.length : Int) != 3) = true by simp; omega, chequerref01_Pack.j0, if_pos rfl, pixP_other l h1 h3]
theorem pixpack_0 (k : Nat) (x0 : List Int) (x4 : Int) (a : Int) (hv : 0 ≤ x4) (hv2 : x4 ≤ 4294967295) (l : List Int) (i : Nat) (hi : i < l.length) (hl : l.length ≤ 3) (ha : l.getD i 0 = a) : pix_Pack.l0 (k + 1) x0 x4 l (l.length : Int) (i : Int) = if inS a then pix_Pack.l0 k x0 (x4 * 65536 + a) l (l.length : Int) ((i + 1 : Nat) : Int) else some (0, 4) := by
  have hrd : rd l (i : Int) = a := by unfold rd; rw [Int.toNat_natCast]; exact ha
  have c1 : (i : Int) < (l.length : Int) := by omega
  have c2 : (0 : Int) ≤ (i : Int) := by omega
  have w1 : wrap64 ((i : Int) + 1) = ((i + 1 : Nat) : Int) := by clear hrd; unfold wrap64; omega
  rw [pix_Pack.l0, if_pos c1, if_pos c2, if_pos c1, hrd, w1]
  clear hrd w1
  by_cases h : a < 0
  · rw [if_pos h, if_neg (show ¬ inS a from fun e => by have := e.1; omega)]
  · rw [if_neg h]
    by_cases h2 : a > 65535
    · rw [if_pos h2, if_neg (show ¬ inS a from fun e => by have := e.2; omega)]
    · rw [if_neg h2, if_pos (show inS a from ⟨by omega, by omega⟩), u64_in (x4 * 65536) (by omega) (by omega), u64_in a (by omega) (by omega), or16 x4 a hv hv2 (by omega) (by omega)]
theorem pixpack_end (k : Nat) (x0 : List Int) (x4 : Int) (l : List Int) (h0 : x0.length ≤ 3) (hv : 0 ≤ x4) (hv2 : x4 ≤ 281474976710655) : pix_Pack.l0 (k + 1) x0 x4 l (l.length : Int) (l.length : Int) = some (x4 + (x0.length : Int) * 281474976710656, 0) := by
  rw [pix_Pack.l0, if_neg (by omega), u64_in (x0.length : Int) (by omega) (by omega), u64_in _ (by omega) (by omega), or48 x4 _ hv hv2 (by omega) (by omega)]
theorem pixpack_is (l : List Int) (k : Nat) (hk : 10 ≤ k) : pix_Pack.f k l = some (pixP l) := by
  unfold pix_Pack.f
  obtain ⟨k, rfl⟩ : ∃ m, k = m + 6 := ⟨k - 6, by omega⟩
  by_cases h1 : l.length = 1
  · obtain ⟨a, rfl⟩ := list_1 h1
    rw [if_pos (by rfl), pix_Pack.j0, if_neg (by decide)]
    have s0 := pixpack_0 (k + 4) [a] 0 a (by omega) (by omega) [a] 0 (by simp) (by simp) rfl
    rw [show ((0 : Nat) : Int) = 0 from rfl] at s0
    rw [s0]
    by_cases h : inS a
    · have h' := h
      unfold inS at h'
      have s1 := pixpack_end (k + 3) [a] (0 * 65536 + a) [a] (by simp) (by omega) (by omega)
      rw [if_pos h]
      refine s1.trans ?_
      simp only [pixP]
      rw [if_pos h]
      congr 2
      simp
    · rw [if_neg h]
      simp only [pixP]
      rw [if_neg h]
  · rw [if_neg (by omega)]
    by_cases h3 : l.length = 3
    · obtain ⟨a, b, c, rfl⟩ := list_3 h3
      rw [show (([a, b, c].length : Int) != 3) = false by simp, pix_Pack.j0, if_neg (by decide)]
      have s0 := pixpack_0 (k + 4) [a, b, c] 0 a (by omega) (by omega) [a, b, c] 0 (by simp) (by simp) rfl
      rw [show ((0 : Nat) : Int) = 0 from rfl] at s0
      rw [s0]
      simp only [pixP]
      by_cases ha : inS a
      · have ha' := ha
        unfold inS at ha'
        have s1 := pixpack_0 (k + 3) [a, b, c] (0 * 65536 + a) b (by omega) (by omega) [a, b, c] 1 (by simp) (by simp) rfl
        rw [if_pos ha]
        refine s1.trans ?_
        by_cases hb : inS b
        · have hb' := hb
          unfold inS at hb'
          have s2 := pixpack_0 (k + 2) [a, b, c] ((0 * 65536 + a) * 65536 + b) c (by omega) (by omega) [a, b, c] 2 (by simp) (by simp) rfl
          rw [if_pos hb]
          refine s2.trans ?_
          by_cases hc : inS c
          · have hc' := hc
            unfold inS at hc'
            have s3 := pixpack_end (k + 1) [a, b, c] (((0 * 65536 + a) * 65536 + b) * 65536 + c) [a, b, c] (by simp) (by omega) (by omega)
            rw [if_pos hc, if_pos ⟨ha, hb, hc⟩]
            refine s3.trans ?_
            congr 2
            simp
            omega
          · rw [if_neg hc, if_neg (fun h => hc h.2.2)]
        · rw [if_neg hb, if_neg (fun h => hb h.2.1)]
      · rw [if_neg ha, if_neg (fun h => ha h.1)]
    · rw [show ((l.length : Int) != 3) = true by simp; omega, pix_Pack.j0, if_pos rfl, pixP_other l h1 h3]
end Go.Proofs.Ytjpaabjhlaibfaa.Q
