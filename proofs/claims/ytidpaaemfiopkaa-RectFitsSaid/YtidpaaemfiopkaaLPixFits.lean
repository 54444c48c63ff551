/- A pixel's samples, and whether it is of a format: both texts answer the same. -/
import Derived.Test.YtidpaaemfiopkaaIpix_Unpack
import Derived.Test.YtidpaaemfiopkaaLAround
import Derived.Test.YtidpaaemfiopkaaLRect
import Derived.Test.YtidpaaemfiopkaaQ17
import Derived.Test.YtidpaaemfiopkaaQ19
import Derived.Test.YtidpaaemfiopkaaQ21
import Derived.Laws.BitsLemmas
namespace Go.Proofs.Ytidpaaemfiopkaa.Q
open Go.RowKit Go.Proofs.YtidpaaemfiopkaaW.PrintWords Go.Proofs.YtidpaaemfiopkaaW.PrintLast
set_option linter.unusedVariables false
theorem wraps_u64_63 (n : Int) (h0 : 0 ≤ n) (h1 : n < 2 ^ 63) : IntKind.u64.wrap n = n := by
  simp [IntKind.wrap, IntKind.bits, IntKind.signed]
  omega
theorem u64_in (n : Int) (h0 : 0 ≤ n) (h1 : n ≤ 18446744073709551615) : IntKind.u64.wrap n = n := by
  simp [IntKind.wrap, IntKind.bits, IntKind.signed]
  omega
theorem or16 (v n : Int) (h0 : 0 ≤ v) (h1 : v ≤ 4294967295) (h2 : 0 ≤ n) (h3 : n ≤ 65535) : Go.bits .or .u64 (v * 65536) n = v * 65536 + n :=
  bits_join .u64 63 (by decide) wraps_u64_63 16 _ _ (by omega) (by omega) (by omega) h2 (by omega) (by omega)
theorem or48 (v c : Int) (h0 : 0 ≤ v) (h1 : v ≤ 281474976710655) (h2 : 0 ≤ c) (h3 : c ≤ 3) : Go.bits .or .u64 v (c * 281474976710656) = v + c * 281474976710656 := by
  have e : Go.bits .or .u64 v (c * 281474976710656) = Go.bits .or .u64 (c * 281474976710656) v := by simp only [Go.bits, BitVec.or_comm]
  rw [e, bits_join .u64 63 (by decide) wraps_u64_63 48 _ _ (by omega) (by omega) (by omega) h0 (by omega) (by omega)]
  omega
def inS (n : Int) : Prop := 0 ≤ n ∧ n ≤ 65535
instance (n : Int) : Decidable (inS n) := by unfold inS; infer_instance
theorem in_is (n : Int) : chequerref01_in.f n = some (decide (inS n)) := by
  unfold chequerref01_in.f
  by_cases h : n ≥ 0
  · rw [if_pos h]
    congr 1
    apply decide_eq_decide.2
    unfold inS
    omega
  · have : ¬ inS n := fun e => h e.1
    rw [if_neg h, decide_eq_false this]
/-- The pixel of samples. -/
def pixP : List Int → Int × Int
  | [a] => if inS a then (a + 281474976710656, 0) else (0, 4)
  | [a, b, c] => if inS a ∧ inS b ∧ inS c then (a * 4294967296 + b * 65536 + c + 844424930131968, 0) else (0, 4)
  | _ => (0, 1)
theorem pixP_other (l : List Int) (h1 : l.length ≠ 1) (h3 : l.length ≠ 3) : pixP l = (0, 1) := by
  match l with
  | [] => rfl
  | [a] => simp at h1
  | [a, b] => rfl
  | [a, b, c] => simp at h3
  | a :: b :: c :: d :: r => rfl
theorem list_1 {l : List Int} (h : l.length = 1) : ∃ a, l = [a] := by
  match l, h with
  | [a], _ => exact ⟨a, rfl⟩
theorem list_3 {l : List Int} (h : l.length = 3) : ∃ a b c, l = [a, b, c] := by
  match l, h with
  | [a, b, c], _ => exact ⟨a, b, c, rfl⟩
theorem refpixpack_0 (k : Nat) (x4 : Int) (a b c : Int) (hv : 0 ≤ x4) (hv2 : x4 ≤ 4294967295) (l : List Int) (i : Nat) (hi : i < l.length) (hl : l.length ≤ 3) (ha : l.getD i 0 = a) : chequerref01_Pack.l0 (k + 1) l x4 (i : Int) = if inS a then chequerref01_Pack.l0 k l (x4 * 65536 + a) ((i + 1 : Nat) : Int) else some (0, 4) := by
  have hrd : rd l (i : Int) = a := by unfold rd; rw [Int.toNat_natCast]; exact ha
  have c1 : (i : Int) < (l.length : Int) := by omega
  have c2 : (0 : Int) ≤ (i : Int) := by omega
  have w1 : wrap64 ((i : Int) + 1) = ((i + 1 : Nat) : Int) := by clear hrd; unfold wrap64; omega
  rw [chequerref01_Pack.l0, if_pos c1, if_pos c2, hrd, in_is, Option.bind_some, w1]
  by_cases h : inS a
  · have h' := h
    unfold inS at h'
    have w2 : wrap64 (wrap64 (x4 * 65536) + a) = x4 * 65536 + a := by clear hrd w1; unfold wrap64; omega
    rw [decide_eq_true h, if_pos rfl, if_pos h, w2]
  · rw [decide_eq_false h, if_neg (by decide), if_neg h]
theorem refpixpack_end (k : Nat) (x4 : Int) (l : List Int) (hl : l.length ≤ 3) (hv : 0 ≤ x4) (hv2 : x4 ≤ 281474976710655) : chequerref01_Pack.l0 (k + 1) l x4 (l.length : Int) = some (x4 + (l.length : Int) * 281474976710656, 0) := by
  have w1 : wrap64 ((l.length : Int) * 281474976710656) = (l.length : Int) * 281474976710656 := by unfold wrap64; omega
  have w2 : wrap64 (x4 + (l.length : Int) * 281474976710656) = x4 + (l.length : Int) * 281474976710656 := by clear w1; unfold wrap64; omega
  rw [chequerref01_Pack.l0, if_neg (by omega), w1, w2, u64_in _ (by clear w1 w2; omega) (by clear w1 w2; omega)]
theorem refpixpack_is (l : List Int) (k : Nat) (hk : 10 ≤ k) : chequerref01_Pack.f k l = some (pixP l) := by
  unfold chequerref01_Pack.f
  obtain ⟨k, rfl⟩ : ∃ m, k = m + 6 := ⟨k - 6, by omega⟩
  by_cases h1 : l.length = 1
  · obtain ⟨a, rfl⟩ := list_1 h1
    rw [if_pos (by rfl), chequerref01_Pack.j0, if_neg (by decide)]
    have s0 := refpixpack_0 (k + 4) 0 a 0 0 (by omega) (by omega) [a] 0 (by simp) (by simp) rfl
    rw [show ((0 : Nat) : Int) = 0 from rfl] at s0
    rw [s0]
    by_cases h : inS a
    · have h' := h
      unfold inS at h'
      have s1 := refpixpack_end (k + 3) (0 * 65536 + a) [a] (by simp) (by omega) (by omega)
      rw [if_pos h]
      refine s1.trans ?_
      simp only [pixP]
      rw [if_pos h]
      congr 2
      simp
    · rw [if_neg h]
      simp only [pixP]
      rw [if_neg h]
  · rw [if_neg (by omega)]
    by_cases h3 : l.length = 3
    · obtain ⟨a, b, c, rfl⟩ := list_3 h3
      rw [show (([a, b, c].length : Int) != 3) = false by simp, chequerref01_Pack.j0, if_neg (by decide)]
      have s0 := refpixpack_0 (k + 4) 0 a 0 0 (by omega) (by omega) [a, b, c] 0 (by simp) (by simp) rfl
      rw [show ((0 : Nat) : Int) = 0 from rfl] at s0
      rw [s0]
      simp only [pixP]
      by_cases ha : inS a
      · have ha' := ha
        unfold inS at ha'
        have s1 := refpixpack_0 (k + 3) (0 * 65536 + a) b 0 0 (by omega) (by omega) [a, b, c] 1 (by simp) (by simp) rfl
        rw [if_pos ha]
        refine s1.trans ?_
        by_cases hb : inS b
        · have hb' := hb
          unfold inS at hb'
          have s2 := refpixpack_0 (k + 2) ((0 * 65536 + a) * 65536 + b) c 0 0 (by omega) (by omega) [a, b, c] 2 (by simp) (by simp) rfl
          rw [if_pos hb]
          refine s2.trans ?_
          by_cases hc : inS c
          · have hc' := hc
            unfold inS at hc'
            have s3 := refpixpack_end (k + 1) (((0 * 65536 + a) * 65536 + b) * 65536 + c) [a, b, c] (by simp) (by omega) (by omega)
            rw [if_pos hc, if_pos ⟨ha, hb, hc⟩]
            refine s3.trans ?_
            congr 2
            simp
            omega
          · rw [if_neg hc, if_neg (fun h => hc h.2.2)]
        · rw [if_neg hb, if_neg (fun h => hb h.2.1)]
      · rw [if_neg ha, if_neg (fun h => ha h.1)]
    · rw [show ((l.length : Int) != 3) = true by simp; omega, chequerref01_Pack.j0, if_pos rfl, pixP_other l h1 h3]
theorem pixunpack_is (p : Int) (h0 : 0 ≤ p) (h1 : p ≤ 18446744073709551615) : pix_Unpack.f p = some (pixL p) := by unfold pix_Unpack.f; rw [if_pos ⟨h0, h1⟩]
theorem refunpack_is (p : Int) (h0 : 0 ≤ p) (h1 : p ≤ 18446744073709551615) : chequerref01_Unpack.f p = some (pixL p) := by
  unfold chequerref01_Unpack.f
  have r0 : 0 ≤ p % 281474976710656 := by omega
  have r1 : p % 281474976710656 < 281474976710656 := by omega
  have e1 : p % 281474976710656 / 4294967296 = p / 4294967296 % 65536 := by omega
  have e2 : p % 281474976710656 / 65536 % 65536 = p / 65536 % 65536 := by omega
  have e3 : p % 281474976710656 % 65536 = p % 65536 := by omega
  have e4 : p % 281474976710656 < 65536 ↔ p / 4294967296 % 65536 = 0 ∧ p / 65536 % 65536 = 0 := by omega
  have b1 : 0 ≤ p % 281474976710656 / 4294967296 ∧ p % 281474976710656 / 4294967296 < 65536 := by omega
  have b2 : 0 ≤ p % 281474976710656 / 65536 ∧ p % 281474976710656 / 65536 < 4294967296 := by omega
  have q0 : 0 ≤ p / 281474976710656 ∧ p / 281474976710656 ≤ 65535 := by omega
  have t0 : Int.tdiv p 281474976710656 = p / 281474976710656 := Int.tdiv_eq_ediv_of_nonneg h0
  have t1 : Int.tmod p 281474976710656 = p % 281474976710656 := Int.tmod_eq_emod_of_nonneg h0
  have w1 : wrap64 (p % 281474976710656) = p % 281474976710656 := wz _ (by omega) (by omega)
  have t2 : Int.tdiv (p % 281474976710656) 4294967296 = p % 281474976710656 / 4294967296 := Int.tdiv_eq_ediv_of_nonneg r0
  have t3 : Int.tdiv (p % 281474976710656) 65536 = p % 281474976710656 / 65536 := Int.tdiv_eq_ediv_of_nonneg r0
  have w2 : wrap64 (p % 281474976710656 / 4294967296) = p % 281474976710656 / 4294967296 := wz _ (by omega) (by omega)
  have w3 : wrap64 (p % 281474976710656 / 65536) = p % 281474976710656 / 65536 := wz _ (by omega) (by omega)
  have t4 : Int.tmod (p % 281474976710656 / 65536) 65536 = p % 281474976710656 / 65536 % 65536 := Int.tmod_eq_emod_of_nonneg b2.1
  have t5 : Int.tmod (p % 281474976710656) 65536 = p % 281474976710656 % 65536 := Int.tmod_eq_emod_of_nonneg r0
  rw [t0, t1, u64_in _ q0.1 (by omega), w1, t2, t3, w2, w3, t4, t5, e1, e2, e3]
  unfold pixL
  by_cases c3 : p / 281474976710656 = 3
  · rw [if_pos c3, if_pos c3]
  · rw [if_neg c3, if_neg c3]
    by_cases c1 : p / 281474976710656 = 1
    · rw [if_pos c1]
      by_cases c : p % 281474976710656 < 65536
      · have c' := e4.1 c
        rw [if_pos c, if_pos ⟨c1, c'⟩]
        congr 2
        clear w1 w2 w3 t0 t1 t2 t3 t4 t5
        omega
      · rw [if_neg c, if_neg (fun h => c (e4.2 h.2))]
    · rw [if_neg c1, if_neg (fun h => c1 h.1)]
def formP (c m : Int) : Bool := decide ((c = 1 ∨ c = 3) ∧ 1 ≤ m ∧ m ≤ 65535)
def chanZ (c : Int) : Int := if c % 2 = 0 then 1 else 3
def maxZ (m : Int) : Int := 1 + aroundZ m 65535
theorem chanZ_or (c : Int) : chanZ c = 1 ∨ chanZ c = 3 := by unfold chanZ; split <;> simp
theorem maxZ_range (m : Int) : 1 ≤ maxZ m ∧ maxZ m ≤ 65535 := by
  have := aroundZ_range m 65535 (by omega)
  unfold maxZ
  omega
theorem form_is (c m : Int) (h0 : -9223372036854775808 ≤ m) (h1 : m ≤ 9223372036854775807) : chequerref01_Form.f c m = some (chanZ c, maxZ m) := by
  unfold chequerref01_Form.f
  have a := aroundZ_range m 65535 (by omega)
  have w : wrap64 (1 + aroundZ m 65535) = maxZ m := (wz _ (by omega) (by omega)).trans rfl
  have e : Int.tmod c 2 = 0 ↔ c % 2 = 0 := (Int.dvd_iff_tmod_eq_zero).symm.trans Int.dvd_iff_emod_eq_zero
  rw [around_is m 65535 h0 h1 (by omega), Option.bind_some, w]
  unfold chanZ
  by_cases h : c % 2 = 0
  · rw [if_pos (e.2 h), if_pos h]
  · rw [if_neg (fun x => h (e.1 x)), if_neg h]
/-- A sample made of the number at a place. -/
def gd (l : List Int) (m : Int) (i : Nat) : Int := if i < l.length then aroundZ (l.getD i 0) (m + 1) else 0
def goodL (l : List Int) (c m : Int) : List Int := if c = 1 then [gd l m 0] else [gd l m 0, gd l m 1, gd l m 2]
theorem gd_range (l : List Int) (m : Int) (i : Nat) (h : 1 ≤ m) : 0 ≤ gd l m i ∧ gd l m i ≤ m := by
  unfold gd
  have := aroundZ_range (l.getD i 0) (m + 1) (by omega)
  split <;> omega
theorem good_step (k : Nat) (l x : List Int) (c m : Int) (hm : 1 ≤ m ∧ m ≤ 65535) (i : Nat) (hx : x.length ≤ 3) (hl : ∀ y ∈ l, -9223372036854775808 ≤ y ∧ y ≤ 9223372036854775807) (hi : i < x.length) (hil : i < l.length) :
    chequerref01_Good.l0 (k + 1) l x (i : Int) c m = chequerref01_Good.l0 k l (x.set i (gd l m i)) ((i + 1 : Nat) : Int) c m := by
  have c1 : (i : Int) < (x.length : Int) := by omega
  have c2 : (i : Int) < (l.length : Int) := by omega
  have c3 : (0 : Int) ≤ (i : Int) := by omega
  have w1 : wrap64 ((i : Int) + 1) = ((i + 1 : Nat) : Int) := (wz _ (by omega) (by omega)).trans (by simp)
  have w2 : wrap64 (m + 1) = m + 1 := wz _ (by omega) (by omega)
  have hrd : rd l (i : Int) = l.getD i 0 := by unfold rd; rw [Int.toNat_natCast]
  have hy : -9223372036854775808 ≤ l.getD i 0 ∧ l.getD i 0 ≤ 9223372036854775807 := by
    rw [List.getD_eq_getElem?_getD, List.getElem?_eq_getElem hil]
    exact hl _ (List.getElem_mem hil)
  have hp : 0 < m + 1 := by omega
  rw [chequerref01_Good.l0, if_pos c1, if_pos c2, if_pos c3, w1, w2, hrd, around_is _ _ hy.1 hy.2 hp, Option.bind_some, Int.toNat_natCast]
  unfold gd
  rw [if_pos hil]
theorem good_short (k : Nat) (l x : List Int) (c m : Int) (i : Nat) (hk : 10 ≤ k) (hi : i < x.length) (hil : l.length ≤ i) : chequerref01_Good.l0 (k + 1) l x (i : Int) c m = some (pixP x).1 := by
  have c1 : (i : Int) < (x.length : Int) := by omega
  have c2 : ¬ (i : Int) < (l.length : Int) := by omega
  rw [chequerref01_Good.l0, if_pos c1, if_neg c2, refpixpack_is x k hk, Option.bind_some]
theorem good_end (k : Nat) (l x : List Int) (c m : Int) (i : Nat) (hk : 10 ≤ k) (hi : i = x.length) : chequerref01_Good.l0 (k + 1) l x (i : Int) c m = some (pixP x).1 := by
  have c1 : ¬ (i : Int) < (x.length : Int) := by omega
  rw [chequerref01_Good.l0, if_neg c1, refpixpack_is x k hk, Option.bind_some]
theorem pxgood_is (l : List Int) (c m : Int) (hc : c = 1 ∨ c = 3) (hm : 1 ≤ m ∧ m ≤ 65535) (hl : ∀ y ∈ l, -9223372036854775808 ≤ y ∧ y ≤ 9223372036854775807) (k : Nat) (hk : 20 ≤ k) :
    chequerref01_Good.f k l c m = some (pixP (goodL l c m)).1 := by
  unfold chequerref01_Good.f
  obtain ⟨k, rfl⟩ : ∃ n, k = n + 14 := ⟨k - 14, by omega⟩
  have g : ∀ i, l.length ≤ i → gd l m i = 0 := fun i h => by unfold gd; rw [if_neg (by omega)]
  rcases hc with rfl | rfl
  · rw [if_pos (by decide), if_pos (by decide), show List.replicate (1 : Int).toNat (0 : Int) = [0] from rfl, show (0 : Int) = ((0 : Nat) : Int) from rfl]
    unfold goodL
    rw [if_pos rfl]
    by_cases h : 0 < l.length
    · rw [good_step (k + 13) l [((0 : Nat) : Int)] 1 m hm 0 (by simp) hl (by simp) h]
      exact good_end _ _ _ _ _ _ (by omega) (by simp)
    · rw [g 0 (by omega)]
      exact good_short _ _ _ _ _ _ (by omega) (by simp) (by omega)
  · rw [if_pos (by decide), if_pos (by decide), show List.replicate (3 : Int).toNat (0 : Int) = [0, 0, 0] from rfl, show (0 : Int) = ((0 : Nat) : Int) from rfl]
    unfold goodL
    rw [if_neg (by decide)]
    by_cases h : 0 < l.length
    · rw [good_step (k + 13) l _ 3 m hm 0 (by simp) hl (by simp) h]
      by_cases h1 : 1 < l.length
      · rw [good_step (k + 12) l _ 3 m hm 1 (by simp) hl (by simp) h1]
        by_cases h2 : 2 < l.length
        · rw [good_step (k + 11) l _ 3 m hm 2 (by simp) hl (by simp) h2]
          exact good_end _ _ _ _ _ _ (by omega) (by simp)
        · rw [g 2 (by omega)]
          exact good_short _ _ _ _ _ _ (by omega) (by simp) (by omega)
      · rw [g 1 (by omega), g 2 (by omega)]
        exact good_short _ _ _ _ _ _ (by omega) (by simp) (by omega)
    · rw [g 0 (by omega), g 1 (by omega), g 2 (by omega)]
      exact good_short _ _ _ _ _ _ (by omega) (by simp) (by omega)
theorem pixL_1 (a : Int) (h : 0 ≤ a ∧ a ≤ 65535) : pixL (a + 281474976710656) = [a] := by
  unfold pixL
  rw [if_neg (by omega), if_pos (by omega)]
  congr 1
  omega
theorem pixL_3 (a b c : Int) (ha : 0 ≤ a ∧ a ≤ 65535) (hb : 0 ≤ b ∧ b ≤ 65535) (hc : 0 ≤ c ∧ c ≤ 65535) : pixL (a * 4294967296 + b * 65536 + c + 844424930131968) = [a, b, c] := by
  unfold pixL
  rw [if_pos (by omega), show (a * 4294967296 + b * 65536 + c + 844424930131968) / 4294967296 % 65536 = a by omega, show (a * 4294967296 + b * 65536 + c + 844424930131968) / 65536 % 65536 = b by omega, show (a * 4294967296 + b * 65536 + c + 844424930131968) % 65536 = c by omega]
theorem pixP_1 (a : Int) (h : 0 ≤ a ∧ a ≤ 65535) : pixP [a] = (a + 281474976710656, 0) := by simp only [pixP]; exact if_pos h
theorem pixP_3 (a b c : Int) (ha : 0 ≤ a ∧ a ≤ 65535) (hb : 0 ≤ b ∧ b ≤ 65535) (hc : 0 ≤ c ∧ c ≤ 65535) : pixP [a, b, c] = (a * 4294967296 + b * 65536 + c + 844424930131968, 0) := by simp only [pixP]; exact if_pos ⟨ha, hb, hc⟩
/-- A pixel whose samples are there is made again of them. -/
theorem pixP_pixL (p : Int) (h0 : 0 ≤ p) (h1 : p ≤ 18446744073709551615) (h : pixL p ≠ []) : pixP (pixL p) = (p, 0) := by
  unfold pixL at h ⊢
  by_cases c3 : p / 281474976710656 = 3
  · rw [if_pos c3, pixP_3 _ _ _ (by omega) (by omega) (by omega)]
    congr 1
    omega
  · rw [if_neg c3] at h ⊢
    by_cases c1 : p / 281474976710656 = 1 ∧ p / 4294967296 % 65536 = 0 ∧ p / 65536 % 65536 = 0
    · rw [if_pos c1, pixP_1 _ (by omega)]
      congr 1
      omega
    · rw [if_neg c1] at h
      exact absurd rfl h
/-- What a list of one or three samples is packed to. -/
theorem pix_of (l : List Int) (h : l.length = 1 ∨ l.length = 3) (hl : ∀ x ∈ l, 0 ≤ x ∧ x ≤ 65535) : ∃ p, pixP l = (p, 0) ∧ 0 ≤ p ∧ p ≤ 18446744073709551615 ∧ pixL p = l := by
  rcases h with h | h
  · obtain ⟨a, rfl⟩ := list_1 h
    have ha := hl a (by simp)
    exact ⟨_, pixP_1 a ha, by omega, by omega, pixL_1 a ha⟩
  · obtain ⟨a, b, c, rfl⟩ := list_3 h
    have ha := hl a (by simp)
    have hb := hl b (by simp)
    have hc := hl c (by simp)
    exact ⟨_, pixP_3 a b c ha hb hc, by omega, by omega, pixL_3 a b c ha hb hc⟩
theorem goodL_len (l : List Int) (c m : Int) (hc : c = 1 ∨ c = 3) : ((goodL l c m).length : Int) = c := by
  unfold goodL
  rcases hc with rfl | rfl
  · rw [if_pos rfl]; rfl
  · rw [if_neg (by decide)]; rfl
theorem goodL_mem (l : List Int) (c m : Int) (hm : 1 ≤ m ∧ m ≤ 65535) : ∀ x ∈ goodL l c m, 0 ≤ x ∧ x ≤ m := by
  intro x hx
  have g := fun i => gd_range l m i hm.1
  unfold goodL at hx
  split at hx
  · simp at hx; subst hx; exact g 0
  · simp at hx
    rcases hx with rfl | rfl | rfl
    · exact g 0
    · exact g 1
    · exact g 2
/-- The good pixel: its samples. -/
theorem good_pix (l : List Int) (c m : Int) (hc : c = 1 ∨ c = 3) (hm : 1 ≤ m ∧ m ≤ 65535) (hl : ∀ y ∈ l, -9223372036854775808 ≤ y ∧ y ≤ 9223372036854775807) (k : Nat) (hk : 20 ≤ k) :
    ∃ p, chequerref01_Good.f k l c m = some p ∧ 0 ≤ p ∧ p ≤ 18446744073709551615 ∧ pixL p = goodL l c m ∧ pixP (goodL l c m) = (p, 0) := by
  have hlen := goodL_len l c m hc
  obtain ⟨p, h1, h2, h3, h4⟩ := pix_of (goodL l c m) (by omega) (fun x hx => by have := goodL_mem l c m hm x hx; omega)
  exact ⟨p, by rw [pxgood_is l c m hc hm hl k hk, h1], h2, h3, h4, h1⟩
theorem pixL_len (p : Int) : (pixL p).length = 0 ∨ (pixL p).length = 1 ∨ (pixL p).length = 3 := by
  unfold pixL
  split
  · simp
  · split <;> simp
theorem pixL_mem (p : Int) (h0 : 0 ≤ p) : ∀ x ∈ pixL p, 0 ≤ x ∧ x ≤ 65535 := by
  intro x hx
  unfold pixL at hx
  split at hx
  · simp at hx
    rcases hx with rfl | rfl | rfl <;> omega
  · split at hx
    · simp at hx
      subst hx
      omega
    · simp at hx
theorem pixL_inj (p q : Int) (hp0 : 0 ≤ p) (hp1 : p ≤ 18446744073709551615) (hq0 : 0 ≤ q) (hq1 : q ≤ 18446744073709551615) (hp : pixL p ≠ []) (h : pixL p = pixL q) : p = q := by
  have a := pixP_pixL p hp0 hp1 hp
  have b := pixP_pixL q hq0 hq1 (h ▸ hp)
  rw [h] at a
  exact (Prod.mk.inj (a.symm.trans b)).1
theorem format_is (c m : Int) : pix_Format.f c m = some (formP c m) := by
  unfold pix_Format.f formP
  by_cases c1 : c = 1
  · rw [if_pos c1]
    by_cases h : m ≥ 1
    · rw [if_pos h]
      congr 1
      apply decide_eq_decide.2
      omega
    · rw [if_neg h, decide_eq_false (by omega)]
  · rw [if_neg c1]
    by_cases c3 : c = 3
    · rw [if_pos c3]
      by_cases h : m ≥ 1
      · rw [if_pos h]
        congr 1
        apply decide_eq_decide.2
        omega
      · rw [if_neg h, decide_eq_false (by omega)]
    · rw [if_neg c3, decide_eq_false (by omega)]
theorem refformat_is (c m : Int) : chequerref01_Format.f c m = some (formP c m) := by
  unfold chequerref01_Format.f formP
  by_cases c1 : c = 1
  · rw [if_pos c1]
    by_cases h : m > 0
    · rw [if_pos h]
      congr 1
      apply decide_eq_decide.2
      omega
    · rw [if_neg h, decide_eq_false (by omega)]
  · rw [if_neg c1]
    by_cases c3 : c = 3
    · rw [if_pos c3]
      by_cases h : m > 0
      · rw [if_pos h]
        congr 1
        apply decide_eq_decide.2
        omega
      · rw [if_neg h, decide_eq_false (by omega)]
    · rw [if_neg c3, decide_eq_false (by omega)]
/-- Whether a pixel is of a format. -/
def fitsP (p c m : Int) : Bool := formP c m && decide (((pixL p).length : Int) = c) && decide (∀ x ∈ pixL p, x ≤ m)
theorem max_1 (k : Nat) (a : Int) : slices_Max_int_int.f (k + 3) [a] = some a := by
  unfold slices_Max_int_int.f
  rw [if_neg (by simp), if_pos (by simp), slices_Max_int_int.l0, if_neg (by simp)]
  rfl
theorem max_3 (k : Nat) (a b c : Int) : slices_Max_int_int.f (k + 3) [a, b, c] = some (mx (mx a b) c) := by
  unfold slices_Max_int_int.f
  have w1 : wrap64 (1 + 1) = 2 := wz _ (by omega) (by omega)
  have w2 : wrap64 (2 + 1) = 3 := wz _ (by omega) (by omega)
  rw [if_neg (by simp), if_pos (by simp), slices_Max_int_int.l0, if_pos (by simp), if_pos (by decide), w1, slices_Max_int_int.l0, if_pos (by simp), if_pos (by decide), w2, slices_Max_int_int.l0, if_neg (by simp)]
  rfl
theorem formP_c {c m : Int} (h : formP c m = true) : c = 1 ∨ c = 3 := (of_decide_eq_true h).1
theorem fits_is (p c m : Int) (h0 : 0 ≤ p) (h1 : p ≤ 18446744073709551615) (k : Nat) (hk : 10 ≤ k) : pix_Fits.f k p c m = some (fitsP p c m) := by
  unfold pix_Fits.f fitsP
  obtain ⟨k, rfl⟩ : ∃ n, k = n + 3 := ⟨k - 3, by omega⟩
  rw [pixunpack_is p h0 h1, Option.bind_some, format_is, Option.bind_some]
  cases hf : formP c m with
  | false => rw [if_neg (by decide)]; rfl
  | true =>
    rw [if_pos rfl]
    have hc := formP_c hf
    by_cases hl : ((pixL p).length : Int) = c
    · rw [if_pos hl]
      rcases pixL_len p with h | h | h
      · omega
      · obtain ⟨a, ha⟩ := list_1 h
        rw [ha] at hl ⊢
        rw [max_1, Option.bind_some, decide_eq_true hl]
        simp
      · obtain ⟨a, b, d, ha⟩ := list_3 h
        rw [ha] at hl ⊢
        rw [max_3, Option.bind_some, decide_eq_true hl]
        simp only [Bool.true_and]
        congr 1
        apply decide_eq_decide.2
        simp
        unfold mx
        repeat' split
        all_goals omega
    · rw [if_neg hl, decide_eq_false hl]
      rfl
theorem reffits_go (p c m : Int) (x : List Int) (hx : x.length ≤ 3) : ∀ (d i k : Nat), x.length - i ≤ d → i ≤ x.length → (∀ j, j < i → x.getD j 0 ≤ m) → d < k → chequerref01_Fits.l0 k x (i : Int) c m = some (formP c m && decide ((x.length : Int) = c) && decide (∀ y ∈ x, y ≤ m)) := by
  intro d
  induction d with
  | zero =>
    intro i k hd hi h hk
    obtain ⟨k, rfl⟩ : ∃ n, k = n + 1 := ⟨k - 1, by omega⟩
    rw [chequerref01_Fits.l0, if_neg (by omega), refformat_is, Option.bind_some]
    have hall : ∀ y ∈ x, y ≤ m := by
      intro y hy
      obtain ⟨j, hj, rfl⟩ := List.mem_iff_getElem.1 hy
      have := h j (by omega)
      rwa [List.getD_eq_getElem?_getD, List.getElem?_eq_getElem hj] at this
    rw [decide_eq_true hall]
    cases formP c m with
    | false => rfl
    | true =>
      rw [if_pos rfl]
      congr 1
      rw [Bool.true_and, Bool.and_true]
      by_cases e : (x.length : Int) = c
      · rw [beq_iff_eq.2 e, decide_eq_true e]
      · rw [beq_eq_false_iff_ne.2 e, decide_eq_false e]
  | succ d ih =>
    intro i k hd hi h hk
    by_cases hlt : i < x.length
    · obtain ⟨k, rfl⟩ : ∃ n, k = n + 1 := ⟨k - 1, by omega⟩
      have q1 : x.length - (i + 1) ≤ d := by omega
      have q2 : i + 1 ≤ x.length := by omega
      have q3 : d < k := by omega
      have c1 : (i : Int) < (x.length : Int) := by omega
      have c2 : (0 : Int) ≤ (i : Int) := by omega
      have w1 : wrap64 ((i : Int) + 1) = ((i + 1 : Nat) : Int) := (wz _ (by omega) (by omega)).trans (by simp)
      have hrd : rd x (i : Int) = x.getD i 0 := by unfold rd; rw [Int.toNat_natCast]
      rw [chequerref01_Fits.l0, if_pos c1, if_pos c2, hrd, w1]
      by_cases e : x.getD i 0 > m
      · have hall : ¬ ∀ y ∈ x, y ≤ m := by
          intro ha
          rw [List.getD_eq_getElem?_getD, List.getElem?_eq_getElem hlt] at e
          have := ha _ (List.getElem_mem hlt)
          simp at e
          omega
        rw [if_pos e, decide_eq_false hall, Bool.and_false]
      · rw [if_neg e]
        exact ih (i + 1) k q1 q2 (fun j hj => by
          rcases Nat.lt_or_ge j i with h' | h'
          · exact h j h'
          · obtain rfl : j = i := by omega
            omega) q3
    · exact ih i k (by omega) hi h (by omega)
theorem reffits_is (p c m : Int) (h0 : 0 ≤ p) (h1 : p ≤ 18446744073709551615) (k : Nat) (hk : 10 ≤ k) : chequerref01_Fits.f k p c m = some (fitsP p c m) := by
  unfold chequerref01_Fits.f fitsP
  rw [refunpack_is p h0 h1, Option.bind_some]
  exact reffits_go p c m (pixL p) (by have := pixL_len p; omega) (pixL p).length 0 k (by omega) (by omega) (fun j hj => by omega) (by have := pixL_len p; omega)
end Go.Proofs.Ytidpaaemfiopkaa.Q
