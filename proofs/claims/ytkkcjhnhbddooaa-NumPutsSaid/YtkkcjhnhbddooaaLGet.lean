/- The number that bytes begin with: both texts answer the same. -/
import Derived.Test.YtkkcjhnhbddooaaInum_Put
import Derived.Test.YtkkcjhnhbddooaaLPut
import Derived.Test.YtkkcjhnhbddooaaQ3
import Derived.Test.YtkkcjhnhbddooaaQ4
import Derived.Laws.BitsLemmas
namespace Go.Proofs.Ytkkcjhnhbddooaa.Q
open Go.RowKit Go.Proofs.YtkkcjhnhbddooaaW.PrintWords Go.Proofs.YtkkcjhnhbddooaaW.PrintLast
set_option linter.unusedVariables false
/-- What both come to: behind i bytes, the number so far n. -/
def getS : Nat → Nat → List Int → Int × Int × Int
  | _, _, [] => (0, 0, 6)
  | i, n, c :: r => if 128 ≤ c ∧ i = 8 then (0, 0, 4) else if 128 ≤ c then getS (i + 1) (n + (c.toNat - 128) * 128 ^ i) r
      else if c = 0 ∧ 0 < i then (0, 0, 10) else if 4611686018427387903 < n + c.toNat * 128 ^ i then (0, 0, 4) else (((n + c.toNat * 128 ^ i : Nat) : Int), ((i + 1 : Nat) : Int), 0)
set_option maxRecDepth 100000 in
theorem u8_clr : ∀ x : Fin 256, Go.bits .andNot .u8 ((x.val : Nat) : Int) 128 = ((x.val % 128 : Nat) : Int) := by decide
theorem wraps_i64 (n : Int) (h0 : 0 ≤ n) (h1 : n < 2 ^ 63) : IntKind.i64.wrap n = n := IntWalk.i64_in n ⟨by omega, by omega⟩
theorem bits_or_comm (x y : Int) : Go.bits .or .i64 x y = Go.bits .or .i64 y x := by simp only [Go.bits, BitVec.or_comm]
theorem get_or (n c i : Nat) (hi : i ≤ 8) (hn : n < 128 ^ i) (hc : c < 128) : Go.bits .or .i64 (n : Int) (shl .i64 (c : Int) ((7 * i : Nat) : Int)) = ((n + c * 128 ^ i : Nat) : Int) := by
  have hp : (128 : Nat) ^ i = 2 ^ (7 * i) := by rw [Nat.pow_mul]
  have hle : 2 ^ (7 * i) ≤ 72057594037927936 := by
    have := Nat.pow_le_pow_right (n := 2) (by omega) (show 7 * i ≤ 56 by omega)
    exact this
  have hmul : c * 2 ^ (7 * i) ≤ 127 * 72057594037927936 := Nat.mul_le_mul (by omega) hle
  rw [hp] at hn ⊢
  have hs : shl .i64 (c : Int) ((7 * i : Nat) : Int) = ((c * 2 ^ (7 * i) : Nat) : Int) := by
    unfold shl
    have hm : min ((7 * i : Nat) : Int).toNat IntKind.i64.bits = 7 * i := by
      rw [Int.toNat_natCast]
      exact Nat.min_eq_left (by show 7 * i ≤ 64; omega)
    have e : (c : Int) * 2 ^ (7 * i) = ((c * 2 ^ (7 * i) : Nat) : Int) := by simp
    rw [hm, e]
    generalize c * 2 ^ (7 * i) = p at hmul
    exact IntWalk.i64_in _ ⟨by omega, by omega⟩
  rw [hs, bits_or_comm]
  have h2 : (n : Int) < 2 ^ (7 * i) := by exact_mod_cast hn
  have hdiv : ((c * 2 ^ (7 * i) : Nat) : Int) % 2 ^ (7 * i) = 0 := by
    have e : ((c * 2 ^ (7 * i) : Nat) : Int) = (c : Int) * 2 ^ (7 * i) := by simp
    rw [e, Int.mul_emod_left]
  have h63 : ((c * 2 ^ (7 * i) : Nat) : Int) < 2 ^ 63 := by
    generalize c * 2 ^ (7 * i) = p at hmul
    omega
  have hn63 : (n : Int) < 2 ^ 63 := by omega
  rw [bits_join .i64 63 (by decide) wraps_i64 (7 * i) _ _ (Int.natCast_nonneg _) hdiv h63 (Int.natCast_nonneg _) h2 hn63]
  generalize c * 2 ^ (7 * i) = p
  omega
theorem clr_wrap (c : Nat) (h : c < 256) : wrap64 (Go.bits .andNot .u8 (c : Int) 128) = ((c % 128 : Nat) : Int) := by
  have e : Go.bits .andNot .u8 (c : Int) 128 = ((c % 128 : Nat) : Int) := u8_clr ⟨c, h⟩
  rw [e]
  clear e
  unfold wrap64
  omega
theorem wrap_succ (i : Nat) (h : i ≤ 1000) : wrap64 ((i : Int) + 1) = ((i + 1 : Nat) : Int) := by unfold wrap64; omega
theorem wrap_7 (i : Nat) (h : i ≤ 1000) : wrap64 (7 * (i : Int)) = ((7 * i : Nat) : Int) := by unfold wrap64; omega
theorem wrap_byte (c : Nat) (h : c < 256) : wrap64 (c : Int) = (c : Int) := by unfold wrap64; omega
theorem wrap_nat (c : Nat) (h : c ≤ 9223372036854775807) : wrap64 (c : Int) = (c : Int) := by unfold wrap64; omega
theorem getS_nine (n : Nat) (c : Int) (r : List Int) (h : 128 ≤ c) : getS 8 n (c :: r) = (0, 0, 4) := by unfold getS; rw [if_pos ⟨h, rfl⟩]
theorem getS_more (i n : Nat) (c : Int) (r : List Int) (h : 128 ≤ c) (hi : i ≠ 8) : getS i n (c :: r) = getS (i + 1) (n + (c.toNat - 128) * 128 ^ i) r := by
  rw [getS, if_neg (fun e => hi e.2), if_pos h]
theorem getS_end (i n : Nat) (c : Nat) (r : List Int) (h : c < 128) : getS i n ((c : Int) :: r) = if c = 0 ∧ 0 < i then (0, 0, 10) else if 4611686018427387903 < n + c * 128 ^ i then (0, 0, 4) else (((n + c * 128 ^ i : Nat) : Int), ((i + 1 : Nat) : Int), 0) := by
  have h1 : ¬ (128 : Int) ≤ (c : Int) := by omega
  unfold getS
  rw [if_neg (fun e => h1 e.1), if_neg h1, Int.toNat_natCast]
  by_cases h0 : c = 0 ∧ 0 < i
  · rw [if_pos h0, if_pos ⟨by have := h0.1; omega, h0.2⟩]
  · rw [if_neg h0, if_neg (fun e => h0 ⟨by have := e.1; omega, e.2⟩)]
theorem get_go (l : List Int) (hl : l.length ≤ 1000) (hb : ∀ x ∈ l, 0 ≤ x ∧ x ≤ 255) : ∀ (d i n k : Nat), l.length - i ≤ d → i ≤ l.length → i ≤ 8 → n < 128 ^ i → 3 * d + 3 < k →
    num_Get.l0 k (n : Int) l (l.length : Int) (i : Int) = some (getS i n (l.drop i)) := by
  intro d
  induction d with
  | zero =>
    intro i n k hd hi _ _ hk
    obtain ⟨k, rfl⟩ : ∃ m, k = m + 1 := ⟨k - 1, by omega⟩
    simp only [num_Get.l0]
    rw [if_neg (by omega), List.drop_of_length_le (by omega)]
    rfl
  | succ d ih =>
    intro i n k hd hi hi8 hn hk
    obtain ⟨k, rfl⟩ : ∃ m, k = m + 3 := ⟨k - 3, by omega⟩
    by_cases hlt : i < l.length
    · have hdr : l.drop i = l[i] :: l.drop (i + 1) := List.drop_eq_getElem_cons hlt
      obtain ⟨b0, b1⟩ := hb l[i] (List.getElem_mem hlt)
      have hrd : rd l (i : Int) = l[i] := by unfold rd; rw [Int.toNat_natCast, List.getD_eq_getElem?_getD, List.getElem?_eq_getElem hlt]; rfl
      rw [hdr]
      generalize l[i] = c at *
      obtain ⟨c, rfl⟩ := Int.eq_ofNat_of_zero_le b0
      have c1 : (i : Int) < (l.length : Int) := by omega
      have c2 : (0 : Int) ≤ (i : Int) := by omega
      have c3 : (0 : Int) ≤ ((7 * i : Nat) : Int) := by omega
      have hcm : c % 128 < 128 := Nat.mod_lt _ (by decide)
      have hc256 : c < 256 := by omega
      have hi1000 : i ≤ 1000 := by omega
      simp only [num_Get.l0]
      rw [if_pos c1, if_pos c2, if_pos c1, hrd, wrap_7 i hi1000, if_pos c3, clr_wrap c hc256, get_or n (c % 128) i hi8 hn hcm]
      clear hrd c1 c2 c3 hcm
      by_cases hc : 128 ≤ c
      · have hc' : (c : Int) ≥ 128 := by omega
        rw [if_pos hc']
        simp only [num_Get.j1]
        by_cases h8 : i = 8
        · subst h8
          rw [if_pos (by rfl), getS_nine _ _ _ hc']
        · have h8' : ¬ ((((i : Nat) : Int) == 8) = true) := by simp; omega
          have hmod : ((c : Nat) : Int).toNat - 128 = c % 128 := by omega
          have hn2 : n + (c % 128) * 128 ^ i < 128 ^ (i + 1) := by
            have : (c % 128) * 128 ^ i ≤ 127 * 128 ^ i := Nat.mul_le_mul_right _ (by omega)
            rw [Nat.pow_succ]; omega
          rw [if_neg h8', if_pos hc', wrap_succ i hi1000, getS_more i n _ _ hc' h8, hmod]
          exact ih (i + 1) _ (k + 1) (by omega) (by omega) (by omega) hn2 (by omega)
      · have hc' : ¬ (c : Int) ≥ 128 := by omega
        have hmod : c % 128 = c := by omega
        rw [if_neg hc', hmod, getS_end i n c _ (by omega)]
        simp only [num_Get.j1]
        rw [if_neg (show ¬ (false = true) by decide), if_neg hc']
        have fin : ∀ b : Bool, (b = true ↔ c = 0 ∧ 0 < i) → num_Get.j2 (k + 1) ((n + c * 128 ^ i : Nat) : Int) (i : Int) b = some (if c = 0 ∧ 0 < i then (0, 0, 10) else if 4611686018427387903 < n + c * 128 ^ i then (0, 0, 4) else (((n + c * 128 ^ i : Nat) : Int), ((i + 1 : Nat) : Int), 0)) := by
          intro b hb'
          simp only [num_Get.j2]
          rw [wrap_succ i hi1000]
          by_cases hbt : b = true
          · rw [if_pos hbt, if_pos (hb'.1 hbt)]
          · rw [if_neg hbt, if_neg (fun e => hbt (hb'.2 e))]
            by_cases h4 : 4611686018427387903 < n + c * 128 ^ i
            · rw [if_pos h4, if_pos (by omega)]
            · rw [if_neg h4, if_neg (by omega)]
        by_cases h0 : c = 0
        · rw [if_pos (show (c : Int) = 0 by omega)]
          exact fin _ (by simp; omega)
        · rw [if_neg (show ¬ (c : Int) = 0 by omega)]
          exact fin _ (by simp; omega)
    · simp only [num_Get.l0]
      rw [if_neg (by omega), List.drop_of_length_le (by omega)]
      rfl
theorem get_is (l : List Int) (hl : l.length ≤ 1000) (hb : ∀ x ∈ l, 0 ≤ x ∧ x ≤ 255) (k : Nat) (hk : 4000 ≤ k) : num_Get.f k l = some (getS 0 0 l) := by
  have := get_go l hl hb l.length 0 0 k (by omega) (by omega) (by omega) (by simp) (by omega)
  unfold num_Get.f
  simpa using this
theorem refget_go (l : List Int) (hl : l.length ≤ 1000) (hb : ∀ x ∈ l, 0 ≤ x ∧ x ≤ 255) : ∀ (d i n k : Nat), l.length - i ≤ d → i ≤ l.length → i ≤ 8 → n < 128 ^ i → 3 * d + 3 < k →
    chequerref02_Get.l0 k l (n : Int) ((128 ^ i : Nat) : Int) (i : Int) = some (getS i n (l.drop i)) := by
  intro d
  induction d with
  | zero =>
    intro i n k hd hi _ _ hk
    obtain ⟨k, rfl⟩ : ∃ m, k = m + 1 := ⟨k - 1, by omega⟩
    simp only [chequerref02_Get.l0]
    rw [if_neg (by omega), List.drop_of_length_le (by omega)]
    rfl
  | succ d ih =>
    intro i n k hd hi hi8 hn hk
    obtain ⟨k, rfl⟩ : ∃ m, k = m + 3 := ⟨k - 3, by omega⟩
    by_cases hlt : i < l.length
    · have hdr : l.drop i = l[i] :: l.drop (i + 1) := List.drop_eq_getElem_cons hlt
      obtain ⟨b0, b1⟩ := hb l[i] (List.getElem_mem hlt)
      have hrd : rd l (i : Int) = l[i] := by unfold rd; rw [Int.toNat_natCast, List.getD_eq_getElem?_getD, List.getElem?_eq_getElem hlt]; rfl
      rw [hdr]
      generalize l[i] = c at *
      obtain ⟨c, rfl⟩ := Int.eq_ofNat_of_zero_le b0
      have hi1000 : i ≤ 1000 := by omega
      have hc256 : c < 256 := by omega
      have ht : Int.tmod (c : Int) 128 = ((c % 128 : Nat) : Int) := by rw [Int.tmod_eq_emod_of_nonneg (by omega)]; omega
      simp only [chequerref02_Get.l0]
      rw [if_pos (by omega), if_pos (by omega), hrd, wrap_byte c hc256]
      have hi0 : (i : Int) < (l.length : Int) := by omega
      by_cases h8 : i = 8
      · subst h8
        rw [if_pos (show ((8 : Nat) : Int) = 8 by rfl)]
        simp only [chequerref02_Get.j1]
        by_cases hc : 128 ≤ c
        · rw [if_pos (by simpa using (by omega : (128 : Int) ≤ (c : Int))), getS_nine _ _ _ (by omega)]
        · rw [if_neg (by simpa using (by omega : (c : Int) < 128)), if_pos (show ((8 : Nat) : Int) = 8 by rfl), getS_end 8 n c _ (by omega)]
          have e : (128 : Nat) ^ 8 = 72057594037927936 := by decide
          rw [e] at hn ⊢
          by_cases h0 : c = 0
          · rw [if_pos (show (c : Int) = 0 by omega), if_pos ⟨h0, by decide⟩]
          · rw [if_neg (show ¬ (c : Int) = 0 by omega), if_neg (show ¬ (c = 0 ∧ 0 < 8) from fun x => h0 x.1)]
            by_cases h63 : c > 63
            · rw [if_pos (show (c : Int) > 63 by omega), if_pos (show 4611686018427387903 < n + c * 72057594037927936 by omega)]
            · rw [if_neg (show ¬ (c : Int) > 63 by omega), if_neg (show ¬ 4611686018427387903 < n + c * 72057594037927936 by omega)]
              rw [IntWalk.wrap64_in ((c : Int) * 72057594037927936) ⟨by omega, by omega⟩, IntWalk.wrap64_in ((n : Int) + (c : Int) * 72057594037927936) ⟨by omega, by omega⟩]
              rfl
      · rw [if_neg (show ¬ (i : Int) = 8 by omega)]
        simp only [chequerref02_Get.j1]
        have hp7 : 128 ^ i ≤ 562949953421312 := by
          have := Nat.pow_le_pow_right (n := 128) (by omega) (show i ≤ 7 by omega)
          exact this
        have hm7 : (c % 128) * 128 ^ i ≤ 127 * 562949953421312 := Nat.mul_le_mul (by omega) hp7
        have hm' : ((c % 128 : Nat) : Int) * ((128 ^ i : Nat) : Int) = (((c % 128) * 128 ^ i : Nat) : Int) := (Int.natCast_mul _ _).symm
        have e2 : (n : Int) + (((c % 128) * 128 ^ i : Nat) : Int) = ((n + (c % 128) * 128 ^ i : Nat) : Int) := (Int.natCast_add _ _).symm
        have e4 : ((128 ^ i : Nat) : Int) * 128 = ((128 ^ (i + 1) : Nat) : Int) := by rw [Nat.pow_succ, Int.natCast_mul]; rfl
        have b1' : (c % 128) * 128 ^ i ≤ 9223372036854775807 := by omega
        have b2' : n + (c % 128) * 128 ^ i ≤ 9223372036854775807 := by omega
        have b3' : 128 ^ (i + 1) ≤ 9223372036854775807 := by rw [Nat.pow_succ]; omega
        rw [if_neg (show ¬ (false = true) by decide), if_neg (show ¬ (i : Int) = 8 by omega), ht, hm', wrap_nat _ b1', e2, wrap_nat _ b2', wrap_succ i hi1000, e4, wrap_nat _ b3']
        clear hm' e2 e4 ht
        by_cases hc : c < 128
        · have hmod : c % 128 = c := by omega
          rw [if_pos (show (c : Int) < 128 by omega), hmod, getS_end i n c _ hc]
          rw [hmod] at hm7 b2'
          have hle4 : ¬ 4611686018427387903 < n + c * 128 ^ i := by omega
          by_cases h0 : c = 0
          · rw [if_pos (show (c : Int) = 0 by omega)]
            by_cases hi0 : 0 < i
            · rw [if_pos (show (i : Int) > 0 by omega), if_pos ⟨h0, hi0⟩]
            · rw [if_neg (show ¬ (i : Int) > 0 by omega), if_neg (fun x => hi0 x.2), if_neg hle4]
          · rw [if_neg (show ¬ (c : Int) = 0 by omega), if_neg (fun x => h0 x.1), if_neg hle4]
        · have hmod : ((c : Nat) : Int).toNat - 128 = c % 128 := by omega
          have hn2 : n + (c % 128) * 128 ^ i < 128 ^ (i + 1) := by
            have : (c % 128) * 128 ^ i ≤ 127 * 128 ^ i := Nat.mul_le_mul_right _ (by omega)
            rw [Nat.pow_succ]; omega
          rw [if_neg (show ¬ (c : Int) < 128 by omega), getS_more i n _ _ (by omega) h8, hmod]
          exact ih (i + 1) _ (k + 1) (by omega) (by omega) (by omega) hn2 (by omega)
    · simp only [chequerref02_Get.l0]
      rw [if_neg (by omega), List.drop_of_length_le (by omega)]
      rfl
theorem refget_is (l : List Int) (hl : l.length ≤ 1000) (hb : ∀ x ∈ l, 0 ≤ x ∧ x ≤ 255) (k : Nat) (hk : 4000 ≤ k) : chequerref02_Get.f k l = some (getS 0 0 l) := by
  have := refget_go l hl hb l.length 0 0 k (by omega) (by omega) (by omega) (by simp) (by omega)
  unfold chequerref02_Get.f
  simpa using this
/-- A number's bytes, whatever is behind, are got as it was. -/
theorem getS_put : ∀ (u i n : Nat) (r : List Int), i + (num_putL u).length ≤ 9 → (0 < i → 0 < u) → n + u * 128 ^ i ≤ 4611686018427387903 →
    getS i n (num_putL u ++ r) = (((n + u * 128 ^ i : Nat) : Int), ((i + (num_putL u).length : Nat) : Int), 0) := by
  intro u
  induction u using Nat.strongRecOn with
  | _ u ih =>
    intro i n r hl h0 hle
    by_cases hs : u < 128
    · rw [putL_small u hs]
      show getS i n ((u : Int) :: r) = _
      rw [getS_end i n u r hs, if_neg (fun e => by have := h0 e.2; omega), if_neg (by omega)]
      rfl
    · rw [putL_big u hs] at hl ⊢
      rw [List.length_cons] at hl
      have hp : 0 < (num_putL (u / 128)).length := by
        by_cases h : u / 128 < 128
        · rw [putL_small _ h]; simp
        · rw [putL_big _ h]; simp
      show getS i n (((u % 128 + 128 : Nat) : Int) :: (num_putL (u / 128) ++ r)) = _
      rw [getS_more i n _ _ (by omega) (by omega)]
      have e : ((u % 128 + 128 : Nat) : Int).toNat - 128 = u % 128 := by omega
      have e2 : n + u % 128 * 128 ^ i + u / 128 * 128 ^ (i + 1) = n + u * 128 ^ i := by
        have h1 : u * 128 ^ i = (128 * (u / 128) + u % 128) * 128 ^ i := by rw [Nat.div_add_mod]
        have h2 : u / 128 * 128 ^ (i + 1) = 128 * (u / 128) * 128 ^ i := by
          rw [Nat.pow_succ, Nat.mul_comm (128 ^ i) 128, ← Nat.mul_assoc, Nat.mul_comm (u / 128) 128]
        rw [h1, h2, Nat.add_mul, Nat.add_assoc, Nat.add_comm (u % 128 * 128 ^ i)]
      rw [e, ih (u / 128) (by omega) (i + 1) _ r (by omega) (fun _ => by omega) (by rw [e2]; exact hle), e2]
      rw [List.length_cons, show i + 1 + (num_putL (u / 128)).length = i + ((num_putL (u / 128)).length + 1) by omega]
/-- Bytes that all have more behind them: too short. -/
theorem getS_short : ∀ (l : List Int) (i n : Nat), (∀ x ∈ l, 128 ≤ x) → i + l.length ≤ 8 → getS i n l = (0, 0, 6) := by
  intro l
  induction l with
  | nil => intro i n _ _; rfl
  | cons c r ih =>
    intro i n h hl
    have hc := h c (by simp)
    rw [List.length_cons] at hl
    rw [getS_more i n c r hc (by omega)]
    exact ih (i + 1) _ (fun x hx => h x (by simp [hx])) (by omega)
end Go.Proofs.Ytkkcjhnhbddooaa.Q
