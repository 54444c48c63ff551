/- A row's bytes: both texts answer the same. -/
import Derived.Test.YtdjjipinmcmfeaaQ3
import Derived.Test.YtdjjipinmcmfeaaQ4
namespace Go.Proofs.Ytdjjipinmcmfeaa.Q
open Go.RowKit Go.Proofs.YtdjjipinmcmfeaaW.PrintWords Go.Proofs.YtdjjipinmcmfeaaW.PrintLast Go.Proofs.Ytdjjipinmcmfeaa.Bt
set_option linter.unusedVariables false
theorem bytes_is (a : Int) (h0 : -9223372036854775808 ≤ a) (h1 : a ≤ 9223372036854775807) : bits_Bytes.f a = some (if a < 1 ∨ 4096 < a then 0 else (a + 7) / 8) := by
  unfold bits_Bytes.f bits_sized.f
  by_cases c1 : a ≥ 1
  · rw [if_pos c1, Option.bind_some]
    by_cases c2 : a ≤ 4096
    · rw [decide_eq_true c2, if_pos rfl, if_neg (by omega)]
      have e : wrap64 (wrap64 (a + 8) - 1) = a + 7 := by unfold wrap64; omega
      rw [e, Int.tdiv_eq_ediv_of_nonneg (by omega)]
      congr 1
      unfold wrap64
      omega
    · rw [decide_eq_false c2, if_neg (by decide), if_pos (by omega)]
  · rw [if_neg c1, Option.bind_some, if_neg (by decide), if_pos (by omega)]
/-- Byte j of a row's bytes, of the pixels' numbers. -/
def byteP (l : List Int) (j : Nat) : Int :=
  l.getD (8 * j) 0 * 128 + l.getD (8 * j + 1) 0 * 64 + l.getD (8 * j + 2) 0 * 32 + l.getD (8 * j + 3) 0 * 16 + l.getD (8 * j + 4) 0 * 8 + l.getD (8 * j + 5) 0 * 4 + l.getD (8 * j + 6) 0 * 2 + l.getD (8 * j + 7) 0
def packL (l : List Int) : List Int := (List.range ((l.length + 7) / 8)).map fun j => byteP l j
def only01 (l : List Int) : Prop := ∀ x ∈ l, x = 0 ∨ x = 1
instance (l : List Int) : Decidable (only01 l) := by unfold only01; infer_instance
def packS (l : List Int) : List Int × Int := if l.length < 1 ∨ 4096 < l.length then ([], 1) else if only01 l then (packL l, 0) else ([], 1)
theorem only01_get {l : List Int} (h : only01 l) (i : Nat) : l.getD i 0 = 0 ∨ l.getD i 0 = 1 := by
  rw [List.getD_eq_getElem?_getD]
  cases e : l[i]? with
  | none => exact .inl rfl
  | some x => exact h x (List.mem_of_getElem? e)
theorem byteP_range {l : List Int} (h : only01 l) (j : Nat) : 0 ≤ byteP l j ∧ byteP l j ≤ 255 := by
  unfold byteP
  have h0 := only01_get h (8 * j)
  have h1 := only01_get h (8 * j + 1)
  have h2 := only01_get h (8 * j + 2)
  have h3 := only01_get h (8 * j + 3)
  have h4 := only01_get h (8 * j + 4)
  have h5 := only01_get h (8 * j + 5)
  have h6 := only01_get h (8 * j + 6)
  have h7 := only01_get h (8 * j + 7)
  generalize l.getD (8 * j) 0 = y0 at *
  generalize l.getD (8 * j + 1) 0 = y1 at *
  generalize l.getD (8 * j + 2) 0 = y2 at *
  generalize l.getD (8 * j + 3) 0 = y3 at *
  generalize l.getD (8 * j + 4) 0 = y4 at *
  generalize l.getD (8 * j + 5) 0 = y5 at *
  generalize l.getD (8 * j + 6) 0 = y6 at *
  generalize l.getD (8 * j + 7) 0 = y7 at *
  omega
theorem getD_take (l : List Int) (i m : Nat) : (l.take i).getD m 0 = if m < i then l.getD m 0 else 0 := by
  rw [List.getD_eq_getElem?_getD, List.getD_eq_getElem?_getD, List.getElem?_take]
  split <;> rfl
theorem byteP_same (l : List Int) (q r : Nat) (hr : r < 8) : byteP (l.take (8 * q + r + 1)) q = byteP (l.take (8 * q + r)) q + l.getD (8 * q + r) 0 * 2 ^ (7 - r) := by
  have e : ∀ t, (l.take (8 * q + r + 1)).getD (8 * q + t) 0 = (l.take (8 * q + r)).getD (8 * q + t) 0 + (if t = r then l.getD (8 * q + r) 0 else 0) := by
    intro t
    rw [getD_take, getD_take]
    by_cases h : t = r
    · subst h
      rw [if_pos rfl, if_pos (by omega), if_neg (by omega)]
      omega
    · rw [if_neg h]
      by_cases h2 : t < r
      · rw [if_pos (by omega), if_pos (by omega)]
        omega
      · rw [if_neg (by omega), if_neg (by omega)]
        omega
  have e0 : (l.take (8 * q + r + 1)).getD (8 * q) 0 = (l.take (8 * q + r)).getD (8 * q) 0 + (if 0 = r then l.getD (8 * q + r) 0 else 0) := e 0
  unfold byteP
  rw [e0, e 1, e 2, e 3, e 4, e 5, e 6, e 7]
  clear e e0
  generalize (l.take (8 * q + r)).getD (8 * q) 0 = y0
  generalize (l.take (8 * q + r)).getD (8 * q + 1) 0 = y1
  generalize (l.take (8 * q + r)).getD (8 * q + 2) 0 = y2
  generalize (l.take (8 * q + r)).getD (8 * q + 3) 0 = y3
  generalize (l.take (8 * q + r)).getD (8 * q + 4) 0 = y4
  generalize (l.take (8 * q + r)).getD (8 * q + 5) 0 = y5
  generalize (l.take (8 * q + r)).getD (8 * q + 6) 0 = y6
  generalize (l.take (8 * q + r)).getD (8 * q + 7) 0 = y7
  generalize l.getD (8 * q + r) 0 = x
  rcases (show r = 0 ∨ r = 1 ∨ r = 2 ∨ r = 3 ∨ r = 4 ∨ r = 5 ∨ r = 6 ∨ r = 7 by omega) with rfl | rfl | rfl | rfl | rfl | rfl | rfl | rfl <;> simp <;> omega
theorem byteP_other (l : List Int) (i j : Nat) (h : j ≠ i / 8) : byteP (l.take (i + 1)) j = byteP (l.take i) j := by
  have e : ∀ t, t < 8 → (l.take (i + 1)).getD (8 * j + t) 0 = (l.take i).getD (8 * j + t) 0 := by
    intro t ht
    rw [getD_take, getD_take]
    by_cases hlt : 8 * j + t < i
    · rw [if_pos hlt, if_pos (by omega)]
    · rw [if_neg hlt, if_neg (by omega)]
  have e0 : (l.take (i + 1)).getD (8 * j) 0 = (l.take i).getD (8 * j) 0 := e 0 (by omega)
  unfold byteP
  rw [e0, e 1 (by omega), e 2 (by omega), e 3 (by omega), e 4 (by omega), e 5 (by omega), e 6 (by omega), e 7 (by omega)]
set_option maxRecDepth 100000 in
theorem or_u8_0 : ∀ x : Fin 256, Go.bits .or .u8 ((x.val : Nat) : Int) 0 = ((x.val : Nat) : Int) := by decide
set_option maxRecDepth 100000 in
theorem or_u8_r : ∀ (r : Fin 8) (y : Fin (2 ^ r.val)), Go.bits .or .u8 ((y.val * 2 ^ (8 - r.val) : Nat) : Int) ((2 ^ (7 - r.val) : Nat) : Int) = ((y.val * 2 ^ (8 - r.val) + 2 ^ (7 - r.val) : Nat) : Int) := by decide
theorem shl_1 : ∀ r : Fin 8, (shl .i64 1 ((7 - r.val : Nat) : Int)) % 256 = ((2 ^ (7 - r.val) : Nat) : Int) := by decide
theorem shl_0 : ∀ r : Fin 8, (shl .i64 0 ((7 - r.val : Nat) : Int)) % 256 = 0 := by decide
theorem byteP_mul (l : List Int) (h : only01 l) (q r : Nat) (hr : r < 8) : ∃ y : Nat, y < 2 ^ r ∧ byteP (l.take (8 * q + r)) q = ((y * 2 ^ (8 - r) : Nat) : Int) := by
  have h0 := only01_get h (8 * q)
  have h1 := only01_get h (8 * q + 1)
  have h2 := only01_get h (8 * q + 2)
  have h3 := only01_get h (8 * q + 3)
  have h4 := only01_get h (8 * q + 4)
  have h5 := only01_get h (8 * q + 5)
  have h6 := only01_get h (8 * q + 6)
  unfold byteP
  simp only [getD_take]
  generalize l.getD (8 * q) 0 = y0 at *
  generalize l.getD (8 * q + 1) 0 = y1 at *
  generalize l.getD (8 * q + 2) 0 = y2 at *
  generalize l.getD (8 * q + 3) 0 = y3 at *
  generalize l.getD (8 * q + 4) 0 = y4 at *
  generalize l.getD (8 * q + 5) 0 = y5 at *
  generalize l.getD (8 * q + 6) 0 = y6 at *
  rcases (show r = 0 ∨ r = 1 ∨ r = 2 ∨ r = 3 ∨ r = 4 ∨ r = 5 ∨ r = 6 ∨ r = 7 by omega) with rfl | rfl | rfl | rfl | rfl | rfl | rfl | rfl
  · exact ⟨0, by decide, by simp [show ∀ t, ¬ (8 * q + t < 8 * q) from fun t => by omega]⟩
  · exact ⟨y0.toNat, by omega, by simp; omega⟩
  · exact ⟨(y0 * 2 + y1).toNat, by omega, by simp; omega⟩
  · exact ⟨(y0 * 4 + y1 * 2 + y2).toNat, by omega, by simp; omega⟩
  · exact ⟨(y0 * 8 + y1 * 4 + y2 * 2 + y3).toNat, by omega, by simp; omega⟩
  · exact ⟨(y0 * 16 + y1 * 8 + y2 * 4 + y3 * 2 + y4).toNat, by omega, by simp; omega⟩
  · exact ⟨(y0 * 32 + y1 * 16 + y2 * 8 + y3 * 4 + y4 * 2 + y5).toNat, by omega, by simp; omega⟩
  · exact ⟨(y0 * 64 + y1 * 32 + y2 * 16 + y3 * 8 + y4 * 4 + y5 * 2 + y6).toNat, by omega, by simp; omega⟩
/-- The bytes behind i pixels. -/
def stP (l : List Int) (B i : Nat) : List Int := (List.range B).map fun j => byteP (l.take i) j
theorem stP_len (l : List Int) (B i : Nat) : (stP l B i).length = B := by simp [stP]
theorem stP_get (l : List Int) (B i j : Nat) (h : j < B) : (stP l B i).getD j 0 = byteP (l.take i) j := by
  unfold stP
  rw [List.getD_eq_getElem?_getD, List.getElem?_map, List.getElem?_range h]
  rfl
theorem stP_set (l : List Int) (B i : Nat) (v : Int) (h : i / 8 < B) (hv : v = byteP (l.take (i + 1)) (i / 8)) : (stP l B i).set (i / 8) v = stP l B (i + 1) := by
  apply List.ext_getElem?
  intro m
  rw [List.getElem?_set, stP_len]
  by_cases hm : i / 8 = m
  · subst hm
    rw [if_pos rfl, if_pos h]
    unfold stP
    rw [List.getElem?_map, List.getElem?_range h, hv]
    rfl
  · rw [if_neg hm]
    unfold stP
    by_cases hmB : m < B
    · rw [List.getElem?_map, List.getElem?_map, List.getElem?_range hmB]
      show some (byteP (l.take i) m) = some (byteP (l.take (i + 1)) m)
      rw [byteP_other l i m (fun e => hm e.symm)]
    · rw [List.getElem?_eq_none (by simp; omega), List.getElem?_eq_none (by simp; omega)]
theorem only01_take {l : List Int} (h : only01 l) (i : Nat) : only01 (l.take i) := fun x hx => h x (List.mem_of_mem_take hx)
theorem byteP_full (l : List Int) (i : Nat) (j : Nat) (h : l.length ≤ i) : byteP (l.take i) j = byteP l j := by rw [List.take_of_length_le h]
theorem stP_nil (l : List Int) (B : Nat) : stP l B 0 = List.replicate B 0 := by
  apply List.ext_getElem?
  intro m
  unfold stP
  rw [List.getElem?_map, List.getElem?_replicate]
  by_cases h : m < B
  · rw [List.getElem?_range h, if_pos h]
    rfl
  · rw [if_neg h, List.getElem?_eq_none (by simp; omega)]
    rfl
theorem only01_split (l : List Int) (i : Nat) (h : i < l.length) (ho : only01 (l.take i)) : (l.getD i 0 = 0 ∨ l.getD i 0 = 1) ↔ only01 (l.take (i + 1)) := by
  have e : l.take (i + 1) = l.take i ++ [l.getD i 0] := by
    rw [List.take_add_one, List.getElem?_eq_getElem h, List.getD_eq_getElem?_getD, List.getElem?_eq_getElem h]
    rfl
  rw [e]
  constructor
  · intro hx x hm
    rcases List.mem_append.1 hm with h1 | h1
    · exact ho x h1
    · rw [List.mem_singleton.1 h1]; exact hx
  · intro hx
    exact hx _ (List.mem_append.2 (.inr (List.mem_singleton.2 rfl)))
theorem pack_step (l : List Int) (i : Nat) (h : only01 (l.take (i + 1))) (hi : i < l.length) : Go.bits .or .u8 (byteP (l.take i) (i / 8)) ((shl .i64 (l.getD i 0) ((7 - i % 8 : Nat) : Int)) % 256) = byteP (l.take (i + 1)) (i / 8) := by
  have hr : i % 8 < 8 := Nat.mod_lt _ (by decide)
  have hiq : i = 8 * (i / 8) + i % 8 := by omega
  have hm : ∃ y : Nat, y < 2 ^ (i % 8) ∧ byteP (l.take i) (i / 8) = ((y * 2 ^ (8 - i % 8) : Nat) : Int) := by
    have := byteP_mul (l.take (i + 1)) h (i / 8) (i % 8) hr
    rw [← hiq, List.take_take, Nat.min_eq_left (by omega)] at this
    exact this
  obtain ⟨y, hy, hy2⟩ := hm
  have hs := byteP_same l (i / 8) (i % 8) hr
  rw [← hiq] at hs
  rw [hs, hy2]
  have hx : l.getD i 0 = 0 ∨ l.getD i 0 = 1 := by
    have := only01_get h i
    rw [getD_take, if_pos (by omega)] at this
    exact this
  rcases hx with e | e
  · rw [e, shl_0 ⟨i % 8, hr⟩, Int.zero_mul, Int.add_zero]
    have hlt : y * 2 ^ (8 - i % 8) < 256 := by
      have : y * 2 ^ (8 - i % 8) < 2 ^ (i % 8) * 2 ^ (8 - i % 8) := Nat.mul_lt_mul_of_pos_right hy (Nat.pow_pos (by decide))
      rw [← Nat.pow_add, show i % 8 + (8 - i % 8) = 8 by omega] at this
      exact this
    exact or_u8_0 ⟨_, hlt⟩
  · rw [e, shl_1 ⟨i % 8, hr⟩, Int.one_mul]
    have := or_u8_r ⟨i % 8, hr⟩ ⟨y, hy⟩
    rw [this]
    push_cast
    rfl
theorem wz_succ (i : Nat) (h : i ≤ 100000) : wrap64 ((i : Int) + 1) = ((i + 1 : Nat) : Int) := by unfold wrap64; omega
theorem wz_tdiv8 (i : Nat) (h : i ≤ 100000) : wrap64 (Int.tdiv (i : Int) 8) = ((i / 8 : Nat) : Int) := by rw [Int.tdiv_eq_ediv_of_nonneg (by omega)]; unfold wrap64; omega
theorem wz_tmod8 (i : Nat) : Int.tmod (i : Int) 8 = ((i % 8 : Nat) : Int) := by rw [Int.tmod_eq_emod_of_nonneg (by omega)]; rfl
theorem wz_7 (r : Nat) (h : r < 8) : wrap64 (7 - (r : Int)) = ((7 - r : Nat) : Int) := by unfold wrap64; omega
theorem wz_8 (j : Nat) (h : j ≤ 100000) : wrap64 (((8 * j : Nat) : Int) + 8) = ((8 * (j + 1) : Nat) : Int) := by unfold wrap64; omega
theorem wz_dbl (v y : Int) (h0 : 0 ≤ v) (h1 : v < 256) (hy : y = 0 ∨ y = 1) : wrap64 (wrap64 (v * 2) + y) = v * 2 + y := by unfold wrap64; omega
theorem wz_dbl1 (v : Int) (h0 : 0 ≤ v) (h1 : v < 256) : wrap64 (v * 2) = v * 2 := by unfold wrap64; omega
theorem pack_go (l : List Int) (hl : l.length ≤ 4096) : ∀ (d i k : Nat), l.length - i ≤ d → i ≤ l.length → only01 (l.take i) → d < k →
    bits_Pack.l0 k (stP l ((l.length + 7) / 8) i) l (l.length : Int) (i : Int) = some (if only01 l then (packL l, 0) else ([], 1)) := by
  intro d
  induction d with
  | zero =>
    intro i k hd hi ho hk
    obtain ⟨k, rfl⟩ : ∃ m, k = m + 1 := ⟨k - 1, by omega⟩
    have e : i = l.length := by omega
    subst e
    rw [List.take_length] at ho
    rw [bits_Pack.l0, if_neg (by omega), if_pos ho]
    have : stP l ((l.length + 7) / 8) l.length = packL l := by unfold stP packL; rw [List.take_length]
    rw [this]
  | succ d ih =>
    intro i k hd hi ho hk
    obtain ⟨k, rfl⟩ : ∃ m, k = m + 1 := ⟨k - 1, by omega⟩
    by_cases hlt : i < l.length
    · have hi2 : i ≤ 100000 := by omega
      have hi3 : i % 8 < 8 := Nat.mod_lt _ (by decide)
      have hq : i / 8 < (l.length + 7) / 8 := by omega
      have hsp := only01_split l i hlt ho
      have c1 : (i : Int) < (l.length : Int) := by omega
      have c2 : (0 : Int) ≤ (i : Int) := by omega
      have c3 : (0 : Int) ≤ ((i / 8 : Nat) : Int) := by omega
      have c4 : ((i / 8 : Nat) : Int) < ((stP l ((l.length + 7) / 8) i).length : Int) := by rw [stP_len]; omega
      have c5 : (0 : Int) ≤ ((7 - i % 8 : Nat) : Int) := by omega
      have hrs : rd (stP l ((l.length + 7) / 8) i) ((i / 8 : Nat) : Int) = byteP (l.take i) (i / 8) := by
        unfold rd
        rw [Int.toNat_natCast]
        exact stP_get l _ i _ hq
      have key : (l.getD i 0 = 0 ∨ l.getD i 0 = 1) → bits_Pack.l0 k ((stP l ((l.length + 7) / 8) i).set (i / 8) (Go.bits .or .u8 (byteP (l.take i) (i / 8)) ((shl .i64 (l.getD i 0) ((7 - i % 8 : Nat) : Int)) % 256))) l (l.length : Int) ((i + 1 : Nat) : Int) = some (if only01 l then (packL l, 0) else ([], 1)) := by
        intro hx
        rw [stP_set l _ i _ hq (pack_step l i (hsp.1 hx) hlt)]
        exact ih (i + 1) k (by omega) (by omega) (hsp.1 hx) (by omega)
      have hrd : rd l (i : Int) = l.getD i 0 := by unfold rd; rw [Int.toNat_natCast]
      rw [bits_Pack.l0, hrd, wz_tmod8 i, wz_tdiv8 i hi2, wz_7 _ hi3, wz_succ i hi2, hrs, Int.toNat_natCast, if_pos c1, if_pos c2, if_pos c1, if_pos c3, if_pos c4, if_pos c5]
      by_cases h0 : l.getD i 0 = 0
      · rw [if_pos h0]
        exact key (.inl h0)
      · rw [if_neg h0]
        by_cases h1 : l.getD i 0 = 1
        · rw [if_pos h1]
          exact key (.inr h1)
        · rw [if_neg h1]
          have : ¬ only01 l := fun h => by
            rcases only01_get h i with e | e
            · exact h0 e
            · exact h1 e
          rw [if_neg this]
    · exact ih i (k + 1) (by omega) hi ho (by omega)
theorem pack_is (l : List Int) (hl : l.length ≤ 9223372036854775807) (k : Nat) (hk : 5000 ≤ k) : bits_Pack.f k l = some (packS l) := by
  unfold bits_Pack.f packS
  have hs : bits_sized.f (l.length : Int) = some (decide (1 ≤ l.length ∧ l.length ≤ 4096)) := by
    unfold bits_sized.f
    by_cases h : (l.length : Int) ≥ 1
    · rw [if_pos h]
      congr 1
      apply decide_eq_decide.2
      omega
    · rw [if_neg h]
      congr 1
      rw [decide_eq_false (by omega)]
  rw [hs, Option.bind_some]
  by_cases h : l.length < 1 ∨ 4096 < l.length
  · rw [if_pos h, decide_eq_false (by omega), if_neg (by decide)]
  · rw [if_neg h, decide_eq_true (by omega), if_pos rfl, bytes_is _ (by omega) (by omega), Option.bind_some, if_neg (show ¬ ((l.length : Int) < 1 ∨ 4096 < (l.length : Int)) by omega)]
    have e : ((l.length : Int) + 7) / 8 = (((l.length + 7) / 8 : Nat) : Int) := by omega
    rw [e, Int.toNat_natCast, if_pos (by omega), if_pos (by omega), ← stP_nil l]
    have := pack_go l (by omega) l.length 0 k (by omega) (by omega) (fun x hx => by simp at hx) (by omega)
    rw [show ((0 : Nat) : Int) = 0 from rfl] at this
    rw [this]
/-- What the document's text has collected behind t of eight pixels. -/
def pvP (l : List Int) (j : Nat) : Nat → Int
  | 0 => 0
  | t + 1 => pvP l j t * 2 + l.getD (8 * j + t) 0
theorem pvP_8 (l : List Int) (j : Nat) : pvP l j 8 = byteP l j := by
  simp only [pvP, byteP, Nat.add_zero]
  omega
theorem pvP_range (l : List Int) (j : Nat) : ∀ t, t ≤ 8 → (∀ i, i < 8 * j + t → l.getD i 0 = 0 ∨ l.getD i 0 = 1) → 0 ≤ pvP l j t ∧ pvP l j t < 2 ^ t := by
  intro t
  induction t with
  | zero => intro _ _; simp [pvP]
  | succ t ih =>
    intro ht h
    obtain ⟨a, b⟩ := ih (by omega) (fun i hi => h i (by omega))
    have hx := h (8 * j + t) (by omega)
    have e : (2 : Int) ^ (t + 1) = 2 ^ t * 2 := Int.pow_succ 2 t
    rw [e]
    simp only [pvP]
    generalize (2 : Int) ^ t = p at *
    omega
theorem getD_out (l : List Int) (i : Nat) (h : l.length ≤ i) : l.getD i 0 = 0 := by
  rw [List.getD_eq_getElem?_getD, List.getElem?_eq_none h]
  rfl
theorem refpack_l1 (l : List Int) (hl : l.length ≤ 4096) (j : Nat) (hj : j ≤ 600) (x4 : List Int) (hx4 : x4.length ≤ 1000) (R : List Int × Int) (K : Nat) (hbad : ¬ only01 l → R = ([], 1))
    (hnext : (∀ i, i < 8 * j + 8 → l.getD i 0 = 0 ∨ l.getD i 0 = 1) → ∀ k, K ≤ k → chequerref07_Pack.l0 k l (x4 ++ [byteP l j]) ((8 * (j + 1) : Nat) : Int) = some R) :
    ∀ (d t k : Nat), 8 - t = d → t ≤ 8 → (∀ i, i < 8 * j + t → l.getD i 0 = 0 ∨ l.getD i 0 = 1) → K + d < k → chequerref07_Pack.l1 k l x4 ((8 * j : Nat) : Int) (pvP l j t) ((8 * j + t : Nat) : Int) = some R := by
  intro d
  induction d with
  | zero =>
    intro t k hd ht h hk
    obtain rfl : t = 8 := by omega
    obtain ⟨k, rfl⟩ : ∃ m, k = m + 1 := ⟨k - 1, by omega⟩
    obtain ⟨a, b⟩ := pvP_range l j 8 (by omega) h
    have hm : pvP l j 8 % 256 = byteP l j := by
      rw [← pvP_8]
      exact Int.emod_eq_of_lt a (by simpa using b)
    have c1 : ¬ ((8 * j + 8 : Nat) : Int) < ((8 * (j + 1) : Nat) : Int) := by omega
    have c2 : x4.length < 140737488355328 := by omega
    have hk' : K ≤ k := by omega
    rw [chequerref07_Pack.l1, wz_8 j (by omega), hm, if_neg c1, if_pos c2]
    exact hnext h k hk'
  | succ d ih =>
    intro t k hd ht h hk
    obtain ⟨k, rfl⟩ : ∃ m, k = m + 1 := ⟨k - 1, by omega⟩
    obtain ⟨a, b⟩ := pvP_range l j t (by omega) h
    have hb : (2 : Int) ^ t ≤ 256 := by
      rcases (show t = 0 ∨ t = 1 ∨ t = 2 ∨ t = 3 ∨ t = 4 ∨ t = 5 ∨ t = 6 ∨ t = 7 by omega) with rfl | rfl | rfl | rfl | rfl | rfl | rfl | rfl <;> decide
    have hv : pvP l j t < 256 := Int.lt_of_lt_of_le b hb
    clear hb b
    have c1 : ((8 * j + t : Nat) : Int) < ((8 * (j + 1) : Nat) : Int) := by omega
    have c2 : (0 : Int) ≤ ((8 * j + t : Nat) : Int) := by omega
    have hd' : 8 - (t + 1) = d := by omega
    have ht' : t + 1 ≤ 8 := by omega
    have hk' : K + d < k := by omega
    have step : ∀ y, l.getD (8 * j + t) 0 = y → (y = 0 ∨ y = 1) → chequerref07_Pack.l1 k l x4 ((8 * j : Nat) : Int) (pvP l j t * 2 + y) ((8 * j + (t + 1) : Nat) : Int) = some R := by
      intro y hy hy2
      have : pvP l j t * 2 + y = pvP l j (t + 1) := by simp only [pvP]; rw [hy]
      rw [this]
      refine ih (t + 1) k hd' ht' (fun i hi => ?_) hk'
      by_cases e : i = 8 * j + t
      · rw [e, hy]; exact hy2
      · exact h i (by omega)
    have hlast : ¬ ((8 * j + t : Nat) : Int) < (l.length : Int) → l.getD (8 * j + t) 0 = 0 := fun h => getD_out l _ (by clear step ih; omega)
    have hj1 : j ≤ 100000 := by omega
    have hj2 : 8 * j + t ≤ 100000 := by omega
    have ws := wz_succ (8 * j + t) hj2
    have hrd : rd l ((8 * j + t : Nat) : Int) = l.getD (8 * j + t) 0 := by unfold rd; rw [Int.toNat_natCast]
    rw [chequerref07_Pack.l1, wz_8 j hj1, ws, hrd, if_pos c1]
    clear ws hrd
    by_cases hlen : ((8 * j + t : Nat) : Int) < (l.length : Int)
    · rw [if_pos hlen, if_pos c2]
      by_cases h0 : l.getD (8 * j + t) 0 = 0
      · rw [if_pos h0, wz_dbl _ _ a hv (.inl h0)]
        exact step _ rfl (.inl h0)
      · rw [if_neg h0]
        by_cases h1 : l.getD (8 * j + t) 0 = 1
        · rw [if_pos h1, wz_dbl _ _ a hv (.inr h1)]
          exact step _ rfl (.inr h1)
        · rw [if_neg h1, hbad (fun ho => by
            rcases only01_get ho (8 * j + t) with e | e
            · exact h0 e
            · exact h1 e)]
    · rw [if_neg hlen, wz_dbl1 _ a hv]
      have := step 0 (hlast hlen) (.inl rfl)
      rw [Int.add_zero] at this
      exact this
theorem refpack_l0 (l : List Int) (hl : l.length ≤ 4096) (R : List Int × Int) (hR : R = if only01 l then (packL l, 0) else ([], 1)) : ∀ (d j k : Nat), (l.length + 7) / 8 - j = d → j ≤ (l.length + 7) / 8 → (∀ i, i < 8 * j → l.getD i 0 = 0 ∨ l.getD i 0 = 1) → 20 * d + 2 < k →
    chequerref07_Pack.l0 k l ((List.range j).map fun j => byteP l j) ((8 * j : Nat) : Int) = some R := by
  intro d
  induction d with
  | zero =>
    intro j k hd hj h hk
    obtain ⟨k, rfl⟩ : ∃ m, k = m + 1 := ⟨k - 1, by omega⟩
    have e : j = (l.length + 7) / 8 := by omega
    subst e
    have ho : only01 l := by
      intro x hx
      obtain ⟨i, hi, rfl⟩ := List.getElem_of_mem hx
      have := h i (by omega)
      rw [List.getD_eq_getElem?_getD, List.getElem?_eq_getElem hi] at this
      exact this
    rw [chequerref07_Pack.l0, if_neg (by omega), hR, if_pos ho]
    rfl
  | succ d ih =>
    intro j k hd hj h hk
    obtain ⟨k, rfl⟩ : ∃ m, k = m + 1 := ⟨k - 1, by omega⟩
    rw [chequerref07_Pack.l0, if_pos (by omega)]
    have := refpack_l1 l hl j (by omega) ((List.range j).map fun j => byteP l j) (by simp; omega) R (20 * d + 3) (fun hb => by rw [hR, if_neg hb]) (fun h8 k' hk' => by
      have e := ih (j + 1) k' (by omega) (by omega) (fun i hi => h8 i (by omega)) (by omega)
      rw [List.range_succ, List.map_append] at e
      exact e) 8 0 k (by omega) (by omega) (fun i hi => h i (by omega)) (by omega)
    exact this
theorem refpack_is (l : List Int) (k : Nat) (hk : 20000 ≤ k) : chequerref07_Pack.f k l = some (packS l) := by
  unfold chequerref07_Pack.f packS
  obtain ⟨k, rfl⟩ : ∃ m, k = m + 1 := ⟨k - 1, by omega⟩
  by_cases h : l.length < 1 ∨ 4096 < l.length
  · rw [if_pos h]
    by_cases h1 : (l.length : Int) < 1
    · rw [if_pos h1, chequerref07_Pack.j0, if_pos rfl]
    · rw [if_neg h1, decide_eq_true (by omega), chequerref07_Pack.j0, if_pos rfl]
  · rw [if_neg h, if_neg (by omega), decide_eq_false (by omega), chequerref07_Pack.j0, if_neg (by decide)]
    have := refpack_l0 l (by omega) _ rfl ((l.length + 7) / 8) 0 k (by omega) (by omega) (fun i hi => by omega) (by omega)
    exact this.trans (by split <;> rfl)
end Go.Proofs.Ytdjjipinmcmfeaa.Q
