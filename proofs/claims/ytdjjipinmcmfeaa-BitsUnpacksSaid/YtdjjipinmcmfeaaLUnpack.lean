/- A row's pixels, of its bytes; and back. -/
import Derived.Test.YtdjjipinmcmfeaaIbits_Unpack
import Derived.Test.YtdjjipinmcmfeaaLBits
import Derived.Test.YtdjjipinmcmfeaaLPack
namespace Go.Proofs.Ytdjjipinmcmfeaa.Q
open Go.RowKit Go.Proofs.YtdjjipinmcmfeaaW.PrintWords Go.Proofs.YtdjjipinmcmfeaaW.PrintLast Go.Proofs.Ytdjjipinmcmfeaa.Bt
set_option linter.unusedVariables false
theorem bytesOK_okU {l : List Int} (h : bytesOK l) : bits_okU l = true := by
  unfold bits_okU
  rw [List.all_eq_true]
  intro x hx
  obtain ⟨a, b⟩ := h x hx
  simp [a, b]
def unpackS (l : List Int) (w : Int) : List Int × Int := if w < 1 ∨ 4096 < w then ([], 1) else if (l.length : Int) < (w + 7) / 8 then ([], 6) else (bits_row l w.toNat, 0)
theorem unpack_is (l : List Int) (hl : bytesOK l) (w : Int) (h0 : -9223372036854775808 ≤ w) (h1 : w ≤ 9223372036854775807) : bits_Unpack.f l w = some (unpackS l w) := by
  unfold bits_Unpack.f unpackS
  rw [if_neg (by omega)]
  by_cases h : w < 1 ∨ 4096 < w
  · rw [if_pos h, if_pos h]
  · rw [if_neg h, if_neg h]
    by_cases h2 : (l.length : Int) < (w + 7) / 8
    · rw [if_pos h2, if_pos h2]
    · rw [if_neg h2, if_neg h2, if_pos (bytesOK_okU hl)]
theorem packL_len (l : List Int) : (packL l).length = (l.length + 7) / 8 := by simp [packL]
theorem packL_get (l : List Int) (j : Nat) (h : j < (l.length + 7) / 8) : (packL l).getD j 0 = byteP l j := by
  unfold packL
  rw [List.getD_eq_getElem?_getD, List.getElem?_map, List.getElem?_range h]
  rfl
theorem packL_bytes {l : List Int} (h : only01 l) : bytesOK (packL l) := by
  intro x hx
  obtain ⟨j, _, rfl⟩ := List.mem_map.1 hx
  exact byteP_range h j
theorem only01_le {l : List Int} (h : only01 l) (i : Nat) : 0 ≤ l.getD i 0 ∧ l.getD i 0 ≤ 1 := by
  rcases only01_get h i with e | e <;> rw [e] <;> decide
set_option maxHeartbeats 2000000 in
theorem bitB_byteP {l : List Int} (h : only01 l) (j t : Nat) (ht : t < 8) : bitB (byteP l j) t = l.getD (8 * j + t) 0 := by
  have h0 := only01_le h (8 * j)
  have h1 := only01_le h (8 * j + 1)
  have h2 := only01_le h (8 * j + 2)
  have h3 := only01_le h (8 * j + 3)
  have h4 := only01_le h (8 * j + 4)
  have h5 := only01_le h (8 * j + 5)
  have h6 := only01_le h (8 * j + 6)
  have h7 := only01_le h (8 * j + 7)
  unfold bitB byteP
  rcases (show t = 0 ∨ t = 1 ∨ t = 2 ∨ t = 3 ∨ t = 4 ∨ t = 5 ∨ t = 6 ∨ t = 7 by omega) with rfl | rfl | rfl | rfl | rfl | rfl | rfl | rfl <;> simp only [Nat.add_zero, Nat.sub_zero, Nat.reduceSub, Nat.sub_self, Int.reducePow, Int.pow_zero, Int.pow_succ] <;>
  (generalize l.getD (8 * j) 0 = y0 at *
   generalize l.getD (8 * j + 1) 0 = y1 at *
   generalize l.getD (8 * j + 2) 0 = y2 at *
   generalize l.getD (8 * j + 3) 0 = y3 at *
   generalize l.getD (8 * j + 4) 0 = y4 at *
   generalize l.getD (8 * j + 5) 0 = y5 at *
   generalize l.getD (8 * j + 6) 0 = y6 at *
   generalize l.getD (8 * j + 7) 0 = y7 at *
   omega)
theorem row_pack {l : List Int} (h : only01 l) : bits_row (packL l) l.length = l := by
  apply List.ext_getElem?
  intro i
  unfold bits_row
  rw [List.getElem?_map]
  by_cases hi : i < l.length
  · rw [List.getElem?_range hi, List.getElem?_eq_getElem hi]
    show some (bitB ((packL l).getD (i / 8) 0) (i % 8)) = _
    rw [packL_get l (i / 8) (by omega), bitB_byteP h _ _ (Nat.mod_lt _ (by decide)), Nat.div_add_mod, List.getD_eq_getElem?_getD, List.getElem?_eq_getElem hi]
    rfl
  · rw [List.getElem?_eq_none (by simp; omega), List.getElem?_eq_none (by omega)]
    rfl
theorem unpack_pack {l : List Int} (h : only01 l) (h0 : 1 ≤ l.length) (h1 : l.length ≤ 4096) : bits_Unpack.f (packL l) (l.length : Int) = some (l, 0) := by
  rw [unpack_is _ (packL_bytes h) _ (by omega) (by omega)]
  unfold unpackS
  rw [if_neg (by omega), packL_len, if_neg (by omega), Int.toNat_natCast, row_pack h]
theorem row_len (l : List Int) (m : Nat) : (bits_row l m).length = m := by simp [bits_row]
theorem row_01 (l : List Int) (m : Nat) : only01 (bits_row l m) := by
  intro x hx
  obtain ⟨i, _, rfl⟩ := List.mem_map.1 hx
  exact bitB_01 _ _
end Go.Proofs.Ytdjjipinmcmfeaa.Q
