/- How many pixels are 1. -/
import Derived.Test.YtdjjipinmcmfeaaLBits
import Derived.Test.YtdjjipinmcmfeaaLPack
import Derived.Test.YtdjjipinmcmfeaaLUnpack
import Derived.Test.YtdjjipinmcmfeaaQ6
namespace Go.Proofs.Ytdjjipinmcmfeaa.Q
open Go.RowKit Go.Proofs.YtdjjipinmcmfeaaW.PrintWords Go.Proofs.YtdjjipinmcmfeaaW.PrintLast Go.Proofs.Ytdjjipinmcmfeaa.Bt
set_option linter.unusedVariables false
theorem sum_range {l : List Int} (h : only01 l) : 0 ≤ l.sum ∧ l.sum ≤ l.length := by
  induction l with
  | nil => simp
  | cons x r ih =>
    have hr := ih (fun y hy => h y (List.mem_cons_of_mem _ hy))
    have hx := h x (List.mem_cons_self)
    rw [List.sum_cons, List.length_cons]
    omega
theorem count_go (l : List Int) (h : only01 l) (hl : l.length ≤ 10000) : ∀ (d i k : Nat), l.length - i ≤ d → i ≤ l.length → d < k → bits_Count.l0 k (l.take i).sum l (l.length : Int) (i : Int) = some l.sum := by
  intro d
  induction d with
  | zero =>
    intro i k hd hi hk
    obtain ⟨k, rfl⟩ : ∃ m, k = m + 1 := ⟨k - 1, by omega⟩
    rw [bits_Count.l0, if_neg (by omega), List.take_of_length_le (by omega)]
  | succ d ih =>
    intro i k hd hi hk
    by_cases hlt : i < l.length
    · obtain ⟨k, rfl⟩ : ∃ m, k = m + 1 := ⟨k - 1, by omega⟩
      have hs := sum_range (only01_take h i)
      have hx := h l[i] (List.getElem_mem hlt)
      rw [List.length_take] at hs
      have e : (l.take (i + 1)).sum = (l.take i).sum + l[i] := by rw [List.take_add_one, List.getElem?_eq_getElem hlt, List.sum_append]; simp
      have q1 : l.length - (i + 1) ≤ d := by omega
      have q2 : i + 1 ≤ l.length := by omega
      have q3 : d < k := by omega
      have c1 : (i : Int) < (l.length : Int) := by omega
      have c2 : (0 : Int) ≤ (i : Int) := by omega
      have hrd : rd l (i : Int) = l[i] := by unfold rd; rw [Int.toNat_natCast, List.getD_eq_getElem?_getD, List.getElem?_eq_getElem hlt]; rfl
      have hw : wrap64 ((i : Int) + 1) = ((i + 1 : Nat) : Int) := by clear hrd e; unfold wrap64; omega
      have hw2 : wrap64 ((l.take i).sum + l[i]) = (l.take i).sum + l[i] := by
        clear hrd e hw
        generalize (l.take i).sum = s at *
        generalize l[i] = x at *
        unfold wrap64
        omega
      rw [bits_Count.l0, if_pos c1, if_pos c2, if_pos c1, hrd, hw2, hw, ← e]
      exact ih (i + 1) k q1 q2 q3
    · exact ih i k (by omega) hi (by omega)
theorem count_pack {l : List Int} (h : only01 l) (h0 : 1 ≤ l.length) (h1 : l.length ≤ 4096) (k : Nat) (hk : 5000 ≤ k) : bits_Count.f k (packL l) (l.length : Int) = some l.sum := by
  unfold bits_Count.f
  rw [unpack_pack h h0 h1, Option.bind_some]
  exact count_go l h (by omega) l.length 0 k (by omega) (by omega) (by omega)
theorem count_is (l : List Int) (hl : bytesOK l) (w : Int) (h0 : -9223372036854775808 ≤ w) (h1 : w ≤ 9223372036854775807) (k : Nat) (hk : 5000 ≤ k) : bits_Count.f k l w = some (unpackS l w).1.sum := by
  unfold bits_Count.f
  rw [unpack_is l hl w h0 h1, Option.bind_some]
  have h : only01 (unpackS l w).1 ∧ (unpackS l w).1.length ≤ 4096 := by
    unfold unpackS
    split
    · exact ⟨fun x hx => by simp at hx, by simp⟩
    · split
      · exact ⟨fun x hx => by simp at hx, by simp⟩
      · exact ⟨row_01 _ _, by rw [row_len]; omega⟩
  exact count_go _ h.1 (by omega) _ 0 k (Nat.le_refl _) (by omega) (by omega)
end Go.Proofs.Ytdjjipinmcmfeaa.Q
