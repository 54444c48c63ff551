/- A row's pixels, its spare bits, and how many are 1, are the document's, or refused: for any bytes, any width. No condition. -/
import Derived.Test.YtdjjipinmcmfeaaLAround
import Derived.Test.YtdjjipinmcmfeaaLBits
import Derived.Test.YtdjjipinmcmfeaaLCount
import Derived.Test.YtdjjipinmcmfeaaLLives07
import Derived.Test.YtdjjipinmcmfeaaLPack
import Derived.Test.YtdjjipinmcmfeaaLRefSpare
import Derived.Test.YtdjjipinmcmfeaaLRefUnpack
import Derived.Test.YtdjjipinmcmfeaaLSame
import Derived.Test.YtdjjipinmcmfeaaLSpare
import Derived.Test.YtdjjipinmcmfeaaLTurned
import Derived.Test.YtdjjipinmcmfeaaLUnpack
import Derived.Test.YtdjjipinmcmfeaaQ9
namespace Go.Proofs.Ytdjjipinmcmfeaa.Pure
open Go.RowKit Go.Proofs.Ytdjjipinmcmfeaa.Q Go.Proofs.YtdjjipinmcmfeaaW.PrintWords Go.Proofs.YtdjjipinmcmfeaaW.PrintLast
theorem unpacks_l1 (b A : List Int) (i : Nat) (l : List Int) (e : Int) (h01 : only01 l) (hl : l.length ≤ 4096) (R : Option Bool) (K : Nat)
    (hend : ∀ k, K ≤ k → chequerlaw07_BitsUnpacks.l1 k b A (i : Int) l e l e l.sum (l.length : Int) = R) :
    ∀ (d j k : Nat), l.length - j = d → j ≤ l.length → K + d < k → chequerlaw07_BitsUnpacks.l1 k b A (i : Int) l e l e (l.take j).sum (j : Int) = R := by
  intro d
  induction d with
  | zero =>
    intro j k hd hj hk
    have e : j = l.length := by omega
    rw [e, List.take_length]
    exact hend k (by omega)
  | succ d ih =>
    intro j k hd hj hk
    have hlt : j < l.length := by omega
    obtain ⟨k, rfl⟩ : ∃ m, k = m + 1 := ⟨k - 1, by omega⟩
    have hs := sum_range (only01_take h01 j)
    have hx := h01 l[j] (List.getElem_mem hlt)
    rw [List.length_take] at hs
    have e : (l.take (j + 1)).sum = (l.take j).sum + l[j] := by rw [List.take_add_one, List.getElem?_eq_getElem hlt, List.sum_append]; simp
    have q := ih (j + 1) k (by omega) (by omega) (by omega)
    have c1 : (j : Int) < (l.length : Int) := by omega
    have c2 : (0 : Int) ≤ (j : Int) := by omega
    have hj1 : j ≤ 100000 := by omega
    have hrd : rd l (j : Int) = l[j] := by unfold rd; rw [Int.toNat_natCast, List.getD_eq_getElem?_getD, List.getElem?_eq_getElem hlt]; rfl
    have hw2 : wrap64 ((l.take j).sum + l[j]) = (l.take j).sum + l[j] := by
      clear hrd e q ih hend
      generalize (l.take j).sum = s at *
      generalize l[j] = x at *
      unfold wrap64
      omega
    rw [chequerlaw07_BitsUnpacks.l1, if_pos c1, if_pos c2, hrd, hw2, wz_succ j hj1, ← e]
    exact q
theorem unpacks_go (b : List Int) (hb : bytesOK b) (A : List Int) (hA : A.length = 2) (fA : ∀ i : Nat, i < 2 → -9223372036854775808 ≤ A.getD i 0 ∧ A.getD i 0 ≤ 9223372036854775807) : ∀ (d i k : Nat), 2 - i ≤ d → i ≤ 2 → 1100000 + 5000 * d < k → chequerlaw07_BitsUnpacks.l0 k b A (i : Int) = some true := by
  intro d
  induction d with
  | zero =>
    intro i k hd hi hk
    obtain ⟨k, rfl⟩ : ∃ m, k = m + 1 := ⟨k - 1, by omega⟩
    rw [chequerlaw07_BitsUnpacks.l0, if_neg (by omega), lives07 _ (by omega)]
    rfl
  | succ d ih =>
    intro i k hd hi hk
    by_cases hlt : i < 2
    · obtain ⟨k, rfl⟩ : ∃ m, k = m + 1 := ⟨k - 1, by omega⟩
      obtain ⟨f0, f1⟩ := fA i hlt
      have next : ∀ k, 1100000 + 5000 * d < k → chequerlaw07_BitsUnpacks.l0 k b A ((i + 1 : Nat) : Int) = some true := fun k hk => ih (i + 1) k (by omega) (by omega) hk
      have rA : rd A (i : Int) = A.getD i 0 := by unfold rd; rw [Int.toNat_natCast]
      have c1 : (i : Int) < 2 := by omega
      have c2 : (0 : Int) ≤ (i : Int) := by omega
      have c3 : (i : Int) < (A.length : Int) := by omega
      have hi1 : i ≤ 100000 := by omega
      generalize hz : A.getD i 0 = z at *
      have hlen := unpackS_len b z
      have h01 := unpackS_01 b z
      have kk : 5000 ≤ k := by omega
      rw [chequerlaw07_BitsUnpacks.l0, if_pos c1, if_pos c2, if_pos c3, rA, unpack_is b hb z f0 f1, refunpack_is b hb z f0 f1 k kk, Option.bind_some, Option.bind_some]
      have := unpacks_l1 b A i (unpackS b z).1 (unpackS b z).2 h01 hlen (some true) (1100000 + 5000 * d + 2) (by
        intro k hk
        obtain ⟨k, rfl⟩ : ∃ m, k = m + 1 := ⟨k - 1, by omega⟩
        have k1 : 1 ≤ k := by omega
        have k2 : 1000001 ≤ k := by omega
        have k3 : 6000 ≤ k := by omega
        have k4 : 5000 ≤ k := by omega
        have k5 : 1100000 + 5000 * d < k := by omega
        have cn : ¬ ((unpackS b z).1.length : Int) < ((unpackS b z).1.length : Int) := by omega
        rw [chequerlaw07_BitsUnpacks.l1, if_neg cn, if_pos rfl, same_is _ _ (by omega) k k2, Option.bind_some, if_pos (by simp), if_pos c2, if_pos c3, rA, bytes_is z f0 f1, refbytes_is z f0 f1 k k1, Option.bind_some, Option.bind_some, if_pos rfl, count_is b hb z f0 f1 k k4, Option.bind_some, if_pos rfl, spare_is b hb z f0 f1, refspare_is b hb z f0 f1 k k3, Option.bind_some, Option.bind_some, if_pos rfl, wz_succ i hi1]
        exact next k k5) (unpackS b z).1.length 0 k (by omega) (by omega) (by omega)
      exact this
    · exact ih i k (by omega) hi (by omega)
theorem BitsUnpacks : chequerlaw07_BitsUnpacks.Pure := by
  intro l0 a1 h1 h1' h2 h0
  obtain ⟨h0, h0'⟩ := wf_i64 h0
  obtain ⟨m0, m1⟩ := aroundZ_range a1 101 (by omega)
  refine ⟨1200000, ?_⟩
  unfold chequerlaw07_BitsUnpacks.f
  have hmn : mn (l0.length : Int) 12 = ((min l0.length 12 : Nat) : Int) := by unfold mn; split <;> omega
  rw [hmn, Int.toNat_natCast, if_pos (by omega), if_pos (by omega), around_is a1 101 h0 h0' (by omega), Option.bind_some]
  refine unpacks_go _ (bytesOK_take (fun x hx => wf_u8 (h2 x hx)) _) _ rfl ?_ 2 0 1200000 (by omega) (by omega) (by omega)
  intro i hi
  rcases (show i = 0 ∨ i = 1 by omega) with rfl | rfl
  · exact ⟨h0, h0'⟩
  · exact ⟨by show _ ≤ aroundZ a1 101; omega, by show aroundZ a1 101 ≤ _; omega⟩
end Go.Proofs.Ytdjjipinmcmfeaa.Pure
