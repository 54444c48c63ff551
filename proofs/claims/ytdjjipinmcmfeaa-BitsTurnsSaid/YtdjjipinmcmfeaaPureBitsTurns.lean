/- A row from its end on is the document's, and, twice, as it was but for spare bits: for any bytes, any width. No condition. -/
import Derived.Test.YtdjjipinmcmfeaaLAround
import Derived.Test.YtdjjipinmcmfeaaLBits
import Derived.Test.YtdjjipinmcmfeaaLLives07
import Derived.Test.YtdjjipinmcmfeaaLPack
import Derived.Test.YtdjjipinmcmfeaaLRefUnpack
import Derived.Test.YtdjjipinmcmfeaaLTurned
import Derived.Test.YtdjjipinmcmfeaaLUnpack
import Derived.Test.YtdjjipinmcmfeaaQ4
import Derived.Test.YtdjjipinmcmfeaaQ7
import Derived.Test.YtdjjipinmcmfeaaQ8
namespace Go.Proofs.Ytdjjipinmcmfeaa.Pure
open Go.RowKit Go.Proofs.Ytdjjipinmcmfeaa.Q Go.Proofs.YtdjjipinmcmfeaaW.PrintWords Go.Proofs.YtdjjipinmcmfeaaW.PrintLast
theorem turns_l1 (x0 x5 x7 x9 : List Int) (x6 : Int) (hx9 : x9.length ≤ 4096) (R : Option Bool) (K : Nat)
    (hend : ∀ k, K ≤ k → ((chequerref07_Pack.f k x9.reverse).bind fun bt256 => (if 0 ≤ x6 then (if x6 < (x5.length : Int) then ((bits_Turned.f k x7 (rd x5 x6)).bind fun bt261 => ((chequerref07_Pack.f k x9).bind fun bt265 => (if (strOfNums x7).toList = (strOfNums bt256.1).toList then (if (strOfNums bt261.1).toList = (strOfNums bt265.1).toList then (chequerlaw07_BitsTurns.l0 k x0 x5 (wrap64 (x6 + 1))) else (some false)) else (some false)))) else (none)) else (none))) = R) :
    ∀ (d : Nat) (k : Nat), d ≤ x9.length → K + d < k → chequerlaw07_BitsTurns.l1 k x0 x5 x6 x7 x9 (x9.drop d).reverse ((d : Int) - 1) = R := by
  intro d
  induction d with
  | zero =>
    intro k hd hk
    obtain ⟨k, rfl⟩ : ∃ m, k = m + 1 := ⟨k - 1, by omega⟩
    rw [chequerlaw07_BitsTurns.l1, if_neg (by omega), List.drop_zero]
    exact hend k (by omega)
  | succ d ih =>
    intro k hd hk
    obtain ⟨k, rfl⟩ : ∃ m, k = m + 1 := ⟨k - 1, by omega⟩
    have hlt : d < x9.length := by omega
    have q := ih k (by omega) (by omega)
    have e : ((d + 1 : Nat) : Int) - 1 = (d : Int) := by omega
    have hrd : rd x9 (d : Int) = x9[d] := by unfold rd; rw [Int.toNat_natCast, List.getD_eq_getElem?_getD, List.getElem?_eq_getElem hlt]; rfl
    have c1 : (d : Int) ≥ 0 := by omega
    have c2 : (d : Int) < (x9.length : Int) := by omega
    have c3 : (x9.drop (d + 1)).reverse.length < 17592186044416 := by rw [List.length_reverse, List.length_drop]; omega
    have w : wrap64 ((d : Int) - 1) = (d : Int) - 1 := by clear hrd q e; unfold wrap64; omega
    have e2 : (x9.drop (d + 1)).reverse ++ [x9[d]] = (x9.drop d).reverse := by rw [List.drop_eq_getElem_cons hlt, List.reverse_cons]
    rw [e, chequerlaw07_BitsTurns.l1, if_pos c1, if_pos c1, if_pos c2, hrd, if_pos c3, w, e2]
    exact q
theorem turns_go (b : List Int) (hb : bytesOK b) (A : List Int) (hA : A.length = 2) (fA : ∀ i : Nat, i < 2 → -9223372036854775808 ≤ A.getD i 0 ∧ A.getD i 0 ≤ 9223372036854775807) : ∀ (d i k : Nat), 2 - i ≤ d → i ≤ 2 → 30000 + 5000 * d < k → chequerlaw07_BitsTurns.l0 k b A (i : Int) = some true := by
  intro d
  induction d with
  | zero =>
    intro i k hd hi hk
    obtain ⟨k, rfl⟩ : ∃ m, k = m + 1 := ⟨k - 1, by omega⟩
    rw [chequerlaw07_BitsTurns.l0, if_neg (by omega), lives07 _ (by omega)]
    rfl
  | succ d ih =>
    intro i k hd hi hk
    by_cases hlt : i < 2
    · obtain ⟨k, rfl⟩ : ∃ m, k = m + 1 := ⟨k - 1, by omega⟩
      obtain ⟨f0, f1⟩ := fA i hlt
      have next : ∀ k, 30000 + 5000 * d < k → chequerlaw07_BitsTurns.l0 k b A ((i + 1 : Nat) : Int) = some true := fun k hk => ih (i + 1) k (by omega) (by omega) hk
      have rA : rd A (i : Int) = A.getD i 0 := by unfold rd; rw [Int.toNat_natCast]
      have c1 : (i : Int) < 2 := by omega
      have c2 : (0 : Int) ≤ (i : Int) := by omega
      have c3 : (i : Int) < (A.length : Int) := by omega
      have hk1 : 10000 ≤ k := by omega
      have hw : wrap64 ((i : Int) + 1) = ((i + 1 : Nat) : Int) := by clear rA next; unfold wrap64; omega
      generalize hz : A.getD i 0 = z at *
      have hlen := unpackS_len b z
      have h01 := unpackS_01 b z
      rw [chequerlaw07_BitsTurns.l0, if_pos c1, if_pos c2, if_pos c3, rA, turned_is b hb z f0 f1 k hk1, refunpack_is b hb z f0 f1 k (by omega), Option.bind_some, Option.bind_some, hw]
      unfold turnedS
      by_cases h : (unpackS b z).2 = 0
      · obtain ⟨l1, l2⟩ := unpackS_ok b z h
        have hp : packS (unpackS b z).1.reverse = (packL (unpackS b z).1.reverse, 0) := by unfold packS; rw [List.length_reverse, if_neg (by omega), if_pos (only01_rev h01)]
        have hp2 : packS (unpackS b z).1 = (packL (unpackS b z).1, 0) := by unfold packS; rw [if_neg (by omega), if_pos h01]
        rw [if_pos h, hp, h, if_pos rfl, if_pos rfl]
        generalize (unpackS b z).1 = l at *
        have hpb := packL_bytes (only01_rev h01)
        have hun : unpackS (packL l.reverse) z = (l.reverse, 0) := by
          have e := unpack_pack (only01_rev h01) (by rw [List.length_reverse]; omega) (by rw [List.length_reverse]; omega)
          rw [List.length_reverse, l2, unpack_is _ hpb z f0 f1] at e
          exact Option.some.inj e
        have ww : wrap64 ((l.length : Int) - 1) = (l.length : Int) - 1 := by clear hw rA next; unfold wrap64; omega
        rw [ww]
        have := turns_l1 b A (packL l.reverse) l (i : Int) (by omega) (some true) (30000 + 5000 * d + 1) (by
          intro k hk
          rw [refpack_is _ k (by omega), Option.bind_some, hp, if_pos c2, if_pos c3, rA, turned_is _ hpb z f0 f1 k (by omega), Option.bind_some, refpack_is _ k (by omega), Option.bind_some, if_pos rfl]
          unfold turnedS
          rw [hun, if_pos rfl, List.reverse_reverse, if_pos rfl, hw]
          exact next k (by omega)) l.length k (Nat.le_refl _) (by omega)
        rw [List.drop_length, List.reverse_nil] at this
        exact this
      · rw [if_neg h, if_pos rfl, if_neg h, if_pos (by simp)]
        exact next k (by omega)
    · exact ih i k (by omega) hi (by omega)
theorem BitsTurns : chequerlaw07_BitsTurns.Pure := by
  intro l0 a1 h1 h1' h2 h0
  obtain ⟨h0, h0'⟩ := wf_i64 h0
  obtain ⟨m0, m1⟩ := aroundZ_range a1 101 (by omega)
  refine ⟨50000, ?_⟩
  unfold chequerlaw07_BitsTurns.f
  have hmn : mn (l0.length : Int) 12 = ((min l0.length 12 : Nat) : Int) := by unfold mn; split <;> omega
  rw [hmn, Int.toNat_natCast, if_pos (by omega), if_pos (by omega), around_is a1 101 h0 h0' (by omega), Option.bind_some]
  refine turns_go _ (bytesOK_take (fun x hx => wf_u8 (h2 x hx)) _) _ rfl ?_ 2 0 50000 (by omega) (by omega) (by omega)
  intro i hi
  rcases (show i = 0 ∨ i = 1 by omega) with rfl | rfl
  · exact ⟨h0, h0'⟩
  · exact ⟨by show _ ≤ aroundZ a1 101; omega, by show aroundZ a1 101 ≤ _; omega⟩
end Go.Proofs.Ytdjjipinmcmfeaa.Pure
