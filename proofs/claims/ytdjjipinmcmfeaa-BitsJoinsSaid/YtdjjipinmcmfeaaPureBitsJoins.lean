/- Rows of whole bytes, one behind the other, are one row: for any numbers. No condition. -/
import Derived.Test.YtdjjipinmcmfeaaLCount
import Derived.Test.YtdjjipinmcmfeaaLLives07
import Derived.Test.YtdjjipinmcmfeaaLOnes
import Derived.Test.YtdjjipinmcmfeaaLPack
import Derived.Test.YtdjjipinmcmfeaaLUnpack
import Derived.Test.YtdjjipinmcmfeaaQ7
namespace Go.Proofs.Ytdjjipinmcmfeaa.Pure
open Go.RowKit Go.Proofs.Ytdjjipinmcmfeaa.Q Go.Proofs.YtdjjipinmcmfeaaW.PrintWords Go.Proofs.YtdjjipinmcmfeaaW.PrintLast
theorem byteP_left (x y : List Int) (m j : Nat) (hx : x.length = 8 * m) (hj : j < m) : byteP (x ++ y) j = byteP x j := by
  have e : ∀ t, t < 8 → (x ++ y).getD (8 * j + t) 0 = x.getD (8 * j + t) 0 := by
    intro t ht
    rw [List.getD_eq_getElem?_getD, List.getD_eq_getElem?_getD, List.getElem?_append_left (by omega)]
  have e0 : (x ++ y).getD (8 * j) 0 = x.getD (8 * j) 0 := e 0 (by omega)
  unfold byteP
  rw [e0, e 1 (by omega), e 2 (by omega), e 3 (by omega), e 4 (by omega), e 5 (by omega), e 6 (by omega), e 7 (by omega)]
theorem byteP_right (x y : List Int) (m j : Nat) (hx : x.length = 8 * m) : byteP (x ++ y) (m + j) = byteP y j := by
  have e : ∀ t, (x ++ y).getD (8 * (m + j) + t) 0 = y.getD (8 * j + t) 0 := by
    intro t
    rw [List.getD_eq_getElem?_getD, List.getD_eq_getElem?_getD, List.getElem?_append_right (by omega)]
    congr 2
    omega
  have e0 : (x ++ y).getD (8 * (m + j)) 0 = y.getD (8 * j) 0 := e 0
  unfold byteP
  rw [e0, e 1, e 2, e 3, e 4, e 5, e 6, e 7]
theorem packL_join (x y : List Int) (m : Nat) (hx : x.length = 8 * m) : packL (x ++ y) = packL x ++ packL y := by
  unfold packL
  have e1 : ((x ++ y).length + 7) / 8 = m + (y.length + 7) / 8 := by rw [List.length_append]; omega
  have e2 : (x.length + 7) / 8 = m := by omega
  rw [e1, e2, List.range_add, List.map_append, List.map_map]
  congr 1
  · exact List.map_congr_left fun j hj => byteP_left x y m j hx (List.mem_range.1 hj)
  · exact List.map_congr_left fun j _ => byteP_right x y m j hx
theorem str_app (a b : List Int) : strOfNums (a ++ b) = strOfNums a ++ strOfNums b := by
  apply ByteArray.ext
  rw [ByteArray.data_append]
  unfold strOfNums
  simp
theorem joins_j0 (x y : List Int) (hx : only01 x) (hy : only01 y) (m : Nat) (hm : x.length = 8 * m) (h1 : x.length ≤ 32) (h2 : y.length ≤ 20) (k : Nat) (hk : 30000 ≤ k) (b : Bool) (hb : b = false → 1 ≤ x.length ∧ 1 ≤ y.length) : chequerlaw07_BitsJoins.j0 k x y b = some true := by
  obtain ⟨k, rfl⟩ : ∃ m, k = m + 1 := ⟨k - 1, by omega⟩
  rw [chequerlaw07_BitsJoins.j0]
  cases b with
  | true => rw [if_pos rfl, lives07 _ (by omega)]; rfl
  | false =>
    obtain ⟨p1, p2⟩ := hb rfl
    have hxy : only01 (x ++ y) := fun z hz => by
      rcases List.mem_append.1 hz with h | h
      · exact hx z h
      · exact hy z h
    have hl : (x ++ y).length ≤ 52 := by rw [List.length_append]; omega
    have hl1 : 1 ≤ (x ++ y).length := by rw [List.length_append]; omega
    have e1 : packS x = (packL x, 0) := by unfold packS; rw [if_neg (by omega), if_pos hx]
    have e2 : packS y = (packL y, 0) := by unfold packS; rw [if_neg (by omega), if_pos hy]
    have e3 : packS (x ++ y) = (packL x ++ packL y, 0) := by unfold packS; rw [if_neg (by omega), if_pos hxy, packL_join x y m hm]
    have s1 : (strOfNums (packL x)).size + (strOfNums (packL y)).size ≤ 9223372036854775807 := by rw [strOfNums_size, strOfNums_size, packL_len, packL_len]; omega
    have hsum : wrap64 (x.sum + y.sum) = (x ++ y).sum := by
      have a := sum_range hx
      have b := sum_range hy
      rw [List.sum_append]
      generalize x.sum = u at *
      generalize y.sum = v at *
      unfold wrap64
      omega
    rw [if_neg (by decide), pack_is x (by omega) _ (by omega), pack_is y (by omega) _ (by omega), Option.bind_some, Option.bind_some, if_pos (show ([] : List Int).length + x.length < 17592186044416 by simp; omega), Option.bind_some, List.nil_append, if_pos (by omega), Option.bind_some, pack_is (x ++ y) (by omega) _ (by omega), Option.bind_some, e1, e2, e3, if_pos rfl, if_pos rfl, if_pos rfl, if_pos s1, if_pos (by rw [str_app]), ← packL_join x y m hm, count_pack hxy hl1 (by omega) _ (by omega), count_pack hx p1 (by omega) _ (by omega), count_pack hy p2 (by omega) _ (by omega), Option.bind_some, Option.bind_some, Option.bind_some, if_pos hsum.symm, lives07 _ (by omega)]
    rfl
theorem BitsJoins : chequerlaw07_BitsJoins.Pure := by
  intro l0 l1 h1 h1' h2 h3 h3' h4
  refine ⟨40000, ?_⟩
  unfold chequerlaw07_BitsJoins.f
  have ho := ones_is l0 32 (by omega) 40000 (by omega)
  rw [show ((32 : Nat) : Int) = 32 from rfl] at ho
  have ho2 := ones_is l1 20 (by omega) 40000 (by omega)
  rw [show ((20 : Nat) : Int) = 20 from rfl] at ho2
  have h01 := onesL_01 (l0.take 32)
  have h02 := onesL_01 (l1.take 20)
  have hl1 : (onesL (l0.take 32)).length ≤ 32 := by rw [onesL_len, List.length_take]; omega
  have hl2 : (onesL (l1.take 20)).length ≤ 20 := by rw [onesL_len, List.length_take]; omega
  rw [ho, ho2, Option.bind_some]
  generalize onesL (l0.take 32) = x at *
  generalize onesL (l1.take 20) = y at *
  have w : wrap64 (wrap64 ((x.length : Int) / 8) * 8) = ((x.length / 8 * 8 : Nat) : Int) := by unfold wrap64; omega
  have hm : (x.take (x.length / 8 * 8)).length = 8 * (x.length / 8) := by rw [List.length_take]; omega
  have hx := only01_take h01 (x.length / 8 * 8)
  have hle : x.length / 8 * 8 ≤ x.length := by omega
  have h32 : (x.take (x.length / 8 * 8)).length ≤ 32 := by rw [List.length_take]; omega
  rw [w, Int.toNat_natCast, if_pos (by clear w; omega), if_pos (by clear w; omega), Option.bind_some, Option.bind_some]
  clear w
  generalize x.take (x.length / 8 * 8) = z at *
  by_cases hz : (z.length : Int) = 0
  · rw [if_pos hz]
    exact joins_j0 z y hx h02 _ hm h32 hl2 _ (by omega) true (fun h => by cases h)
  · rw [if_neg hz]
    exact joins_j0 z y hx h02 _ hm h32 hl2 _ (by omega) _ (fun h => ⟨by omega, by
      have := beq_eq_false_iff_ne.1 h
      omega⟩)
end Go.Proofs.Ytdjjipinmcmfeaa.Pure
