/- Which heads are read, and how many bytes a row has, is told as the document says: for any head. No condition. -/
import Derived.Test.YtdjonaajfhbfhaaIraw_New
import Derived.Test.YtdjonaajfhbfhaaIraw_Reader_Error
import Derived.Test.YtdjonaajfhbfhaaIraw_Reader_Left
import Derived.Test.YtdjonaajfhbfhaaIraw_Reader_Rows
import Derived.Test.YtdjonaajfhbfhaaLAround
import Derived.Test.YtdjonaajfhbfhaaLHead
import Derived.Test.YtdjonaajfhbfhaaLLives09
import Derived.Test.YtdjonaajfhbfhaaLRawMay
import Derived.Test.YtdjonaajfhbfhaaQ12
import Derived.Test.YtdjonaajfhbfhaaQ20
import Derived.Test.YtdjonaajfhbfhaaQ28
import Derived.Test.YtdjonaajfhbfhaaQ4
namespace Go.Proofs.Ytdjonaajfhbfhaa.Pure
open Go.RowKit Go.Proofs.Ytdjonaajfhbfhaa.Q Go.Proofs.YtdjonaajfhbfhaaW.PrintWords Go.Proofs.YtdjonaajfhbfhaaW.PrintLast
set_option linter.unusedVariables false
theorem rawnew_round (xs : List S23) (i : Nat) (hi : i < 2) (hx : i < xs.length) (K : Nat) (y0 y1 y2 y3 : Int) :
    chequerlaw09_RawNew.l0 (K + 2) xs (i : Int) y0 y1 y2 y3 = chequerlaw09_RawNew.l0 K xs ((i + 1 : Nat) : Int) y0 y1 y2 y3 := by
  have hw : wrap64 ((i : Int) + 1) = ((i + 1 : Nat) : Int) := by unfold wrap64; omega
  rw [chequerlaw09_RawNew.l0, if_pos (by omega), if_pos (by omega), if_pos (by omega)]
  generalize hA : (rd_T23 xs (i : Int)).f0 = a
  generalize hB : (rd_T23 xs (i : Int)).f1 = b
  generalize hC : (rd_T23 xs (i : Int)).f2 = c
  generalize hD : (rd_T23 xs (i : Int)).f3 = d
  by_cases hm : rawMay a b c d = true
  · have h1 : rawMayI a b c d = 1 := by unfold rawMayI; rw [if_pos hm]
    have h2 : raw_New.f a b c d = some (a, b, c, d, 0, 0, 0, 0, 0, 0) := by unfold raw_New.f; rw [if_pos hm]
    rw [if_pos h1, h2, Option.bind_some, refrawmay_is, hm, Option.bind_some, if_neg (by decide), if_neg (show ¬ (((0 : Int) == 0) != true) = true by decide), if_pos rfl, chequerlaw09_RawNew.j1, if_neg (by decide)]
    unfold raw_Reader_Left.f raw_Reader_Rows.f raw_Reader_Error.f
    rw [Option.bind_some, if_pos (by omega), if_pos (by omega), hA, hB, hC, hD, refsize_is hm, Option.bind_some]
    have e : (if (0 : Int) = 0 then (c - 0) * ((rawS a b d : Nat) : Int) - 0 else 0) = ((rawS a b d : Nat) : Int) * c := by
      rw [if_pos rfl, Int.sub_zero, Int.sub_zero, Int.mul_comm]
    rw [if_pos e, Option.bind_some, if_pos rfl, Option.bind_some, if_pos rfl, hw]
  · have hf : rawMay a b c d = false := by simpa using hm
    have h1 : rawMayI a b c d ≠ 1 := by unfold rawMayI; rw [if_neg hm]; decide
    have h2 : raw_NewNil.f a b c d = some 1 := by unfold raw_NewNil.f; rw [if_neg h1]
    rw [if_neg h1, h2, Option.bind_some, refrawmay_is, hf, Option.bind_some, if_neg (by decide), if_neg (by decide), if_neg (by decide), chequerlaw09_RawNew.j2, if_neg (by decide), hw]
theorem rawnew_end (xs : List S23) (K : Nat) (hK : 40 ≤ K) (k w h m : Int) (ho : HdOk k w h m) : chequerlaw09_RawNew.l0 (K + 1) xs ((2 : Nat) : Int) k w h m = some true := by
  obtain ⟨o1, o2, o3, o4, o5, o6, o7, o8, o9⟩ := ho
  rw [chequerlaw09_RawNew.l0, if_neg (by omega)]
  by_cases h4 : k < 4
  · have hs : raw_Stride.f k w h m = some 0 := by
      unfold raw_Stride.f head_Raw.f
      rw [if_neg (by omega), Option.bind_some, if_neg (by decide)]
    have hs2 : chequerref09_Stride.f k w h m = some 0 := by unfold chequerref09_Stride.f; rw [if_pos h4]
    have hs3 : chequerref06_Size.f k w h m = some 0 := by unfold chequerref06_Size.f; rw [if_pos h4]
    rw [hs, Option.bind_some, hs2, Option.bind_some, if_pos rfl, Option.bind_some, hs3, Option.bind_some, if_pos (by rw [Int.zero_mul]; exact wr_id 0 (by omega) (by omega)), lives_more K hK]
    rfl
  · have hm : rawMay k w h m = true := decide_eq_true (by omega)
    have hb := rawS_bound hm
    have hw : wrap64 (((rawS k w m : Nat) : Int) * h) = ((rawS k w m : Nat) : Int) * h := by
      have h1 : 0 ≤ ((rawS k w m : Nat) : Int) * h := Int.mul_nonneg (by omega) (by omega)
      have h2 : ((rawS k w m : Nat) : Int) * h ≤ 24576 * 4096 := Int.mul_le_mul (by omega) (by omega) (by omega) (by omega)
      exact wr_id _ (by omega) (by omega)
    rw [raw_stride_is hm, Option.bind_some, refstride_is hm, Option.bind_some, if_pos rfl, Option.bind_some, refsize_is hm, Option.bind_some, if_pos hw, lives_more K hK]
    rfl
theorem RawNew : chequerlaw09_RawNew.Pure := by
  intro a b c d ha hb hc hd
  obtain ⟨k, w, h, m, hg, ho⟩ := good_is a b c d (wf_i64 ha) (wf_i64 hb) (wf_i64 hc) (wf_i64 hd)
  refine ⟨45, ?_⟩
  unfold chequerlaw09_RawNew.f
  rw [hg, Option.bind_some]
  rw [show (0 : Int) = ((0 : Nat) : Int) from rfl, rawnew_round _ 0 (by omega) (by simp) 43, rawnew_round _ 1 (by omega) (by simp) 41]
  exact rawnew_end _ 40 (by omega) k w h m ho
end Go.Proofs.Ytdjonaajfhbfhaa.Pure
