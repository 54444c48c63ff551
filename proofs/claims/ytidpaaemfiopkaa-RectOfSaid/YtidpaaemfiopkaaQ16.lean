-- written by our own program (wip/tools/myprint.py) out of the translation, by the kit's print; Lean checks it
import Derived.Test.YtidpaaemfiopkaaQ0
import Derived.Test.YtidpaaemfiopkaaQ2
import Derived.Test.YtidpaaemfiopkaaQ6
import Derived.Test.YtidpaaemfiopkaaQ7
import Derived.Test.YtidpaaemfiopkaaQ9
import Derived.Test.YtidpaaemfiopkaaQ13
import Derived.Test.YtidpaaemfiopkaaQ15
namespace Go.Proofs.Ytidpaaemfiopkaa.Q
open Go.RowKit Go.Proofs.YtidpaaemfiopkaaW.PrintWords Go.Proofs.YtidpaaemfiopkaaW.PrintLast Go.Proofs.YtidpaaemfiopkaaW.PrintMore
attribute [local go_sem] max2_int min2_int max_two min_two max_three min_three max_four min_four   -- for this text's walks alone
set_option linter.unusedVariables false
set_option linter.unusedSimpArgs false

abbrev Fl178 : Array Bool := #[false, false, false, false, false, false, false, false, false, false, false, false, false, false, false, false, false, false, false, false, false]
abbrev Fl179 : Array Bool := #[true, false, false, false, false, false, false, false, false, false, false, false, false, false, false, false, false, false, false, false, false]
abbrev Fl180 : Array Bool := #[true, true, false, false, false, false, false, false, false, false, false, false, false, false, false, false, false, false, false, false, false]
abbrev Fl181 : Array Bool := #[true, true, true, false, false, false, false, false, false, false, false, false, false, false, false, false, false, false, false, false, false]
abbrev Fl182 : Array Bool := #[true, true, true, true, false, false, false, false, false, false, false, false, false, false, false, false, false, false, false, false, false]
abbrev Fl183 : Array Bool := #[true, true, true, true, true, false, false, false, false, false, false, false, false, false, false, false, false, false, false, false, false]
abbrev Fl184 : Array Bool := #[true, true, true, true, true, true, true, false, false, false, false, false, false, false, false, false, false, false, false, false, false]
abbrev Fl185 : Array Bool := #[true, true, true, true, true, true, true, true, false, false, false, false, false, false, false, false, false, false, false, false, false]
abbrev Fl186 : Array Bool := #[true, true, true, true, true, true, true, true, true, false, false, false, false, false, false, false, false, false, false, false, false]
abbrev Fl187 : Array Bool := #[true, true, true, true, true, true, true, true, true, true, false, false, false, false, false, false, false, false, false, false, false]
abbrev Fl188 : Array Bool := #[true, true, true, true, true, true, true, true, true, true, true, false, false, false, false, false, false, false, false, false, false]
abbrev Fl189 : Array Bool := #[true, true, true, true, true, true, true, true, true, true, true, true, false, false, false, false, false, false, false, false, false]
abbrev Fl190 : Array Bool := #[true, true, true, true, true, true, true, true, true, true, true, true, true, false, false, false, false, false, false, false, false]
abbrev Fl191 : Array Bool := #[true, true, true, true, true, true, true, true, true, true, true, true, true, true, false, false, false, false, false, false, false]
abbrev Fl192 : Array Bool := #[true, true, true, true, true, true, true, true, true, true, true, true, true, true, true, false, false, false, false, false, false]
abbrev Fl193 : Array Bool := #[true, true, true, true, true, true, true, true, true, true, true, true, true, true, true, true, false, false, false, false, false]
abbrev Fl194 : Array Bool := #[true, true, true, true, true, true, true, true, true, true, true, true, true, true, true, true, true, true, false, false, false]
abbrev Fl195 : Array Bool := #[true, true, true, true, true, true, true, true, true, true, true, true, true, true, true, true, true, true, true, false, false]
abbrev Fl196 : Array Bool := #[true, true, true, true, true, true, true, true, true, true, true, true, true, true, true, true, true, true, true, true, false]
abbrev Fl197 : Array Bool := #[true, true, true, true, true, true, true, true, true, true, true, true, true, true, true, true, true, true, true, true, true]
abbrev Fl198 : Array Bool := #[false, false, false, false, false, false, false, false, false, false, false, false, false, false, false, false, false, false]
abbrev Fl199 : Array Bool := #[false, true, false, false, false, false, false, false, false, false, false, false, false, false, false, false, false, false]
abbrev Fl200 : Array Bool := #[false, true, false, false, true, false, false, false, false, false, false, false, false, false, false, false, false, false]
abbrev Fl201 : Array Bool := #[true, true, false, false, true, false, false, false, false, false, false, false, false, false, false, false, false, false]
abbrev Fl202 : Array Bool := #[true, true, false, true, true, false, false, false, false, false, false, false, false, false, false, false, false, false]
abbrev Fl203 : Array Bool := #[true, true, true, true, true, false, false, false, false, false, false, false, false, false, false, false, false, false]
abbrev Fl204 : Array Bool := #[true, true, true, true, true, false, true, false, false, false, false, false, false, false, false, false, false, false, false, false, false]
abbrev Fl205 : Array Bool := #[true, true, true, true, true, true, false, false, false, false, false, false, false, false, false, false, false, false]
abbrev Fl206 : Array Bool := #[true, true, true, true, true, true, true, false, false, false, false, false, false, false, false, false, false, false]
abbrev Fl207 : Array Bool := #[true, true, true, true, true, true, true, true, false, false, false, false, false, false, false, false, false, false]
abbrev Fl208 : Array Bool := #[true, true, true, true, true, true, true, true, true, false, false, false, false, false, false, false, false, false]
abbrev Fl209 : Array Bool := #[true, true, true, true, true, true, true, true, true, true, true, true, true, true, false, false, false, false]
abbrev Fl210 : Array Bool := #[true, true, true, true, true, true, true, true, true, true, true, true, true, true, true, false, false, false]
abbrev Fl211 : Array Bool := #[true, true, true, true, true, true, true, true, true, true, true, true, true, true, true, true, false, false]
abbrev Fl212 : Array Bool := #[true, true, true, true, true, true, true, true, true, true, true, true, true, true, true, true, true, false, false, false, false]
abbrev Fl213 : Array Bool := #[true, true, true, true, true, true, true, true, true, true, true, true, true, true, true, true, true, false]
abbrev Fl214 : Array Bool := #[true, true, true, true, true, true, true, true, true, true, true, true, true, true, true, true, true, true]
abbrev Fl215 : Array Bool := #[true, true, true, true, true, true, true, true, true, false, true, false, false, false, false, false, false, false]
abbrev Fl216 : Array Bool := #[true, true, true, true, true, true, true, true, true, false, true, false, false, true, false, false, false, false]
abbrev Fl217 : Array Bool := #[true, true, true, true, true, true, true, true, true, true, true, false, false, true, false, false, false, false]
abbrev Fl218 : Array Bool := #[true, true, true, true, true, true, true, true, true, true, true, false, true, true, false, false, false, false]
/-! ### chequerlaw03_RectOf: function 7 -/
mutual
def chequerlaw03_RectOf.j1 : Nat → List (List Int) → Int → Int → List Int → Option (Bool)
 | 0, _, _, _, _ => none
 | k + 1, x5, x489000, x489001, x489002 => (rect_Of.f k x5).bind fun bt499 => ((chequerref03_Of.f k x5).bind fun bt506 => ((chequerref03_Good.f k x489000 x489001 x489002 5).bind fun bt513 => (chequerlaw03_RectOf.l1 k bt499.2.2.2 bt506.2.2.2 ([] : List (List Int)) 0 bt499.1 bt499.2.1 bt499.2.2.1 bt506.1 bt506.2.1 bt506.2.2.1 bt513.1 bt513.2.1 bt513.2.2)))
def chequerlaw03_RectOf.l1 : Nat → Int → Int → List (List Int) → Int → Int → Int → List Int → Int → Int → List Int → Int → Int → List Int → Option (Bool)
 | 0, _, _, _, _, _, _, _, _, _, _, _, _, _ => none
 | k + 1, x8, x10, x12, x13, x506000, x506001, x506002, x513000, x513001, x513002, x519000, x519001, x519002 => if x13 < x519001 then ((chequerref03_Row.f k x519000 x519001 x519002 x13).bind fun t519 => (if x12.length < 5864062014805 then (chequerlaw03_RectOf.l1 k x8 x10 (x12 ++ [t519]) (wrap64 (x13 + 1)) x506000 x506001 x506002 x513000 x513001 x513002 x519000 x519001 x519002) else (none))) else ((rect_Of.f k x12).bind fun bt525 => (if x8 = x10 then ((chequerlaw03_as.f x506000 x506001 x506002).bind fun bt532 => ((chequerref03_Same.f k bt532.1 bt532.2.1 bt532.2.2 x513000 x513001 x513002).bind fun t537 => (if t537 = true then (if bt525.2.2.2 = 0 then ((chequerlaw03_as.f bt525.1 bt525.2.1 bt525.2.2.1).bind fun bt538 => ((chequerref03_Same.f k bt538.1 bt538.2.1 bt538.2.2 x519000 x519001 x519002).bind fun t543 => (chequerlaw03_RectOf.j3 k (!t543) x519000 x519001 x519002 bt525.1 bt525.2.1 bt525.2.2.1))) else (chequerlaw03_RectOf.j3 k true x519000 x519001 x519002 bt525.1 bt525.2.1 bt525.2.2.1)) else (chequerlaw03_RectOf.j3 k true x519000 x519001 x519002 bt525.1 bt525.2.1 bt525.2.2.1)))) else (chequerlaw03_RectOf.j3 k true x519000 x519001 x519002 bt525.1 bt525.2.1 bt525.2.2.1)))
def chequerlaw03_RectOf.j3 : Nat → Bool → Int → Int → List Int → Int → Int → List Int → Option (Bool)
 | 0, _, _, _, _, _, _, _ => none
 | k + 1, x90, x519000, x519001, x519002, x532000, x532001, x532002 => if x90 = true then (some false) else (chequerlaw03_RectOf.l2 k (-1) x519000 x519001 x519002 x532000 x532001 x532002)
def chequerlaw03_RectOf.l2 : Nat → Int → Int → Int → List Int → Int → Int → List Int → Option (Bool)
 | 0, _, _, _, _, _, _, _ => none
 | k + 1, x16, x519000, x519001, x519002, x532000, x532001, x532002 => if x16 ≤ 5 then ((rect_Matrix_Row.f x532000 x532001 x532002 x16).bind fun t546 => ((chequerref03_Row.f k x519000 x519001 x519002 x16).bind fun t549 => ((chequerref03_SameRow.f k t546 t549).bind fun t552 => (if t552 = true then ((rect_Matrix_Col.f k x532000 x532001 x532002 x16).bind fun t553 => ((chequerref03_Col.f k x519000 x519001 x519002 x16).bind fun t556 => ((chequerref03_SameRow.f k t553 t556).bind fun t559 => (if t559 = true then (chequerlaw03_RectOf.l2 k (wrap64 (x16 + 1)) x519000 x519001 x519002 x532000 x532001 x532002) else (some false))))) else (some false))))) else ((rect_May.f x532000 x532001 x532002).bind fun t544 => (if t544 = true then ((chequerlaw03_lives.f k).bind fun t545 => (some t545)) else (some false)))
def chequerlaw03_RectOf.l0 : Nat → List (List Int) → List (List Int) → Int → Int → Int → List Int → Option (Bool)
 | 0, _, _, _, _, _, _ => none
 | k + 1, x0, x5, x6, x489000, x489001, x489002 => if x6 < (x0.length : Int) then (if x6 < 5 then (if 0 ≤ x6 then (if 0 ≤ (mn ((rd_L2 x0 x6).length : Int) 6) then (if (mn ((rd_L2 x0 x6).length : Int) 6) ≤ ((rd_L2 x0 x6).length : Int) then (if x5.length < 5864062014805 then (chequerlaw03_RectOf.l0 k x0 (x5 ++ [((rd_L2 x0 x6).take ((mn ((rd_L2 x0 x6).length : Int) 6) : Int).toNat)]) (wrap64 (x6 + 1)) x489000 x489001 x489002) else (none)) else (none)) else (none)) else (none)) else (chequerlaw03_RectOf.j1 k x5 x489000 x489001 x489002)) else (chequerlaw03_RectOf.j1 k x5 x489000 x489001 x489002)
end
def chequerlaw03_RectOf.f (k : Nat) (l0 : List (List Int)) (a1_0 : Int) (a1_1 : Int) (l1_2 : List Int) : Option (Bool) := chequerlaw03_RectOf.l0 k l0 ([] : List (List Int)) 0 a1_0 a1_1 l1_2
theorem chequerlaw03_RectOf.mono_l : ∀ k, (∀ y0 y1 y2 y3, LeO (chequerlaw03_RectOf.j1 k y0 y1 y2 y3) (chequerlaw03_RectOf.j1 (k + 1) y0 y1 y2 y3)) ∧ (∀ y0 y1 y2 y3 y4 y5 y6 y7 y8 y9 y10 y11 y12, LeO (chequerlaw03_RectOf.l1 k y0 y1 y2 y3 y4 y5 y6 y7 y8 y9 y10 y11 y12) (chequerlaw03_RectOf.l1 (k + 1) y0 y1 y2 y3 y4 y5 y6 y7 y8 y9 y10 y11 y12)) ∧ (∀ y0 y1 y2 y3 y4 y5 y6, LeO (chequerlaw03_RectOf.j3 k y0 y1 y2 y3 y4 y5 y6) (chequerlaw03_RectOf.j3 (k + 1) y0 y1 y2 y3 y4 y5 y6)) ∧ (∀ y0 y1 y2 y3 y4 y5 y6, LeO (chequerlaw03_RectOf.l2 k y0 y1 y2 y3 y4 y5 y6) (chequerlaw03_RectOf.l2 (k + 1) y0 y1 y2 y3 y4 y5 y6)) ∧ (∀ y0 y1 y2 y3 y4 y5, LeO (chequerlaw03_RectOf.l0 k y0 y1 y2 y3 y4 y5) (chequerlaw03_RectOf.l0 (k + 1) y0 y1 y2 y3 y4 y5))
 | 0 => ⟨fun _ _ _ _ r h => by simp [chequerlaw03_RectOf.j1] at h, fun _ _ _ _ _ _ _ _ _ _ _ _ _ r h => by simp [chequerlaw03_RectOf.l1] at h, fun _ _ _ _ _ _ _ r h => by simp [chequerlaw03_RectOf.j3] at h, fun _ _ _ _ _ _ _ r h => by simp [chequerlaw03_RectOf.l2] at h, fun _ _ _ _ _ _ r h => by simp [chequerlaw03_RectOf.l0] at h⟩
 | k + 1 => by
  obtain ⟨ih0, ih1, ih2, ih3, ih4⟩ := chequerlaw03_RectOf.mono_l k
  refine ⟨?_, ?_, ?_, ?_, ?_⟩
  · intro y0 y1 y2 y3
    unfold chequerlaw03_RectOf.j1
    repeat' first
    | (with_reducible exact ih0 _ _ _ _)
    | (with_reducible exact ih1 _ _ _ _ _ _ _ _ _ _ _ _ _)
    | (with_reducible exact ih2 _ _ _ _ _ _ _)
    | (with_reducible exact ih3 _ _ _ _ _ _ _)
    | (with_reducible exact ih4 _ _ _ _ _ _)
    | (with_reducible exact chequerlaw03_lives.mono _)
    | (with_reducible exact chequerref03_Col.mono _ _ _ _ _)
    | (with_reducible exact chequerref03_Good.mono _ _ _ _ _)
    | (with_reducible exact chequerref03_Of.mono _ _)
    | (with_reducible exact chequerref03_Row.mono _ _ _ _ _)
    | (with_reducible exact chequerref03_Same.mono _ _ _ _ _ _ _)
    | (with_reducible exact chequerref03_SameRow.mono _ _ _)
    | (with_reducible exact rect_Matrix_Col.mono _ _ _ _ _)
    | (with_reducible exact rect_Of.mono _ _)
    | (with_reducible exact LeO.refl _)
    | (with_reducible exact LeO.none _)
    | (with_reducible refine LeO.ite ?_ ?_)
    | (with_reducible refine LeO.bind ?_ (fun _ => ?_))
    | exact ih0 _ _ _ _
    | exact ih1 _ _ _ _ _ _ _ _ _ _ _ _ _
    | exact ih2 _ _ _ _ _ _ _
    | exact ih3 _ _ _ _ _ _ _
    | exact ih4 _ _ _ _ _ _
    | exact chequerlaw03_lives.mono _
    | exact chequerref03_Col.mono _ _ _ _ _
    | exact chequerref03_Good.mono _ _ _ _ _
    | exact chequerref03_Of.mono _ _
    | exact chequerref03_Row.mono _ _ _ _ _
    | exact chequerref03_Same.mono _ _ _ _ _ _ _
    | exact chequerref03_SameRow.mono _ _ _
    | exact rect_Matrix_Col.mono _ _ _ _ _
    | exact rect_Of.mono _ _
    | exact LeO.none _
    | refine LeO.ite ?_ ?_
    | refine LeO.bind ?_ (fun _ => ?_)
  · intro y0 y1 y2 y3 y4 y5 y6 y7 y8 y9 y10 y11 y12
    unfold chequerlaw03_RectOf.l1
    repeat' first
    | (with_reducible exact ih0 _ _ _ _)
    | (with_reducible exact ih1 _ _ _ _ _ _ _ _ _ _ _ _ _)
    | (with_reducible exact ih2 _ _ _ _ _ _ _)
    | (with_reducible exact ih3 _ _ _ _ _ _ _)
    | (with_reducible exact ih4 _ _ _ _ _ _)
    | (with_reducible exact chequerlaw03_lives.mono _)
    | (with_reducible exact chequerref03_Col.mono _ _ _ _ _)
    | (with_reducible exact chequerref03_Good.mono _ _ _ _ _)
    | (with_reducible exact chequerref03_Of.mono _ _)
    | (with_reducible exact chequerref03_Row.mono _ _ _ _ _)
    | (with_reducible exact chequerref03_Same.mono _ _ _ _ _ _ _)
    | (with_reducible exact chequerref03_SameRow.mono _ _ _)
    | (with_reducible exact rect_Matrix_Col.mono _ _ _ _ _)
    | (with_reducible exact rect_Of.mono _ _)
    | (with_reducible exact LeO.refl _)
    | (with_reducible exact LeO.none _)
    | (with_reducible refine LeO.ite ?_ ?_)
    | (with_reducible refine LeO.bind ?_ (fun _ => ?_))
    | exact ih0 _ _ _ _
    | exact ih1 _ _ _ _ _ _ _ _ _ _ _ _ _
    | exact ih2 _ _ _ _ _ _ _
    | exact ih3 _ _ _ _ _ _ _
    | exact ih4 _ _ _ _ _ _
    | exact chequerlaw03_lives.mono _
    | exact chequerref03_Col.mono _ _ _ _ _
    | exact chequerref03_Good.mono _ _ _ _ _
    | exact chequerref03_Of.mono _ _
    | exact chequerref03_Row.mono _ _ _ _ _
    | exact chequerref03_Same.mono _ _ _ _ _ _ _
    | exact chequerref03_SameRow.mono _ _ _
    | exact rect_Matrix_Col.mono _ _ _ _ _
    | exact rect_Of.mono _ _
    | exact LeO.none _
    | refine LeO.ite ?_ ?_
    | refine LeO.bind ?_ (fun _ => ?_)
  · intro y0 y1 y2 y3 y4 y5 y6
    unfold chequerlaw03_RectOf.j3
    repeat' first
    | (with_reducible exact ih0 _ _ _ _)
    | (with_reducible exact ih1 _ _ _ _ _ _ _ _ _ _ _ _ _)
    | (with_reducible exact ih2 _ _ _ _ _ _ _)
    | (with_reducible exact ih3 _ _ _ _ _ _ _)
    | (with_reducible exact ih4 _ _ _ _ _ _)
    | (with_reducible exact chequerlaw03_lives.mono _)
    | (with_reducible exact chequerref03_Col.mono _ _ _ _ _)
    | (with_reducible exact chequerref03_Good.mono _ _ _ _ _)
    | (with_reducible exact chequerref03_Of.mono _ _)
    | (with_reducible exact chequerref03_Row.mono _ _ _ _ _)
    | (with_reducible exact chequerref03_Same.mono _ _ _ _ _ _ _)
    | (with_reducible exact chequerref03_SameRow.mono _ _ _)
    | (with_reducible exact rect_Matrix_Col.mono _ _ _ _ _)
    | (with_reducible exact rect_Of.mono _ _)
    | (with_reducible exact LeO.refl _)
    | (with_reducible exact LeO.none _)
    | (with_reducible refine LeO.ite ?_ ?_)
    | (with_reducible refine LeO.bind ?_ (fun _ => ?_))
    | exact ih0 _ _ _ _
    | exact ih1 _ _ _ _ _ _ _ _ _ _ _ _ _
    | exact ih2 _ _ _ _ _ _ _
    | exact ih3 _ _ _ _ _ _ _
    | exact ih4 _ _ _ _ _ _
    | exact chequerlaw03_lives.mono _
    | exact chequerref03_Col.mono _ _ _ _ _
    | exact chequerref03_Good.mono _ _ _ _ _
    | exact chequerref03_Of.mono _ _
    | exact chequerref03_Row.mono _ _ _ _ _
    | exact chequerref03_Same.mono _ _ _ _ _ _ _
    | exact chequerref03_SameRow.mono _ _ _
    | exact rect_Matrix_Col.mono _ _ _ _ _
    | exact rect_Of.mono _ _
    | exact LeO.none _
    | refine LeO.ite ?_ ?_
    | refine LeO.bind ?_ (fun _ => ?_)
  · intro y0 y1 y2 y3 y4 y5 y6
    unfold chequerlaw03_RectOf.l2
    repeat' first
    | (with_reducible exact ih0 _ _ _ _)
    | (with_reducible exact ih1 _ _ _ _ _ _ _ _ _ _ _ _ _)
    | (with_reducible exact ih2 _ _ _ _ _ _ _)
    | (with_reducible exact ih3 _ _ _ _ _ _ _)
    | (with_reducible exact ih4 _ _ _ _ _ _)
    | (with_reducible exact chequerlaw03_lives.mono _)
    | (with_reducible exact chequerref03_Col.mono _ _ _ _ _)
    | (with_reducible exact chequerref03_Good.mono _ _ _ _ _)
    | (with_reducible exact chequerref03_Of.mono _ _)
    | (with_reducible exact chequerref03_Row.mono _ _ _ _ _)
    | (with_reducible exact chequerref03_Same.mono _ _ _ _ _ _ _)
    | (with_reducible exact chequerref03_SameRow.mono _ _ _)
    | (with_reducible exact rect_Matrix_Col.mono _ _ _ _ _)
    | (with_reducible exact rect_Of.mono _ _)
    | (with_reducible exact LeO.refl _)
    | (with_reducible exact LeO.none _)
    | (with_reducible refine LeO.ite ?_ ?_)
    | (with_reducible refine LeO.bind ?_ (fun _ => ?_))
    | exact ih0 _ _ _ _
    | exact ih1 _ _ _ _ _ _ _ _ _ _ _ _ _
    | exact ih2 _ _ _ _ _ _ _
    | exact ih3 _ _ _ _ _ _ _
    | exact ih4 _ _ _ _ _ _
    | exact chequerlaw03_lives.mono _
    | exact chequerref03_Col.mono _ _ _ _ _
    | exact chequerref03_Good.mono _ _ _ _ _
    | exact chequerref03_Of.mono _ _
    | exact chequerref03_Row.mono _ _ _ _ _
    | exact chequerref03_Same.mono _ _ _ _ _ _ _
    | exact chequerref03_SameRow.mono _ _ _
    | exact rect_Matrix_Col.mono _ _ _ _ _
    | exact rect_Of.mono _ _
    | exact LeO.none _
    | refine LeO.ite ?_ ?_
    | refine LeO.bind ?_ (fun _ => ?_)
  · intro y0 y1 y2 y3 y4 y5
    unfold chequerlaw03_RectOf.l0
    repeat' first
    | (with_reducible exact ih0 _ _ _ _)
    | (with_reducible exact ih1 _ _ _ _ _ _ _ _ _ _ _ _ _)
    | (with_reducible exact ih2 _ _ _ _ _ _ _)
    | (with_reducible exact ih3 _ _ _ _ _ _ _)
    | (with_reducible exact ih4 _ _ _ _ _ _)
    | (with_reducible exact chequerlaw03_lives.mono _)
    | (with_reducible exact chequerref03_Col.mono _ _ _ _ _)
    | (with_reducible exact chequerref03_Good.mono _ _ _ _ _)
    | (with_reducible exact chequerref03_Of.mono _ _)
    | (with_reducible exact chequerref03_Row.mono _ _ _ _ _)
    | (with_reducible exact chequerref03_Same.mono _ _ _ _ _ _ _)
    | (with_reducible exact chequerref03_SameRow.mono _ _ _)
    | (with_reducible exact rect_Matrix_Col.mono _ _ _ _ _)
    | (with_reducible exact rect_Of.mono _ _)
    | (with_reducible exact LeO.refl _)
    | (with_reducible exact LeO.none _)
    | (with_reducible refine LeO.ite ?_ ?_)
    | (with_reducible refine LeO.bind ?_ (fun _ => ?_))
    | exact ih0 _ _ _ _
    | exact ih1 _ _ _ _ _ _ _ _ _ _ _ _ _
    | exact ih2 _ _ _ _ _ _ _
    | exact ih3 _ _ _ _ _ _ _
    | exact ih4 _ _ _ _ _ _
    | exact chequerlaw03_lives.mono _
    | exact chequerref03_Col.mono _ _ _ _ _
    | exact chequerref03_Good.mono _ _ _ _ _
    | exact chequerref03_Of.mono _ _
    | exact chequerref03_Row.mono _ _ _ _ _
    | exact chequerref03_Same.mono _ _ _ _ _ _ _
    | exact chequerref03_SameRow.mono _ _ _
    | exact rect_Matrix_Col.mono _ _ _ _ _
    | exact rect_Of.mono _ _
    | exact LeO.none _
    | refine LeO.ite ?_ ?_
    | refine LeO.bind ?_ (fun _ => ?_)
theorem chequerlaw03_RectOf.mono : ∀ a0 a1 a2 a3 k, LeO (chequerlaw03_RectOf.f k a0 a1 a2 a3) (chequerlaw03_RectOf.f (k + 1) a0 a1 a2 a3) := by
 intro a0 a1 a2 a3 k
 obtain ⟨ih0, ih1, ih2, ih3, ih4⟩ := chequerlaw03_RectOf.mono_l k
 unfold chequerlaw03_RectOf.f
 repeat' first
  | (with_reducible exact ih0 _ _ _ _)
  | (with_reducible exact ih1 _ _ _ _ _ _ _ _ _ _ _ _ _)
  | (with_reducible exact ih2 _ _ _ _ _ _ _)
  | (with_reducible exact ih3 _ _ _ _ _ _ _)
  | (with_reducible exact ih4 _ _ _ _ _ _)
  | (with_reducible exact chequerlaw03_lives.mono _)
  | (with_reducible exact chequerref03_Col.mono _ _ _ _ _)
  | (with_reducible exact chequerref03_Good.mono _ _ _ _ _)
  | (with_reducible exact chequerref03_Of.mono _ _)
  | (with_reducible exact chequerref03_Row.mono _ _ _ _ _)
  | (with_reducible exact chequerref03_Same.mono _ _ _ _ _ _ _)
  | (with_reducible exact chequerref03_SameRow.mono _ _ _)
  | (with_reducible exact rect_Matrix_Col.mono _ _ _ _ _)
  | (with_reducible exact rect_Of.mono _ _)
  | (with_reducible exact LeO.refl _)
  | (with_reducible exact LeO.none _)
  | (with_reducible refine LeO.ite ?_ ?_)
  | (with_reducible refine LeO.bind ?_ (fun _ => ?_))
  | exact ih0 _ _ _ _
  | exact ih1 _ _ _ _ _ _ _ _ _ _ _ _ _
  | exact ih2 _ _ _ _ _ _ _
  | exact ih3 _ _ _ _ _ _ _
  | exact ih4 _ _ _ _ _ _
  | exact chequerlaw03_lives.mono _
  | exact chequerref03_Col.mono _ _ _ _ _
  | exact chequerref03_Good.mono _ _ _ _ _
  | exact chequerref03_Of.mono _ _
  | exact chequerref03_Row.mono _ _ _ _ _
  | exact chequerref03_Same.mono _ _ _ _ _ _ _
  | exact chequerref03_SameRow.mono _ _ _
  | exact rect_Matrix_Col.mono _ _ _ _ _
  | exact rect_Of.mono _ _
  | exact LeO.none _
  | refine LeO.ite ?_ ?_
  | refine LeO.bind ?_ (fun _ => ?_)
def chequerlaw03_RectOf.T5 : Bool × List (List Nat × List Nat) := (true, [([], []), ([], []), ([], []), ([1, 2], [1, 2]), ([3], [3]), ([], []), ([], []), ([5, 6], [5, 6]), ([7], [7]), ([8], [8]), ([9], [9]), ([4, 10], [4, 10]), ([11], [11]), ([0, 12], [0, 12]), ([13, 13, 0, 1, 2, 3, 4, 5, 6, 7, 8, 9, 10, 11, 12, 13], [0, 13])])
def chequerlaw03_RectOf.B5 : List Nat := [0, 0, 0, 6, 14, 0, 0, 96, 224, 480, 992, 2046, 4094, 8191, 16383]
theorem chequerlaw03_RectOf.tab5 : rtab .any (opsOf Try.f7 5) = chequerlaw03_RectOf.T5 := by kernel_rfl
theorem chequerlaw03_RectOf.bits5 : waitsOk chequerlaw03_RectOf.T5.2 chequerlaw03_RectOf.B5 = true := by kernel_rfl
def chequerlaw03_RectOf.T15 : Bool × List (List Nat × List Nat) := (true, [([], []), ([], []), ([0, 1], [0, 1]), ([2], [2]), ([3], [3]), ([4, 3, 3], [3, 4]), ([3], [3]), ([5, 6, 5, 3], [3, 5, 6]), ([7, 3], [3, 7]), ([3, 8], [3, 8]), ([9, 7], [9]), ([10], [10]), ([11, 10], [10, 11]), ([10, 12], [10, 12]), ([13, 10], [13]), ([14], [14]), ([15, 14, 14], [14, 15]), ([14], [14]), ([16, 17, 16, 14], [14, 16, 17]), ([18, 14], [14, 18]), ([14, 19], [14, 19])])
def chequerlaw03_RectOf.B15 : List Nat := [0, 0, 3, 7, 15, 31, 15, 127, 255, 511, 1023, 2047, 4095, 8191, 16383, 32767, 65535, 32767, 262143, 524287, 1048575]
theorem chequerlaw03_RectOf.tab15 : rtab .any (opsOf Try.f7 15) = chequerlaw03_RectOf.T15 := by kernel_rfl
theorem chequerlaw03_RectOf.bits15 : waitsOk chequerlaw03_RectOf.T15.2 chequerlaw03_RectOf.B15 = true := by kernel_rfl
def chequerlaw03_RectOf.T20 : Bool × List (List Nat × List Nat) := (true, [([], []), ([], []), ([0, 1], [0, 1]), ([], []), ([], []), ([3, 4, 2], [3, 4]), ([2, 5, 5], [2, 5]), ([6], [6]), ([7, 6], [7]), ([8], [8]), ([8], [8]), ([9, 10, 8, 8], [8, 9, 10]), ([8], [8]), ([8], [8]), ([12, 13, 11, 8], [8, 12, 13]), ([11, 14, 14, 8], [8, 11, 14]), ([15, 8], [8, 15]), ([8, 16], [8, 16])])
def chequerlaw03_RectOf.B20 : List Nat := [0, 0, 3, 0, 0, 31, 63, 127, 255, 511, 511, 2047, 511, 511, 16383, 32767, 65535, 131071]
theorem chequerlaw03_RectOf.tab20 : rtab .any (opsOf Try.f7 20) = chequerlaw03_RectOf.T20 := by kernel_rfl
theorem chequerlaw03_RectOf.bits20 : waitsOk chequerlaw03_RectOf.T20.2 chequerlaw03_RectOf.B20 = true := by kernel_rfl
set_option maxHeartbeats 8000000 in
set_option maxRecDepth 100000 in
theorem chequerlaw03_RectOf.calls (k : Nat) (P0_ : Nat → Prop) (A0 : Option Addr) (c0 : Nat) (l0 : List (List Int)) (a1_0 : Int) (a1_1 : Int) (A1_2 : Option Addr) (c1_2 : Nat) (l1_2 : List Int) (r : Bool) (w : World) (hs0 : Kd.V (Kd.slice 46 (Kd.int .u64)) 22 w w.heap.size (fun k_ => P0_ k_) (.slice A0 l0.length c0) l0) (hr1_2 : Kd.C (Kd.int .u64) w A1_2 l1_2.length l1_2) (hc1_2 : l1_2.length ≤ c1_2) (h : chequerlaw03_RectOf.f k l0 a1_0 a1_1 l1_2 = some r) :
 Calls Try.prog 7 #[.slice A0 l0.length c0, .agg #[.int .i64 a1_0, .int .i64 a1_1, .slice A1_2 l1_2.length c1_2]] w fun e w' => e = .returned (.bool r) ∧ Below w.heap.size w w' := by
 have hu24 := Try.underlying24
 have hu32 := Try.underlying32
 have HO0 := Aside0.mk (show Kd.V (Kd.slice 46 (Kd.int .u64)) 22 w w.heap.size (fun k_ => (P0_ k_ ∨ w.heap.size ≤ k_)) (.slice A0 l0.length c0) l0 from Kd.V_mono hs0 (fun k_ hk => .inl hk))
 have HR1_2 := Aside0.mk hr1_2
 have HC1_2 := Aside0.mk hc1_2
 clear hr1_2 hc1_2
 have HB := Aside0.mk (Below.refl w.heap.size w)
 have H : (chequerlaw03_RectOf.l0 k l0 ([] : List (List Int)) 0 a1_0 a1_1 l1_2) = some r := h
 clear h
 have HC3 := Aside0.mk H
 clear H
 go_enter Try.func7, Try.ntmps7
 go_upto_block 0 with (first | ((with_reducible refine gate_dst (N := 3) rfl ?_); refine box_event ?hg (N := 3) ?hd (cs := #[.int .i64 a1_0, .int .i64 a1_1, .slice A1_2 l1_2.length c1_2]) (t := 24) ?hr ?_; (case hd => rfl); (case hg => rfl); (case hr => first | (go_simp; done) | (go_simp; rfl)); intro gb488 hg w4 hbox hb; replace HO0 := Aside0.mk (Kd.V_below (Kd.V_elderB (vp_ HO0.out) gb488 (Nat.le_of_eq hg.symm)) hb); have BK488 := Aside0.mk (hbox); have GW488 := Aside0.mk ((by rw [hg]; exact (below_size bp_) : w.heap.size ≤ gb488)); have GE488 := Aside0.mk ((by rw [hg]; exact (below_size bp_) : w.heap.size ≤ gb488)); replace HB := Aside0.mk (below_step bp_ hb); clear hb hbox hg))
 (try simp only [Act.put, List.setIfInBounds_toArray, List.set_cons_zero, List.set_cons_succ])
 go_cut [5] (fun v5 wc => ∃ (kq : Nat) (x5_2 : List (List Int)), Aside0 (chequerlaw03_RectOf.j1 kq x5_2 a1_0 a1_1 l1_2 = some r) ∧ Aside0 (kq ≤ k) ∧ Aside0 (Kd.N (Kd.slice 46 (Kd.int .u64)) 22 wc w.heap.size (fun k_ => (P0_ k_ ∨ w.heap.size ≤ k_) ∧ k_ ≠ gb488) v5 x5_2) ∧ Aside0 (wc.heap[gb488]? = some (.cells #[.int .i64 a1_0, .int .i64 a1_1, (.slice A1_2 l1_2.length c1_2)] 24 (0, 0))) ∧ Aside0 (Below w.heap.size w wc))
 case first =>
  have H := HC3.out
  clear HC3
  have H' := Aside0.mk H
  clear H
  go_wp2
  go_loopg [5, 6] k (fun kq v5 v6 w' => ∃ (x5_1 : List (List Int)) (x6_1 : Int), v6 = .int .i64 x6_1 ∧ Aside0 (chequerlaw03_RectOf.l0 kq l0 x5_1 x6_1 a1_0 a1_1 l1_2 = some r) ∧ Aside0 (kq ≤ k) ∧ Aside0 (Kd.V (Kd.slice 46 (Kd.int .u64)) 22 w' w.heap.size (fun k_ => (P0_ k_ ∨ w.heap.size ≤ k_) ∧ some k_ ≠ (v5 : Value).ownBlock ∧ k_ ≠ gb488) (.slice A0 l0.length c0) l0) ∧ Aside0 (Kd.N (Kd.slice 46 (Kd.int .u64)) 22 w' w.heap.size (fun k_ => (P0_ k_ ∨ w.heap.size ≤ k_) ∧ k_ ≠ gb488) v5 x5_1) ∧ Aside0 (w'.heap[gb488]? = some (.cells #[.int .i64 a1_0, .int .i64 a1_1, (.slice A1_2 l1_2.length c1_2)] 24 (0, 0))) ∧ Aside0 (Below w.heap.size w w'))
  case atStart => exact ⟨(([] : List (List Int))), (0), (by first | rfl | (simp; done) | (simp [*]; done)), H', ⟨Nat.le_refl _⟩, ⟨by (with_reducible repeat (first | apply Kd.V_alloc | apply Kd.V_drewN | apply Kd.V_drew)); exact Kd.V_mono HO0.out (fun _ hk => ⟨hk.1, ⟨(by simp [Value.ownBlock]), hk.2⟩⟩)⟩, ⟨by first | exact Kd.S_nil _ _ _ _ _ | exact Kd.N_nil _ _ _ _ _ | exact Kd.V_nil _ _ _ _ _ | exact Kd.Q_nil _ _ _ _ _ | exact Kd.R_nil _ _ _ _ _⟩, ⟨hp_ BK488.out⟩, ⟨bp_⟩⟩
  case round =>
   clear H'
   try clear c1
   try clear p2
   obtain ⟨x5_1, x6_1, rfl, HA, HK1, HO_0, HO_5, BK488, HB⟩ := hrel
   cases gk with
   | zero => exact absurd HA.out (by simp [chequerlaw03_RectOf.l0])
   | succ k1 =>
    have H := HA.out
    clear HA
    simp only [chequerlaw03_RectOf.l0] at H
    by_cases c5 : x6_1 < (l0.length : Int)
    · rw [if_pos c5] at H
      have c5b0 : decide (x6_1 < (l0.length : Int)) = true := decide_eq_true c5
      clear c5
      (first | rw [c5b0] | (simp only [i64_w, i32_w]; rw [c5b0]) | skip)
      by_cases c6 : x6_1 < 5
      · rw [if_pos c6] at H
        have c6b0 : decide (x6_1 < 5) = true := decide_eq_true c6
        clear c6
        by_cases c7 : 0 ≤ x6_1
        · rw [if_pos c7] at H
          have c7b0 : decide (0 ≤ x6_1) = true := decide_eq_true c7
          clear c7
          obtain ⟨ji8, hji8⟩ : ∃ j_ : Int, (mn ((rd_L2 l0 x6_1).length : Int) 6) = j_ := ⟨_, rfl⟩
          replace H : (if 0 ≤ (ji8) then (if (ji8) ≤ ((rd_L2 l0 x6_1).length : Int) then (if x5_1.length < 5864062014805 then (chequerlaw03_RectOf.l0 k1 l0 (x5_1 ++ [((rd_L2 l0 x6_1).take ((ji8) : Int).toNat)]) (wrap64 (x6_1 + 1)) a1_0 a1_1 l1_2) else (none)) else (none)) else (none)) = some r := by first | (rw [hji8] at H; exact H) | (simp only [hji8] at H ⊢; exact H)
          have hji8_ : (if 6 < ((rd_L2 l0 x6_1).length : Int) then 6 else ((rd_L2 l0 x6_1).length : Int)) = ji8 := hji8
          by_cases c9 : 0 ≤ (ji8)
          · rw [if_pos c9] at H
            have c9b0 := eq_true c9
            have c9b1 : decide (0 ≤ (ji8)) = true := decide_eq_true c9
            clear c9
            by_cases c10 : (ji8) ≤ ((rd_L2 l0 x6_1).length : Int)
            · rw [if_pos c10] at H
              have c10b0 := eq_true c10
              have c10b1 : decide ((ji8) ≤ ((rd_L2 l0 x6_1).length : Int)) = true := decide_eq_true c10
              clear c10
              obtain ⟨y491, hy491⟩ : ∃ y_ : List Int, y_ = ((rd_L2 l0 x6_1).take ((ji8) : Int).toNat) := ⟨_, rfl⟩
              replace H : (if x5_1.length < 5864062014805 then (chequerlaw03_RectOf.l0 k1 l0 (x5_1 ++ [y491]) (wrap64 (x6_1 + 1)) a1_0 a1_1 l1_2) else (none)) = some r := by first | (rw [hy491]; with_reducible exact H) | (have H2_ := (Option.bind_some _ _).symm.trans H; rw [hy491]; with_reducible exact H2_) | (have H2_ := (Option.bind_some _ _).symm.trans H; with_reducible exact H2_) | with_reducible exact H | (rw [hy491]; exact H) | exact H
              have Ny491 := Aside0.mk hy491
              clear hy491
              by_cases c11 : x5_1.length < 5864062014805
              · rw [if_pos c11] at H
                have LMc11 := Aside0.mk c11
                clear c11
                obtain ⟨y496, hy496⟩ : ∃ y_ : List (List Int), y_ = (x5_1 ++ [y491]) := ⟨_, rfl⟩
                replace H : (chequerlaw03_RectOf.l0 k1 l0 y496 (wrap64 (x6_1 + 1)) a1_0 a1_1 l1_2) = some r := by first | (rw [hy496]; with_reducible exact H) | (have H2_ := (Option.bind_some _ _).symm.trans H; rw [hy496]; with_reducible exact H2_) | (have H2_ := (Option.bind_some _ _).symm.trans H; with_reducible exact H2_) | with_reducible exact H | (rw [hy496]; exact H) | exact H
                have Ny496 := Aside0.mk hy496
                clear hy496
                have H' := Aside0.mk H
                clear H
                try go_wp2
                (try (rw [drewN_self wr]; generalize hq_ : World.drewN wr _ = wr; have n0_ := Aside0.mk (qvp_ hq_ HO_0.out); have n1_ : Aside0 (Kd.N (Kd.slice 46 (Kd.int .u64)) 22 wr w.heap.size (fun k_ => (P0_ k_ ∨ w.heap.size ≤ k_) ∧ k_ ≠ gb488) u5 x5_1) := ⟨by rw [← hq_]; exact (by (with_reducible repeat (first | apply Kd.N_alloc | apply Kd.N_drewN | apply Kd.N_drew)); exact HO_5.out)⟩; have n2_ := Aside0.mk (qhp_ hq_ BK488.out); have n3_ : Aside0 (Below w.heap.size w wr) := ⟨qbp_ hq_⟩; clear HO_0 HO_5 BK488 HB hq_; have HO_0 := n0_; have HO_5 := n1_; have BK488 := n2_; have HB := n3_; clear n0_ n1_ n2_ n3_))
                replace HO_0 := Aside0.mk (Kd.V_drew HO_0.out)
                replace HO_5 := Aside0.mk (Kd.N_drew HO_5.out)
                replace BK488 := Aside0.mk (blk_drew BK488.out)
                replace HB := Aside0.mk (below_drew1 HB.out)
                have p489 : 0 ≤ (x6_1 : Int) := of_decide_eq_true (by first | (with_reducible assumption) | assumption)
                have q489 : x6_1 < (l0.length : Int) := of_decide_eq_true (by first | (with_reducible assumption) | assumption)
                obtain ⟨ad489, A489_0, c489_0, e489, hx489_0, hl489_0, hi489_0⟩ := at_L2 (Kd.V_reads' HO_0.out).2.2 x6_1 p489 q489
                cases e489
                obtain ⟨ce489, hce489, hMe489, hcc489⟩ := Kd.V_get HO_0.out [] x6_1 p489 (by first | exact q489 | exact of_decide_eq_true (by first | (with_reducible assumption) | assumption) | (have e_ := (Kd.V_reads' HO_0.out).1; omega))
                obtain ⟨ua489_0, uc489_0, rfl, ul489_0, ge489_0⟩ := Kd.FK_slice_open hMe489
                have hv489_0 := hcc489 0 _ rfl
                rw [Nat.add_zero, show ((Kd.slice 46 (Kd.int .u64))).sz = 1 from rfl, Nat.mul_one] at hv489_0
                replace hv489_0 := Option.some.inj (hv489_0.symm.trans hx489_0)
                injection hv489_0 with hva_ hvn_ hvc_
                rw [hva_] at ge489_0
                rw [hvc_] at ul489_0
                have HL489_0 := Aside0.mk (show Kd.V (Kd.int .u64) 46 _ w.heap.size _ _ (rd_L2 l0 x6_1) from Kd.V_mk ul489_0 ge489_0)
                clear hva_ hvn_ hvc_ ge489_0 ul489_0
                clear hcc489 hce489
                have HR489_0 := Aside0.mk hi489_0
                have HC489_0 := Aside0.mk hl489_0
                clear hi489_0 hl489_0
                replace p489 := eq_true p489
                replace q489 := eq_true q489
                have p490 : 0 ≤ (x6_1 : Int) := of_decide_eq_true (by first | (with_reducible assumption) | assumption)
                have q490 : x6_1 < (l0.length : Int) := of_decide_eq_true (by first | (with_reducible assumption) | assumption)
                obtain ⟨ad490, A490_0, c490_0, e490, hx490_0, hl490_0, hi490_0⟩ := at_L2 (Kd.V_reads' HO_0.out).2.2 x6_1 p490 q490
                obtain rfl : ad489 = ad490 := (by injection e490)
                obtain ⟨ce490, hce490, hMe490, hcc490⟩ := Kd.V_get HO_0.out [] x6_1 p490 (by first | exact q490 | exact of_decide_eq_true (by first | (with_reducible assumption) | assumption) | (have e_ := (Kd.V_reads' HO_0.out).1; omega))
                obtain ⟨ua490_0, uc490_0, rfl, ul490_0, ge490_0⟩ := Kd.FK_slice_open hMe490
                have hv490_0 := hcc490 0 _ rfl
                rw [Nat.add_zero, show ((Kd.slice 46 (Kd.int .u64))).sz = 1 from rfl, Nat.mul_one] at hv490_0
                replace hv490_0 := Option.some.inj (hv490_0.symm.trans hx490_0)
                injection hv490_0 with hva_ hvn_ hvc_
                rw [hva_] at ge490_0
                rw [hvc_] at ul490_0
                have HL490_0 := Aside0.mk (show Kd.V (Kd.int .u64) 46 _ w.heap.size _ _ (rd_L2 l0 x6_1) from Kd.V_mk ul490_0 ge490_0)
                clear hva_ hvn_ hvc_ ge490_0 ul490_0
                clear hcc490 hce490
                have HR490_0 := Aside0.mk hi490_0
                have HC490_0 := Aside0.mk hl490_0
                clear hi490_0 hl490_0
                replace p490 := eq_true p490
                replace q490 := eq_true q490
                have ea_ := Option.some.inj (hx489_0.symm.trans hx490_0)
                injection ea_ with ea_ en_ ec_
                subst ea_
                subst ec_
                clear en_
                have q13 : ((ji8) : Int) ≤ (((rd_L2 l0 x6_1).length : Int) : Int) := of_decide_eq_true (by first | (with_reducible assumption) | assumption)
                obtain ⟨i013, hi013, _, hsz13, _⟩ := info_parts info46
                have hroom13 : (rd_L2 l0 x6_1).length ≤ c489_0 := HC489_0.out
                have hC13 : Kd.F (Kd.int .u64) _ _ A489_0 (rd_L2 l0 x6_1).length (rd_L2 l0 x6_1) := (Kd.V_at (base := w.heap.size) HL489_0.out).2.2
                have hcut13 := cut_to (P := Try.prog) 22 46 .i64 Try.underlying22 hi013 A489_0 (rd_L2 l0 x6_1).length c489_0 (ji8) (of_decide_eq_true (by first | (with_reducible assumption) | assumption)) q13 hroom13
                have hr13 := Kd.F_take (m := ((ji8) : Int).toNat) hC13 (by omega)
                have hy13 : y491.length = ((ji8) : Int).toNat := (by rw [Ny491.out, List.length_take]; omega)
                rw [← Ny491.out] at hr13
                rw [← hy13] at hcut13
                have HO495 := Aside0.mk (show Kd.V (Kd.int .u64) 46 _ w.heap.size _ (.slice A489_0 y491.length c489_0) y491 from Kd.V_mk (by omega) hr13)
                have HC495 := Aside0.mk (show y491.length ≤ c489_0 from by omega)
                clear hr13 hC13 hroom13 hi013 hsz13
                have KY13 := Aside0.mk hy13
                clear hy13
                replace q13 := eq_true q13
                refine start_ (n := 15) (S := fun w' => w'.cell? (ad489.add (x6_1).toNat) = some (.slice A489_0 (rd_L2 l0 x6_1).length c489_0) ∧ w'.cell? (ad489.add (x6_1).toNat) = some (.slice A489_0 (rd_L2 l0 x6_1).length c489_0)) (ds := [12, 13]) #[false, false, false, false, false, false, false, false, false, false, false, false, false, false, false] (by kernel_rfl) rfl rfl ⟨hx489_0, hx490_0⟩ (fun hHeld => ?_); refine with_tabW chequerlaw03_RectOf.tab5 chequerlaw03_RectOf.bits5 (fun HT_ HW_ => ?_)
                generalize wr.drew = w12 at HO_0 HO_5 BK488 HB HL489_0 HL490_0 HO495 HR489_0 HR490_0 hx489_0 hx490_0 hHeld ⊢
                refine pur_ (i := 0) (N := some 27) #[true, false, false, false, false, false, false, false, false, false, false, false, false, false, false] (any_of HT_.out (by kernel_rfl)) ?_
                refine pur_ (i := 1) (N := some 28) #[true, true, false, false, false, false, false, false, false, false, false, false, false, false, false] (any_of HT_.out (by kernel_rfl)) ?_
                refine pur_ (i := 2) (N := some 29) #[true, true, true, false, false, false, false, false, false, false, false, false, false, false, false] (any_of HT_.out (by kernel_rfl)) ?_
                refine pur_ (i := 3) (N := some 30) #[true, true, true, true, false, false, false, false, false, false, false, false, false, false, false] (any_of HT_.out (by kernel_rfl)) ?_
                refine pur_ (i := 5) (N := some 32) #[true, true, true, true, false, true, false, false, false, false, false, false, false, false, false] (any_of HT_.out (by kernel_rfl)) ?_
                refine pur_ (i := 6) (N := some 33) #[true, true, true, true, false, true, true, false, false, false, false, false, false, false, false] (any_of HT_.out (by kernel_rfl)) ?_
                refine pur_ (i := 7) (N := some 34) #[true, true, true, true, false, true, true, true, false, false, false, false, false, false, false] (any_of HT_.out (by kernel_rfl)) ?_
                refine take_ (i := 4) (N := some 31) (v := ?_) (a' := ?_) #[true, true, true, true, true, true, true, true, false, false, false, false, false, false, false] rfl rfl (take_ofW HT_.out HW_.out (by kernel_rfl)) (fun _ _ _ h => h) (Or.inl ⟨by rfl, ?_⟩) hHeld ?_ ?_
                rotate_left
                · rintro w' ⟨s0, s1⟩
                  go_simp
                  with_reducible rfl
                rotate_left
                · simp only [Act.put, List.setIfInBounds_toArray, List.set_cons_zero, List.set_cons_succ, i64_w, i32_w]
                  rfl
                refine take_ (i := 8) (N := some 35) (v := ?_) (a' := ?_) #[true, true, true, true, true, true, true, true, true, false, false, false, false, false, false] rfl rfl (take_ofW HT_.out HW_.out (by kernel_rfl)) (fun _ _ _ h => h) (Or.inl ⟨by rfl, ?_⟩) hHeld ?_ ?_
                rotate_left
                · rintro w' ⟨s0, s1⟩
                  go_simp
                  with_reducible rfl
                rotate_left
                · simp only [Act.put, List.setIfInBounds_toArray, List.set_cons_zero, List.set_cons_succ, i64_w, i32_w]
                  rfl
                refine pur_ (i := 9) (N := some 36) #[true, true, true, true, true, true, true, true, true, true, false, false, false, false, false] (any_of HT_.out (by kernel_rfl)) ?_
                refine pur_ (i := 10) (N := some 37) #[true, true, true, true, true, true, true, true, true, true, true, false, false, false, false] (any_of HT_.out (by kernel_rfl)) ?_
                refine pur_ (i := 11) (N := some 38) #[true, true, true, true, true, true, true, true, true, true, true, true, false, false, false] (any_of HT_.out (by kernel_rfl)) ?_
                refine last_ (i := 12) (N := some 39) #[true, true, true, true, true, true, true, true, true, true, true, true, true, false, false] rfl rfl (one_of HT_.out (by kernel_rfl)) (by decide) (fun K hK => ?_)
                refine value_ (w1 := ?_) (v := ?_) (by rfl) rfl ?_ ?_
                rotate_left 2
                · go_simp
                  constructor
                  · rfl
                  · rfl
                refine hK.out _ _ ?_
                clear hK K
                refine norm_ (a' := ?_) ?_ ?_
                rotate_left
                · show Act.put _ (some 39) _ = _
                  simp only [Act.put, List.setIfInBounds_toArray, List.set_cons_zero, List.set_cons_succ, i64_w, i32_w]
                  rfl
                refine last_ (i := 13) (N := some 40) #[true, true, true, true, true, true, true, true, true, true, true, true, true, true, false] rfl rfl (one_of HT_.out (by kernel_rfl)) (by decide) (fun K hK => ?_)
                refine Kd.N_append_step (Kd.slice 46 (Kd.int .u64)) (w0 := w) w.heap.size (by rfl) (.tmp 27) (.tmp 39) 61 22 (.slice none 0 0) 24 rfl Try.underlying61 info22 rfl (by decide) (by omega) u5 x5_1 y491 [.slice A489_0 y491.length c489_0] (fun k_ => (P0_ k_ ∨ w.heap.size ≤ k_) ∧ k_ ≠ gb488) (fun k_ => ((fun k_ => (P0_ k_ ∨ w.heap.size ≤ k_) ∧ k_ ≠ gb488)) k_ ∧ some k_ ≠ (u5 : Value).ownBlock) rfl rfl ?aP (fun _ hk => hk) ?aF ?aO ?aB ?aS ?aL ?_
                (case aP => exact (Kd.FK_slice_mk (Kd.V_reads' (Kd.V_mono (ok' := (fun k_ => ((fun k_ => (P0_ k_ ∨ w.heap.size ≤ k_) ∧ k_ ≠ gb488)) k_ ∧ some k_ ≠ (u5 : Value).ownBlock)) (HO495.out) (fun k_ hk => ⟨⟨hk.1, hk.2.2⟩, hk.2.1⟩))).2.1 (Kd.V_F (Kd.V_mono (ok' := (fun k_ => ((fun k_ => (P0_ k_ ∨ w.heap.size ≤ k_) ∧ k_ ≠ gb488)) k_ ∧ some k_ ≠ (u5 : Value).ownBlock)) (HO495.out) (fun k_ hk => ⟨⟨hk.1, hk.2.2⟩, hk.2.1⟩)))))
                (case aB => exact bp_)
                (case aF => exact (fun k_ hk => ⟨(.inr (Nat.le_trans (below_size bp_) hk)), Kd.freshB (g := gb488) (o := .cells #[.int .i64 a1_0, .int .i64 a1_1, .slice A1_2 l1_2.length c1_2] 24 (0, 0)) (hp_ BK488.out) k_ hk⟩))
                (case aO => exact (by (with_reducible repeat (first | apply Kd.N_alloc | apply Kd.N_drewN | apply Kd.N_drew)); exact HO_5.out))
                (case aS => exact (below_size bp_))
                (case aL => have := LMc11.out; omega)
                intro v497 w14 ho hb hg hat
                rw [← Ny496.out] at ho
                replace HO_0 := Aside0.mk (Kd.V_afterv (ok := (fun k_ => (P0_ k_ ∨ w.heap.size ≤ k_) ∧ k_ ≠ gb488)) (by (with_reducible repeat (first | apply Kd.V_alloc | apply Kd.V_drewN | apply Kd.V_drew)); exact Kd.V_mono HO_0.out (fun _ hk => ⟨⟨hk.1, hk.2.2⟩, hk.2.1⟩)) hg hat)
                replace BK488 := Aside0.mk (blk_grown (g := gb488) (o := .cells #[.int .i64 a1_0, .int .i64 a1_1, .slice A1_2 l1_2.length c1_2] 24 (0, 0)) (hp_ BK488.out) hg (Kd.N_ne HO_5.out BK488.out (by decide)))
                replace HL489_0 := Aside0.mk (Kd.V_afterv (ok := (fun k_ => (P0_ k_ ∨ w.heap.size ≤ k_) ∧ k_ ≠ gb488)) (by (with_reducible repeat (first | apply Kd.V_alloc | apply Kd.V_drewN | apply Kd.V_drew)); exact Kd.V_mono HL489_0.out (fun _ hk => ⟨⟨hk.1, hk.2.2⟩, hk.2.1⟩)) hg hat)
                replace HL490_0 := Aside0.mk (Kd.V_afterv (ok := (fun k_ => (P0_ k_ ∨ w.heap.size ≤ k_) ∧ k_ ≠ gb488)) (by (with_reducible repeat (first | apply Kd.V_alloc | apply Kd.V_drewN | apply Kd.V_drew)); exact Kd.V_mono HL490_0.out (fun _ hk => ⟨⟨hk.1, hk.2.2⟩, hk.2.1⟩)) hg hat)
                replace HO495 := Aside0.mk (Kd.V_afterv (ok := (fun k_ => (P0_ k_ ∨ w.heap.size ≤ k_) ∧ k_ ≠ gb488)) (by (with_reducible repeat (first | apply Kd.V_alloc | apply Kd.V_drewN | apply Kd.V_drew)); exact Kd.V_mono HO495.out (fun _ hk => ⟨⟨hk.1, hk.2.2⟩, hk.2.1⟩)) hg hat)
                replace HB := Aside0.mk (hb)
                have HO498 := Aside0.mk (ho)
                clear HO_5
                clear ho hb hg hat
                refine hK.out _ _ ?_
                clear hK K
                refine norm_ (a' := ?_) ?_ ?_
                rotate_left
                · show Act.put _ (some 40) _ = _
                  simp only [Act.put, List.setIfInBounds_toArray, List.set_cons_zero, List.set_cons_succ, i64_w, i32_w]
                  rfl
                refine pur_ (i := 14) (N := some 5) #[true, true, true, true, true, true, true, true, true, true, true, true, true, true, true] (any_of HT_.out (by kernel_rfl)) ?_
                refine done_ (done_of HT_.out (by kernel_rfl)) ?_
                try go_wp2
                go_roundg k1
                case measure => have := HK1.out; omega
                case rel => exact ⟨(y496), (wrap64 (x6_1 + 1)), (by first | rfl | (simp; done) | (simp [*]; done)), H', ⟨by have := HK1.out; omega⟩, ⟨by (with_reducible repeat (first | apply Kd.V_alloc | apply Kd.V_drewN | apply Kd.V_drew)); exact Kd.V_mono HO_0.out (fun _ hk => ⟨hk.1.1, ⟨hk.2, hk.1.2⟩⟩)⟩, ⟨by (with_reducible repeat (first | apply Kd.N_alloc | apply Kd.N_drewN | apply Kd.N_drew)); exact HO498.out⟩, ⟨hp_ BK488.out⟩, ⟨bp_⟩⟩
              · rw [if_neg c11] at H
                exact absurd H (by simp)
            · rw [if_neg c10] at H
              exact absurd H (by simp)
          · rw [if_neg c9] at H
            exact absurd H (by simp)
        · rw [if_neg c7] at H
          exact absurd H (by simp)
      · rw [if_neg c6] at H
        have c6b0 : decide (x6_1 < 5) = false := decide_eq_false c6
        clear c6
        have H' := Aside0.mk H
        clear H
        go_wp2
        go_meet
        case rel => exact ⟨_, (x5_1), H', ⟨by have := HK1.out; first | omega | exact Nat.le_refl _⟩, ⟨by (with_reducible repeat (first | apply Kd.N_alloc | apply Kd.N_drewN | apply Kd.N_drew)); exact HO_5.out⟩, ⟨hp_ BK488.out⟩, ⟨bp_⟩⟩
    · rw [if_neg c5] at H
      have c5b0 : decide (x6_1 < (l0.length : Int)) = false := decide_eq_false c5
      clear c5
      (first | rw [c5b0] | (simp only [i64_w, i32_w]; rw [c5b0]) | skip)
      have H' := Aside0.mk H
      clear H
      go_wp2
      go_meet
      case rel => exact ⟨_, (x5_1), H', ⟨by have := HK1.out; first | omega | exact Nat.le_refl _⟩, ⟨by (with_reducible repeat (first | apply Kd.N_alloc | apply Kd.N_drewN | apply Kd.N_drew)); exact HO_5.out⟩, ⟨hp_ BK488.out⟩, ⟨bp_⟩⟩
 case rest =>
  clear HC3
  try clear c1
  try clear q1
  try clear p2
  try clear c4
  try clear p4
  try clear q4
  try clear hx4
  try clear c5
  try clear c5b0
  try clear c6
  try clear c6b0
  try clear p6
  try clear c7
  try clear c7b0
  try clear c9
  try clear c9b0
  try clear c9b1
  try clear c10
  try clear c10b0
  try clear c10b1
  try clear c11
  try clear q13
  try clear hx489_0
  try clear hx490_0
  try clear p2
  try clear p489
  try clear p490
  try clear q13
  try clear q489
  try clear q490
  obtain ⟨kq, x5_2, HA, HJ2, HO_5, BK488, HB⟩ := hcut
  cases kq with
  | zero => exact absurd HA.out (by simp [chequerlaw03_RectOf.j1])
  | succ kj2 =>
   have H := HA.out
   clear HA
   simp only [chequerlaw03_RectOf.j1] at H
   replace H := Option.bind_eq_some_iff.mp H
   obtain ⟨⟨t499, t500, t501, t504⟩, A150, H⟩ := H
   replace H : ((chequerref03_Of.f kj2 x5_2).bind fun bt506 => ((chequerref03_Good.f kj2 a1_0 a1_1 l1_2 5).bind fun bt513 => (chequerlaw03_RectOf.l1 kj2 t504 bt506.2.2.2 ([] : List (List Int)) 0 t499 t500 t501 bt506.1 bt506.2.1 bt506.2.2.1 bt513.1 bt513.2.1 bt513.2.2))) = some r := H
   have A15 := Aside0.mk A150
   clear A150
   replace H := Option.bind_eq_some_iff.mp H
   obtain ⟨⟨t506, t507, t508, t511⟩, A160, H⟩ := H
   replace H : ((chequerref03_Good.f kj2 a1_0 a1_1 l1_2 5).bind fun bt513 => (chequerlaw03_RectOf.l1 kj2 t504 t511 ([] : List (List Int)) 0 t499 t500 t501 t506 t507 t508 bt513.1 bt513.2.1 bt513.2.2)) = some r := H
   have A16 := Aside0.mk A160
   clear A160
   replace H := Option.bind_eq_some_iff.mp H
   obtain ⟨⟨t513, t514, t515⟩, A170, H⟩ := H
   replace H : (chequerlaw03_RectOf.l1 kj2 t504 t511 ([] : List (List Int)) 0 t499 t500 t501 t506 t507 t508 t513 t514 t515) = some r := H
   have A17 := Aside0.mk A170
   clear A170
   have H' := Aside0.mk H
   clear H
   obtain ⟨Ao18, co18, eo18⟩ := Kd.N_slice HO_5.out
   subst eo18
   go_wp2_with (first | ((with_reducible refine gate_callee (f := 29) rfl ?_); refine goQ_ (some 43) Try.func29 #[.slice Ao18 x5_2.length co18] ?_; (with_reducible refine (rect_Of.calls kj2 _ _ x5_2 t499 t500 t501 t504 _ ?side1 ?side2 A15.out).mono ?_); (case side1 => repeat (first | exact (Kd.N_reads' HO_5.out).2.2 | (with_reducible refine Kd.C_alloc ?_ _) | (with_reducible refine Kd.C_drewN ?_ _) | (with_reducible refine Kd.C_drew ?_))); (case side2 => exact (Kd.N_reads' HO_5.out).2.1); rintro e w19 ⟨v502, rfl, ho0, hb⟩; refine ⟨_, rfl, ?_⟩; replace HO_5 := Aside0.mk (Kd.N_elder' (by (with_reducible repeat (first | apply Kd.N_alloc | apply Kd.N_drewN | apply Kd.N_drew)); exact HO_5.out) (Kd.R_base ho0) hb); have HO503 := Aside0.mk (Kd.R_lower (Kd.R_newM (M := fun k_ => (w.heap.size ≤ k_)) ho0 (below_size bp_) (fun k_ h_ => h_)) (below_size bp_)); replace BK488 := Aside0.mk (blk_below (hp_ BK488.out) hb); replace HB := Aside0.mk (below_step bp_ hb); (try clear hb); (try clear hb2); (try clear hk); (try clear hi); (try clear ho0)) | ((with_reducible refine gate_dst (N := 7) rfl ?_); refine box_event ?hg (N := 7) ?hd (cs := #[.int .i64 0, .int .i64 0, .slice none 0 0]) (t := 32) ?hr ?_; (case hd => rfl); (case hg => rfl); (case hr => first | (go_simp; done) | (go_simp; rfl)); intro gb505 hg w20 hbox hb; replace HO_5 := Aside0.mk (Kd.N_below (Kd.N_elderB (by (with_reducible repeat (first | apply Kd.N_alloc | apply Kd.N_drewN | apply Kd.N_drew)); exact HO_5.out) gb505 (Nat.le_of_eq hg.symm)) hb); replace HO503 := Aside0.mk (Kd.R_below (rp_ HO503.out) hb); have BK505 := Aside0.mk (hbox); have GW505 := Aside0.mk ((by rw [hg]; exact (below_size bp_) : w.heap.size ≤ gb505)); have GE505 := Aside0.mk ((by rw [hg]; exact (below_size bp_) : w.heap.size ≤ gb505)); replace HB := Aside0.mk (below_step bp_ hb); have NB488_505 := Aside0.mk ((nlt_ hg (hp_ BK488.out))); have NB505_488 := Aside0.mk ((ngt_ hg (hp_ BK488.out))); replace BK488 := Aside0.mk (blk_below (hp_ BK488.out) hb); clear hb hbox hg; have hnb21 := NB505_488.out; have hnc21 := NB488_505.out; have hcz22_0 : w20.cell? ⟨gb505, 0, none⟩ = some (.int .i64 0) := (blk_cell BK505.out 0).trans rfl; have hcz22_1 : w20.cell? ⟨gb505, 1, none⟩ = some (.int .i64 0) := (blk_cell BK505.out 1).trans rfl; have hcz22_2 : w20.cell? ⟨gb505, 2, none⟩ = some (.slice none 0 0) := (blk_cell BK505.out 2).trans rfl; have hfz22_0 := blk_frozen BK505.out 0; have hfz22_1 := blk_frozen BK505.out 1; have hfz22_2 := blk_frozen BK505.out 2; obtain ⟨Ao23, co23, eo23⟩ := Kd.R_slice HO503.out; subst eo23) | ((with_reducible refine gate_callee (f := 30) rfl ?_); refine goQ_ (some 48) Try.func30 #[.slice Ao18 x5_2.length co18] ?_; (with_reducible refine (chequerref03_Of.calls kj2 _ _ x5_2 t506 t507 t508 t511 _ ?side1 ?side2 A16.out).mono ?_); (case side1 => refine (Kd.N_reads' (e := 22) (base := w.heap.size) (ok := fun k_ => ((((P0_ k_ ∨ w.heap.size ≤ k_) ∧ k_ ≠ gb488) ∧ some k_ ≠ (.slice Ao23 t501.length co23 : Value).ownBlock) ∧ k_ ≠ gb505)) (n := x5_2.length) (c := co18) ?_).2.2; exact (by (with_reducible repeat (first | apply Kd.N_alloc | apply Kd.N_drewN | apply Kd.N_drew)); exact (Kd.N_mono (Kd.N_far (p := ⟨gb505, 2, none⟩) (Kd.N_far (p := ⟨gb505, 1, none⟩) (Kd.N_far (p := ⟨gb505, 0, none⟩) (Kd.N_mono HO_5.out (fun k_ hk => (⟨hk, hk.2⟩ : _ ∧ k_ ≠ gb505))) (fun _ hk => hk.2) (.int .i64 t499)) (fun _ hk => hk.2) (.int .i64 t500)) (fun _ hk => hk.2) (.slice Ao23 t501.length co23)) (fun _ h_ => h_.1)))); (case side2 => exact (Kd.N_reads' HO_5.out).2.1); rintro e w24 ⟨v509, rfl, ho0, hb⟩; refine ⟨_, rfl, ?_⟩; replace HO_5 := Aside0.mk (Kd.N_elder' (by (with_reducible repeat (first | apply Kd.N_alloc | apply Kd.N_drewN | apply Kd.N_drew)); exact (Kd.N_mono (Kd.N_far (p := ⟨gb505, 2, none⟩) (Kd.N_far (p := ⟨gb505, 1, none⟩) (Kd.N_far (p := ⟨gb505, 0, none⟩) (Kd.N_mono HO_5.out (fun k_ hk => (⟨hk, hk.2⟩ : _ ∧ k_ ≠ gb505))) (fun _ hk => hk.2) (.int .i64 t499)) (fun _ hk => hk.2) (.int .i64 t500)) (fun _ hk => hk.2) (.slice Ao23 t501.length co23)) (fun _ h_ => h_.1))) (Kd.R_base ho0) hb); have HO510 := Aside0.mk (Kd.R_lower (Kd.R_new' (Kd.R_newM (M := fun k_ => (w.heap.size ≤ k_)) ho0 (below_size bp_) (fun k_ h_ => h_)) (Kd.R_lt (by (with_reducible repeat (first | apply Kd.R_alloc | apply Kd.R_drewN | apply Kd.R_drew)); exact (Kd.R_mono (Kd.R_far (p := ⟨gb505, 2, none⟩) (Kd.R_far (p := ⟨gb505, 1, none⟩) (Kd.R_far (p := ⟨gb505, 0, none⟩) (Kd.R_types HO503.out BK505.out (by decide)) (fun _ hk => hk.2) (.int .i64 t499)) (fun _ hk => hk.2) (.int .i64 t500)) (fun _ hk => hk.2) (.slice Ao23 t501.length co23)) (fun _ h_ => h_.1))))) (below_size bp_)); replace HO503 := Aside0.mk (Kd.R_elder' (by (with_reducible repeat (first | apply Kd.R_alloc | apply Kd.R_drewN | apply Kd.R_drew)); exact (Kd.R_mono (Kd.R_far (p := ⟨gb505, 2, none⟩) (Kd.R_far (p := ⟨gb505, 1, none⟩) (Kd.R_far (p := ⟨gb505, 0, none⟩) (Kd.R_types HO503.out BK505.out (by decide)) (fun _ hk => hk.2) (.int .i64 t499)) (fun _ hk => hk.2) (.int .i64 t500)) (fun _ hk => hk.2) (.slice Ao23 t501.length co23)) (fun _ h_ => h_.1))) (Kd.R_base ho0) hb); replace BK488 := Aside0.mk (blk_below (hf_ BK488.out NB488_505.out) hb); replace BK505 := Aside0.mk (blk_below (g := gb505) (o := .cells #[.int .i64 t499, .int .i64 t500, .slice Ao23 t501.length co23] 32 (0, 0)) (by (with_reducible repeat (first | refine blk_drewN ?_ _ | refine blk_drew ?_ | refine blk_alloc ?_ _)); refine blk_put (cs := #[.int .i64 t499, .int .i64 t500, .slice none 0 0]) ?_ 2 _ rfl; (with_reducible repeat (first | refine blk_drewN ?_ _ | refine blk_drew ?_ | refine blk_alloc ?_ _)); refine blk_put (cs := #[.int .i64 t499, .int .i64 0, .slice none 0 0]) ?_ 1 _ rfl; (with_reducible repeat (first | refine blk_drewN ?_ _ | refine blk_drew ?_ | refine blk_alloc ?_ _)); refine blk_put (cs := #[.int .i64 0, .int .i64 0, .slice none 0 0]) ?_ 0 _ rfl; (with_reducible repeat (first | refine blk_drewN ?_ _ | refine blk_drew ?_ | refine blk_alloc ?_ _)); exact BK505.out) hb); replace HB := Aside0.mk (below_step bp_ hb); (try clear hb); (try clear hb2); (try clear hk); (try clear hi); (try clear ho0)) | ((with_reducible refine gate_dst (N := 9) rfl ?_); refine box_event ?hg (N := 9) ?hd (cs := #[.int .i64 0, .int .i64 0, .slice none 0 0]) (t := 24) ?hr ?_; (case hd => rfl); (case hg => rfl); (case hr => first | (go_simp; done) | (go_simp; rfl)); intro gb512 hg w25 hbox hb; replace HO_5 := Aside0.mk (Kd.N_below (Kd.N_elderB (by (with_reducible repeat (first | apply Kd.N_alloc | apply Kd.N_drewN | apply Kd.N_drew)); exact HO_5.out) gb512 (Nat.le_of_eq hg.symm)) hb); replace HO503 := Aside0.mk (Kd.R_below (rp_ HO503.out) hb); replace HO510 := Aside0.mk (Kd.R_below (rp_ HO510.out) hb); have BK512 := Aside0.mk (hbox); have GW512 := Aside0.mk ((by rw [hg]; exact (below_size bp_) : w.heap.size ≤ gb512)); have GE512 := Aside0.mk ((by rw [hg]; exact (below_size bp_) : w.heap.size ≤ gb512)); replace HB := Aside0.mk (below_step bp_ hb); have NB488_512 := Aside0.mk ((nlt_ hg (hp_ BK488.out))); have NB512_488 := Aside0.mk ((ngt_ hg (hp_ BK488.out))); replace BK488 := Aside0.mk (blk_below (hp_ BK488.out) hb); have NB505_512 := Aside0.mk ((nlt_ hg (hp_ BK505.out))); have NB512_505 := Aside0.mk ((ngt_ hg (hp_ BK505.out))); replace BK505 := Aside0.mk (blk_below (hp_ BK505.out) hb); clear hb hbox hg; have hnb26 := NB512_488.out; have hnc26 := NB488_512.out; have hnb27 := NB512_505.out; have hnc27 := NB505_512.out; have hcz28_0 : w25.cell? ⟨gb512, 0, none⟩ = some (.int .i64 0) := (blk_cell BK512.out 0).trans rfl; have hcz28_1 : w25.cell? ⟨gb512, 1, none⟩ = some (.int .i64 0) := (blk_cell BK512.out 1).trans rfl; have hcz28_2 : w25.cell? ⟨gb512, 2, none⟩ = some (.slice none 0 0) := (blk_cell BK512.out 2).trans rfl; have hfz28_0 := blk_frozen BK512.out 0; have hfz28_1 := blk_frozen BK512.out 1; have hfz28_2 := blk_frozen BK512.out 2; obtain ⟨Ao29, co29, eo29⟩ := Kd.R_slice HO510.out; subst eo29; have hcz30_0 : w25.cell? ⟨gb488, 0, none⟩ = some (.int .i64 a1_0) := (blk_cell BK488.out 0).trans rfl; have hcz30_1 : w25.cell? ⟨gb488, 1, none⟩ = some (.int .i64 a1_1) := (blk_cell BK488.out 1).trans rfl; have hcz30_2 : w25.cell? ⟨gb488, 2, none⟩ = some (.slice A1_2 l1_2.length c1_2) := (blk_cell BK488.out 2).trans rfl; have hfz30_0 := blk_frozen BK488.out 0; have hfz30_1 := blk_frozen BK488.out 1; have hfz30_2 := blk_frozen BK488.out 2) | ((with_reducible refine gate_callee (f := 10) rfl ?_); refine goQ_ (some 52) Try.func10 #[.agg #[.int .i64 a1_0, .int .i64 a1_1, .slice A1_2 l1_2.length c1_2], .int .i64 5] ?_; (with_reducible refine (chequerref03_Good.calls kj2 a1_0 a1_1 _ _ l1_2 5 t513 t514 t515 _ ?side1 ?side2 A17.out).mono ?_); (case side1 => exact Kd.C_below HR1_2.out bp_); (case side2 => exact HC1_2.out); rintro e w31 ⟨v516, rfl, ho0, hb⟩; refine ⟨_, rfl, ?_⟩; replace HO_5 := Aside0.mk (Kd.N_elder' (by (with_reducible repeat (first | apply Kd.N_alloc | apply Kd.N_drewN | apply Kd.N_drew)); exact (Kd.N_mono (Kd.N_far (p := ⟨gb512, 2, none⟩) (Kd.N_far (p := ⟨gb512, 1, none⟩) (Kd.N_far (p := ⟨gb512, 0, none⟩) (Kd.N_mono HO_5.out (fun k_ hk => (⟨hk, hk.2⟩ : _ ∧ k_ ≠ gb512))) (fun _ hk => hk.2) (.int .i64 t506)) (fun _ hk => hk.2) (.int .i64 t507)) (fun _ hk => hk.2) (.slice Ao29 t508.length co29)) (fun _ h_ => h_.1))) (Kd.R_base ho0) hb); have HO517 := Aside0.mk (Kd.R_lower (Kd.R_new' (Kd.R_new' (Kd.R_newM (M := fun k_ => (w.heap.size ≤ k_)) ho0 (below_size bp_) (fun k_ h_ => h_)) (Kd.R_lt (by (with_reducible repeat (first | apply Kd.R_alloc | apply Kd.R_drewN | apply Kd.R_drew)); exact (Kd.R_mono (Kd.R_far (p := ⟨gb512, 2, none⟩) (Kd.R_far (p := ⟨gb512, 1, none⟩) (Kd.R_far (p := ⟨gb512, 0, none⟩) (Kd.R_types HO503.out BK512.out (by decide)) (fun _ hk => hk.2) (.int .i64 t506)) (fun _ hk => hk.2) (.int .i64 t507)) (fun _ hk => hk.2) (.slice Ao29 t508.length co29)) (fun _ h_ => h_.1))))) (Kd.R_lt (by (with_reducible repeat (first | apply Kd.R_alloc | apply Kd.R_drewN | apply Kd.R_drew)); exact (Kd.R_mono (Kd.R_far (p := ⟨gb512, 2, none⟩) (Kd.R_far (p := ⟨gb512, 1, none⟩) (Kd.R_far (p := ⟨gb512, 0, none⟩) (Kd.R_types HO510.out BK512.out (by decide)) (fun _ hk => hk.2) (.int .i64 t506)) (fun _ hk => hk.2) (.int .i64 t507)) (fun _ hk => hk.2) (.slice Ao29 t508.length co29)) (fun _ h_ => h_.1))))) (below_size bp_)); replace HO503 := Aside0.mk (Kd.R_elder' (by (with_reducible repeat (first | apply Kd.R_alloc | apply Kd.R_drewN | apply Kd.R_drew)); exact (Kd.R_mono (Kd.R_far (p := ⟨gb512, 2, none⟩) (Kd.R_far (p := ⟨gb512, 1, none⟩) (Kd.R_far (p := ⟨gb512, 0, none⟩) (Kd.R_types HO503.out BK512.out (by decide)) (fun _ hk => hk.2) (.int .i64 t506)) (fun _ hk => hk.2) (.int .i64 t507)) (fun _ hk => hk.2) (.slice Ao29 t508.length co29)) (fun _ h_ => h_.1))) (Kd.R_base ho0) hb); replace HO510 := Aside0.mk (Kd.R_elder' (by (with_reducible repeat (first | apply Kd.R_alloc | apply Kd.R_drewN | apply Kd.R_drew)); exact (Kd.R_mono (Kd.R_far (p := ⟨gb512, 2, none⟩) (Kd.R_far (p := ⟨gb512, 1, none⟩) (Kd.R_far (p := ⟨gb512, 0, none⟩) (Kd.R_types HO510.out BK512.out (by decide)) (fun _ hk => hk.2) (.int .i64 t506)) (fun _ hk => hk.2) (.int .i64 t507)) (fun _ hk => hk.2) (.slice Ao29 t508.length co29)) (fun _ h_ => h_.1))) (Kd.R_base ho0) hb); replace BK488 := Aside0.mk (blk_below (hf_ BK488.out NB488_512.out) hb); replace BK505 := Aside0.mk (blk_below (hf_ BK505.out NB505_512.out) hb); replace BK512 := Aside0.mk (blk_below (g := gb512) (o := .cells #[.int .i64 t506, .int .i64 t507, .slice Ao29 t508.length co29] 24 (0, 0)) (by (with_reducible repeat (first | refine blk_drewN ?_ _ | refine blk_drew ?_ | refine blk_alloc ?_ _)); refine blk_put (cs := #[.int .i64 t506, .int .i64 t507, .slice none 0 0]) ?_ 2 _ rfl; (with_reducible repeat (first | refine blk_drewN ?_ _ | refine blk_drew ?_ | refine blk_alloc ?_ _)); refine blk_put (cs := #[.int .i64 t506, .int .i64 0, .slice none 0 0]) ?_ 1 _ rfl; (with_reducible repeat (first | refine blk_drewN ?_ _ | refine blk_drew ?_ | refine blk_alloc ?_ _)); refine blk_put (cs := #[.int .i64 0, .int .i64 0, .slice none 0 0]) ?_ 0 _ rfl; (with_reducible repeat (first | refine blk_drewN ?_ _ | refine blk_drew ?_ | refine blk_alloc ?_ _)); exact BK512.out) hb); replace HB := Aside0.mk (below_step bp_ hb); (try clear hb); (try clear hb2); (try clear hk); (try clear hi); (try clear ho0)) | ((with_reducible refine gate_dst (N := 11) rfl ?_); refine box_event ?hg (N := 11) ?hd (cs := #[.int .i64 0, .int .i64 0, .slice none 0 0]) (t := 24) ?hr ?_; (case hd => rfl); (case hg => rfl); (case hr => first | (go_simp; done) | (go_simp; rfl)); intro gb518 hg w32 hbox hb; replace HO_5 := Aside0.mk (Kd.N_below (Kd.N_elderB (by (with_reducible repeat (first | apply Kd.N_alloc | apply Kd.N_drewN | apply Kd.N_drew)); exact HO_5.out) gb518 (Nat.le_of_eq hg.symm)) hb); replace HO503 := Aside0.mk (Kd.R_below (rp_ HO503.out) hb); replace HO510 := Aside0.mk (Kd.R_below (rp_ HO510.out) hb); replace HO517 := Aside0.mk (Kd.R_below (rp_ HO517.out) hb); have BK518 := Aside0.mk (hbox); have GW518 := Aside0.mk ((by rw [hg]; exact (below_size bp_) : w.heap.size ≤ gb518)); have GE518 := Aside0.mk ((by rw [hg]; exact (below_size bp_) : w.heap.size ≤ gb518)); replace HB := Aside0.mk (below_step bp_ hb); have NB505_518 := Aside0.mk ((nlt_ hg (hp_ BK505.out))); have NB518_505 := Aside0.mk ((ngt_ hg (hp_ BK505.out))); replace BK505 := Aside0.mk (blk_below (hp_ BK505.out) hb); have NB512_518 := Aside0.mk ((nlt_ hg (hp_ BK512.out))); have NB518_512 := Aside0.mk ((ngt_ hg (hp_ BK512.out))); replace BK512 := Aside0.mk (blk_below (hp_ BK512.out) hb); clear hb hbox hg; have hnb33 := NB518_505.out; have hnc33 := NB505_518.out; have hnb34 := NB518_512.out; have hnc34 := NB512_518.out; have hcz35_0 : w32.cell? ⟨gb518, 0, none⟩ = some (.int .i64 0) := (blk_cell BK518.out 0).trans rfl; have hcz35_1 : w32.cell? ⟨gb518, 1, none⟩ = some (.int .i64 0) := (blk_cell BK518.out 1).trans rfl; have hcz35_2 : w32.cell? ⟨gb518, 2, none⟩ = some (.slice none 0 0) := (blk_cell BK518.out 2).trans rfl; have hfz35_0 := blk_frozen BK518.out 0; have hfz35_1 := blk_frozen BK518.out 1; have hfz35_2 := blk_frozen BK518.out 2; obtain ⟨Ao36, co36, eo36⟩ := Kd.R_slice HO517.out; subst eo36))
   go_loopg [12, 13] kj2 (fun kq v12 v13 w' => ∃ (x12_2 : List (List Int)) (x13_2 : Int), v13 = .int .i64 x13_2 ∧ Aside0 (chequerlaw03_RectOf.l1 kq t504 t511 x12_2 x13_2 t499 t500 t501 t506 t507 t508 t513 t514 t515 = some r) ∧ Aside0 (kq ≤ kj2) ∧ Aside0 (Kd.N (Kd.slice 46 (Kd.int .u64)) 22 w' w.heap.size (fun k_ => (P0_ k_ ∨ w.heap.size ≤ k_) ∧ some k_ ≠ ((.slice Ao23 t501.length co23) : Value).ownBlock ∧ some k_ ≠ ((.slice Ao29 t508.length co29) : Value).ownBlock ∧ some k_ ≠ ((.slice Ao36 t515.length co36) : Value).ownBlock ∧ k_ ≠ gb505 ∧ k_ ≠ gb512 ∧ k_ ≠ gb518) v12 x12_2) ∧ Aside0 (Kd.R (Kd.int .u64) 46 w' w.heap.size (fun k_ => (w.heap.size ≤ k_) ∧ some k_ ≠ ((.slice Ao29 t508.length co29) : Value).ownBlock ∧ some k_ ≠ ((.slice Ao36 t515.length co36) : Value).ownBlock) (.slice Ao23 t501.length co23) t501) ∧ Aside0 (Kd.R (Kd.int .u64) 46 w' w.heap.size (fun k_ => (w.heap.size ≤ k_) ∧ some k_ ≠ ((.slice Ao23 t501.length co23) : Value).ownBlock ∧ some k_ ≠ ((.slice Ao36 t515.length co36) : Value).ownBlock) (.slice Ao29 t508.length co29) t508) ∧ Aside0 (Kd.R (Kd.int .u64) 46 w' w.heap.size (fun k_ => (w.heap.size ≤ k_) ∧ some k_ ≠ ((.slice Ao23 t501.length co23) : Value).ownBlock ∧ some k_ ≠ ((.slice Ao29 t508.length co29) : Value).ownBlock) (.slice Ao36 t515.length co36) t515) ∧ Aside0 (w'.heap[gb505]? = some (.cells #[.int .i64 t499, .int .i64 t500, (.slice Ao23 t501.length co23)] 32 (0, 0))) ∧ Aside0 (w'.heap[gb512]? = some (.cells #[.int .i64 t506, .int .i64 t507, (.slice Ao29 t508.length co29)] 24 (0, 0))) ∧ Aside0 (w'.heap[gb518]? = some (.cells #[.int .i64 t513, .int .i64 t514, (.slice Ao36 t515.length co36)] 24 (0, 0))) ∧ Aside0 (Below w.heap.size w w'))
   case atStart => exact ⟨(([] : List (List Int))), (0), (by first | rfl | (simp; done) | (simp [*]; done)), H', ⟨Nat.le_refl _⟩, ⟨by first | exact Kd.S_nil _ _ _ _ _ | exact Kd.N_nil _ _ _ _ _ | exact Kd.V_nil _ _ _ _ _ | exact Kd.Q_nil _ _ _ _ _ | exact Kd.R_nil _ _ _ _ _⟩, ⟨rf_ HO503.out BK518.out (by decide) (fun _ hk => ⟨hk.1.1.1.1, ⟨hk.1.1.2, hk.1.2⟩⟩)⟩, ⟨rf_ HO510.out BK518.out (by decide) (fun _ hk => ⟨hk.1.1.1.1, ⟨hk.1.1.2, hk.1.2⟩⟩)⟩, ⟨rf_ HO517.out BK518.out (by decide) (fun _ hk => ⟨hk.1.1.1.1, ⟨hk.1.1.2, hk.1.2⟩⟩)⟩, ⟨hf_ BK505.out NB505_518.out⟩, ⟨hf_ BK512.out NB512_518.out⟩, ⟨by (with_reducible repeat (first | refine blk_drewN ?_ _ | refine blk_drew ?_ | refine blk_alloc ?_ _)); refine blk_put (cs := #[.int .i64 t513, .int .i64 t514, .slice none 0 0]) ?_ 2 _ rfl; (with_reducible repeat (first | refine blk_drewN ?_ _ | refine blk_drew ?_ | refine blk_alloc ?_ _)); refine blk_put (cs := #[.int .i64 t513, .int .i64 0, .slice none 0 0]) ?_ 1 _ rfl; (with_reducible repeat (first | refine blk_drewN ?_ _ | refine blk_drew ?_ | refine blk_alloc ?_ _)); refine blk_put (cs := #[.int .i64 0, .int .i64 0, .slice none 0 0]) ?_ 0 _ rfl; (with_reducible repeat (first | refine blk_drewN ?_ _ | refine blk_drew ?_ | refine blk_alloc ?_ _)); exact BK518.out⟩, ⟨bp_⟩⟩
   case round =>
    clear H'
    try clear c1
    try clear q1
    try clear c2
    try clear p2
    try clear c3
    try clear c4
    try clear p4
    try clear q4
    try clear hx4
    try clear c5
    try clear c5b0
    try clear c6
    try clear c6b0
    try clear p6
    try clear c7
    try clear c7b0
    try clear c9
    try clear c9b0
    try clear c9b1
    try clear c10
    try clear c10b0
    try clear c10b1
    try clear c11
    try clear q13
    try clear c21
    try clear c26
    try clear c27
    try clear c29
    try clear c30
    try clear c33
    try clear c34
    try clear hcz22_0
    try clear hcz22_1
    try clear hcz22_2
    try clear hcz28_0
    try clear hcz28_1
    try clear hcz28_2
    try clear hcz30_0
    try clear hcz30_1
    try clear hcz30_2
    try clear hcz35_0
    try clear hcz35_1
    try clear hcz35_2
    try clear hfz22_0
    try clear hfz22_1
    try clear hfz22_2
    try clear hfz28_0
    try clear hfz28_1
    try clear hfz28_2
    try clear hfz30_0
    try clear hfz30_1
    try clear hfz30_2
    try clear hfz35_0
    try clear hfz35_1
    try clear hfz35_2
    try clear hx489_0
    try clear hx490_0
    try clear p2
    try clear p4
    try clear p489
    try clear p490
    try clear p6
    try clear q1
    try clear q13
    try clear q4
    try clear q489
    try clear q490
    obtain ⟨x12_2, x13_2, rfl, HA, HK2, HO_12, HO_506002, HO_513002, HO_519002, BK505, BK512, BK518, HB⟩ := hrel
    cases gk with
    | zero => exact absurd HA.out (by simp [chequerlaw03_RectOf.l1])
    | succ k2 =>
     have H := HA.out
     clear HA
     simp only [chequerlaw03_RectOf.l1] at H
     by_cases c37 : x13_2 < t514
     · rw [if_pos c37] at H
       have c37b0 : decide (x13_2 < t514) = true := decide_eq_true c37
       clear c37
       replace H := Option.bind_eq_some_iff.mp H
       obtain ⟨t519, A380, H⟩ := H
       replace H : (if x12_2.length < 5864062014805 then (chequerlaw03_RectOf.l1 k2 t504 t511 (x12_2 ++ [t519]) (wrap64 (x13_2 + 1)) t499 t500 t501 t506 t507 t508 t513 t514 t515) else (none)) = some r := H
       have A38 := Aside0.mk A380
       clear A380
       by_cases c39 : x12_2.length < 5864062014805
       · rw [if_pos c39] at H
         have LMc39 := Aside0.mk c39
         clear c39
         obtain ⟨y522, hy522⟩ : ∃ y_ : List (List Int), y_ = (x12_2 ++ [t519]) := ⟨_, rfl⟩
         replace H : (chequerlaw03_RectOf.l1 k2 t504 t511 y522 (wrap64 (x13_2 + 1)) t499 t500 t501 t506 t507 t508 t513 t514 t515) = some r := by first | (rw [hy522]; with_reducible exact H) | (have H2_ := (Option.bind_some _ _).symm.trans H; rw [hy522]; with_reducible exact H2_) | (have H2_ := (Option.bind_some _ _).symm.trans H; with_reducible exact H2_) | with_reducible exact H | (rw [hy522]; exact H) | exact H
         have Ny522 := Aside0.mk hy522
         clear hy522
         have H' := Aside0.mk H
         clear H
         have hnb40 := NB518_505.out
         have hnc40 := NB505_518.out
         have hnb41 := NB518_512.out
         have hnc41 := NB512_518.out
         have hcz42_0 : wr.cell? ⟨gb518, 0, none⟩ = some (.int .i64 t513) := (blk_cell BK518.out 0).trans rfl
         have hcz42_1 : wr.cell? ⟨gb518, 1, none⟩ = some (.int .i64 t514) := (blk_cell BK518.out 1).trans rfl
         have hcz42_2 : wr.cell? ⟨gb518, 2, none⟩ = some (.slice Ao36 t515.length co36) := (blk_cell BK518.out 2).trans rfl
         have hfz42_0 := blk_frozen BK518.out 0
         have hfz42_1 := blk_frozen BK518.out 1
         have hfz42_2 := blk_frozen BK518.out 2
         go_wp2_with (first | ((with_reducible refine gate_callee (f := 31) rfl ?_); refine goQ_ (some 62) Try.func31 #[.agg #[.int .i64 t513, .int .i64 t514, .slice Ao36 t515.length co36], .int .i64 x13_2] ?_; (with_reducible refine (chequerref03_Row.calls k2 t513 t514 _ _ t515 x13_2 t519 _ ?side1 ?side2 A38.out).mono ?_); (case side1 => exact cp_ (Kd.R_reads' HO_519002.out).2.2); (case side2 => exact (Kd.R_reads' HO_519002.out).2.1); rintro e w43 ⟨v520, rfl, ho0, hb⟩; refine ⟨_, rfl, ?_⟩; replace HO_12 := Aside0.mk (Kd.N_elder' (by (with_reducible repeat (first | apply Kd.N_alloc | apply Kd.N_drewN | apply Kd.N_drew)); exact HO_12.out) (Kd.R_base ho0) hb); have HO521 := Aside0.mk (Kd.R_lower (Kd.R_new' (Kd.R_new' (Kd.R_new' (Kd.R_newM (M := fun k_ => (w.heap.size ≤ k_)) ho0 (below_size bp_) (fun k_ h_ => h_)) (Kd.R_lt (rp_ HO_506002.out))) (Kd.R_lt (rp_ HO_513002.out))) (Kd.R_lt (rp_ HO_519002.out))) (below_size bp_)); replace HO_506002 := Aside0.mk (Kd.R_elder' (rp_ HO_506002.out) (Kd.R_base ho0) hb); replace HO_513002 := Aside0.mk (Kd.R_elder' (rp_ HO_513002.out) (Kd.R_base ho0) hb); replace HO_519002 := Aside0.mk (Kd.R_elder' (rp_ HO_519002.out) (Kd.R_base ho0) hb); replace BK505 := Aside0.mk (blk_below (hp_ BK505.out) hb); replace BK512 := Aside0.mk (blk_below (hp_ BK512.out) hb); replace BK518 := Aside0.mk (blk_below (hp_ BK518.out) hb); replace HB := Aside0.mk (below_step bp_ hb); (try clear hb); (try clear hb2); (try clear hk); (try clear hi); (try clear ho0); obtain ⟨Ao45, co45, eo45⟩ := Kd.R_slice HO521.out; subst eo45) | ((with_reducible refine gate_builtin (b := .append) (xs := #[.tmp 59, .tmp 63]) rfl ?_); at_builtin; refine Kd.N_append (Kd.slice 46 (Kd.int .u64)) (w0 := w) w.heap.size rfl (.tmp 59) (.tmp 63) 61 22 (.slice none 0 0) 24 rfl Try.underlying61 info22 rfl (by decide) (by omega) u12 x12_2 t519 [.slice Ao45 t519.length co45] (fun k_ => (P0_ k_ ∨ w.heap.size ≤ k_) ∧ some k_ ≠ (.slice Ao23 t501.length co23 : Value).ownBlock ∧ some k_ ≠ (.slice Ao29 t508.length co29 : Value).ownBlock ∧ some k_ ≠ (.slice Ao36 t515.length co36 : Value).ownBlock ∧ k_ ≠ gb505 ∧ k_ ≠ gb512 ∧ k_ ≠ gb518) (fun k_ => ((fun k_ => (P0_ k_ ∨ w.heap.size ≤ k_) ∧ some k_ ≠ (.slice Ao23 t501.length co23 : Value).ownBlock ∧ some k_ ≠ (.slice Ao29 t508.length co29 : Value).ownBlock ∧ some k_ ≠ (.slice Ao36 t515.length co36 : Value).ownBlock ∧ k_ ≠ gb505 ∧ k_ ≠ gb512 ∧ k_ ≠ gb518)) k_ ∧ some k_ ≠ (u12 : Value).ownBlock) rfl rfl ?aP (fun _ hk => hk) ?aF ?aO ?aB ?aS ?aL ?_; (case aP => exact (Kd.FK_slice_mk (Kd.R_reads' (Kd.R_mono (ok' := (fun k_ => ((fun k_ => (P0_ k_ ∨ w.heap.size ≤ k_) ∧ some k_ ≠ (.slice Ao23 t501.length co23 : Value).ownBlock ∧ some k_ ≠ (.slice Ao29 t508.length co29 : Value).ownBlock ∧ some k_ ≠ (.slice Ao36 t515.length co36 : Value).ownBlock ∧ k_ ≠ gb505 ∧ k_ ≠ gb512 ∧ k_ ≠ gb518)) k_ ∧ some k_ ≠ (u12 : Value).ownBlock)) (Kd.R_types (Kd.R_types (Kd.R_types (Kd.R_apart' (HO521.out) (Kd.N_typed HO_12.out) (by decide)) BK505.out (by decide)) BK512.out (by decide)) BK518.out (by decide)) (fun k_ hk => ⟨⟨(.inr (hk.1.1.1.1.1.1.1.1)), ⟨hk.1.1.1.1.1.1.2, ⟨hk.1.1.1.1.1.2, ⟨hk.1.1.1.1.2, ⟨hk.1.1.2, ⟨hk.1.2, hk.2⟩⟩⟩⟩⟩⟩, hk.1.1.1.2⟩))).2.1 (Kd.R_F (Kd.R_mono (ok' := (fun k_ => ((fun k_ => (P0_ k_ ∨ w.heap.size ≤ k_) ∧ some k_ ≠ (.slice Ao23 t501.length co23 : Value).ownBlock ∧ some k_ ≠ (.slice Ao29 t508.length co29 : Value).ownBlock ∧ some k_ ≠ (.slice Ao36 t515.length co36 : Value).ownBlock ∧ k_ ≠ gb505 ∧ k_ ≠ gb512 ∧ k_ ≠ gb518)) k_ ∧ some k_ ≠ (u12 : Value).ownBlock)) (Kd.R_types (Kd.R_types (Kd.R_types (Kd.R_apart' (HO521.out) (Kd.N_typed HO_12.out) (by decide)) BK505.out (by decide)) BK512.out (by decide)) BK518.out (by decide)) (fun k_ hk => ⟨⟨(.inr (hk.1.1.1.1.1.1.1.1)), ⟨hk.1.1.1.1.1.1.2, ⟨hk.1.1.1.1.1.2, ⟨hk.1.1.1.1.2, ⟨hk.1.1.2, ⟨hk.1.2, hk.2⟩⟩⟩⟩⟩⟩, hk.1.1.1.2⟩))))); (case aB => exact bp_); (case aF => exact (fun k_ hk => ⟨(.inr (Nat.le_trans (below_size bp_) hk)), Kd.fresh' (Kd.R_lt (rp_ HO_506002.out)) k_ hk, Kd.fresh' (Kd.R_lt (rp_ HO_513002.out)) k_ hk, Kd.fresh' (Kd.R_lt (rp_ HO_519002.out)) k_ hk, Kd.freshB (g := gb505) (o := .cells #[.int .i64 t499, .int .i64 t500, .slice Ao23 t501.length co23] 32 (0, 0)) (hp_ BK505.out) k_ hk, Kd.freshB (g := gb512) (o := .cells #[.int .i64 t506, .int .i64 t507, .slice Ao29 t508.length co29] 24 (0, 0)) (hp_ BK512.out) k_ hk, Kd.freshB (g := gb518) (o := .cells #[.int .i64 t513, .int .i64 t514, .slice Ao36 t515.length co36] 24 (0, 0)) (hp_ BK518.out) k_ hk⟩)); (case aO => exact (by (with_reducible repeat (first | apply Kd.N_alloc | apply Kd.N_drewN | apply Kd.N_drew)); exact Kd.N_mono HO_12.out (fun _ hk => ⟨hk.1.1, ⟨hk.1.2.1, ⟨hk.1.2.2.1, ⟨hk.1.2.2.2.1, ⟨hk.1.2.2.2.2.1, ⟨hk.1.2.2.2.2.2.1, hk.1.2.2.2.2.2.2⟩⟩⟩⟩⟩⟩))); (case aS => exact (below_size bp_)); (case aL => have := LMc39.out; omega); intro v523 w44 ho hb hg hat; rw [← Ny522.out] at ho; replace HO_506002 := Aside0.mk (Kd.R_over' (rp_ HO_506002.out) (Kd.N_typed (by (with_reducible repeat (first | apply Kd.N_alloc | apply Kd.N_drewN | apply Kd.N_drew)); exact HO_12.out)) (by decide) hg); replace HO_513002 := Aside0.mk (Kd.R_over' (rp_ HO_513002.out) (Kd.N_typed (by (with_reducible repeat (first | apply Kd.N_alloc | apply Kd.N_drewN | apply Kd.N_drew)); exact HO_12.out)) (by decide) hg); replace HO_519002 := Aside0.mk (Kd.R_over' (rp_ HO_519002.out) (Kd.N_typed (by (with_reducible repeat (first | apply Kd.N_alloc | apply Kd.N_drewN | apply Kd.N_drew)); exact HO_12.out)) (by decide) hg); replace BK505 := Aside0.mk (blk_grown (g := gb505) (o := .cells #[.int .i64 t499, .int .i64 t500, .slice Ao23 t501.length co23] 32 (0, 0)) (hp_ BK505.out) hg (Kd.N_ne HO_12.out BK505.out (by decide))); replace BK512 := Aside0.mk (blk_grown (g := gb512) (o := .cells #[.int .i64 t506, .int .i64 t507, .slice Ao29 t508.length co29] 24 (0, 0)) (hp_ BK512.out) hg (Kd.N_ne HO_12.out BK512.out (by decide))); replace BK518 := Aside0.mk (blk_grown (g := gb518) (o := .cells #[.int .i64 t513, .int .i64 t514, .slice Ao36 t515.length co36] 24 (0, 0)) (hp_ BK518.out) hg (Kd.N_ne HO_12.out BK518.out (by decide))); replace HB := Aside0.mk (hb); have HO524 := Aside0.mk (ho); clear HO_12 HO521; clear ho hb hg hat))
         go_roundg k2
         case measure => have := HJ2.out; have := HK2.out; omega
         case rel => exact ⟨(y522), (wrap64 (x13_2 + 1)), (by first | rfl | (simp; done) | (simp [*]; done)), H', ⟨by have := HJ2.out; have := HK2.out; omega⟩, ⟨by (with_reducible repeat (first | apply Kd.N_alloc | apply Kd.N_drewN | apply Kd.N_drew)); exact HO524.out⟩, ⟨by (with_reducible repeat (first | apply Kd.R_alloc | apply Kd.R_drewN | apply Kd.R_drew)); exact Kd.R_mono HO_506002.out (fun _ hk => ⟨hk.1.1, ⟨hk.1.2.1, hk.1.2.2⟩⟩)⟩, ⟨by (with_reducible repeat (first | apply Kd.R_alloc | apply Kd.R_drewN | apply Kd.R_drew)); exact Kd.R_mono HO_513002.out (fun _ hk => ⟨hk.1.1, ⟨hk.1.2.1, hk.1.2.2⟩⟩)⟩, ⟨by (with_reducible repeat (first | apply Kd.R_alloc | apply Kd.R_drewN | apply Kd.R_drew)); exact Kd.R_mono HO_519002.out (fun _ hk => ⟨hk.1.1, ⟨hk.1.2.1, hk.1.2.2⟩⟩)⟩, ⟨hp_ BK505.out⟩, ⟨hp_ BK512.out⟩, ⟨hp_ BK518.out⟩, ⟨bp_⟩⟩
       · rw [if_neg c39] at H
         exact absurd H (by simp)
     · rw [if_neg c37] at H
       have c37b0 : decide (x13_2 < t514) = false := decide_eq_false c37
       clear c37
       replace H := Option.bind_eq_some_iff.mp H
       obtain ⟨⟨t525, t526, t527, t530⟩, A460, H⟩ := H
       replace H : (if t504 = t511 then ((chequerlaw03_as.f t499 t500 t501).bind fun bt532 => ((chequerref03_Same.f k2 bt532.1 bt532.2.1 bt532.2.2 t506 t507 t508).bind fun t537 => (if t537 = true then (if t530 = 0 then ((chequerlaw03_as.f t525 t526 t527).bind fun bt538 => ((chequerref03_Same.f k2 bt538.1 bt538.2.1 bt538.2.2 t513 t514 t515).bind fun t543 => (chequerlaw03_RectOf.j3 k2 (!t543) t513 t514 t515 t525 t526 t527))) else (chequerlaw03_RectOf.j3 k2 true t513 t514 t515 t525 t526 t527)) else (chequerlaw03_RectOf.j3 k2 true t513 t514 t515 t525 t526 t527)))) else (chequerlaw03_RectOf.j3 k2 true t513 t514 t515 t525 t526 t527)) = some r := H
       have A46 := Aside0.mk A460
       clear A460
       have HC47 := Aside0.mk H
       clear H
       have hnb48 := NB518_505.out
       have hnc48 := NB505_518.out
       have hnb49 := NB518_512.out
       have hnc49 := NB512_518.out
       have hcz50_0 : wr.cell? ⟨gb518, 0, none⟩ = some (.int .i64 t513) := (blk_cell BK518.out 0).trans rfl
       have hcz50_1 : wr.cell? ⟨gb518, 1, none⟩ = some (.int .i64 t514) := (blk_cell BK518.out 1).trans rfl
       have hcz50_2 : wr.cell? ⟨gb518, 2, none⟩ = some (.slice Ao36 t515.length co36) := (blk_cell BK518.out 2).trans rfl
       have hfz50_0 := blk_frozen BK518.out 0
       have hfz50_1 := blk_frozen BK518.out 1
       have hfz50_2 := blk_frozen BK518.out 2
       obtain ⟨Ao51, co51, eo51⟩ := Kd.N_slice HO_12.out
       subst eo51
       go_upto_region 15 with (first | ((with_reducible refine gate_callee (f := 29) rfl ?_); refine goQ_ (some 67) Try.func29 #[.slice Ao51 x12_2.length co51] ?_; (with_reducible refine (rect_Of.calls k2 _ _ x12_2 t525 t526 t527 t530 _ ?side1 ?side2 A46.out).mono ?_); (case side1 => repeat (first | exact (Kd.N_reads' HO_12.out).2.2 | (with_reducible refine Kd.C_alloc ?_ _) | (with_reducible refine Kd.C_drewN ?_ _) | (with_reducible refine Kd.C_drew ?_))); (case side2 => exact (Kd.N_reads' HO_12.out).2.1); rintro e w52 ⟨v528, rfl, ho0, hb⟩; refine ⟨_, rfl, ?_⟩; replace HO_12 := Aside0.mk (Kd.N_elder' (by (with_reducible repeat (first | apply Kd.N_alloc | apply Kd.N_drewN | apply Kd.N_drew)); exact HO_12.out) (Kd.R_base ho0) hb); have HO529 := Aside0.mk (Kd.R_lower (Kd.R_new' (Kd.R_new' (Kd.R_new' (Kd.R_newM (M := fun k_ => (w.heap.size ≤ k_)) ho0 (below_size bp_) (fun k_ h_ => h_)) (Kd.R_lt (rp_ HO_506002.out))) (Kd.R_lt (rp_ HO_513002.out))) (Kd.R_lt (rp_ HO_519002.out))) (below_size bp_)); replace HO_506002 := Aside0.mk (Kd.R_elder' (rp_ HO_506002.out) (Kd.R_base ho0) hb); replace HO_513002 := Aside0.mk (Kd.R_elder' (rp_ HO_513002.out) (Kd.R_base ho0) hb); replace HO_519002 := Aside0.mk (Kd.R_elder' (rp_ HO_519002.out) (Kd.R_base ho0) hb); replace BK505 := Aside0.mk (blk_below (hp_ BK505.out) hb); replace BK512 := Aside0.mk (blk_below (hp_ BK512.out) hb); replace BK518 := Aside0.mk (blk_below (hp_ BK518.out) hb); replace HB := Aside0.mk (below_step bp_ hb); (try clear hb); (try clear hb2); (try clear hk); (try clear hi); (try clear ho0)) | ((with_reducible refine gate_dst (N := 14) rfl ?_); refine box_event ?hg (N := 14) ?hd (cs := #[.int .i64 0, .int .i64 0, .slice none 0 0]) (t := 32) ?hr ?_; (case hd => rfl); (case hg => rfl); (case hr => first | (go_simp; done) | (go_simp; rfl)); intro gb531 hg w53 hbox hb; replace HO_12 := Aside0.mk (Kd.N_below (Kd.N_elderB (by (with_reducible repeat (first | apply Kd.N_alloc | apply Kd.N_drewN | apply Kd.N_drew)); exact HO_12.out) gb531 (Nat.le_of_eq hg.symm)) hb); replace HO_506002 := Aside0.mk (Kd.R_below (rp_ HO_506002.out) hb); replace HO_513002 := Aside0.mk (Kd.R_below (rp_ HO_513002.out) hb); replace HO_519002 := Aside0.mk (Kd.R_below (rp_ HO_519002.out) hb); replace HO529 := Aside0.mk (Kd.R_below (rp_ HO529.out) hb); have BK531 := Aside0.mk (hbox); have GW531 := Aside0.mk ((by rw [hg]; exact (below_size bp_) : w.heap.size ≤ gb531)); have GE531 := Aside0.mk ((by rw [hg]; exact (below_size bp_) : w.heap.size ≤ gb531)); replace HB := Aside0.mk (below_step bp_ hb); have NB505_531 := Aside0.mk ((nlt_ hg (hp_ BK505.out))); have NB531_505 := Aside0.mk ((ngt_ hg (hp_ BK505.out))); replace BK505 := Aside0.mk (blk_below (hp_ BK505.out) hb); have NB512_531 := Aside0.mk ((nlt_ hg (hp_ BK512.out))); have NB531_512 := Aside0.mk ((ngt_ hg (hp_ BK512.out))); replace BK512 := Aside0.mk (blk_below (hp_ BK512.out) hb); have NB518_531 := Aside0.mk ((nlt_ hg (hp_ BK518.out))); have NB531_518 := Aside0.mk ((ngt_ hg (hp_ BK518.out))); replace BK518 := Aside0.mk (blk_below (hp_ BK518.out) hb); clear hb hbox hg; have hnb54 := NB531_505.out; have hnc54 := NB505_531.out; have hnb55 := NB531_512.out; have hnc55 := NB512_531.out; have hnb56 := NB531_518.out; have hnc56 := NB518_531.out; have hcz57_0 : w53.cell? ⟨gb531, 0, none⟩ = some (.int .i64 0) := (blk_cell BK531.out 0).trans rfl; have hcz57_1 : w53.cell? ⟨gb531, 1, none⟩ = some (.int .i64 0) := (blk_cell BK531.out 1).trans rfl; have hcz57_2 : w53.cell? ⟨gb531, 2, none⟩ = some (.slice none 0 0) := (blk_cell BK531.out 2).trans rfl; have hfz57_0 := blk_frozen BK531.out 0; have hfz57_1 := blk_frozen BK531.out 1; have hfz57_2 := blk_frozen BK531.out 2; obtain ⟨Ao58, co58, eo58⟩ := Kd.R_slice HO529.out; subst eo58))
       (try simp only [Act.put, List.setIfInBounds_toArray, List.set_cons_zero, List.set_cons_succ])
       go_cut [90] (fun v90 wc => ∃ (kq : Nat) (x90_46 : Bool), v90 = .bool x90_46 ∧ Aside0 (chequerlaw03_RectOf.j3 kq x90_46 t513 t514 t515 t525 t526 t527 = some r) ∧ Aside0 (kq ≤ k2) ∧ Aside0 (Kd.R (Kd.int .u64) 46 wc w.heap.size (fun k_ => (w.heap.size ≤ k_) ∧ some k_ ≠ ((.slice Ao29 t508.length co29) : Value).ownBlock ∧ some k_ ≠ ((.slice Ao36 t515.length co36) : Value).ownBlock ∧ some k_ ≠ ((.slice Ao58 t527.length co58) : Value).ownBlock) (.slice Ao23 t501.length co23) t501) ∧ Aside0 (Kd.R (Kd.int .u64) 46 wc w.heap.size (fun k_ => (w.heap.size ≤ k_) ∧ some k_ ≠ ((.slice Ao23 t501.length co23) : Value).ownBlock ∧ some k_ ≠ ((.slice Ao36 t515.length co36) : Value).ownBlock ∧ some k_ ≠ ((.slice Ao58 t527.length co58) : Value).ownBlock) (.slice Ao29 t508.length co29) t508) ∧ Aside0 (Kd.R (Kd.int .u64) 46 wc w.heap.size (fun k_ => (w.heap.size ≤ k_) ∧ some k_ ≠ ((.slice Ao23 t501.length co23) : Value).ownBlock ∧ some k_ ≠ ((.slice Ao29 t508.length co29) : Value).ownBlock ∧ some k_ ≠ ((.slice Ao58 t527.length co58) : Value).ownBlock) (.slice Ao36 t515.length co36) t515) ∧ Aside0 (Kd.R (Kd.int .u64) 46 wc w.heap.size (fun k_ => (w.heap.size ≤ k_) ∧ some k_ ≠ ((.slice Ao23 t501.length co23) : Value).ownBlock ∧ some k_ ≠ ((.slice Ao29 t508.length co29) : Value).ownBlock ∧ some k_ ≠ ((.slice Ao36 t515.length co36) : Value).ownBlock) (.slice Ao58 t527.length co58) t527) ∧ Aside0 (wc.heap[gb505]? = some (.cells #[.int .i64 t499, .int .i64 t500, (.slice Ao23 t501.length co23)] 32 (0, 0))) ∧ Aside0 (wc.heap[gb512]? = some (.cells #[.int .i64 t506, .int .i64 t507, (.slice Ao29 t508.length co29)] 24 (0, 0))) ∧ Aside0 (wc.heap[gb518]? = some (.cells #[.int .i64 t513, .int .i64 t514, (.slice Ao36 t515.length co36)] 24 (0, 0))) ∧ Aside0 (wc.heap[gb531]? = some (.cells #[.int .i64 t525, .int .i64 t526, (.slice Ao58 t527.length co58)] 32 (0, 0))) ∧ Aside0 (Below w.heap.size w wc))
       case first =>
        have H := HC47.out
        clear HC47
        by_cases c59 : t504 = t511
        · rw [if_pos c59] at H
          have c59b0 : (t504 == t511) = true := beq_iff_eq.mpr c59
          have c59b1 : (t504 != t511) = false := bne_eq_false_iff_eq.mpr c59
          clear c59
          (first | rw [c59b0] | (simp only [i64_w, i32_w]; rw [c59b0]) | skip)
          replace H := Option.bind_eq_some_iff.mp H
          obtain ⟨⟨t532, t533, t534⟩, A600, H⟩ := H
          replace H : ((chequerref03_Same.f k2 t532 t533 t534 t506 t507 t508).bind fun t537 => (if t537 = true then (if t530 = 0 then ((chequerlaw03_as.f t525 t526 t527).bind fun bt538 => ((chequerref03_Same.f k2 bt538.1 bt538.2.1 bt538.2.2 t513 t514 t515).bind fun t543 => (chequerlaw03_RectOf.j3 k2 (!t543) t513 t514 t515 t525 t526 t527))) else (chequerlaw03_RectOf.j3 k2 true t513 t514 t515 t525 t526 t527)) else (chequerlaw03_RectOf.j3 k2 true t513 t514 t515 t525 t526 t527))) = some r := H
          have A60 := Aside0.mk A600
          clear A600
          replace H := Option.bind_eq_some_iff.mp H
          obtain ⟨t537, A610, H⟩ := H
          replace H : (if t537 = true then (if t530 = 0 then ((chequerlaw03_as.f t525 t526 t527).bind fun bt538 => ((chequerref03_Same.f k2 bt538.1 bt538.2.1 bt538.2.2 t513 t514 t515).bind fun t543 => (chequerlaw03_RectOf.j3 k2 (!t543) t513 t514 t515 t525 t526 t527))) else (chequerlaw03_RectOf.j3 k2 true t513 t514 t515 t525 t526 t527)) else (chequerlaw03_RectOf.j3 k2 true t513 t514 t515 t525 t526 t527)) = some r := H
          have A61 := Aside0.mk A610
          clear A610
          by_cases c62 : t537 = true
          · subst c62
            have H1 : (if t530 = 0 then ((chequerlaw03_as.f t525 t526 t527).bind fun bt538 => ((chequerref03_Same.f k2 bt538.1 bt538.2.1 bt538.2.2 t513 t514 t515).bind fun t543 => (chequerlaw03_RectOf.j3 k2 (!t543) t513 t514 t515 t525 t526 t527))) else (chequerlaw03_RectOf.j3 k2 true t513 t514 t515 t525 t526 t527)) = some r := by rw [if_pos rfl] at H; exact H
            clear H
            have H := H1
            clear H1
            by_cases c63 : t530 = 0
            · rw [if_pos c63] at H
              have c63b0 : (t530 == 0) = true := beq_iff_eq.mpr c63
              have c63b1 : (t530 != 0) = false := bne_eq_false_iff_eq.mpr c63
              clear c63
              replace H := Option.bind_eq_some_iff.mp H
              obtain ⟨⟨t538, t539, t540⟩, A640, H⟩ := H
              replace H : ((chequerref03_Same.f k2 t538 t539 t540 t513 t514 t515).bind fun t543 => (chequerlaw03_RectOf.j3 k2 (!t543) t513 t514 t515 t525 t526 t527)) = some r := H
              have A64 := Aside0.mk A640
              clear A640
              replace H := Option.bind_eq_some_iff.mp H
              obtain ⟨t543, A650, H⟩ := H
              replace H : (chequerlaw03_RectOf.j3 k2 (!t543) t513 t514 t515 t525 t526 t527) = some r := H
              have A65 := Aside0.mk A650
              clear A650
              have H' := Aside0.mk H
              clear H
              try go_wp2
              have n0_ : Aside0 (Kd.N (Kd.slice 46 (Kd.int .u64)) 22 (((w53.setCell ⟨gb531, 0, none⟩ (.int .i64 t525)).setCell ⟨gb531, 1, none⟩ (.int .i64 t526)).setCell ⟨gb531, 2, none⟩ (.slice Ao58 t527.length co58)) w.heap.size (fun k_ => (P0_ k_ ∨ w.heap.size ≤ k_) ∧ some k_ ≠ (.slice Ao23 t501.length co23 : Value).ownBlock ∧ some k_ ≠ (.slice Ao29 t508.length co29 : Value).ownBlock ∧ some k_ ≠ (.slice Ao36 t515.length co36 : Value).ownBlock ∧ some k_ ≠ (.slice Ao58 t527.length co58 : Value).ownBlock ∧ k_ ≠ gb505 ∧ k_ ≠ gb512 ∧ k_ ≠ gb518 ∧ k_ ≠ gb531) (.slice Ao51 x12_2.length co51) x12_2) := ⟨by (with_reducible repeat (first | apply Kd.N_alloc | apply Kd.N_drewN | apply Kd.N_drew)); exact Kd.N_mono (Kd.N_far (p := ⟨gb531, 2, none⟩) (Kd.N_far (p := ⟨gb531, 1, none⟩) (Kd.N_far (p := ⟨gb531, 0, none⟩) (Kd.N_mono HO_12.out (fun k_ hk => (⟨hk, hk.2⟩ : _ ∧ k_ ≠ gb531))) (fun _ hk => hk.2) (.int .i64 t525)) (fun _ hk => hk.2) (.int .i64 t526)) (fun _ hk => hk.2) (.slice Ao58 t527.length co58)) (fun _ hk => ⟨hk.1.1.1.1, ⟨hk.1.1.1.2.1, ⟨hk.1.1.1.2.2.1, ⟨hk.1.1.1.2.2.2.1, ⟨hk.1.1.2, ⟨hk.1.1.1.2.2.2.2.1, ⟨hk.1.1.1.2.2.2.2.2.1, ⟨hk.1.1.1.2.2.2.2.2.2, hk.1.2⟩⟩⟩⟩⟩⟩⟩⟩)⟩
              have n1_ : Aside0 (Kd.R (Kd.int .u64) 46 (((w53.setCell ⟨gb531, 0, none⟩ (.int .i64 t525)).setCell ⟨gb531, 1, none⟩ (.int .i64 t526)).setCell ⟨gb531, 2, none⟩ (.slice Ao58 t527.length co58)) w.heap.size (fun k_ => (w.heap.size ≤ k_) ∧ some k_ ≠ (.slice Ao29 t508.length co29 : Value).ownBlock ∧ some k_ ≠ (.slice Ao36 t515.length co36 : Value).ownBlock ∧ some k_ ≠ (.slice Ao58 t527.length co58 : Value).ownBlock) (.slice Ao23 t501.length co23) t501) := ⟨rf_ HO_506002.out BK531.out (by decide) (fun _ hk => ⟨hk.1.1.1, ⟨hk.1.1.2.1, ⟨hk.1.1.2.2, hk.1.2⟩⟩⟩)⟩
              have n2_ : Aside0 (Kd.R (Kd.int .u64) 46 (((w53.setCell ⟨gb531, 0, none⟩ (.int .i64 t525)).setCell ⟨gb531, 1, none⟩ (.int .i64 t526)).setCell ⟨gb531, 2, none⟩ (.slice Ao58 t527.length co58)) w.heap.size (fun k_ => (w.heap.size ≤ k_) ∧ some k_ ≠ (.slice Ao23 t501.length co23 : Value).ownBlock ∧ some k_ ≠ (.slice Ao36 t515.length co36 : Value).ownBlock ∧ some k_ ≠ (.slice Ao58 t527.length co58 : Value).ownBlock) (.slice Ao29 t508.length co29) t508) := ⟨rf_ HO_513002.out BK531.out (by decide) (fun _ hk => ⟨hk.1.1.1, ⟨hk.1.1.2.1, ⟨hk.1.1.2.2, hk.1.2⟩⟩⟩)⟩
              have n3_ : Aside0 (Kd.R (Kd.int .u64) 46 (((w53.setCell ⟨gb531, 0, none⟩ (.int .i64 t525)).setCell ⟨gb531, 1, none⟩ (.int .i64 t526)).setCell ⟨gb531, 2, none⟩ (.slice Ao58 t527.length co58)) w.heap.size (fun k_ => (w.heap.size ≤ k_) ∧ some k_ ≠ (.slice Ao23 t501.length co23 : Value).ownBlock ∧ some k_ ≠ (.slice Ao29 t508.length co29 : Value).ownBlock ∧ some k_ ≠ (.slice Ao58 t527.length co58 : Value).ownBlock) (.slice Ao36 t515.length co36) t515) := ⟨rf_ HO_519002.out BK531.out (by decide) (fun _ hk => ⟨hk.1.1.1, ⟨hk.1.1.2.1, ⟨hk.1.1.2.2, hk.1.2⟩⟩⟩)⟩
              have n4_ : Aside0 (Kd.R (Kd.int .u64) 46 (((w53.setCell ⟨gb531, 0, none⟩ (.int .i64 t525)).setCell ⟨gb531, 1, none⟩ (.int .i64 t526)).setCell ⟨gb531, 2, none⟩ (.slice Ao58 t527.length co58)) w.heap.size (fun k_ => (w.heap.size ≤ k_) ∧ some k_ ≠ (.slice Ao23 t501.length co23 : Value).ownBlock ∧ some k_ ≠ (.slice Ao29 t508.length co29 : Value).ownBlock ∧ some k_ ≠ (.slice Ao36 t515.length co36 : Value).ownBlock) (.slice Ao58 t527.length co58) t527) := ⟨rf_ HO529.out BK531.out (by decide) (fun _ hk => ⟨hk.1.1.1.1.1, ⟨hk.1.1.1.2, ⟨hk.1.1.2, hk.1.2⟩⟩⟩)⟩
              have n5_ : Aside0 ((((w53.setCell ⟨gb531, 0, none⟩ (.int .i64 t525)).setCell ⟨gb531, 1, none⟩ (.int .i64 t526)).setCell ⟨gb531, 2, none⟩ (.slice Ao58 t527.length co58)).heap[gb505]? = some (.cells #[.int .i64 t499, .int .i64 t500, .slice Ao23 t501.length co23] 32 (0, 0))) := ⟨hf_ BK505.out NB505_531.out⟩
              have n6_ : Aside0 ((((w53.setCell ⟨gb531, 0, none⟩ (.int .i64 t525)).setCell ⟨gb531, 1, none⟩ (.int .i64 t526)).setCell ⟨gb531, 2, none⟩ (.slice Ao58 t527.length co58)).heap[gb512]? = some (.cells #[.int .i64 t506, .int .i64 t507, .slice Ao29 t508.length co29] 24 (0, 0))) := ⟨hf_ BK512.out NB512_531.out⟩
              have n7_ : Aside0 ((((w53.setCell ⟨gb531, 0, none⟩ (.int .i64 t525)).setCell ⟨gb531, 1, none⟩ (.int .i64 t526)).setCell ⟨gb531, 2, none⟩ (.slice Ao58 t527.length co58)).heap[gb518]? = some (.cells #[.int .i64 t513, .int .i64 t514, .slice Ao36 t515.length co36] 24 (0, 0))) := ⟨hf_ BK518.out NB518_531.out⟩
              have n8_ : Aside0 ((((w53.setCell ⟨gb531, 0, none⟩ (.int .i64 t525)).setCell ⟨gb531, 1, none⟩ (.int .i64 t526)).setCell ⟨gb531, 2, none⟩ (.slice Ao58 t527.length co58)).heap[gb531]? = some (.cells #[.int .i64 t525, .int .i64 t526, .slice Ao58 t527.length co58] 32 (0, 0))) := ⟨by (with_reducible repeat (first | refine blk_drewN ?_ _ | refine blk_drew ?_ | refine blk_alloc ?_ _)); refine blk_put (cs := #[.int .i64 t525, .int .i64 t526, .slice none 0 0]) ?_ 2 _ rfl; (with_reducible repeat (first | refine blk_drewN ?_ _ | refine blk_drew ?_ | refine blk_alloc ?_ _)); refine blk_put (cs := #[.int .i64 t525, .int .i64 0, .slice none 0 0]) ?_ 1 _ rfl; (with_reducible repeat (first | refine blk_drewN ?_ _ | refine blk_drew ?_ | refine blk_alloc ?_ _)); refine blk_put (cs := #[.int .i64 0, .int .i64 0, .slice none 0 0]) ?_ 0 _ rfl; (with_reducible repeat (first | refine blk_drewN ?_ _ | refine blk_drew ?_ | refine blk_alloc ?_ _)); exact BK531.out⟩
              have n9_ : Aside0 (Below w.heap.size w (((w53.setCell ⟨gb531, 0, none⟩ (.int .i64 t525)).setCell ⟨gb531, 1, none⟩ (.int .i64 t526)).setCell ⟨gb531, 2, none⟩ (.slice Ao58 t527.length co58))) := ⟨bp_⟩
              (try clear HO_12)
              (try clear HO_506002)
              (try clear HO_513002)
              (try clear HO_519002)
              (try clear HO529)
              (try clear BK505)
              (try clear BK512)
              (try clear BK518)
              (try clear BK531)
              (try clear HB)
              generalize (((w53.setCell ⟨gb531, 0, none⟩ (.int .i64 t525)).setCell ⟨gb531, 1, none⟩ (.int .i64 t526)).setCell ⟨gb531, 2, none⟩ (.slice Ao58 t527.length co58)) = w66 at n0_ n1_ n2_ n3_ n4_ n5_ n6_ n7_ n8_ n9_ ⊢
              have HO_12 := n0_
              have HO_506002 := n1_
              have HO_513002 := n2_
              have HO_519002 := n3_
              have HO529 := n4_
              have BK505 := n5_
              have BK512 := n6_
              have BK518 := n7_
              have BK531 := n8_
              have HB := n9_
              clear n0_ n1_ n2_ n3_ n4_ n5_ n6_ n7_ n8_ n9_
              replace HO_12 := Aside0.mk (Kd.N_drew HO_12.out)
              replace HO_506002 := Aside0.mk (Kd.R_drew HO_506002.out)
              replace HO_513002 := Aside0.mk (Kd.R_drew HO_513002.out)
              replace HO_519002 := Aside0.mk (Kd.R_drew HO_519002.out)
              replace HO529 := Aside0.mk (Kd.R_drew HO529.out)
              replace BK505 := Aside0.mk (blk_drew BK505.out)
              replace BK512 := Aside0.mk (blk_drew BK512.out)
              replace BK518 := Aside0.mk (blk_drew BK518.out)
              replace BK531 := Aside0.mk (blk_drew BK531.out)
              replace HB := Aside0.mk (below_drew1 HB.out)
              refine start_ (n := 21) (S := fun w' => w'.cell? ⟨gb505, 0, none⟩ = some (.int .i64 t499) ∧ w'.cell? ⟨gb505, 1, none⟩ = some (.int .i64 t500) ∧ w'.cell? ⟨gb505, 2, none⟩ = some (.slice Ao23 t501.length co23) ∧ w'.cell? ⟨gb512, 0, none⟩ = some (.int .i64 t506) ∧ w'.cell? ⟨gb512, 1, none⟩ = some (.int .i64 t507) ∧ w'.cell? ⟨gb512, 2, none⟩ = some (.slice Ao29 t508.length co29) ∧ w'.cell? ⟨gb531, 0, none⟩ = some (.int .i64 t525) ∧ w'.cell? ⟨gb531, 1, none⟩ = some (.int .i64 t526) ∧ w'.cell? ⟨gb531, 2, none⟩ = some (.slice Ao58 t527.length co58) ∧ w'.cell? ⟨gb518, 0, none⟩ = some (.int .i64 t513) ∧ w'.cell? ⟨gb518, 1, none⟩ = some (.int .i64 t514) ∧ w'.cell? ⟨gb518, 2, none⟩ = some (.slice Ao36 t515.length co36)) (ds := []) Fl178 (by kernel_rfl) rfl rfl ⟨(blk_cell BK505.out 0).trans rfl, (blk_cell BK505.out 1).trans rfl, (blk_cell BK505.out 2).trans rfl, (blk_cell BK512.out 0).trans rfl, (blk_cell BK512.out 1).trans rfl, (blk_cell BK512.out 2).trans rfl, (blk_cell BK531.out 0).trans rfl, (blk_cell BK531.out 1).trans rfl, (blk_cell BK531.out 2).trans rfl, (blk_cell BK518.out 0).trans rfl, (blk_cell BK518.out 1).trans rfl, (blk_cell BK518.out 2).trans rfl⟩ (fun hHeld => ?_); refine with_tabW chequerlaw03_RectOf.tab15 chequerlaw03_RectOf.bits15 (fun HT_ HW_ => ?_)
              generalize w66.drew = w67 at HO_12 HO_506002 HO_513002 HO_519002 HO529 BK505 BK512 BK518 BK531 HB hHeld ⊢
              refine pur_ (i := 0) (N := some 70) Fl179 (any_of HT_.out (by kernel_rfl)) ?_
              refine pur_ (i := 1) (N := some 71) Fl180 (any_of HT_.out (by kernel_rfl)) ?_
              refine pur_ (i := 2) (N := some 72) Fl181 (any_of HT_.out (by kernel_rfl)) ?_
              refine pur_ (i := 3) (N := some 73) Fl182 (any_of HT_.out (by kernel_rfl)) ?_
              refine take_ (i := 4) (N := some 74) (v := ?_) (a' := ?_) Fl183 rfl rfl (take_ofW HT_.out HW_.out (by kernel_rfl)) (fun _ _ _ h => h) (Or.inl ⟨by rfl, ?_⟩) hHeld ?_ ?_
              rotate_left
              · rintro w' ⟨s0, s1, s2, s3, s4, s5, s6, s7, s8, s9, s10, s11⟩
                go_simp
                with_reducible rfl
              rotate_left
              · simp only [Act.put, List.setIfInBounds_toArray, List.set_cons_zero, List.set_cons_succ, i64_w, i32_w]
                rfl
              refine take_ (i := 6) (N := some 76) (v := ?_) (a' := ?_) Fl204 rfl rfl (take_ofW HT_.out HW_.out (by kernel_rfl)) (fun _ _ _ h => h) (Or.inl ⟨by rfl, ?_⟩) hHeld ?_ ?_
              rotate_left
              · rintro w' ⟨s0, s1, s2, s3, s4, s5, s6, s7, s8, s9, s10, s11⟩
                go_simp
                with_reducible rfl
              rotate_left
              · simp only [Act.put, List.setIfInBounds_toArray, List.set_cons_zero, List.set_cons_succ, i64_w, i32_w]
                rfl
              refine one_ (i := 5) (N := some 75) Fl184 rfl rfl (one_of HT_.out (by kernel_rfl)) (by decide) (fun K hK => ?_)
              refine goes_ Try.func27 (by kernel_rfl) rfl #[.agg #[.int .i64 t499, .int .i64 t500, .slice Ao23 t501.length co23]] (by rfl) rfl rfl (by (try simp only [List.map_toArray, List.map_cons, List.map_nil]); first | done | rfl | (simp only [List.length_drop, List.length_take]; rfl)) ?_
              with_reducible refine (chequerlaw03_as.calls t499 t500 (fun k_ => some k_ = (.slice Ao23 t501.length co23 : Value).ownBlock) _ _ t501 t532 t533 t534 _ ?side1 A60.out).mono ?_
              (case side1 => exact Kd.R_V (Kd.R_tight rfl (Kd.R_types (Kd.R_types (Kd.R_types (Kd.R_types (Kd.R_apart' (HO_506002.out) (Kd.N_typed HO_12.out) (by decide)) BK505.out (by decide)) BK512.out (by decide)) BK518.out (by decide)) BK531.out (by decide))))
              rintro e w68 ⟨v535, rfl, ho0, hb⟩
              refine ⟨_, rfl, ?_⟩
              have HO536 := Aside0.mk (Kd.V_lower (Kd.V_mono (ok' := fun k_ => (P0_ k_ ∨ w.heap.size ≤ k_) ∧ some k_ ≠ (.slice Ao51 x12_2.length co51 : Value).ownBlock ∧ some k_ ≠ (.slice Ao29 t508.length co29 : Value).ownBlock ∧ some k_ ≠ (.slice Ao36 t515.length co36 : Value).ownBlock ∧ some k_ ≠ (.slice Ao58 t527.length co58 : Value).ownBlock ∧ k_ ≠ gb505 ∧ k_ ≠ gb512 ∧ k_ ≠ gb518 ∧ k_ ≠ gb531) ho0 (fun k_ hk_ => ⟨Or.elim hk_ (fun hs_ => (.inr (((Kd.R_types (Kd.R_types (Kd.R_types (Kd.R_types (Kd.R_apart' (HO_506002.out) (Kd.N_typed HO_12.out) (by decide)) BK505.out (by decide)) BK512.out (by decide)) BK518.out (by decide)) BK531.out (by decide)).1 k_ hs_.symm).1.1.1.1.1.1))) (fun hn_ => (.inr (Nat.le_trans (below_size bp_) hn_))), Or.elim hk_ (fun hs_ => ((Kd.R_types (Kd.R_types (Kd.R_types (Kd.R_types (Kd.R_apart' (HO_506002.out) (Kd.N_typed HO_12.out) (by decide)) BK505.out (by decide)) BK512.out (by decide)) BK518.out (by decide)) BK531.out (by decide)).1 k_ hs_.symm).1.1.1.1.2) (fun hn_ => (Kd.fresh' (Kd.N_lt (by (with_reducible repeat (first | apply Kd.N_alloc | apply Kd.N_drewN | apply Kd.N_drew)); exact HO_12.out)) k_ hn_)), Or.elim hk_ (fun hs_ => ((Kd.R_types (Kd.R_types (Kd.R_types (Kd.R_types (Kd.R_apart' (HO_506002.out) (Kd.N_typed HO_12.out) (by decide)) BK505.out (by decide)) BK512.out (by decide)) BK518.out (by decide)) BK531.out (by decide)).1 k_ hs_.symm).1.1.1.1.1.2.1) (fun hn_ => (Kd.fresh' (Kd.R_lt (rp_ HO_513002.out)) k_ hn_)), Or.elim hk_ (fun hs_ => ((Kd.R_types (Kd.R_types (Kd.R_types (Kd.R_types (Kd.R_apart' (HO_506002.out) (Kd.N_typed HO_12.out) (by decide)) BK505.out (by decide)) BK512.out (by decide)) BK518.out (by decide)) BK531.out (by decide)).1 k_ hs_.symm).1.1.1.1.1.2.2.1) (fun hn_ => (Kd.fresh' (Kd.R_lt (rp_ HO_519002.out)) k_ hn_)), Or.elim hk_ (fun hs_ => ((Kd.R_types (Kd.R_types (Kd.R_types (Kd.R_types (Kd.R_apart' (HO_506002.out) (Kd.N_typed HO_12.out) (by decide)) BK505.out (by decide)) BK512.out (by decide)) BK518.out (by decide)) BK531.out (by decide)).1 k_ hs_.symm).1.1.1.1.1.2.2.2) (fun hn_ => (Kd.fresh' (Kd.R_lt (rp_ HO529.out)) k_ hn_)), Or.elim hk_ (fun hs_ => ((Kd.R_types (Kd.R_types (Kd.R_types (Kd.R_types (Kd.R_apart' (HO_506002.out) (Kd.N_typed HO_12.out) (by decide)) BK505.out (by decide)) BK512.out (by decide)) BK518.out (by decide)) BK531.out (by decide)).1 k_ hs_.symm).1.1.1.2) (fun hn_ => (Kd.freshB (g := gb505) (o := .cells #[.int .i64 t499, .int .i64 t500, .slice Ao23 t501.length co23] 32 (0, 0)) (hp_ BK505.out) k_ hn_)), Or.elim hk_ (fun hs_ => ((Kd.R_types (Kd.R_types (Kd.R_types (Kd.R_types (Kd.R_apart' (HO_506002.out) (Kd.N_typed HO_12.out) (by decide)) BK505.out (by decide)) BK512.out (by decide)) BK518.out (by decide)) BK531.out (by decide)).1 k_ hs_.symm).1.1.2) (fun hn_ => (Kd.freshB (g := gb512) (o := .cells #[.int .i64 t506, .int .i64 t507, .slice Ao29 t508.length co29] 24 (0, 0)) (hp_ BK512.out) k_ hn_)), Or.elim hk_ (fun hs_ => ((Kd.R_types (Kd.R_types (Kd.R_types (Kd.R_types (Kd.R_apart' (HO_506002.out) (Kd.N_typed HO_12.out) (by decide)) BK505.out (by decide)) BK512.out (by decide)) BK518.out (by decide)) BK531.out (by decide)).1 k_ hs_.symm).1.2) (fun hn_ => (Kd.freshB (g := gb518) (o := .cells #[.int .i64 t513, .int .i64 t514, .slice Ao36 t515.length co36] 24 (0, 0)) (hp_ BK518.out) k_ hn_)), Or.elim hk_ (fun hs_ => ((Kd.R_types (Kd.R_types (Kd.R_types (Kd.R_types (Kd.R_apart' (HO_506002.out) (Kd.N_typed HO_12.out) (by decide)) BK505.out (by decide)) BK512.out (by decide)) BK518.out (by decide)) BK531.out (by decide)).1 k_ hs_.symm).2) (fun hn_ => (Kd.freshB (g := gb531) (o := .cells #[.int .i64 t525, .int .i64 t526, .slice Ao58 t527.length co58] 32 (0, 0)) (hp_ BK531.out) k_ hn_))⟩)) (below_size bp_))
              replace HO_12 := Aside0.mk (Kd.N_below (by (with_reducible repeat (first | apply Kd.N_alloc | apply Kd.N_drewN | apply Kd.N_drew)); exact HO_12.out) hb)
              replace HO_506002 := Aside0.mk (Kd.R_below (rp_ HO_506002.out) hb)
              replace HO_513002 := Aside0.mk (Kd.R_below (rp_ HO_513002.out) hb)
              replace HO_519002 := Aside0.mk (Kd.R_below (rp_ HO_519002.out) hb)
              replace HO529 := Aside0.mk (Kd.R_below (rp_ HO529.out) hb)
              replace BK505 := Aside0.mk (blk_below (hp_ BK505.out) hb)
              replace BK512 := Aside0.mk (blk_below (hp_ BK512.out) hb)
              replace BK518 := Aside0.mk (blk_below (hp_ BK518.out) hb)
              replace BK531 := Aside0.mk (blk_below (hp_ BK531.out) hb)
              replace HB := Aside0.mk (below_step bp_ hb)
              (try clear hb)
              (try clear hb2)
              (try clear hk)
              (try clear hi)
              (try clear ho0)
              obtain ⟨Ao69, co69, eo69⟩ := Kd.V_slice HO536.out
              (first | subst eo69 | (injection eo69 with f1_ f2_ f3_; have f4_ := f1_.symm; have f5_ := f3_.symm; clear f1_ f2_ f3_; subst f4_; subst f5_))
              refine hK.out _ _ ⟨(blk_cell BK505.out 0).trans rfl, (blk_cell BK505.out 1).trans rfl, (blk_cell BK505.out 2).trans rfl, (blk_cell BK512.out 0).trans rfl, (blk_cell BK512.out 1).trans rfl, (blk_cell BK512.out 2).trans rfl, (blk_cell BK531.out 0).trans rfl, (blk_cell BK531.out 1).trans rfl, (blk_cell BK531.out 2).trans rfl, (blk_cell BK518.out 0).trans rfl, (blk_cell BK518.out 1).trans rfl, (blk_cell BK518.out 2).trans rfl⟩ (fun hHeld => ?_)
              clear hK K
              refine norm_ (a' := ?_) ?_ ?_
              rotate_left
              · show Act.put _ (some 75) _ = _
                simp only [Act.put, List.setIfInBounds_toArray, List.set_cons_zero, List.set_cons_succ, i64_w, i32_w]
                rfl
              refine one_ (i := 7) (N := some 77) Fl185 rfl rfl (one_of HT_.out (by kernel_rfl)) (by decide) (fun K hK => ?_)
              refine goes_ Try.func26 (by kernel_rfl) rfl #[.agg #[.int .i64 t532, .int .i64 t533, .slice Ao69 t534.length co69], .agg #[.int .i64 t506, .int .i64 t507, .slice Ao29 t508.length co29]] (by rfl) rfl rfl (by (try simp only [List.map_toArray, List.map_cons, List.map_nil]); first | done | rfl | (simp only [List.length_drop, List.length_take]; rfl)) ?_
              with_reducible refine (chequerref03_Same.calls k2 t532 t533 _ _ t534 t506 t507 _ _ t508 true _ ?side1 ?side2 ?side3 ?side4 A61.out).mono ?_
              (case side1 => exact cp_ (Kd.V_reads' HO536.out).2.2)
              (case side2 => exact (Kd.V_reads' HO536.out).2.1)
              (case side3 => exact cp_ (Kd.R_reads' HO_513002.out).2.2)
              (case side4 => exact (Kd.R_reads' HO_513002.out).2.1)
              rintro e w70 ⟨rfl, hb⟩
              refine ⟨_, rfl, ?_⟩
              replace HO_12 := Aside0.mk (Kd.N_below (by (with_reducible repeat (first | apply Kd.N_alloc | apply Kd.N_drewN | apply Kd.N_drew)); exact HO_12.out) hb)
              replace HO_506002 := Aside0.mk (Kd.R_below (rp_ HO_506002.out) hb)
              replace HO_513002 := Aside0.mk (Kd.R_below (rp_ HO_513002.out) hb)
              replace HO_519002 := Aside0.mk (Kd.R_below (rp_ HO_519002.out) hb)
              replace HO529 := Aside0.mk (Kd.R_below (rp_ HO529.out) hb)
              replace HO536 := Aside0.mk (Kd.V_below (vp_ HO536.out) hb)
              replace BK505 := Aside0.mk (blk_below (hp_ BK505.out) hb)
              replace BK512 := Aside0.mk (blk_below (hp_ BK512.out) hb)
              replace BK518 := Aside0.mk (blk_below (hp_ BK518.out) hb)
              replace BK531 := Aside0.mk (blk_below (hp_ BK531.out) hb)
              replace HB := Aside0.mk (below_step bp_ hb)
              (try clear hb)
              (try clear hb2)
              (try clear hk)
              (try clear hi)
              refine hK.out _ _ ⟨(blk_cell BK505.out 0).trans rfl, (blk_cell BK505.out 1).trans rfl, (blk_cell BK505.out 2).trans rfl, (blk_cell BK512.out 0).trans rfl, (blk_cell BK512.out 1).trans rfl, (blk_cell BK512.out 2).trans rfl, (blk_cell BK531.out 0).trans rfl, (blk_cell BK531.out 1).trans rfl, (blk_cell BK531.out 2).trans rfl, (blk_cell BK518.out 0).trans rfl, (blk_cell BK518.out 1).trans rfl, (blk_cell BK518.out 2).trans rfl⟩ (fun hHeld => ?_)
              clear hK K
              refine norm_ (a' := ?_) ?_ ?_
              rotate_left
              · show Act.put _ (some 77) _ = _
                simp only [Act.put, List.setIfInBounds_toArray, List.set_cons_zero, List.set_cons_succ, i64_w, i32_w]
                rfl
              refine pur_ (i := 8) (N := some 78) Fl186 (any_of HT_.out (by kernel_rfl)) ?_
              refine pur_ (i := 9) (N := some 79) Fl187 (any_of HT_.out (by kernel_rfl)) ?_
              refine pur_ (i := 10) (N := some 80) Fl188 (any_of HT_.out (by kernel_rfl)) ?_
              refine pur_ (i := 11) (N := some 81) Fl189 (any_of HT_.out (by kernel_rfl)) ?_
              refine pur_ (i := 12) (N := some 82) Fl190 (any_of HT_.out (by kernel_rfl)) ?_
              refine pur_ (i := 13) (N := some 83) Fl191 (any_of HT_.out (by kernel_rfl)) ?_
              refine pur_ (i := 14) (N := some 84) Fl192 (any_of HT_.out (by kernel_rfl)) ?_
              refine take_ (i := 15) (N := some 85) (v := ?_) (a' := ?_) Fl193 rfl rfl (take_ofW HT_.out HW_.out (by kernel_rfl)) (fun _ _ _ h => h) (Or.inl ⟨by rfl, ?_⟩) hHeld ?_ ?_
              rotate_left
              · rintro w' ⟨s0, s1, s2, s3, s4, s5, s6, s7, s8, s9, s10, s11⟩
                go_simp
                with_reducible rfl
              rotate_left
              · simp only [Act.put, List.setIfInBounds_toArray, List.set_cons_zero, List.set_cons_succ, i64_w, i32_w]
                rfl
              refine take_ (i := 17) (N := some 87) (v := ?_) (a' := ?_) #[true, true, true, true, true, true, true, true, true, true, true, true, true, true, true, true, false, true, false, false, false] rfl rfl (take_ofW HT_.out HW_.out (by kernel_rfl)) (fun _ _ _ h => h) (Or.inl ⟨by rfl, ?_⟩) hHeld ?_ ?_
              rotate_left
              · rintro w' ⟨s0, s1, s2, s3, s4, s5, s6, s7, s8, s9, s10, s11⟩
                go_simp
                with_reducible rfl
              rotate_left
              · simp only [Act.put, List.setIfInBounds_toArray, List.set_cons_zero, List.set_cons_succ, i64_w, i32_w]
                rfl
              refine one_ (i := 16) (N := some 86) Fl194 rfl rfl (one_of HT_.out (by kernel_rfl)) (by decide) (fun K hK => ?_)
              refine goes_ Try.func27 (by kernel_rfl) rfl #[.agg #[.int .i64 t525, .int .i64 t526, .slice Ao58 t527.length co58]] (by rfl) rfl rfl (by (try simp only [List.map_toArray, List.map_cons, List.map_nil]); first | done | rfl | (simp only [List.length_drop, List.length_take]; rfl)) ?_
              with_reducible refine (chequerlaw03_as.calls t525 t526 (fun k_ => some k_ = (.slice Ao58 t527.length co58 : Value).ownBlock) _ _ t527 t538 t539 t540 _ ?side1 A64.out).mono ?_
              (case side1 => exact Kd.R_V (Kd.R_tight rfl (Kd.R_types (Kd.R_types (Kd.R_types (Kd.R_types (Kd.R_apart' (HO529.out) (Kd.N_typed HO_12.out) (by decide)) BK505.out (by decide)) BK512.out (by decide)) BK518.out (by decide)) BK531.out (by decide))))
              rintro e w71 ⟨v541, rfl, ho0, hb⟩
              refine ⟨_, rfl, ?_⟩
              replace HO536 := Aside0.mk (Kd.V_below (vp_ HO536.out) hb)
              have HO542 := Aside0.mk (Kd.V_lower (Kd.V_mono (ok' := fun k_ => (P0_ k_ ∨ w.heap.size ≤ k_) ∧ some k_ ≠ (.slice Ao51 x12_2.length co51 : Value).ownBlock ∧ some k_ ≠ (.slice Ao23 t501.length co23 : Value).ownBlock ∧ some k_ ≠ (.slice Ao29 t508.length co29 : Value).ownBlock ∧ some k_ ≠ (.slice Ao36 t515.length co36 : Value).ownBlock ∧ k_ ≠ gb505 ∧ k_ ≠ gb512 ∧ k_ ≠ gb518 ∧ k_ ≠ gb531) ho0 (fun k_ hk_ => ⟨Or.elim hk_ (fun hs_ => (.inr (((Kd.R_types (Kd.R_types (Kd.R_types (Kd.R_types (Kd.R_apart' (HO529.out) (Kd.N_typed HO_12.out) (by decide)) BK505.out (by decide)) BK512.out (by decide)) BK518.out (by decide)) BK531.out (by decide)).1 k_ hs_.symm).1.1.1.1.1.1))) (fun hn_ => (.inr (Nat.le_trans (below_size bp_) hn_))), Or.elim hk_ (fun hs_ => ((Kd.R_types (Kd.R_types (Kd.R_types (Kd.R_types (Kd.R_apart' (HO529.out) (Kd.N_typed HO_12.out) (by decide)) BK505.out (by decide)) BK512.out (by decide)) BK518.out (by decide)) BK531.out (by decide)).1 k_ hs_.symm).1.1.1.1.2) (fun hn_ => (Kd.fresh' (Kd.N_lt (by (with_reducible repeat (first | apply Kd.N_alloc | apply Kd.N_drewN | apply Kd.N_drew)); exact HO_12.out)) k_ hn_)), Or.elim hk_ (fun hs_ => ((Kd.R_types (Kd.R_types (Kd.R_types (Kd.R_types (Kd.R_apart' (HO529.out) (Kd.N_typed HO_12.out) (by decide)) BK505.out (by decide)) BK512.out (by decide)) BK518.out (by decide)) BK531.out (by decide)).1 k_ hs_.symm).1.1.1.1.1.2.1) (fun hn_ => (Kd.fresh' (Kd.R_lt (rp_ HO_506002.out)) k_ hn_)), Or.elim hk_ (fun hs_ => ((Kd.R_types (Kd.R_types (Kd.R_types (Kd.R_types (Kd.R_apart' (HO529.out) (Kd.N_typed HO_12.out) (by decide)) BK505.out (by decide)) BK512.out (by decide)) BK518.out (by decide)) BK531.out (by decide)).1 k_ hs_.symm).1.1.1.1.1.2.2.1) (fun hn_ => (Kd.fresh' (Kd.R_lt (rp_ HO_513002.out)) k_ hn_)), Or.elim hk_ (fun hs_ => ((Kd.R_types (Kd.R_types (Kd.R_types (Kd.R_types (Kd.R_apart' (HO529.out) (Kd.N_typed HO_12.out) (by decide)) BK505.out (by decide)) BK512.out (by decide)) BK518.out (by decide)) BK531.out (by decide)).1 k_ hs_.symm).1.1.1.1.1.2.2.2) (fun hn_ => (Kd.fresh' (Kd.R_lt (rp_ HO_519002.out)) k_ hn_)), Or.elim hk_ (fun hs_ => ((Kd.R_types (Kd.R_types (Kd.R_types (Kd.R_types (Kd.R_apart' (HO529.out) (Kd.N_typed HO_12.out) (by decide)) BK505.out (by decide)) BK512.out (by decide)) BK518.out (by decide)) BK531.out (by decide)).1 k_ hs_.symm).1.1.1.2) (fun hn_ => (Kd.freshB (g := gb505) (o := .cells #[.int .i64 t499, .int .i64 t500, .slice Ao23 t501.length co23] 32 (0, 0)) (hp_ BK505.out) k_ hn_)), Or.elim hk_ (fun hs_ => ((Kd.R_types (Kd.R_types (Kd.R_types (Kd.R_types (Kd.R_apart' (HO529.out) (Kd.N_typed HO_12.out) (by decide)) BK505.out (by decide)) BK512.out (by decide)) BK518.out (by decide)) BK531.out (by decide)).1 k_ hs_.symm).1.1.2) (fun hn_ => (Kd.freshB (g := gb512) (o := .cells #[.int .i64 t506, .int .i64 t507, .slice Ao29 t508.length co29] 24 (0, 0)) (hp_ BK512.out) k_ hn_)), Or.elim hk_ (fun hs_ => ((Kd.R_types (Kd.R_types (Kd.R_types (Kd.R_types (Kd.R_apart' (HO529.out) (Kd.N_typed HO_12.out) (by decide)) BK505.out (by decide)) BK512.out (by decide)) BK518.out (by decide)) BK531.out (by decide)).1 k_ hs_.symm).1.2) (fun hn_ => (Kd.freshB (g := gb518) (o := .cells #[.int .i64 t513, .int .i64 t514, .slice Ao36 t515.length co36] 24 (0, 0)) (hp_ BK518.out) k_ hn_)), Or.elim hk_ (fun hs_ => ((Kd.R_types (Kd.R_types (Kd.R_types (Kd.R_types (Kd.R_apart' (HO529.out) (Kd.N_typed HO_12.out) (by decide)) BK505.out (by decide)) BK512.out (by decide)) BK518.out (by decide)) BK531.out (by decide)).1 k_ hs_.symm).2) (fun hn_ => (Kd.freshB (g := gb531) (o := .cells #[.int .i64 t525, .int .i64 t526, .slice Ao58 t527.length co58] 32 (0, 0)) (hp_ BK531.out) k_ hn_))⟩)) (below_size bp_))
              replace HO_12 := Aside0.mk (Kd.N_below (by (with_reducible repeat (first | apply Kd.N_alloc | apply Kd.N_drewN | apply Kd.N_drew)); exact HO_12.out) hb)
              replace HO_506002 := Aside0.mk (Kd.R_below (rp_ HO_506002.out) hb)
              replace HO_513002 := Aside0.mk (Kd.R_below (rp_ HO_513002.out) hb)
              replace HO_519002 := Aside0.mk (Kd.R_below (rp_ HO_519002.out) hb)
              replace HO529 := Aside0.mk (Kd.R_below (rp_ HO529.out) hb)
              replace BK505 := Aside0.mk (blk_below (hp_ BK505.out) hb)
              replace BK512 := Aside0.mk (blk_below (hp_ BK512.out) hb)
              replace BK518 := Aside0.mk (blk_below (hp_ BK518.out) hb)
              replace BK531 := Aside0.mk (blk_below (hp_ BK531.out) hb)
              replace HB := Aside0.mk (below_step bp_ hb)
              (try clear hb)
              (try clear hb2)
              (try clear hk)
              (try clear hi)
              (try clear ho0)
              obtain ⟨Ao72, co72, eo72⟩ := Kd.V_slice HO542.out
              (first | subst eo72 | (injection eo72 with f1_ f2_ f3_; have f4_ := f1_.symm; have f5_ := f3_.symm; clear f1_ f2_ f3_; subst f4_; subst f5_))
              refine hK.out _ _ ⟨(blk_cell BK505.out 0).trans rfl, (blk_cell BK505.out 1).trans rfl, (blk_cell BK505.out 2).trans rfl, (blk_cell BK512.out 0).trans rfl, (blk_cell BK512.out 1).trans rfl, (blk_cell BK512.out 2).trans rfl, (blk_cell BK531.out 0).trans rfl, (blk_cell BK531.out 1).trans rfl, (blk_cell BK531.out 2).trans rfl, (blk_cell BK518.out 0).trans rfl, (blk_cell BK518.out 1).trans rfl, (blk_cell BK518.out 2).trans rfl⟩ (fun hHeld => ?_)
              clear hK K
              refine norm_ (a' := ?_) ?_ ?_
              rotate_left
              · show Act.put _ (some 86) _ = _
                simp only [Act.put, List.setIfInBounds_toArray, List.set_cons_zero, List.set_cons_succ, i64_w, i32_w]
                rfl
              refine one_ (i := 18) (N := some 88) Fl195 rfl rfl (one_of HT_.out (by kernel_rfl)) (by decide) (fun K hK => ?_)
              refine goes_ Try.func26 (by kernel_rfl) rfl #[.agg #[.int .i64 t538, .int .i64 t539, .slice Ao72 t540.length co72], .agg #[.int .i64 t513, .int .i64 t514, .slice Ao36 t515.length co36]] (by rfl) rfl rfl (by (try simp only [List.map_toArray, List.map_cons, List.map_nil]); first | done | rfl | (simp only [List.length_drop, List.length_take]; rfl)) ?_
              with_reducible refine (chequerref03_Same.calls k2 t538 t539 _ _ t540 t513 t514 _ _ t515 t543 _ ?side1 ?side2 ?side3 ?side4 A65.out).mono ?_
              (case side1 => exact cp_ (Kd.V_reads' HO542.out).2.2)
              (case side2 => exact (Kd.V_reads' HO542.out).2.1)
              (case side3 => exact cp_ (Kd.R_reads' HO_519002.out).2.2)
              (case side4 => exact (Kd.R_reads' HO_519002.out).2.1)
              rintro e w73 ⟨rfl, hb⟩
              refine ⟨_, rfl, ?_⟩
              replace HO_12 := Aside0.mk (Kd.N_below (by (with_reducible repeat (first | apply Kd.N_alloc | apply Kd.N_drewN | apply Kd.N_drew)); exact HO_12.out) hb)
              replace HO_506002 := Aside0.mk (Kd.R_below (rp_ HO_506002.out) hb)
              replace HO_513002 := Aside0.mk (Kd.R_below (rp_ HO_513002.out) hb)
              replace HO_519002 := Aside0.mk (Kd.R_below (rp_ HO_519002.out) hb)
              replace HO529 := Aside0.mk (Kd.R_below (rp_ HO529.out) hb)
              replace HO536 := Aside0.mk (Kd.V_below (vp_ HO536.out) hb)
              replace HO542 := Aside0.mk (Kd.V_below (vp_ HO542.out) hb)
              replace BK505 := Aside0.mk (blk_below (hp_ BK505.out) hb)
              replace BK512 := Aside0.mk (blk_below (hp_ BK512.out) hb)
              replace BK518 := Aside0.mk (blk_below (hp_ BK518.out) hb)
              replace BK531 := Aside0.mk (blk_below (hp_ BK531.out) hb)
              replace HB := Aside0.mk (below_step bp_ hb)
              (try clear hb)
              (try clear hb2)
              (try clear hk)
              (try clear hi)
              refine hK.out _ _ ⟨(blk_cell BK505.out 0).trans rfl, (blk_cell BK505.out 1).trans rfl, (blk_cell BK505.out 2).trans rfl, (blk_cell BK512.out 0).trans rfl, (blk_cell BK512.out 1).trans rfl, (blk_cell BK512.out 2).trans rfl, (blk_cell BK531.out 0).trans rfl, (blk_cell BK531.out 1).trans rfl, (blk_cell BK531.out 2).trans rfl, (blk_cell BK518.out 0).trans rfl, (blk_cell BK518.out 1).trans rfl, (blk_cell BK518.out 2).trans rfl⟩ (fun hHeld => ?_)
              clear hK K
              refine norm_ (a' := ?_) ?_ ?_
              rotate_left
              · show Act.put _ (some 88) _ = _
                simp only [Act.put, List.setIfInBounds_toArray, List.set_cons_zero, List.set_cons_succ, i64_w, i32_w]
                rfl
              refine pur_ (i := 19) (N := some 89) Fl196 (any_of HT_.out (by kernel_rfl)) ?_
              refine pur_ (i := 20) (N := some 90) Fl197 (any_of HT_.out (by kernel_rfl)) ?_
              refine done_ (done_of HT_.out (by kernel_rfl)) ?_
              try go_wp2
              go_meet
              case rel => exact ⟨_, (!t543), (by first | rfl | (simp; done) | (simp [*]; done)), H', ⟨by have := HJ2.out; have := HK2.out; first | omega | exact Nat.le_refl _⟩, ⟨rp_ HO_506002.out⟩, ⟨rp_ HO_513002.out⟩, ⟨rp_ HO_519002.out⟩, ⟨rp_ HO529.out⟩, ⟨hp_ BK505.out⟩, ⟨hp_ BK512.out⟩, ⟨hp_ BK518.out⟩, ⟨hp_ BK531.out⟩, ⟨bp_⟩⟩
            · rw [if_neg c63] at H
              have c63b0 : (t530 == 0) = false := beq_eq_false_iff_ne.mpr c63
              have c63b1 : (t530 != 0) = true := bne_iff_ne.mpr c63
              have H' := Aside0.mk H
              clear H
              try go_wp2
              have n0_ : Aside0 (Kd.N (Kd.slice 46 (Kd.int .u64)) 22 (((w53.setCell ⟨gb531, 0, none⟩ (.int .i64 t525)).setCell ⟨gb531, 1, none⟩ (.int .i64 t526)).setCell ⟨gb531, 2, none⟩ (.slice Ao58 t527.length co58)) w.heap.size (fun k_ => (P0_ k_ ∨ w.heap.size ≤ k_) ∧ some k_ ≠ (.slice Ao23 t501.length co23 : Value).ownBlock ∧ some k_ ≠ (.slice Ao29 t508.length co29 : Value).ownBlock ∧ some k_ ≠ (.slice Ao36 t515.length co36 : Value).ownBlock ∧ some k_ ≠ (.slice Ao58 t527.length co58 : Value).ownBlock ∧ k_ ≠ gb505 ∧ k_ ≠ gb512 ∧ k_ ≠ gb518 ∧ k_ ≠ gb531) (.slice Ao51 x12_2.length co51) x12_2) := ⟨by (with_reducible repeat (first | apply Kd.N_alloc | apply Kd.N_drewN | apply Kd.N_drew)); exact Kd.N_mono (Kd.N_far (p := ⟨gb531, 2, none⟩) (Kd.N_far (p := ⟨gb531, 1, none⟩) (Kd.N_far (p := ⟨gb531, 0, none⟩) (Kd.N_mono HO_12.out (fun k_ hk => (⟨hk, hk.2⟩ : _ ∧ k_ ≠ gb531))) (fun _ hk => hk.2) (.int .i64 t525)) (fun _ hk => hk.2) (.int .i64 t526)) (fun _ hk => hk.2) (.slice Ao58 t527.length co58)) (fun _ hk => ⟨hk.1.1.1.1, ⟨hk.1.1.1.2.1, ⟨hk.1.1.1.2.2.1, ⟨hk.1.1.1.2.2.2.1, ⟨hk.1.1.2, ⟨hk.1.1.1.2.2.2.2.1, ⟨hk.1.1.1.2.2.2.2.2.1, ⟨hk.1.1.1.2.2.2.2.2.2, hk.1.2⟩⟩⟩⟩⟩⟩⟩⟩)⟩
              have n1_ : Aside0 (Kd.R (Kd.int .u64) 46 (((w53.setCell ⟨gb531, 0, none⟩ (.int .i64 t525)).setCell ⟨gb531, 1, none⟩ (.int .i64 t526)).setCell ⟨gb531, 2, none⟩ (.slice Ao58 t527.length co58)) w.heap.size (fun k_ => (w.heap.size ≤ k_) ∧ some k_ ≠ (.slice Ao29 t508.length co29 : Value).ownBlock ∧ some k_ ≠ (.slice Ao36 t515.length co36 : Value).ownBlock ∧ some k_ ≠ (.slice Ao58 t527.length co58 : Value).ownBlock) (.slice Ao23 t501.length co23) t501) := ⟨rf_ HO_506002.out BK531.out (by decide) (fun _ hk => ⟨hk.1.1.1, ⟨hk.1.1.2.1, ⟨hk.1.1.2.2, hk.1.2⟩⟩⟩)⟩
              have n2_ : Aside0 (Kd.R (Kd.int .u64) 46 (((w53.setCell ⟨gb531, 0, none⟩ (.int .i64 t525)).setCell ⟨gb531, 1, none⟩ (.int .i64 t526)).setCell ⟨gb531, 2, none⟩ (.slice Ao58 t527.length co58)) w.heap.size (fun k_ => (w.heap.size ≤ k_) ∧ some k_ ≠ (.slice Ao23 t501.length co23 : Value).ownBlock ∧ some k_ ≠ (.slice Ao36 t515.length co36 : Value).ownBlock ∧ some k_ ≠ (.slice Ao58 t527.length co58 : Value).ownBlock) (.slice Ao29 t508.length co29) t508) := ⟨rf_ HO_513002.out BK531.out (by decide) (fun _ hk => ⟨hk.1.1.1, ⟨hk.1.1.2.1, ⟨hk.1.1.2.2, hk.1.2⟩⟩⟩)⟩
              have n3_ : Aside0 (Kd.R (Kd.int .u64) 46 (((w53.setCell ⟨gb531, 0, none⟩ (.int .i64 t525)).setCell ⟨gb531, 1, none⟩ (.int .i64 t526)).setCell ⟨gb531, 2, none⟩ (.slice Ao58 t527.length co58)) w.heap.size (fun k_ => (w.heap.size ≤ k_) ∧ some k_ ≠ (.slice Ao23 t501.length co23 : Value).ownBlock ∧ some k_ ≠ (.slice Ao29 t508.length co29 : Value).ownBlock ∧ some k_ ≠ (.slice Ao58 t527.length co58 : Value).ownBlock) (.slice Ao36 t515.length co36) t515) := ⟨rf_ HO_519002.out BK531.out (by decide) (fun _ hk => ⟨hk.1.1.1, ⟨hk.1.1.2.1, ⟨hk.1.1.2.2, hk.1.2⟩⟩⟩)⟩
              have n4_ : Aside0 (Kd.R (Kd.int .u64) 46 (((w53.setCell ⟨gb531, 0, none⟩ (.int .i64 t525)).setCell ⟨gb531, 1, none⟩ (.int .i64 t526)).setCell ⟨gb531, 2, none⟩ (.slice Ao58 t527.length co58)) w.heap.size (fun k_ => (w.heap.size ≤ k_) ∧ some k_ ≠ (.slice Ao23 t501.length co23 : Value).ownBlock ∧ some k_ ≠ (.slice Ao29 t508.length co29 : Value).ownBlock ∧ some k_ ≠ (.slice Ao36 t515.length co36 : Value).ownBlock) (.slice Ao58 t527.length co58) t527) := ⟨rf_ HO529.out BK531.out (by decide) (fun _ hk => ⟨hk.1.1.1.1.1, ⟨hk.1.1.1.2, ⟨hk.1.1.2, hk.1.2⟩⟩⟩)⟩
              have n5_ : Aside0 ((((w53.setCell ⟨gb531, 0, none⟩ (.int .i64 t525)).setCell ⟨gb531, 1, none⟩ (.int .i64 t526)).setCell ⟨gb531, 2, none⟩ (.slice Ao58 t527.length co58)).heap[gb505]? = some (.cells #[.int .i64 t499, .int .i64 t500, .slice Ao23 t501.length co23] 32 (0, 0))) := ⟨hf_ BK505.out NB505_531.out⟩
              have n6_ : Aside0 ((((w53.setCell ⟨gb531, 0, none⟩ (.int .i64 t525)).setCell ⟨gb531, 1, none⟩ (.int .i64 t526)).setCell ⟨gb531, 2, none⟩ (.slice Ao58 t527.length co58)).heap[gb512]? = some (.cells #[.int .i64 t506, .int .i64 t507, .slice Ao29 t508.length co29] 24 (0, 0))) := ⟨hf_ BK512.out NB512_531.out⟩
              have n7_ : Aside0 ((((w53.setCell ⟨gb531, 0, none⟩ (.int .i64 t525)).setCell ⟨gb531, 1, none⟩ (.int .i64 t526)).setCell ⟨gb531, 2, none⟩ (.slice Ao58 t527.length co58)).heap[gb518]? = some (.cells #[.int .i64 t513, .int .i64 t514, .slice Ao36 t515.length co36] 24 (0, 0))) := ⟨hf_ BK518.out NB518_531.out⟩
              have n8_ : Aside0 ((((w53.setCell ⟨gb531, 0, none⟩ (.int .i64 t525)).setCell ⟨gb531, 1, none⟩ (.int .i64 t526)).setCell ⟨gb531, 2, none⟩ (.slice Ao58 t527.length co58)).heap[gb531]? = some (.cells #[.int .i64 t525, .int .i64 t526, .slice Ao58 t527.length co58] 32 (0, 0))) := ⟨by (with_reducible repeat (first | refine blk_drewN ?_ _ | refine blk_drew ?_ | refine blk_alloc ?_ _)); refine blk_put (cs := #[.int .i64 t525, .int .i64 t526, .slice none 0 0]) ?_ 2 _ rfl; (with_reducible repeat (first | refine blk_drewN ?_ _ | refine blk_drew ?_ | refine blk_alloc ?_ _)); refine blk_put (cs := #[.int .i64 t525, .int .i64 0, .slice none 0 0]) ?_ 1 _ rfl; (with_reducible repeat (first | refine blk_drewN ?_ _ | refine blk_drew ?_ | refine blk_alloc ?_ _)); refine blk_put (cs := #[.int .i64 0, .int .i64 0, .slice none 0 0]) ?_ 0 _ rfl; (with_reducible repeat (first | refine blk_drewN ?_ _ | refine blk_drew ?_ | refine blk_alloc ?_ _)); exact BK531.out⟩
              have n9_ : Aside0 (Below w.heap.size w (((w53.setCell ⟨gb531, 0, none⟩ (.int .i64 t525)).setCell ⟨gb531, 1, none⟩ (.int .i64 t526)).setCell ⟨gb531, 2, none⟩ (.slice Ao58 t527.length co58))) := ⟨bp_⟩
              (try clear HO_12)
              (try clear HO_506002)
              (try clear HO_513002)
              (try clear HO_519002)
              (try clear HO529)
              (try clear BK505)
              (try clear BK512)
              (try clear BK518)
              (try clear BK531)
              (try clear HB)
              generalize (((w53.setCell ⟨gb531, 0, none⟩ (.int .i64 t525)).setCell ⟨gb531, 1, none⟩ (.int .i64 t526)).setCell ⟨gb531, 2, none⟩ (.slice Ao58 t527.length co58)) = w74 at n0_ n1_ n2_ n3_ n4_ n5_ n6_ n7_ n8_ n9_ ⊢
              have HO_12 := n0_
              have HO_506002 := n1_
              have HO_513002 := n2_
              have HO_519002 := n3_
              have HO529 := n4_
              have BK505 := n5_
              have BK512 := n6_
              have BK518 := n7_
              have BK531 := n8_
              have HB := n9_
              clear n0_ n1_ n2_ n3_ n4_ n5_ n6_ n7_ n8_ n9_
              replace HO_12 := Aside0.mk (Kd.N_drew HO_12.out)
              replace HO_506002 := Aside0.mk (Kd.R_drew HO_506002.out)
              replace HO_513002 := Aside0.mk (Kd.R_drew HO_513002.out)
              replace HO_519002 := Aside0.mk (Kd.R_drew HO_519002.out)
              replace HO529 := Aside0.mk (Kd.R_drew HO529.out)
              replace BK505 := Aside0.mk (blk_drew BK505.out)
              replace BK512 := Aside0.mk (blk_drew BK512.out)
              replace BK518 := Aside0.mk (blk_drew BK518.out)
              replace BK531 := Aside0.mk (blk_drew BK531.out)
              replace HB := Aside0.mk (below_drew1 HB.out)
              refine start_ (n := 21) (S := fun w' => w'.cell? ⟨gb505, 0, none⟩ = some (.int .i64 t499) ∧ w'.cell? ⟨gb505, 1, none⟩ = some (.int .i64 t500) ∧ w'.cell? ⟨gb505, 2, none⟩ = some (.slice Ao23 t501.length co23) ∧ w'.cell? ⟨gb512, 0, none⟩ = some (.int .i64 t506) ∧ w'.cell? ⟨gb512, 1, none⟩ = some (.int .i64 t507) ∧ w'.cell? ⟨gb512, 2, none⟩ = some (.slice Ao29 t508.length co29)) (ds := []) Fl178 (by kernel_rfl) rfl rfl ⟨(blk_cell BK505.out 0).trans rfl, (blk_cell BK505.out 1).trans rfl, (blk_cell BK505.out 2).trans rfl, (blk_cell BK512.out 0).trans rfl, (blk_cell BK512.out 1).trans rfl, (blk_cell BK512.out 2).trans rfl⟩ (fun hHeld => ?_); refine with_tabW chequerlaw03_RectOf.tab15 chequerlaw03_RectOf.bits15 (fun HT_ HW_ => ?_)
              generalize w74.drew = w75 at HO_12 HO_506002 HO_513002 HO_519002 HO529 BK505 BK512 BK518 BK531 HB hHeld ⊢
              refine pur_ (i := 0) (N := some 70) Fl179 (any_of HT_.out (by kernel_rfl)) ?_
              refine pur_ (i := 1) (N := some 71) Fl180 (any_of HT_.out (by kernel_rfl)) ?_
              refine pur_ (i := 2) (N := some 72) Fl181 (any_of HT_.out (by kernel_rfl)) ?_
              refine pur_ (i := 3) (N := some 73) Fl182 (any_of HT_.out (by kernel_rfl)) ?_
              refine take_ (i := 4) (N := some 74) (v := ?_) (a' := ?_) Fl183 rfl rfl (take_ofW HT_.out HW_.out (by kernel_rfl)) (fun _ _ _ h => h) (Or.inl ⟨by rfl, ?_⟩) hHeld ?_ ?_
              rotate_left
              · rintro w' ⟨s0, s1, s2, s3, s4, s5⟩
                go_simp
                with_reducible rfl
              rotate_left
              · simp only [Act.put, List.setIfInBounds_toArray, List.set_cons_zero, List.set_cons_succ, i64_w, i32_w]
                rfl
              refine take_ (i := 6) (N := some 76) (v := ?_) (a' := ?_) Fl204 rfl rfl (take_ofW HT_.out HW_.out (by kernel_rfl)) (fun _ _ _ h => h) (Or.inl ⟨by rfl, ?_⟩) hHeld ?_ ?_
              rotate_left
              · rintro w' ⟨s0, s1, s2, s3, s4, s5⟩
                go_simp
                with_reducible rfl
              rotate_left
              · simp only [Act.put, List.setIfInBounds_toArray, List.set_cons_zero, List.set_cons_succ, i64_w, i32_w]
                rfl
              refine one_ (i := 5) (N := some 75) Fl184 rfl rfl (one_of HT_.out (by kernel_rfl)) (by decide) (fun K hK => ?_)
              refine goes_ Try.func27 (by kernel_rfl) rfl #[.agg #[.int .i64 t499, .int .i64 t500, .slice Ao23 t501.length co23]] (by rfl) rfl rfl (by (try simp only [List.map_toArray, List.map_cons, List.map_nil]); first | done | rfl | (simp only [List.length_drop, List.length_take]; rfl)) ?_
              with_reducible refine (chequerlaw03_as.calls t499 t500 (fun k_ => some k_ = (.slice Ao23 t501.length co23 : Value).ownBlock) _ _ t501 t532 t533 t534 _ ?side1 A60.out).mono ?_
              (case side1 => exact Kd.R_V (Kd.R_tight rfl (Kd.R_types (Kd.R_types (Kd.R_types (Kd.R_types (Kd.R_apart' (HO_506002.out) (Kd.N_typed HO_12.out) (by decide)) BK505.out (by decide)) BK512.out (by decide)) BK518.out (by decide)) BK531.out (by decide))))
              rintro e w76 ⟨v535, rfl, ho0, hb⟩
              refine ⟨_, rfl, ?_⟩
              have HO536 := Aside0.mk (Kd.V_lower (Kd.V_mono (ok' := fun k_ => (P0_ k_ ∨ w.heap.size ≤ k_) ∧ some k_ ≠ (.slice Ao51 x12_2.length co51 : Value).ownBlock ∧ some k_ ≠ (.slice Ao29 t508.length co29 : Value).ownBlock ∧ some k_ ≠ (.slice Ao36 t515.length co36 : Value).ownBlock ∧ some k_ ≠ (.slice Ao58 t527.length co58 : Value).ownBlock ∧ k_ ≠ gb505 ∧ k_ ≠ gb512 ∧ k_ ≠ gb518 ∧ k_ ≠ gb531) ho0 (fun k_ hk_ => ⟨Or.elim hk_ (fun hs_ => (.inr (((Kd.R_types (Kd.R_types (Kd.R_types (Kd.R_types (Kd.R_apart' (HO_506002.out) (Kd.N_typed HO_12.out) (by decide)) BK505.out (by decide)) BK512.out (by decide)) BK518.out (by decide)) BK531.out (by decide)).1 k_ hs_.symm).1.1.1.1.1.1))) (fun hn_ => (.inr (Nat.le_trans (below_size bp_) hn_))), Or.elim hk_ (fun hs_ => ((Kd.R_types (Kd.R_types (Kd.R_types (Kd.R_types (Kd.R_apart' (HO_506002.out) (Kd.N_typed HO_12.out) (by decide)) BK505.out (by decide)) BK512.out (by decide)) BK518.out (by decide)) BK531.out (by decide)).1 k_ hs_.symm).1.1.1.1.2) (fun hn_ => (Kd.fresh' (Kd.N_lt (by (with_reducible repeat (first | apply Kd.N_alloc | apply Kd.N_drewN | apply Kd.N_drew)); exact HO_12.out)) k_ hn_)), Or.elim hk_ (fun hs_ => ((Kd.R_types (Kd.R_types (Kd.R_types (Kd.R_types (Kd.R_apart' (HO_506002.out) (Kd.N_typed HO_12.out) (by decide)) BK505.out (by decide)) BK512.out (by decide)) BK518.out (by decide)) BK531.out (by decide)).1 k_ hs_.symm).1.1.1.1.1.2.1) (fun hn_ => (Kd.fresh' (Kd.R_lt (rp_ HO_513002.out)) k_ hn_)), Or.elim hk_ (fun hs_ => ((Kd.R_types (Kd.R_types (Kd.R_types (Kd.R_types (Kd.R_apart' (HO_506002.out) (Kd.N_typed HO_12.out) (by decide)) BK505.out (by decide)) BK512.out (by decide)) BK518.out (by decide)) BK531.out (by decide)).1 k_ hs_.symm).1.1.1.1.1.2.2.1) (fun hn_ => (Kd.fresh' (Kd.R_lt (rp_ HO_519002.out)) k_ hn_)), Or.elim hk_ (fun hs_ => ((Kd.R_types (Kd.R_types (Kd.R_types (Kd.R_types (Kd.R_apart' (HO_506002.out) (Kd.N_typed HO_12.out) (by decide)) BK505.out (by decide)) BK512.out (by decide)) BK518.out (by decide)) BK531.out (by decide)).1 k_ hs_.symm).1.1.1.1.1.2.2.2) (fun hn_ => (Kd.fresh' (Kd.R_lt (rp_ HO529.out)) k_ hn_)), Or.elim hk_ (fun hs_ => ((Kd.R_types (Kd.R_types (Kd.R_types (Kd.R_types (Kd.R_apart' (HO_506002.out) (Kd.N_typed HO_12.out) (by decide)) BK505.out (by decide)) BK512.out (by decide)) BK518.out (by decide)) BK531.out (by decide)).1 k_ hs_.symm).1.1.1.2) (fun hn_ => (Kd.freshB (g := gb505) (o := .cells #[.int .i64 t499, .int .i64 t500, .slice Ao23 t501.length co23] 32 (0, 0)) (hp_ BK505.out) k_ hn_)), Or.elim hk_ (fun hs_ => ((Kd.R_types (Kd.R_types (Kd.R_types (Kd.R_types (Kd.R_apart' (HO_506002.out) (Kd.N_typed HO_12.out) (by decide)) BK505.out (by decide)) BK512.out (by decide)) BK518.out (by decide)) BK531.out (by decide)).1 k_ hs_.symm).1.1.2) (fun hn_ => (Kd.freshB (g := gb512) (o := .cells #[.int .i64 t506, .int .i64 t507, .slice Ao29 t508.length co29] 24 (0, 0)) (hp_ BK512.out) k_ hn_)), Or.elim hk_ (fun hs_ => ((Kd.R_types (Kd.R_types (Kd.R_types (Kd.R_types (Kd.R_apart' (HO_506002.out) (Kd.N_typed HO_12.out) (by decide)) BK505.out (by decide)) BK512.out (by decide)) BK518.out (by decide)) BK531.out (by decide)).1 k_ hs_.symm).1.2) (fun hn_ => (Kd.freshB (g := gb518) (o := .cells #[.int .i64 t513, .int .i64 t514, .slice Ao36 t515.length co36] 24 (0, 0)) (hp_ BK518.out) k_ hn_)), Or.elim hk_ (fun hs_ => ((Kd.R_types (Kd.R_types (Kd.R_types (Kd.R_types (Kd.R_apart' (HO_506002.out) (Kd.N_typed HO_12.out) (by decide)) BK505.out (by decide)) BK512.out (by decide)) BK518.out (by decide)) BK531.out (by decide)).1 k_ hs_.symm).2) (fun hn_ => (Kd.freshB (g := gb531) (o := .cells #[.int .i64 t525, .int .i64 t526, .slice Ao58 t527.length co58] 32 (0, 0)) (hp_ BK531.out) k_ hn_))⟩)) (below_size bp_))
              replace HO_12 := Aside0.mk (Kd.N_below (by (with_reducible repeat (first | apply Kd.N_alloc | apply Kd.N_drewN | apply Kd.N_drew)); exact HO_12.out) hb)
              replace HO_506002 := Aside0.mk (Kd.R_below (rp_ HO_506002.out) hb)
              replace HO_513002 := Aside0.mk (Kd.R_below (rp_ HO_513002.out) hb)
              replace HO_519002 := Aside0.mk (Kd.R_below (rp_ HO_519002.out) hb)
              replace HO529 := Aside0.mk (Kd.R_below (rp_ HO529.out) hb)
              replace BK505 := Aside0.mk (blk_below (hp_ BK505.out) hb)
              replace BK512 := Aside0.mk (blk_below (hp_ BK512.out) hb)
              replace BK518 := Aside0.mk (blk_below (hp_ BK518.out) hb)
              replace BK531 := Aside0.mk (blk_below (hp_ BK531.out) hb)
              replace HB := Aside0.mk (below_step bp_ hb)
              (try clear hb)
              (try clear hb2)
              (try clear hk)
              (try clear hi)
              (try clear ho0)
              obtain ⟨Ao77, co77, eo77⟩ := Kd.V_slice HO536.out
              (first | subst eo77 | (injection eo77 with f1_ f2_ f3_; have f4_ := f1_.symm; have f5_ := f3_.symm; clear f1_ f2_ f3_; subst f4_; subst f5_))
              refine hK.out _ _ ⟨(blk_cell BK505.out 0).trans rfl, (blk_cell BK505.out 1).trans rfl, (blk_cell BK505.out 2).trans rfl, (blk_cell BK512.out 0).trans rfl, (blk_cell BK512.out 1).trans rfl, (blk_cell BK512.out 2).trans rfl⟩ (fun hHeld => ?_)
              clear hK K
              refine norm_ (a' := ?_) ?_ ?_
              rotate_left
              · show Act.put _ (some 75) _ = _
                simp only [Act.put, List.setIfInBounds_toArray, List.set_cons_zero, List.set_cons_succ, i64_w, i32_w]
                rfl
              refine one_ (i := 7) (N := some 77) Fl185 rfl rfl (one_of HT_.out (by kernel_rfl)) (by decide) (fun K hK => ?_)
              refine goes_ Try.func26 (by kernel_rfl) rfl #[.agg #[.int .i64 t532, .int .i64 t533, .slice Ao77 t534.length co77], .agg #[.int .i64 t506, .int .i64 t507, .slice Ao29 t508.length co29]] (by rfl) rfl rfl (by (try simp only [List.map_toArray, List.map_cons, List.map_nil]); first | done | rfl | (simp only [List.length_drop, List.length_take]; rfl)) ?_
              with_reducible refine (chequerref03_Same.calls k2 t532 t533 _ _ t534 t506 t507 _ _ t508 true _ ?side1 ?side2 ?side3 ?side4 A61.out).mono ?_
              (case side1 => exact cp_ (Kd.V_reads' HO536.out).2.2)
              (case side2 => exact (Kd.V_reads' HO536.out).2.1)
              (case side3 => exact cp_ (Kd.R_reads' HO_513002.out).2.2)
              (case side4 => exact (Kd.R_reads' HO_513002.out).2.1)
              rintro e w78 ⟨rfl, hb⟩
              refine ⟨_, rfl, ?_⟩
              replace HO_12 := Aside0.mk (Kd.N_below (by (with_reducible repeat (first | apply Kd.N_alloc | apply Kd.N_drewN | apply Kd.N_drew)); exact HO_12.out) hb)
              replace HO_506002 := Aside0.mk (Kd.R_below (rp_ HO_506002.out) hb)
              replace HO_513002 := Aside0.mk (Kd.R_below (rp_ HO_513002.out) hb)
              replace HO_519002 := Aside0.mk (Kd.R_below (rp_ HO_519002.out) hb)
              replace HO529 := Aside0.mk (Kd.R_below (rp_ HO529.out) hb)
              replace HO536 := Aside0.mk (Kd.V_below (vp_ HO536.out) hb)
              replace BK505 := Aside0.mk (blk_below (hp_ BK505.out) hb)
              replace BK512 := Aside0.mk (blk_below (hp_ BK512.out) hb)
              replace BK518 := Aside0.mk (blk_below (hp_ BK518.out) hb)
              replace BK531 := Aside0.mk (blk_below (hp_ BK531.out) hb)
              replace HB := Aside0.mk (below_step bp_ hb)
              (try clear hb)
              (try clear hb2)
              (try clear hk)
              (try clear hi)
              refine hK.out _ _ ⟨(blk_cell BK505.out 0).trans rfl, (blk_cell BK505.out 1).trans rfl, (blk_cell BK505.out 2).trans rfl, (blk_cell BK512.out 0).trans rfl, (blk_cell BK512.out 1).trans rfl, (blk_cell BK512.out 2).trans rfl⟩ (fun hHeld => ?_)
              clear hK K
              refine norm_ (a' := ?_) ?_ ?_
              rotate_left
              · show Act.put _ (some 77) _ = _
                simp only [Act.put, List.setIfInBounds_toArray, List.set_cons_zero, List.set_cons_succ, i64_w, i32_w]
                rfl
              refine pur_ (i := 8) (N := some 78) Fl186 (any_of HT_.out (by kernel_rfl)) ?_
              refine pur_ (i := 9) (N := some 79) Fl187 (any_of HT_.out (by kernel_rfl)) ?_
              refine pur_ (i := 10) (N := some 80) Fl188 (any_of HT_.out (by kernel_rfl)) ?_
              refine pur_ (i := 11) (N := some 81) Fl189 (any_of HT_.out (by kernel_rfl)) ?_
              refine pur_ (i := 12) (N := some 82) Fl190 (any_of HT_.out (by kernel_rfl)) ?_
              refine pur_ (i := 13) (N := some 83) Fl191 (any_of HT_.out (by kernel_rfl)) ?_
              refine pur_ (i := 14) (N := some 84) Fl192 (any_of HT_.out (by kernel_rfl)) ?_
              refine pun_ (i := 15) (N := some 85) Fl193 (any_of HT_.out (by kernel_rfl)) ?_
              refine pun_ (i := 16) (N := some 86) Fl212 (any_of HT_.out (by kernel_rfl)) ?_
              refine pun_ (i := 17) (N := some 87) Fl194 (any_of HT_.out (by kernel_rfl)) ?_
              refine pun_ (i := 18) (N := some 88) Fl195 (any_of HT_.out (by kernel_rfl)) ?_
              refine pun_ (i := 19) (N := some 89) Fl196 (any_of HT_.out (by kernel_rfl)) ?_
              refine pur_ (i := 20) (N := some 90) Fl197 (any_of HT_.out (by kernel_rfl)) ?_
              refine done_ (done_of HT_.out (by kernel_rfl)) ?_
              try go_wp2
              go_meet
              case rel => exact ⟨_, (true), (by first | rfl | (simp; done) | (simp [*]; done)), H', ⟨by have := HJ2.out; have := HK2.out; first | omega | exact Nat.le_refl _⟩, ⟨rp_ HO_506002.out⟩, ⟨rp_ HO_513002.out⟩, ⟨rp_ HO_519002.out⟩, ⟨rp_ HO529.out⟩, ⟨hp_ BK505.out⟩, ⟨hp_ BK512.out⟩, ⟨hp_ BK518.out⟩, ⟨hp_ BK531.out⟩, ⟨bp_⟩⟩
          · replace c62 := Bool.eq_false_iff.mpr c62
            subst c62
            have H1 : (chequerlaw03_RectOf.j3 k2 true t513 t514 t515 t525 t526 t527) = some r := by rw [if_neg (show ¬ (false = true) by decide)] at H; exact H
            clear H
            have H := H1
            clear H1
            have H' := Aside0.mk H
            clear H
            try go_wp2
            have n0_ : Aside0 (Kd.N (Kd.slice 46 (Kd.int .u64)) 22 (((w53.setCell ⟨gb531, 0, none⟩ (.int .i64 t525)).setCell ⟨gb531, 1, none⟩ (.int .i64 t526)).setCell ⟨gb531, 2, none⟩ (.slice Ao58 t527.length co58)) w.heap.size (fun k_ => (P0_ k_ ∨ w.heap.size ≤ k_) ∧ some k_ ≠ (.slice Ao23 t501.length co23 : Value).ownBlock ∧ some k_ ≠ (.slice Ao29 t508.length co29 : Value).ownBlock ∧ some k_ ≠ (.slice Ao36 t515.length co36 : Value).ownBlock ∧ some k_ ≠ (.slice Ao58 t527.length co58 : Value).ownBlock ∧ k_ ≠ gb505 ∧ k_ ≠ gb512 ∧ k_ ≠ gb518 ∧ k_ ≠ gb531) (.slice Ao51 x12_2.length co51) x12_2) := ⟨by (with_reducible repeat (first | apply Kd.N_alloc | apply Kd.N_drewN | apply Kd.N_drew)); exact Kd.N_mono (Kd.N_far (p := ⟨gb531, 2, none⟩) (Kd.N_far (p := ⟨gb531, 1, none⟩) (Kd.N_far (p := ⟨gb531, 0, none⟩) (Kd.N_mono HO_12.out (fun k_ hk => (⟨hk, hk.2⟩ : _ ∧ k_ ≠ gb531))) (fun _ hk => hk.2) (.int .i64 t525)) (fun _ hk => hk.2) (.int .i64 t526)) (fun _ hk => hk.2) (.slice Ao58 t527.length co58)) (fun _ hk => ⟨hk.1.1.1.1, ⟨hk.1.1.1.2.1, ⟨hk.1.1.1.2.2.1, ⟨hk.1.1.1.2.2.2.1, ⟨hk.1.1.2, ⟨hk.1.1.1.2.2.2.2.1, ⟨hk.1.1.1.2.2.2.2.2.1, ⟨hk.1.1.1.2.2.2.2.2.2, hk.1.2⟩⟩⟩⟩⟩⟩⟩⟩)⟩
            have n1_ : Aside0 (Kd.R (Kd.int .u64) 46 (((w53.setCell ⟨gb531, 0, none⟩ (.int .i64 t525)).setCell ⟨gb531, 1, none⟩ (.int .i64 t526)).setCell ⟨gb531, 2, none⟩ (.slice Ao58 t527.length co58)) w.heap.size (fun k_ => (w.heap.size ≤ k_) ∧ some k_ ≠ (.slice Ao29 t508.length co29 : Value).ownBlock ∧ some k_ ≠ (.slice Ao36 t515.length co36 : Value).ownBlock ∧ some k_ ≠ (.slice Ao58 t527.length co58 : Value).ownBlock) (.slice Ao23 t501.length co23) t501) := ⟨rf_ HO_506002.out BK531.out (by decide) (fun _ hk => ⟨hk.1.1.1, ⟨hk.1.1.2.1, ⟨hk.1.1.2.2, hk.1.2⟩⟩⟩)⟩
            have n2_ : Aside0 (Kd.R (Kd.int .u64) 46 (((w53.setCell ⟨gb531, 0, none⟩ (.int .i64 t525)).setCell ⟨gb531, 1, none⟩ (.int .i64 t526)).setCell ⟨gb531, 2, none⟩ (.slice Ao58 t527.length co58)) w.heap.size (fun k_ => (w.heap.size ≤ k_) ∧ some k_ ≠ (.slice Ao23 t501.length co23 : Value).ownBlock ∧ some k_ ≠ (.slice Ao36 t515.length co36 : Value).ownBlock ∧ some k_ ≠ (.slice Ao58 t527.length co58 : Value).ownBlock) (.slice Ao29 t508.length co29) t508) := ⟨rf_ HO_513002.out BK531.out (by decide) (fun _ hk => ⟨hk.1.1.1, ⟨hk.1.1.2.1, ⟨hk.1.1.2.2, hk.1.2⟩⟩⟩)⟩
            have n3_ : Aside0 (Kd.R (Kd.int .u64) 46 (((w53.setCell ⟨gb531, 0, none⟩ (.int .i64 t525)).setCell ⟨gb531, 1, none⟩ (.int .i64 t526)).setCell ⟨gb531, 2, none⟩ (.slice Ao58 t527.length co58)) w.heap.size (fun k_ => (w.heap.size ≤ k_) ∧ some k_ ≠ (.slice Ao23 t501.length co23 : Value).ownBlock ∧ some k_ ≠ (.slice Ao29 t508.length co29 : Value).ownBlock ∧ some k_ ≠ (.slice Ao58 t527.length co58 : Value).ownBlock) (.slice Ao36 t515.length co36) t515) := ⟨rf_ HO_519002.out BK531.out (by decide) (fun _ hk => ⟨hk.1.1.1, ⟨hk.1.1.2.1, ⟨hk.1.1.2.2, hk.1.2⟩⟩⟩)⟩
            have n4_ : Aside0 (Kd.R (Kd.int .u64) 46 (((w53.setCell ⟨gb531, 0, none⟩ (.int .i64 t525)).setCell ⟨gb531, 1, none⟩ (.int .i64 t526)).setCell ⟨gb531, 2, none⟩ (.slice Ao58 t527.length co58)) w.heap.size (fun k_ => (w.heap.size ≤ k_) ∧ some k_ ≠ (.slice Ao23 t501.length co23 : Value).ownBlock ∧ some k_ ≠ (.slice Ao29 t508.length co29 : Value).ownBlock ∧ some k_ ≠ (.slice Ao36 t515.length co36 : Value).ownBlock) (.slice Ao58 t527.length co58) t527) := ⟨rf_ HO529.out BK531.out (by decide) (fun _ hk => ⟨hk.1.1.1.1.1, ⟨hk.1.1.1.2, ⟨hk.1.1.2, hk.1.2⟩⟩⟩)⟩
            have n5_ : Aside0 ((((w53.setCell ⟨gb531, 0, none⟩ (.int .i64 t525)).setCell ⟨gb531, 1, none⟩ (.int .i64 t526)).setCell ⟨gb531, 2, none⟩ (.slice Ao58 t527.length co58)).heap[gb505]? = some (.cells #[.int .i64 t499, .int .i64 t500, .slice Ao23 t501.length co23] 32 (0, 0))) := ⟨hf_ BK505.out NB505_531.out⟩
            have n6_ : Aside0 ((((w53.setCell ⟨gb531, 0, none⟩ (.int .i64 t525)).setCell ⟨gb531, 1, none⟩ (.int .i64 t526)).setCell ⟨gb531, 2, none⟩ (.slice Ao58 t527.length co58)).heap[gb512]? = some (.cells #[.int .i64 t506, .int .i64 t507, .slice Ao29 t508.length co29] 24 (0, 0))) := ⟨hf_ BK512.out NB512_531.out⟩
            have n7_ : Aside0 ((((w53.setCell ⟨gb531, 0, none⟩ (.int .i64 t525)).setCell ⟨gb531, 1, none⟩ (.int .i64 t526)).setCell ⟨gb531, 2, none⟩ (.slice Ao58 t527.length co58)).heap[gb518]? = some (.cells #[.int .i64 t513, .int .i64 t514, .slice Ao36 t515.length co36] 24 (0, 0))) := ⟨hf_ BK518.out NB518_531.out⟩
            have n8_ : Aside0 ((((w53.setCell ⟨gb531, 0, none⟩ (.int .i64 t525)).setCell ⟨gb531, 1, none⟩ (.int .i64 t526)).setCell ⟨gb531, 2, none⟩ (.slice Ao58 t527.length co58)).heap[gb531]? = some (.cells #[.int .i64 t525, .int .i64 t526, .slice Ao58 t527.length co58] 32 (0, 0))) := ⟨by (with_reducible repeat (first | refine blk_drewN ?_ _ | refine blk_drew ?_ | refine blk_alloc ?_ _)); refine blk_put (cs := #[.int .i64 t525, .int .i64 t526, .slice none 0 0]) ?_ 2 _ rfl; (with_reducible repeat (first | refine blk_drewN ?_ _ | refine blk_drew ?_ | refine blk_alloc ?_ _)); refine blk_put (cs := #[.int .i64 t525, .int .i64 0, .slice none 0 0]) ?_ 1 _ rfl; (with_reducible repeat (first | refine blk_drewN ?_ _ | refine blk_drew ?_ | refine blk_alloc ?_ _)); refine blk_put (cs := #[.int .i64 0, .int .i64 0, .slice none 0 0]) ?_ 0 _ rfl; (with_reducible repeat (first | refine blk_drewN ?_ _ | refine blk_drew ?_ | refine blk_alloc ?_ _)); exact BK531.out⟩
            have n9_ : Aside0 (Below w.heap.size w (((w53.setCell ⟨gb531, 0, none⟩ (.int .i64 t525)).setCell ⟨gb531, 1, none⟩ (.int .i64 t526)).setCell ⟨gb531, 2, none⟩ (.slice Ao58 t527.length co58))) := ⟨bp_⟩
            (try clear HO_12)
            (try clear HO_506002)
            (try clear HO_513002)
            (try clear HO_519002)
            (try clear HO529)
            (try clear BK505)
            (try clear BK512)
            (try clear BK518)
            (try clear BK531)
            (try clear HB)
            generalize (((w53.setCell ⟨gb531, 0, none⟩ (.int .i64 t525)).setCell ⟨gb531, 1, none⟩ (.int .i64 t526)).setCell ⟨gb531, 2, none⟩ (.slice Ao58 t527.length co58)) = w79 at n0_ n1_ n2_ n3_ n4_ n5_ n6_ n7_ n8_ n9_ ⊢
            have HO_12 := n0_
            have HO_506002 := n1_
            have HO_513002 := n2_
            have HO_519002 := n3_
            have HO529 := n4_
            have BK505 := n5_
            have BK512 := n6_
            have BK518 := n7_
            have BK531 := n8_
            have HB := n9_
            clear n0_ n1_ n2_ n3_ n4_ n5_ n6_ n7_ n8_ n9_
            replace HO_12 := Aside0.mk (Kd.N_drew HO_12.out)
            replace HO_506002 := Aside0.mk (Kd.R_drew HO_506002.out)
            replace HO_513002 := Aside0.mk (Kd.R_drew HO_513002.out)
            replace HO_519002 := Aside0.mk (Kd.R_drew HO_519002.out)
            replace HO529 := Aside0.mk (Kd.R_drew HO529.out)
            replace BK505 := Aside0.mk (blk_drew BK505.out)
            replace BK512 := Aside0.mk (blk_drew BK512.out)
            replace BK518 := Aside0.mk (blk_drew BK518.out)
            replace BK531 := Aside0.mk (blk_drew BK531.out)
            replace HB := Aside0.mk (below_drew1 HB.out)
            refine start_ (n := 21) (S := fun w' => w'.cell? ⟨gb505, 0, none⟩ = some (.int .i64 t499) ∧ w'.cell? ⟨gb505, 1, none⟩ = some (.int .i64 t500) ∧ w'.cell? ⟨gb505, 2, none⟩ = some (.slice Ao23 t501.length co23) ∧ w'.cell? ⟨gb512, 0, none⟩ = some (.int .i64 t506) ∧ w'.cell? ⟨gb512, 1, none⟩ = some (.int .i64 t507) ∧ w'.cell? ⟨gb512, 2, none⟩ = some (.slice Ao29 t508.length co29)) (ds := []) Fl178 (by kernel_rfl) rfl rfl ⟨(blk_cell BK505.out 0).trans rfl, (blk_cell BK505.out 1).trans rfl, (blk_cell BK505.out 2).trans rfl, (blk_cell BK512.out 0).trans rfl, (blk_cell BK512.out 1).trans rfl, (blk_cell BK512.out 2).trans rfl⟩ (fun hHeld => ?_); refine with_tabW chequerlaw03_RectOf.tab15 chequerlaw03_RectOf.bits15 (fun HT_ HW_ => ?_)
            generalize w79.drew = w80 at HO_12 HO_506002 HO_513002 HO_519002 HO529 BK505 BK512 BK518 BK531 HB hHeld ⊢
            refine pur_ (i := 0) (N := some 70) Fl179 (any_of HT_.out (by kernel_rfl)) ?_
            refine pur_ (i := 1) (N := some 71) Fl180 (any_of HT_.out (by kernel_rfl)) ?_
            refine pur_ (i := 2) (N := some 72) Fl181 (any_of HT_.out (by kernel_rfl)) ?_
            refine pur_ (i := 3) (N := some 73) Fl182 (any_of HT_.out (by kernel_rfl)) ?_
            refine take_ (i := 4) (N := some 74) (v := ?_) (a' := ?_) Fl183 rfl rfl (take_ofW HT_.out HW_.out (by kernel_rfl)) (fun _ _ _ h => h) (Or.inl ⟨by rfl, ?_⟩) hHeld ?_ ?_
            rotate_left
            · rintro w' ⟨s0, s1, s2, s3, s4, s5⟩
              go_simp
              with_reducible rfl
            rotate_left
            · simp only [Act.put, List.setIfInBounds_toArray, List.set_cons_zero, List.set_cons_succ, i64_w, i32_w]
              rfl
            refine take_ (i := 6) (N := some 76) (v := ?_) (a' := ?_) Fl204 rfl rfl (take_ofW HT_.out HW_.out (by kernel_rfl)) (fun _ _ _ h => h) (Or.inl ⟨by rfl, ?_⟩) hHeld ?_ ?_
            rotate_left
            · rintro w' ⟨s0, s1, s2, s3, s4, s5⟩
              go_simp
              with_reducible rfl
            rotate_left
            · simp only [Act.put, List.setIfInBounds_toArray, List.set_cons_zero, List.set_cons_succ, i64_w, i32_w]
              rfl
            refine one_ (i := 5) (N := some 75) Fl184 rfl rfl (one_of HT_.out (by kernel_rfl)) (by decide) (fun K hK => ?_)
            refine goes_ Try.func27 (by kernel_rfl) rfl #[.agg #[.int .i64 t499, .int .i64 t500, .slice Ao23 t501.length co23]] (by rfl) rfl rfl (by (try simp only [List.map_toArray, List.map_cons, List.map_nil]); first | done | rfl | (simp only [List.length_drop, List.length_take]; rfl)) ?_
            with_reducible refine (chequerlaw03_as.calls t499 t500 (fun k_ => some k_ = (.slice Ao23 t501.length co23 : Value).ownBlock) _ _ t501 t532 t533 t534 _ ?side1 A60.out).mono ?_
            (case side1 => exact Kd.R_V (Kd.R_tight rfl (Kd.R_types (Kd.R_types (Kd.R_types (Kd.R_types (Kd.R_apart' (HO_506002.out) (Kd.N_typed HO_12.out) (by decide)) BK505.out (by decide)) BK512.out (by decide)) BK518.out (by decide)) BK531.out (by decide))))
            rintro e w81 ⟨v535, rfl, ho0, hb⟩
            refine ⟨_, rfl, ?_⟩
            have HO536 := Aside0.mk (Kd.V_lower (Kd.V_mono (ok' := fun k_ => (P0_ k_ ∨ w.heap.size ≤ k_) ∧ some k_ ≠ (.slice Ao51 x12_2.length co51 : Value).ownBlock ∧ some k_ ≠ (.slice Ao29 t508.length co29 : Value).ownBlock ∧ some k_ ≠ (.slice Ao36 t515.length co36 : Value).ownBlock ∧ some k_ ≠ (.slice Ao58 t527.length co58 : Value).ownBlock ∧ k_ ≠ gb505 ∧ k_ ≠ gb512 ∧ k_ ≠ gb518 ∧ k_ ≠ gb531) ho0 (fun k_ hk_ => ⟨Or.elim hk_ (fun hs_ => (.inr (((Kd.R_types (Kd.R_types (Kd.R_types (Kd.R_types (Kd.R_apart' (HO_506002.out) (Kd.N_typed HO_12.out) (by decide)) BK505.out (by decide)) BK512.out (by decide)) BK518.out (by decide)) BK531.out (by decide)).1 k_ hs_.symm).1.1.1.1.1.1))) (fun hn_ => (.inr (Nat.le_trans (below_size bp_) hn_))), Or.elim hk_ (fun hs_ => ((Kd.R_types (Kd.R_types (Kd.R_types (Kd.R_types (Kd.R_apart' (HO_506002.out) (Kd.N_typed HO_12.out) (by decide)) BK505.out (by decide)) BK512.out (by decide)) BK518.out (by decide)) BK531.out (by decide)).1 k_ hs_.symm).1.1.1.1.2) (fun hn_ => (Kd.fresh' (Kd.N_lt (by (with_reducible repeat (first | apply Kd.N_alloc | apply Kd.N_drewN | apply Kd.N_drew)); exact HO_12.out)) k_ hn_)), Or.elim hk_ (fun hs_ => ((Kd.R_types (Kd.R_types (Kd.R_types (Kd.R_types (Kd.R_apart' (HO_506002.out) (Kd.N_typed HO_12.out) (by decide)) BK505.out (by decide)) BK512.out (by decide)) BK518.out (by decide)) BK531.out (by decide)).1 k_ hs_.symm).1.1.1.1.1.2.1) (fun hn_ => (Kd.fresh' (Kd.R_lt (rp_ HO_513002.out)) k_ hn_)), Or.elim hk_ (fun hs_ => ((Kd.R_types (Kd.R_types (Kd.R_types (Kd.R_types (Kd.R_apart' (HO_506002.out) (Kd.N_typed HO_12.out) (by decide)) BK505.out (by decide)) BK512.out (by decide)) BK518.out (by decide)) BK531.out (by decide)).1 k_ hs_.symm).1.1.1.1.1.2.2.1) (fun hn_ => (Kd.fresh' (Kd.R_lt (rp_ HO_519002.out)) k_ hn_)), Or.elim hk_ (fun hs_ => ((Kd.R_types (Kd.R_types (Kd.R_types (Kd.R_types (Kd.R_apart' (HO_506002.out) (Kd.N_typed HO_12.out) (by decide)) BK505.out (by decide)) BK512.out (by decide)) BK518.out (by decide)) BK531.out (by decide)).1 k_ hs_.symm).1.1.1.1.1.2.2.2) (fun hn_ => (Kd.fresh' (Kd.R_lt (rp_ HO529.out)) k_ hn_)), Or.elim hk_ (fun hs_ => ((Kd.R_types (Kd.R_types (Kd.R_types (Kd.R_types (Kd.R_apart' (HO_506002.out) (Kd.N_typed HO_12.out) (by decide)) BK505.out (by decide)) BK512.out (by decide)) BK518.out (by decide)) BK531.out (by decide)).1 k_ hs_.symm).1.1.1.2) (fun hn_ => (Kd.freshB (g := gb505) (o := .cells #[.int .i64 t499, .int .i64 t500, .slice Ao23 t501.length co23] 32 (0, 0)) (hp_ BK505.out) k_ hn_)), Or.elim hk_ (fun hs_ => ((Kd.R_types (Kd.R_types (Kd.R_types (Kd.R_types (Kd.R_apart' (HO_506002.out) (Kd.N_typed HO_12.out) (by decide)) BK505.out (by decide)) BK512.out (by decide)) BK518.out (by decide)) BK531.out (by decide)).1 k_ hs_.symm).1.1.2) (fun hn_ => (Kd.freshB (g := gb512) (o := .cells #[.int .i64 t506, .int .i64 t507, .slice Ao29 t508.length co29] 24 (0, 0)) (hp_ BK512.out) k_ hn_)), Or.elim hk_ (fun hs_ => ((Kd.R_types (Kd.R_types (Kd.R_types (Kd.R_types (Kd.R_apart' (HO_506002.out) (Kd.N_typed HO_12.out) (by decide)) BK505.out (by decide)) BK512.out (by decide)) BK518.out (by decide)) BK531.out (by decide)).1 k_ hs_.symm).1.2) (fun hn_ => (Kd.freshB (g := gb518) (o := .cells #[.int .i64 t513, .int .i64 t514, .slice Ao36 t515.length co36] 24 (0, 0)) (hp_ BK518.out) k_ hn_)), Or.elim hk_ (fun hs_ => ((Kd.R_types (Kd.R_types (Kd.R_types (Kd.R_types (Kd.R_apart' (HO_506002.out) (Kd.N_typed HO_12.out) (by decide)) BK505.out (by decide)) BK512.out (by decide)) BK518.out (by decide)) BK531.out (by decide)).1 k_ hs_.symm).2) (fun hn_ => (Kd.freshB (g := gb531) (o := .cells #[.int .i64 t525, .int .i64 t526, .slice Ao58 t527.length co58] 32 (0, 0)) (hp_ BK531.out) k_ hn_))⟩)) (below_size bp_))
            replace HO_12 := Aside0.mk (Kd.N_below (by (with_reducible repeat (first | apply Kd.N_alloc | apply Kd.N_drewN | apply Kd.N_drew)); exact HO_12.out) hb)
            replace HO_506002 := Aside0.mk (Kd.R_below (rp_ HO_506002.out) hb)
            replace HO_513002 := Aside0.mk (Kd.R_below (rp_ HO_513002.out) hb)
            replace HO_519002 := Aside0.mk (Kd.R_below (rp_ HO_519002.out) hb)
            replace HO529 := Aside0.mk (Kd.R_below (rp_ HO529.out) hb)
            replace BK505 := Aside0.mk (blk_below (hp_ BK505.out) hb)
            replace BK512 := Aside0.mk (blk_below (hp_ BK512.out) hb)
            replace BK518 := Aside0.mk (blk_below (hp_ BK518.out) hb)
            replace BK531 := Aside0.mk (blk_below (hp_ BK531.out) hb)
            replace HB := Aside0.mk (below_step bp_ hb)
            (try clear hb)
            (try clear hb2)
            (try clear hk)
            (try clear hi)
            (try clear ho0)
            obtain ⟨Ao82, co82, eo82⟩ := Kd.V_slice HO536.out
            (first | subst eo82 | (injection eo82 with f1_ f2_ f3_; have f4_ := f1_.symm; have f5_ := f3_.symm; clear f1_ f2_ f3_; subst f4_; subst f5_))
            refine hK.out _ _ ⟨(blk_cell BK505.out 0).trans rfl, (blk_cell BK505.out 1).trans rfl, (blk_cell BK505.out 2).trans rfl, (blk_cell BK512.out 0).trans rfl, (blk_cell BK512.out 1).trans rfl, (blk_cell BK512.out 2).trans rfl⟩ (fun hHeld => ?_)
            clear hK K
            refine norm_ (a' := ?_) ?_ ?_
            rotate_left
            · show Act.put _ (some 75) _ = _
              simp only [Act.put, List.setIfInBounds_toArray, List.set_cons_zero, List.set_cons_succ, i64_w, i32_w]
              rfl
            refine one_ (i := 7) (N := some 77) Fl185 rfl rfl (one_of HT_.out (by kernel_rfl)) (by decide) (fun K hK => ?_)
            refine goes_ Try.func26 (by kernel_rfl) rfl #[.agg #[.int .i64 t532, .int .i64 t533, .slice Ao82 t534.length co82], .agg #[.int .i64 t506, .int .i64 t507, .slice Ao29 t508.length co29]] (by rfl) rfl rfl (by (try simp only [List.map_toArray, List.map_cons, List.map_nil]); first | done | rfl | (simp only [List.length_drop, List.length_take]; rfl)) ?_
            with_reducible refine (chequerref03_Same.calls k2 t532 t533 _ _ t534 t506 t507 _ _ t508 false _ ?side1 ?side2 ?side3 ?side4 A61.out).mono ?_
            (case side1 => exact cp_ (Kd.V_reads' HO536.out).2.2)
            (case side2 => exact (Kd.V_reads' HO536.out).2.1)
            (case side3 => exact cp_ (Kd.R_reads' HO_513002.out).2.2)
            (case side4 => exact (Kd.R_reads' HO_513002.out).2.1)
            rintro e w83 ⟨rfl, hb⟩
            refine ⟨_, rfl, ?_⟩
            replace HO_12 := Aside0.mk (Kd.N_below (by (with_reducible repeat (first | apply Kd.N_alloc | apply Kd.N_drewN | apply Kd.N_drew)); exact HO_12.out) hb)
            replace HO_506002 := Aside0.mk (Kd.R_below (rp_ HO_506002.out) hb)
            replace HO_513002 := Aside0.mk (Kd.R_below (rp_ HO_513002.out) hb)
            replace HO_519002 := Aside0.mk (Kd.R_below (rp_ HO_519002.out) hb)
            replace HO529 := Aside0.mk (Kd.R_below (rp_ HO529.out) hb)
            replace HO536 := Aside0.mk (Kd.V_below (vp_ HO536.out) hb)
            replace BK505 := Aside0.mk (blk_below (hp_ BK505.out) hb)
            replace BK512 := Aside0.mk (blk_below (hp_ BK512.out) hb)
            replace BK518 := Aside0.mk (blk_below (hp_ BK518.out) hb)
            replace BK531 := Aside0.mk (blk_below (hp_ BK531.out) hb)
            replace HB := Aside0.mk (below_step bp_ hb)
            (try clear hb)
            (try clear hb2)
            (try clear hk)
            (try clear hi)
            refine hK.out _ _ ⟨(blk_cell BK505.out 0).trans rfl, (blk_cell BK505.out 1).trans rfl, (blk_cell BK505.out 2).trans rfl, (blk_cell BK512.out 0).trans rfl, (blk_cell BK512.out 1).trans rfl, (blk_cell BK512.out 2).trans rfl⟩ (fun hHeld => ?_)
            clear hK K
            refine norm_ (a' := ?_) ?_ ?_
            rotate_left
            · show Act.put _ (some 77) _ = _
              simp only [Act.put, List.setIfInBounds_toArray, List.set_cons_zero, List.set_cons_succ, i64_w, i32_w]
              rfl
            refine pur_ (i := 8) (N := some 78) Fl186 (any_of HT_.out (by kernel_rfl)) ?_
            refine pur_ (i := 9) (N := some 79) Fl187 (any_of HT_.out (by kernel_rfl)) ?_
            refine pur_ (i := 10) (N := some 80) Fl188 (any_of HT_.out (by kernel_rfl)) ?_
            refine pun_ (i := 11) (N := some 81) Fl189 (any_of HT_.out (by kernel_rfl)) ?_
            refine pun_ (i := 12) (N := some 82) Fl190 (any_of HT_.out (by kernel_rfl)) ?_
            refine pur_ (i := 13) (N := some 83) Fl191 (any_of HT_.out (by kernel_rfl)) ?_
            refine pur_ (i := 14) (N := some 84) Fl192 (any_of HT_.out (by kernel_rfl)) ?_
            refine pun_ (i := 15) (N := some 85) Fl193 (any_of HT_.out (by kernel_rfl)) ?_
            refine pun_ (i := 16) (N := some 86) Fl212 (any_of HT_.out (by kernel_rfl)) ?_
            refine pun_ (i := 17) (N := some 87) Fl194 (any_of HT_.out (by kernel_rfl)) ?_
            refine pun_ (i := 18) (N := some 88) Fl195 (any_of HT_.out (by kernel_rfl)) ?_
            refine pun_ (i := 19) (N := some 89) Fl196 (any_of HT_.out (by kernel_rfl)) ?_
            refine pur_ (i := 20) (N := some 90) Fl197 (any_of HT_.out (by kernel_rfl)) ?_
            refine done_ (done_of HT_.out (by kernel_rfl)) ?_
            try go_wp2
            go_meet
            case rel => exact ⟨_, (true), (by first | rfl | (simp; done) | (simp [*]; done)), H', ⟨by have := HJ2.out; have := HK2.out; first | omega | exact Nat.le_refl _⟩, ⟨rp_ HO_506002.out⟩, ⟨rp_ HO_513002.out⟩, ⟨rp_ HO_519002.out⟩, ⟨rp_ HO529.out⟩, ⟨hp_ BK505.out⟩, ⟨hp_ BK512.out⟩, ⟨hp_ BK518.out⟩, ⟨hp_ BK531.out⟩, ⟨bp_⟩⟩
        · rw [if_neg c59] at H
          have c59b0 : (t504 == t511) = false := beq_eq_false_iff_ne.mpr c59
          have c59b1 : (t504 != t511) = true := bne_iff_ne.mpr c59
          (first | rw [c59b0] | (simp only [i64_w, i32_w]; rw [c59b0]) | skip)
          have H' := Aside0.mk H
          clear H
          try go_wp2
          have n0_ : Aside0 (Kd.N (Kd.slice 46 (Kd.int .u64)) 22 (((w53.setCell ⟨gb531, 0, none⟩ (.int .i64 t525)).setCell ⟨gb531, 1, none⟩ (.int .i64 t526)).setCell ⟨gb531, 2, none⟩ (.slice Ao58 t527.length co58)) w.heap.size (fun k_ => (P0_ k_ ∨ w.heap.size ≤ k_) ∧ some k_ ≠ (.slice Ao23 t501.length co23 : Value).ownBlock ∧ some k_ ≠ (.slice Ao29 t508.length co29 : Value).ownBlock ∧ some k_ ≠ (.slice Ao36 t515.length co36 : Value).ownBlock ∧ some k_ ≠ (.slice Ao58 t527.length co58 : Value).ownBlock ∧ k_ ≠ gb505 ∧ k_ ≠ gb512 ∧ k_ ≠ gb518 ∧ k_ ≠ gb531) (.slice Ao51 x12_2.length co51) x12_2) := ⟨by (with_reducible repeat (first | apply Kd.N_alloc | apply Kd.N_drewN | apply Kd.N_drew)); exact Kd.N_mono (Kd.N_far (p := ⟨gb531, 2, none⟩) (Kd.N_far (p := ⟨gb531, 1, none⟩) (Kd.N_far (p := ⟨gb531, 0, none⟩) (Kd.N_mono HO_12.out (fun k_ hk => (⟨hk, hk.2⟩ : _ ∧ k_ ≠ gb531))) (fun _ hk => hk.2) (.int .i64 t525)) (fun _ hk => hk.2) (.int .i64 t526)) (fun _ hk => hk.2) (.slice Ao58 t527.length co58)) (fun _ hk => ⟨hk.1.1.1.1, ⟨hk.1.1.1.2.1, ⟨hk.1.1.1.2.2.1, ⟨hk.1.1.1.2.2.2.1, ⟨hk.1.1.2, ⟨hk.1.1.1.2.2.2.2.1, ⟨hk.1.1.1.2.2.2.2.2.1, ⟨hk.1.1.1.2.2.2.2.2.2, hk.1.2⟩⟩⟩⟩⟩⟩⟩⟩)⟩
          have n1_ : Aside0 (Kd.R (Kd.int .u64) 46 (((w53.setCell ⟨gb531, 0, none⟩ (.int .i64 t525)).setCell ⟨gb531, 1, none⟩ (.int .i64 t526)).setCell ⟨gb531, 2, none⟩ (.slice Ao58 t527.length co58)) w.heap.size (fun k_ => (w.heap.size ≤ k_) ∧ some k_ ≠ (.slice Ao29 t508.length co29 : Value).ownBlock ∧ some k_ ≠ (.slice Ao36 t515.length co36 : Value).ownBlock ∧ some k_ ≠ (.slice Ao58 t527.length co58 : Value).ownBlock) (.slice Ao23 t501.length co23) t501) := ⟨rf_ HO_506002.out BK531.out (by decide) (fun _ hk => ⟨hk.1.1.1, ⟨hk.1.1.2.1, ⟨hk.1.1.2.2, hk.1.2⟩⟩⟩)⟩
          have n2_ : Aside0 (Kd.R (Kd.int .u64) 46 (((w53.setCell ⟨gb531, 0, none⟩ (.int .i64 t525)).setCell ⟨gb531, 1, none⟩ (.int .i64 t526)).setCell ⟨gb531, 2, none⟩ (.slice Ao58 t527.length co58)) w.heap.size (fun k_ => (w.heap.size ≤ k_) ∧ some k_ ≠ (.slice Ao23 t501.length co23 : Value).ownBlock ∧ some k_ ≠ (.slice Ao36 t515.length co36 : Value).ownBlock ∧ some k_ ≠ (.slice Ao58 t527.length co58 : Value).ownBlock) (.slice Ao29 t508.length co29) t508) := ⟨rf_ HO_513002.out BK531.out (by decide) (fun _ hk => ⟨hk.1.1.1, ⟨hk.1.1.2.1, ⟨hk.1.1.2.2, hk.1.2⟩⟩⟩)⟩
          have n3_ : Aside0 (Kd.R (Kd.int .u64) 46 (((w53.setCell ⟨gb531, 0, none⟩ (.int .i64 t525)).setCell ⟨gb531, 1, none⟩ (.int .i64 t526)).setCell ⟨gb531, 2, none⟩ (.slice Ao58 t527.length co58)) w.heap.size (fun k_ => (w.heap.size ≤ k_) ∧ some k_ ≠ (.slice Ao23 t501.length co23 : Value).ownBlock ∧ some k_ ≠ (.slice Ao29 t508.length co29 : Value).ownBlock ∧ some k_ ≠ (.slice Ao58 t527.length co58 : Value).ownBlock) (.slice Ao36 t515.length co36) t515) := ⟨rf_ HO_519002.out BK531.out (by decide) (fun _ hk => ⟨hk.1.1.1, ⟨hk.1.1.2.1, ⟨hk.1.1.2.2, hk.1.2⟩⟩⟩)⟩
          have n4_ : Aside0 (Kd.R (Kd.int .u64) 46 (((w53.setCell ⟨gb531, 0, none⟩ (.int .i64 t525)).setCell ⟨gb531, 1, none⟩ (.int .i64 t526)).setCell ⟨gb531, 2, none⟩ (.slice Ao58 t527.length co58)) w.heap.size (fun k_ => (w.heap.size ≤ k_) ∧ some k_ ≠ (.slice Ao23 t501.length co23 : Value).ownBlock ∧ some k_ ≠ (.slice Ao29 t508.length co29 : Value).ownBlock ∧ some k_ ≠ (.slice Ao36 t515.length co36 : Value).ownBlock) (.slice Ao58 t527.length co58) t527) := ⟨rf_ HO529.out BK531.out (by decide) (fun _ hk => ⟨hk.1.1.1.1.1, ⟨hk.1.1.1.2, ⟨hk.1.1.2, hk.1.2⟩⟩⟩)⟩
          have n5_ : Aside0 ((((w53.setCell ⟨gb531, 0, none⟩ (.int .i64 t525)).setCell ⟨gb531, 1, none⟩ (.int .i64 t526)).setCell ⟨gb531, 2, none⟩ (.slice Ao58 t527.length co58)).heap[gb505]? = some (.cells #[.int .i64 t499, .int .i64 t500, .slice Ao23 t501.length co23] 32 (0, 0))) := ⟨hf_ BK505.out NB505_531.out⟩
          have n6_ : Aside0 ((((w53.setCell ⟨gb531, 0, none⟩ (.int .i64 t525)).setCell ⟨gb531, 1, none⟩ (.int .i64 t526)).setCell ⟨gb531, 2, none⟩ (.slice Ao58 t527.length co58)).heap[gb512]? = some (.cells #[.int .i64 t506, .int .i64 t507, .slice Ao29 t508.length co29] 24 (0, 0))) := ⟨hf_ BK512.out NB512_531.out⟩
          have n7_ : Aside0 ((((w53.setCell ⟨gb531, 0, none⟩ (.int .i64 t525)).setCell ⟨gb531, 1, none⟩ (.int .i64 t526)).setCell ⟨gb531, 2, none⟩ (.slice Ao58 t527.length co58)).heap[gb518]? = some (.cells #[.int .i64 t513, .int .i64 t514, .slice Ao36 t515.length co36] 24 (0, 0))) := ⟨hf_ BK518.out NB518_531.out⟩
          have n8_ : Aside0 ((((w53.setCell ⟨gb531, 0, none⟩ (.int .i64 t525)).setCell ⟨gb531, 1, none⟩ (.int .i64 t526)).setCell ⟨gb531, 2, none⟩ (.slice Ao58 t527.length co58)).heap[gb531]? = some (.cells #[.int .i64 t525, .int .i64 t526, .slice Ao58 t527.length co58] 32 (0, 0))) := ⟨by (with_reducible repeat (first | refine blk_drewN ?_ _ | refine blk_drew ?_ | refine blk_alloc ?_ _)); refine blk_put (cs := #[.int .i64 t525, .int .i64 t526, .slice none 0 0]) ?_ 2 _ rfl; (with_reducible repeat (first | refine blk_drewN ?_ _ | refine blk_drew ?_ | refine blk_alloc ?_ _)); refine blk_put (cs := #[.int .i64 t525, .int .i64 0, .slice none 0 0]) ?_ 1 _ rfl; (with_reducible repeat (first | refine blk_drewN ?_ _ | refine blk_drew ?_ | refine blk_alloc ?_ _)); refine blk_put (cs := #[.int .i64 0, .int .i64 0, .slice none 0 0]) ?_ 0 _ rfl; (with_reducible repeat (first | refine blk_drewN ?_ _ | refine blk_drew ?_ | refine blk_alloc ?_ _)); exact BK531.out⟩
          have n9_ : Aside0 (Below w.heap.size w (((w53.setCell ⟨gb531, 0, none⟩ (.int .i64 t525)).setCell ⟨gb531, 1, none⟩ (.int .i64 t526)).setCell ⟨gb531, 2, none⟩ (.slice Ao58 t527.length co58))) := ⟨bp_⟩
          (try clear HO_12)
          (try clear HO_506002)
          (try clear HO_513002)
          (try clear HO_519002)
          (try clear HO529)
          (try clear BK505)
          (try clear BK512)
          (try clear BK518)
          (try clear BK531)
          (try clear HB)
          generalize (((w53.setCell ⟨gb531, 0, none⟩ (.int .i64 t525)).setCell ⟨gb531, 1, none⟩ (.int .i64 t526)).setCell ⟨gb531, 2, none⟩ (.slice Ao58 t527.length co58)) = w84 at n0_ n1_ n2_ n3_ n4_ n5_ n6_ n7_ n8_ n9_ ⊢
          have HO_12 := n0_
          have HO_506002 := n1_
          have HO_513002 := n2_
          have HO_519002 := n3_
          have HO529 := n4_
          have BK505 := n5_
          have BK512 := n6_
          have BK518 := n7_
          have BK531 := n8_
          have HB := n9_
          clear n0_ n1_ n2_ n3_ n4_ n5_ n6_ n7_ n8_ n9_
          replace HO_12 := Aside0.mk (Kd.N_drew HO_12.out)
          replace HO_506002 := Aside0.mk (Kd.R_drew HO_506002.out)
          replace HO_513002 := Aside0.mk (Kd.R_drew HO_513002.out)
          replace HO_519002 := Aside0.mk (Kd.R_drew HO_519002.out)
          replace HO529 := Aside0.mk (Kd.R_drew HO529.out)
          replace BK505 := Aside0.mk (blk_drew BK505.out)
          replace BK512 := Aside0.mk (blk_drew BK512.out)
          replace BK518 := Aside0.mk (blk_drew BK518.out)
          replace BK531 := Aside0.mk (blk_drew BK531.out)
          replace HB := Aside0.mk (below_drew1 HB.out)
          refine start_ (n := 21) (S := fun w' => True) (ds := []) Fl178 (by kernel_rfl) rfl rfl trivial (fun hHeld => ?_); refine with_tabW chequerlaw03_RectOf.tab15 chequerlaw03_RectOf.bits15 (fun HT_ HW_ => ?_)
          generalize w84.drew = w85 at HO_12 HO_506002 HO_513002 HO_519002 HO529 BK505 BK512 BK518 BK531 HB hHeld ⊢
          refine pur_ (i := 0) (N := some 70) Fl179 (any_of HT_.out (by kernel_rfl)) ?_
          refine pur_ (i := 1) (N := some 71) Fl180 (any_of HT_.out (by kernel_rfl)) ?_
          refine pur_ (i := 2) (N := some 72) Fl181 (any_of HT_.out (by kernel_rfl)) ?_
          refine pur_ (i := 3) (N := some 73) Fl182 (any_of HT_.out (by kernel_rfl)) ?_
          refine pun_ (i := 4) (N := some 74) Fl183 (any_of HT_.out (by kernel_rfl)) ?_
          refine pun_ (i := 5) (N := some 75) #[true, true, true, true, true, true, false, false, false, false, false, false, false, false, false, false, false, false, false, false, false] (any_of HT_.out (by kernel_rfl)) ?_
          refine pun_ (i := 6) (N := some 76) Fl184 (any_of HT_.out (by kernel_rfl)) ?_
          refine pun_ (i := 7) (N := some 77) Fl185 (any_of HT_.out (by kernel_rfl)) ?_
          refine pun_ (i := 8) (N := some 78) Fl186 (any_of HT_.out (by kernel_rfl)) ?_
          refine pur_ (i := 9) (N := some 79) Fl187 (any_of HT_.out (by kernel_rfl)) ?_
          refine pur_ (i := 10) (N := some 80) Fl188 (any_of HT_.out (by kernel_rfl)) ?_
          refine pun_ (i := 11) (N := some 81) Fl189 (any_of HT_.out (by kernel_rfl)) ?_
          refine pun_ (i := 12) (N := some 82) Fl190 (any_of HT_.out (by kernel_rfl)) ?_
          refine pur_ (i := 13) (N := some 83) Fl191 (any_of HT_.out (by kernel_rfl)) ?_
          refine pur_ (i := 14) (N := some 84) Fl192 (any_of HT_.out (by kernel_rfl)) ?_
          refine pun_ (i := 15) (N := some 85) Fl193 (any_of HT_.out (by kernel_rfl)) ?_
          refine pun_ (i := 16) (N := some 86) Fl212 (any_of HT_.out (by kernel_rfl)) ?_
          refine pun_ (i := 17) (N := some 87) Fl194 (any_of HT_.out (by kernel_rfl)) ?_
          refine pun_ (i := 18) (N := some 88) Fl195 (any_of HT_.out (by kernel_rfl)) ?_
          refine pun_ (i := 19) (N := some 89) Fl196 (any_of HT_.out (by kernel_rfl)) ?_
          refine pur_ (i := 20) (N := some 90) Fl197 (any_of HT_.out (by kernel_rfl)) ?_
          refine done_ (done_of HT_.out (by kernel_rfl)) ?_
          try go_wp2
          go_meet
          case rel => exact ⟨_, (true), (by first | rfl | (simp; done) | (simp [*]; done)), H', ⟨by have := HJ2.out; have := HK2.out; first | omega | exact Nat.le_refl _⟩, ⟨rp_ HO_506002.out⟩, ⟨rp_ HO_513002.out⟩, ⟨rp_ HO_519002.out⟩, ⟨rp_ HO529.out⟩, ⟨hp_ BK505.out⟩, ⟨hp_ BK512.out⟩, ⟨hp_ BK518.out⟩, ⟨hp_ BK531.out⟩, ⟨bp_⟩⟩
       case rest =>
        clear HC47
        try clear c2
        try clear p2
        try clear c5
        try clear c6
        try clear c26
        try clear c27
        try clear c59
        try clear c59b0
        try clear c59b1
        try clear c62
        obtain ⟨kq, x90_46, rfl, HA, HJ46, HO_506002, HO_513002, HO_519002, HO_532002, BK505, BK512, BK518, BK531, HB⟩ := hcut
        cases kq with
        | zero => exact absurd HA.out (by simp [chequerlaw03_RectOf.j3])
        | succ kj46 =>
         have H := HA.out
         clear HA
         simp only [chequerlaw03_RectOf.j3] at H
         by_cases c86 : x90_46 = true
         · subst c86
           have H1 : (some false) = some r := by rw [if_pos rfl] at H; exact H
           clear H
           have H := H1
           clear H1
           obtain rfl := Option.some.inj H
           go_wp2
           go_ret
           exact ⟨by first | rfl | (simp [errW_none, errW_some] <;> rfl) | (simp [*, errW_none, errW_some] <;> rfl), bp_⟩
         · replace c86 := Bool.eq_false_iff.mpr c86
           subst c86
           have H1 : (chequerlaw03_RectOf.l2 kj46 (-1) t513 t514 t515 t525 t526 t527) = some r := by rw [if_neg (show ¬ (false = true) by decide)] at H; exact H
           clear H
           have H := H1
           clear H1
           have H' := Aside0.mk H
           clear H
           go_wp2
           go_loopg [16] kj46 (fun kq v16 w' => ∃ (x16_4 : Int), v16 = .int .i64 x16_4 ∧ Aside0 (chequerlaw03_RectOf.l2 kq x16_4 t513 t514 t515 t525 t526 t527 = some r) ∧ Aside0 (kq ≤ kj46) ∧ Aside0 (Kd.R (Kd.int .u64) 46 w' w.heap.size (fun k_ => (w.heap.size ≤ k_) ∧ some k_ ≠ ((.slice Ao29 t508.length co29) : Value).ownBlock ∧ some k_ ≠ ((.slice Ao36 t515.length co36) : Value).ownBlock ∧ some k_ ≠ ((.slice Ao58 t527.length co58) : Value).ownBlock) (.slice Ao23 t501.length co23) t501) ∧ Aside0 (Kd.R (Kd.int .u64) 46 w' w.heap.size (fun k_ => (w.heap.size ≤ k_) ∧ some k_ ≠ ((.slice Ao23 t501.length co23) : Value).ownBlock ∧ some k_ ≠ ((.slice Ao36 t515.length co36) : Value).ownBlock ∧ some k_ ≠ ((.slice Ao58 t527.length co58) : Value).ownBlock) (.slice Ao29 t508.length co29) t508) ∧ Aside0 (Kd.R (Kd.int .u64) 46 w' w.heap.size (fun k_ => (w.heap.size ≤ k_) ∧ some k_ ≠ ((.slice Ao23 t501.length co23) : Value).ownBlock ∧ some k_ ≠ ((.slice Ao29 t508.length co29) : Value).ownBlock ∧ some k_ ≠ ((.slice Ao58 t527.length co58) : Value).ownBlock) (.slice Ao36 t515.length co36) t515) ∧ Aside0 (Kd.R (Kd.int .u64) 46 w' w.heap.size (fun k_ => (w.heap.size ≤ k_) ∧ some k_ ≠ ((.slice Ao23 t501.length co23) : Value).ownBlock ∧ some k_ ≠ ((.slice Ao29 t508.length co29) : Value).ownBlock ∧ some k_ ≠ ((.slice Ao36 t515.length co36) : Value).ownBlock) (.slice Ao58 t527.length co58) t527) ∧ Aside0 (w'.heap[gb505]? = some (.cells #[.int .i64 t499, .int .i64 t500, (.slice Ao23 t501.length co23)] 32 (0, 0))) ∧ Aside0 (w'.heap[gb512]? = some (.cells #[.int .i64 t506, .int .i64 t507, (.slice Ao29 t508.length co29)] 24 (0, 0))) ∧ Aside0 (w'.heap[gb518]? = some (.cells #[.int .i64 t513, .int .i64 t514, (.slice Ao36 t515.length co36)] 24 (0, 0))) ∧ Aside0 (w'.heap[gb531]? = some (.cells #[.int .i64 t525, .int .i64 t526, (.slice Ao58 t527.length co58)] 32 (0, 0))) ∧ Aside0 (Below w.heap.size w w'))
           case atStart => exact ⟨((-1)), (by first | rfl | (simp; done) | (simp [*]; done)), H', ⟨Nat.le_refl _⟩, ⟨rp_ HO_506002.out⟩, ⟨rp_ HO_513002.out⟩, ⟨rp_ HO_519002.out⟩, ⟨rp_ HO_532002.out⟩, ⟨hp_ BK505.out⟩, ⟨hp_ BK512.out⟩, ⟨hp_ BK518.out⟩, ⟨hp_ BK531.out⟩, ⟨bp_⟩⟩
           case round =>
            clear H'
            try clear c2
            try clear p2
            try clear c5
            try clear c6
            try clear c8
            try clear c26
            try clear c27
            try clear c59
            try clear c59b0
            try clear c59b1
            try clear c62
            try clear c86
            try clear p2
            obtain ⟨x16_4, rfl, HA, HK4, HO_506002, HO_513002, HO_519002, HO_532002, BK505, BK512, BK518, BK531, HB⟩ := hrel
            cases gk with
            | zero => exact absurd HA.out (by simp [chequerlaw03_RectOf.l2])
            | succ k4 =>
             have H := HA.out
             clear HA
             simp only [chequerlaw03_RectOf.l2] at H
             by_cases c87 : x16_4 ≤ 5
             · rw [if_pos c87] at H
               have c87b0 : decide (x16_4 ≤ 5) = true := decide_eq_true c87
               clear c87
               replace H := Option.bind_eq_some_iff.mp H
               obtain ⟨t546, A880, H⟩ := H
               replace H : ((chequerref03_Row.f k4 t513 t514 t515 x16_4).bind fun t549 => ((chequerref03_SameRow.f k4 t546 t549).bind fun t552 => (if t552 = true then ((rect_Matrix_Col.f k4 t525 t526 t527 x16_4).bind fun t553 => ((chequerref03_Col.f k4 t513 t514 t515 x16_4).bind fun t556 => ((chequerref03_SameRow.f k4 t553 t556).bind fun t559 => (if t559 = true then (chequerlaw03_RectOf.l2 k4 (wrap64 (x16_4 + 1)) t513 t514 t515 t525 t526 t527) else (some false))))) else (some false)))) = some r := H
               have A88 := Aside0.mk A880
               clear A880
               replace H := Option.bind_eq_some_iff.mp H
               obtain ⟨t549, A890, H⟩ := H
               replace H : ((chequerref03_SameRow.f k4 t546 t549).bind fun t552 => (if t552 = true then ((rect_Matrix_Col.f k4 t525 t526 t527 x16_4).bind fun t553 => ((chequerref03_Col.f k4 t513 t514 t515 x16_4).bind fun t556 => ((chequerref03_SameRow.f k4 t553 t556).bind fun t559 => (if t559 = true then (chequerlaw03_RectOf.l2 k4 (wrap64 (x16_4 + 1)) t513 t514 t515 t525 t526 t527) else (some false))))) else (some false))) = some r := H
               have A89 := Aside0.mk A890
               clear A890
               replace H := Option.bind_eq_some_iff.mp H
               obtain ⟨t552, A900, H⟩ := H
               replace H : (if t552 = true then ((rect_Matrix_Col.f k4 t525 t526 t527 x16_4).bind fun t553 => ((chequerref03_Col.f k4 t513 t514 t515 x16_4).bind fun t556 => ((chequerref03_SameRow.f k4 t553 t556).bind fun t559 => (if t559 = true then (chequerlaw03_RectOf.l2 k4 (wrap64 (x16_4 + 1)) t513 t514 t515 t525 t526 t527) else (some false))))) else (some false)) = some r := H
               have A90 := Aside0.mk A900
               clear A900
               by_cases c91 : t552 = true
               · subst c91
                 have H1 : ((rect_Matrix_Col.f k4 t525 t526 t527 x16_4).bind fun t553 => ((chequerref03_Col.f k4 t513 t514 t515 x16_4).bind fun t556 => ((chequerref03_SameRow.f k4 t553 t556).bind fun t559 => (if t559 = true then (chequerlaw03_RectOf.l2 k4 (wrap64 (x16_4 + 1)) t513 t514 t515 t525 t526 t527) else (some false))))) = some r := by rw [if_pos rfl] at H; exact H
                 clear H
                 have H := H1
                 clear H1
                 replace H := Option.bind_eq_some_iff.mp H
                 obtain ⟨t553, A920, H⟩ := H
                 replace H : ((chequerref03_Col.f k4 t513 t514 t515 x16_4).bind fun t556 => ((chequerref03_SameRow.f k4 t553 t556).bind fun t559 => (if t559 = true then (chequerlaw03_RectOf.l2 k4 (wrap64 (x16_4 + 1)) t513 t514 t515 t525 t526 t527) else (some false)))) = some r := H
                 have A92 := Aside0.mk A920
                 clear A920
                 replace H := Option.bind_eq_some_iff.mp H
                 obtain ⟨t556, A930, H⟩ := H
                 replace H : ((chequerref03_SameRow.f k4 t553 t556).bind fun t559 => (if t559 = true then (chequerlaw03_RectOf.l2 k4 (wrap64 (x16_4 + 1)) t513 t514 t515 t525 t526 t527) else (some false))) = some r := H
                 have A93 := Aside0.mk A930
                 clear A930
                 replace H := Option.bind_eq_some_iff.mp H
                 obtain ⟨t559, A940, H⟩ := H
                 replace H : (if t559 = true then (chequerlaw03_RectOf.l2 k4 (wrap64 (x16_4 + 1)) t513 t514 t515 t525 t526 t527) else (some false)) = some r := H
                 have A94 := Aside0.mk A940
                 clear A940
                 by_cases c95 : t559 = true
                 · subst c95
                   have H1 : (chequerlaw03_RectOf.l2 k4 (wrap64 (x16_4 + 1)) t513 t514 t515 t525 t526 t527) = some r := by rw [if_pos rfl] at H; exact H
                   clear H
                   have H := H1
                   clear H1
                   have H' := Aside0.mk H
                   clear H
                   try go_wp2
                   (try (rw [drewN_self wr]; generalize hq_ : World.drewN wr _ = wr; have n0_ := Aside0.mk (qrp_ hq_ HO_506002.out); have n1_ := Aside0.mk (qrp_ hq_ HO_513002.out); have n2_ := Aside0.mk (qrp_ hq_ HO_519002.out); have n3_ := Aside0.mk (qrp_ hq_ HO_532002.out); have n4_ := Aside0.mk (qhp_ hq_ BK505.out); have n5_ := Aside0.mk (qhp_ hq_ BK512.out); have n6_ := Aside0.mk (qhp_ hq_ BK518.out); have n7_ := Aside0.mk (qhp_ hq_ BK531.out); have n8_ : Aside0 (Below w.heap.size w wr) := ⟨qbp_ hq_⟩; clear HO_506002 HO_513002 HO_519002 HO_532002 BK505 BK512 BK518 BK531 HB hq_; have HO_506002 := n0_; have HO_513002 := n1_; have HO_519002 := n2_; have HO_532002 := n3_; have BK505 := n4_; have BK512 := n5_; have BK518 := n6_; have BK531 := n7_; have HB := n8_; clear n0_ n1_ n2_ n3_ n4_ n5_ n6_ n7_ n8_))
                   replace HO_506002 := Aside0.mk (Kd.R_drew HO_506002.out)
                   replace HO_513002 := Aside0.mk (Kd.R_drew HO_513002.out)
                   replace HO_519002 := Aside0.mk (Kd.R_drew HO_519002.out)
                   replace HO_532002 := Aside0.mk (Kd.R_drew HO_532002.out)
                   replace BK505 := Aside0.mk (blk_drew BK505.out)
                   replace BK512 := Aside0.mk (blk_drew BK512.out)
                   replace BK518 := Aside0.mk (blk_drew BK518.out)
                   replace BK531 := Aside0.mk (blk_drew BK531.out)
                   replace HB := Aside0.mk (below_drew1 HB.out)
                   refine start_ (n := 18) (S := fun w' => w'.cell? ⟨gb531, 0, none⟩ = some (.int .i64 t525) ∧ w'.cell? ⟨gb531, 1, none⟩ = some (.int .i64 t526) ∧ w'.cell? ⟨gb531, 2, none⟩ = some (.slice Ao58 t527.length co58) ∧ w'.cell? ⟨gb518, 0, none⟩ = some (.int .i64 t513) ∧ w'.cell? ⟨gb518, 1, none⟩ = some (.int .i64 t514) ∧ w'.cell? ⟨gb518, 2, none⟩ = some (.slice Ao36 t515.length co36)) (ds := []) Fl198 (by kernel_rfl) rfl rfl ⟨(blk_cell BK531.out 0).trans rfl, (blk_cell BK531.out 1).trans rfl, (blk_cell BK531.out 2).trans rfl, (blk_cell BK518.out 0).trans rfl, (blk_cell BK518.out 1).trans rfl, (blk_cell BK518.out 2).trans rfl⟩ (fun hHeld => ?_); refine with_tabW chequerlaw03_RectOf.tab20 chequerlaw03_RectOf.bits20 (fun HT_ HW_ => ?_)
                   generalize wr.drew = w96 at HO_506002 HO_513002 HO_519002 HO_532002 BK505 BK512 BK518 BK531 HB hHeld ⊢
                   refine pur_ (i := 1) (N := some 96) Fl199 (any_of HT_.out (by kernel_rfl)) ?_
                   refine pur_ (i := 4) (N := some 99) Fl200 (any_of HT_.out (by kernel_rfl)) ?_
                   refine take_ (i := 0) (N := some 95) (v := ?_) (a' := ?_) Fl201 rfl rfl (take_ofW HT_.out HW_.out (by kernel_rfl)) (fun _ _ _ h => h) (Or.inl ⟨by rfl, ?_⟩) hHeld ?_ ?_
                   rotate_left
                   · rintro w' ⟨s0, s1, s2, s3, s4, s5⟩
                     go_simp
                     with_reducible rfl
                   rotate_left
                   · simp only [Act.put, List.setIfInBounds_toArray, List.set_cons_zero, List.set_cons_succ, i64_w, i32_w]
                     rfl
                   refine take_ (i := 3) (N := some 98) (v := ?_) (a' := ?_) Fl202 rfl rfl (take_ofW HT_.out HW_.out (by kernel_rfl)) (fun _ _ _ h => h) (Or.inl ⟨by rfl, ?_⟩) hHeld ?_ ?_
                   rotate_left
                   · rintro w' ⟨s0, s1, s2, s3, s4, s5⟩
                     go_simp
                     with_reducible rfl
                   rotate_left
                   · simp only [Act.put, List.setIfInBounds_toArray, List.set_cons_zero, List.set_cons_succ, i64_w, i32_w]
                     rfl
                   refine one_ (i := 2) (N := some 97) Fl203 rfl rfl (one_of HT_.out (by kernel_rfl)) (by decide) (fun K hK => ?_)
                   refine goes_ Try.func33 (by kernel_rfl) rfl #[.agg #[.int .i64 t525, .int .i64 t526, .slice Ao58 t527.length co58], .int .i64 x16_4] (by rfl) rfl rfl (by (try simp only [List.map_toArray, List.map_cons, List.map_nil]); first | done | rfl | (simp only [List.length_drop, List.length_take]; rfl)) ?_
                   with_reducible refine (rect_Matrix_Row.calls t525 t526 _ _ t527 x16_4 t546 _ ?side1 ?side2 A88.out).mono ?_
                   (case side1 => exact cp_ (Kd.R_reads' HO_532002.out).2.2)
                   (case side2 => exact (Kd.R_reads' HO_532002.out).2.1)
                   rintro e w97 ⟨v547, rfl, ho0, hb⟩
                   refine ⟨_, rfl, ?_⟩
                   have HO548 := Aside0.mk (Kd.R_lower (Kd.R_new' (Kd.R_new' (Kd.R_new' (Kd.R_new' (Kd.R_newM (M := fun k_ => (w.heap.size ≤ k_)) ho0 (below_size bp_) (fun k_ h_ => h_)) (Kd.R_lt (rp_ HO_506002.out))) (Kd.R_lt (rp_ HO_513002.out))) (Kd.R_lt (rp_ HO_519002.out))) (Kd.R_lt (rp_ HO_532002.out))) (below_size bp_))
                   replace HO_506002 := Aside0.mk (Kd.R_elder' (rp_ HO_506002.out) (Kd.R_base ho0) hb)
                   replace HO_513002 := Aside0.mk (Kd.R_elder' (rp_ HO_513002.out) (Kd.R_base ho0) hb)
                   replace HO_519002 := Aside0.mk (Kd.R_elder' (rp_ HO_519002.out) (Kd.R_base ho0) hb)
                   replace HO_532002 := Aside0.mk (Kd.R_elder' (rp_ HO_532002.out) (Kd.R_base ho0) hb)
                   replace BK505 := Aside0.mk (blk_below (hp_ BK505.out) hb)
                   replace BK512 := Aside0.mk (blk_below (hp_ BK512.out) hb)
                   replace BK518 := Aside0.mk (blk_below (hp_ BK518.out) hb)
                   replace BK531 := Aside0.mk (blk_below (hp_ BK531.out) hb)
                   replace HB := Aside0.mk (below_step bp_ hb)
                   (try clear hb)
                   (try clear hb2)
                   (try clear hk)
                   (try clear hi)
                   (try clear ho0)
                   refine hK.out _ _ ⟨(blk_cell BK531.out 0).trans rfl, (blk_cell BK531.out 1).trans rfl, (blk_cell BK531.out 2).trans rfl, (blk_cell BK518.out 0).trans rfl, (blk_cell BK518.out 1).trans rfl, (blk_cell BK518.out 2).trans rfl⟩ (fun hHeld => ?_)
                   clear hK K
                   refine norm_ (a' := ?_) ?_ ?_
                   rotate_left
                   · show Act.put _ (some 97) _ = _
                     simp only [Act.put, List.setIfInBounds_toArray, List.set_cons_zero, List.set_cons_succ, i64_w, i32_w]
                     rfl
                   refine one_ (i := 5) (N := some 100) Fl205 rfl rfl (one_of HT_.out (by kernel_rfl)) (by decide) (fun K hK => ?_)
                   refine goes_ Try.func31 (by kernel_rfl) rfl #[.agg #[.int .i64 t513, .int .i64 t514, .slice Ao36 t515.length co36], .int .i64 x16_4] (by rfl) rfl rfl (by (try simp only [List.map_toArray, List.map_cons, List.map_nil]); first | done | rfl | (simp only [List.length_drop, List.length_take]; rfl)) ?_
                   with_reducible refine (chequerref03_Row.calls k4 t513 t514 _ _ t515 x16_4 t549 _ ?side1 ?side2 A89.out).mono ?_
                   (case side1 => exact cp_ (Kd.R_reads' HO_519002.out).2.2)
                   (case side2 => exact (Kd.R_reads' HO_519002.out).2.1)
                   rintro e w98 ⟨v550, rfl, ho0, hb⟩
                   refine ⟨_, rfl, ?_⟩
                   have HO551 := Aside0.mk (Kd.R_lower (Kd.R_new' (Kd.R_new' (Kd.R_new' (Kd.R_new' (Kd.R_new' (Kd.R_newM (M := fun k_ => (w.heap.size ≤ k_)) ho0 (below_size bp_) (fun k_ h_ => h_)) (Kd.R_lt (rp_ HO_506002.out))) (Kd.R_lt (rp_ HO_513002.out))) (Kd.R_lt (rp_ HO_519002.out))) (Kd.R_lt (rp_ HO_532002.out))) (Kd.R_lt (rp_ HO548.out))) (below_size bp_))
                   replace HO_506002 := Aside0.mk (Kd.R_elder' (rp_ HO_506002.out) (Kd.R_base ho0) hb)
                   replace HO_513002 := Aside0.mk (Kd.R_elder' (rp_ HO_513002.out) (Kd.R_base ho0) hb)
                   replace HO_519002 := Aside0.mk (Kd.R_elder' (rp_ HO_519002.out) (Kd.R_base ho0) hb)
                   replace HO_532002 := Aside0.mk (Kd.R_elder' (rp_ HO_532002.out) (Kd.R_base ho0) hb)
                   replace HO548 := Aside0.mk (Kd.R_elder' (rp_ HO548.out) (Kd.R_base ho0) hb)
                   replace BK505 := Aside0.mk (blk_below (hp_ BK505.out) hb)
                   replace BK512 := Aside0.mk (blk_below (hp_ BK512.out) hb)
                   replace BK518 := Aside0.mk (blk_below (hp_ BK518.out) hb)
                   replace BK531 := Aside0.mk (blk_below (hp_ BK531.out) hb)
                   replace HB := Aside0.mk (below_step bp_ hb)
                   (try clear hb)
                   (try clear hb2)
                   (try clear hk)
                   (try clear hi)
                   (try clear ho0)
                   obtain ⟨Ao99, co99, eo99⟩ := Kd.R_slice HO548.out
                   (first | subst eo99 | (injection eo99 with f1_ f2_ f3_; have f4_ := f1_.symm; have f5_ := f3_.symm; clear f1_ f2_ f3_; subst f4_; subst f5_))
                   obtain ⟨Ao100, co100, eo100⟩ := Kd.R_slice HO551.out
                   (first | subst eo100 | (injection eo100 with f1_ f2_ f3_; have f4_ := f1_.symm; have f5_ := f3_.symm; clear f1_ f2_ f3_; subst f4_; subst f5_))
                   refine hK.out _ _ ⟨(blk_cell BK531.out 0).trans rfl, (blk_cell BK531.out 1).trans rfl, (blk_cell BK531.out 2).trans rfl, (blk_cell BK518.out 0).trans rfl, (blk_cell BK518.out 1).trans rfl, (blk_cell BK518.out 2).trans rfl⟩ (fun hHeld => ?_)
                   clear hK K
                   refine norm_ (a' := ?_) ?_ ?_
                   rotate_left
                   · show Act.put _ (some 100) _ = _
                     simp only [Act.put, List.setIfInBounds_toArray, List.set_cons_zero, List.set_cons_succ, i64_w, i32_w]
                     rfl
                   refine one_ (i := 6) (N := some 101) Fl206 rfl rfl (one_of HT_.out (by kernel_rfl)) (by decide) (fun K hK => ?_)
                   refine goes_ Try.func32 (by kernel_rfl) rfl #[.slice Ao99 t546.length co99, .slice Ao100 t549.length co100] (by rfl) rfl rfl (by (try simp only [List.map_toArray, List.map_cons, List.map_nil]); first | done | rfl | (simp only [List.length_drop, List.length_take]; rfl)) ?_
                   with_reducible refine (chequerref03_SameRow.calls k4 _ _ t546 _ _ t549 true _ ?side1 ?side2 ?side3 ?side4 A90.out).mono ?_
                   (case side1 => exact cp_ (Kd.R_reads' HO548.out).2.2)
                   (case side2 => exact (Kd.R_reads' HO548.out).2.1)
                   (case side3 => exact cp_ (Kd.R_reads' HO551.out).2.2)
                   (case side4 => exact (Kd.R_reads' HO551.out).2.1)
                   rintro e w' ⟨rfl, ⟨nd, rfl⟩⟩
                   refine ⟨_, rfl, ?_⟩
                   refine hK.out _ _ ⟨(blk_cell BK531.out 0).trans rfl, (blk_cell BK531.out 1).trans rfl, (blk_cell BK531.out 2).trans rfl, (blk_cell BK518.out 0).trans rfl, (blk_cell BK518.out 1).trans rfl, (blk_cell BK518.out 2).trans rfl⟩ (fun hHeld => ?_)
                   clear hK K
                   refine norm_ (a' := ?_) ?_ ?_
                   rotate_left
                   · show Act.put _ (some 101) _ = _
                     simp only [Act.put, List.setIfInBounds_toArray, List.set_cons_zero, List.set_cons_succ, i64_w, i32_w]
                     rfl
                   refine pur_ (i := 7) (N := some 102) Fl207 (any_of HT_.out (by kernel_rfl)) ?_
                   refine pur_ (i := 8) (N := some 103) Fl208 (any_of HT_.out (by kernel_rfl)) ?_
                   refine pur_ (i := 10) (N := some 105) Fl215 (any_of HT_.out (by kernel_rfl)) ?_
                   refine pur_ (i := 13) (N := some 108) Fl216 (any_of HT_.out (by kernel_rfl)) ?_
                   refine take_ (i := 9) (N := some 104) (v := ?_) (a' := ?_) Fl217 rfl rfl (take_ofW HT_.out HW_.out (by kernel_rfl)) (fun _ _ _ h => h) (Or.inl ⟨by rfl, ?_⟩) hHeld ?_ ?_
                   rotate_left
                   · rintro w' ⟨s0, s1, s2, s3, s4, s5⟩
                     go_simp
                     with_reducible rfl
                   rotate_left
                   · simp only [Act.put, List.setIfInBounds_toArray, List.set_cons_zero, List.set_cons_succ, i64_w, i32_w]
                     rfl
                   refine take_ (i := 12) (N := some 107) (v := ?_) (a' := ?_) Fl218 rfl rfl (take_ofW HT_.out HW_.out (by kernel_rfl)) (fun _ _ _ h => h) (Or.inl ⟨by rfl, ?_⟩) hHeld ?_ ?_
                   rotate_left
                   · rintro w' ⟨s0, s1, s2, s3, s4, s5⟩
                     go_simp
                     with_reducible rfl
                   rotate_left
                   · simp only [Act.put, List.setIfInBounds_toArray, List.set_cons_zero, List.set_cons_succ, i64_w, i32_w]
                     rfl
                   refine one_ (i := 11) (N := some 106) Fl209 rfl rfl (one_of HT_.out (by kernel_rfl)) (by decide) (fun K hK => ?_)
                   refine goes_ Try.func34 (by kernel_rfl) rfl #[.agg #[.int .i64 t525, .int .i64 t526, .slice Ao58 t527.length co58], .int .i64 x16_4] (by rfl) rfl rfl (by (try simp only [List.map_toArray, List.map_cons, List.map_nil]); first | done | rfl | (simp only [List.length_drop, List.length_take]; rfl)) ?_
                   with_reducible refine (rect_Matrix_Col.calls k4 t525 t526 _ _ t527 x16_4 t553 _ ?side1 ?side2 A92.out).mono ?_
                   (case side1 => exact cp_ (Kd.R_reads' HO_532002.out).2.2)
                   (case side2 => exact (Kd.R_reads' HO_532002.out).2.1)
                   rintro e w101 ⟨v554, rfl, ho0, hb⟩
                   refine ⟨_, rfl, ?_⟩
                   have HO555 := Aside0.mk (Kd.R_lower (Kd.R_new' (Kd.R_new' (Kd.R_new' (Kd.R_new' (Kd.R_new' (Kd.R_new' (Kd.R_newM (M := fun k_ => (w.heap.size ≤ k_)) ho0 (below_size bp_) (fun k_ h_ => h_)) (Kd.R_lt (rp_ HO_506002.out))) (Kd.R_lt (rp_ HO_513002.out))) (Kd.R_lt (rp_ HO_519002.out))) (Kd.R_lt (rp_ HO_532002.out))) (Kd.R_lt (rp_ HO548.out))) (Kd.R_lt (rp_ HO551.out))) (below_size bp_))
                   replace HO_506002 := Aside0.mk (Kd.R_elder' (rp_ HO_506002.out) (Kd.R_base ho0) hb)
                   replace HO_513002 := Aside0.mk (Kd.R_elder' (rp_ HO_513002.out) (Kd.R_base ho0) hb)
                   replace HO_519002 := Aside0.mk (Kd.R_elder' (rp_ HO_519002.out) (Kd.R_base ho0) hb)
                   replace HO_532002 := Aside0.mk (Kd.R_elder' (rp_ HO_532002.out) (Kd.R_base ho0) hb)
                   replace HO548 := Aside0.mk (Kd.R_elder' (rp_ HO548.out) (Kd.R_base ho0) hb)
                   replace HO551 := Aside0.mk (Kd.R_elder' (rp_ HO551.out) (Kd.R_base ho0) hb)
                   replace BK505 := Aside0.mk (blk_below (hp_ BK505.out) hb)
                   replace BK512 := Aside0.mk (blk_below (hp_ BK512.out) hb)
                   replace BK518 := Aside0.mk (blk_below (hp_ BK518.out) hb)
                   replace BK531 := Aside0.mk (blk_below (hp_ BK531.out) hb)
                   replace HB := Aside0.mk (below_step bp_ hb)
                   (try clear hb)
                   (try clear hb2)
                   (try clear hk)
                   (try clear hi)
                   (try clear ho0)
                   refine hK.out _ _ ⟨(blk_cell BK531.out 0).trans rfl, (blk_cell BK531.out 1).trans rfl, (blk_cell BK531.out 2).trans rfl, (blk_cell BK518.out 0).trans rfl, (blk_cell BK518.out 1).trans rfl, (blk_cell BK518.out 2).trans rfl⟩ (fun hHeld => ?_)
                   clear hK K
                   refine norm_ (a' := ?_) ?_ ?_
                   rotate_left
                   · show Act.put _ (some 106) _ = _
                     simp only [Act.put, List.setIfInBounds_toArray, List.set_cons_zero, List.set_cons_succ, i64_w, i32_w]
                     rfl
                   refine one_ (i := 14) (N := some 109) Fl210 rfl rfl (one_of HT_.out (by kernel_rfl)) (by decide) (fun K hK => ?_)
                   refine goes_ Try.func35 (by kernel_rfl) rfl #[.agg #[.int .i64 t513, .int .i64 t514, .slice Ao36 t515.length co36], .int .i64 x16_4] (by rfl) rfl rfl (by (try simp only [List.map_toArray, List.map_cons, List.map_nil]); first | done | rfl | (simp only [List.length_drop, List.length_take]; rfl)) ?_
                   with_reducible refine (chequerref03_Col.calls k4 t513 t514 _ _ t515 x16_4 t556 _ ?side1 ?side2 A93.out).mono ?_
                   (case side1 => exact cp_ (Kd.R_reads' HO_519002.out).2.2)
                   (case side2 => exact (Kd.R_reads' HO_519002.out).2.1)
                   rintro e w102 ⟨v557, rfl, ho0, hb⟩
                   refine ⟨_, rfl, ?_⟩
                   have HO558 := Aside0.mk (Kd.R_lower (Kd.R_new' (Kd.R_new' (Kd.R_new' (Kd.R_new' (Kd.R_new' (Kd.R_new' (Kd.R_new' (Kd.R_newM (M := fun k_ => (w.heap.size ≤ k_)) ho0 (below_size bp_) (fun k_ h_ => h_)) (Kd.R_lt (rp_ HO_506002.out))) (Kd.R_lt (rp_ HO_513002.out))) (Kd.R_lt (rp_ HO_519002.out))) (Kd.R_lt (rp_ HO_532002.out))) (Kd.R_lt (rp_ HO548.out))) (Kd.R_lt (rp_ HO551.out))) (Kd.R_lt (rp_ HO555.out))) (below_size bp_))
                   replace HO_506002 := Aside0.mk (Kd.R_elder' (rp_ HO_506002.out) (Kd.R_base ho0) hb)
                   replace HO_513002 := Aside0.mk (Kd.R_elder' (rp_ HO_513002.out) (Kd.R_base ho0) hb)
                   replace HO_519002 := Aside0.mk (Kd.R_elder' (rp_ HO_519002.out) (Kd.R_base ho0) hb)
                   replace HO_532002 := Aside0.mk (Kd.R_elder' (rp_ HO_532002.out) (Kd.R_base ho0) hb)
                   replace HO548 := Aside0.mk (Kd.R_elder' (rp_ HO548.out) (Kd.R_base ho0) hb)
                   replace HO551 := Aside0.mk (Kd.R_elder' (rp_ HO551.out) (Kd.R_base ho0) hb)
                   replace HO555 := Aside0.mk (Kd.R_elder' (rp_ HO555.out) (Kd.R_base ho0) hb)
                   replace BK505 := Aside0.mk (blk_below (hp_ BK505.out) hb)
                   replace BK512 := Aside0.mk (blk_below (hp_ BK512.out) hb)
                   replace BK518 := Aside0.mk (blk_below (hp_ BK518.out) hb)
                   replace BK531 := Aside0.mk (blk_below (hp_ BK531.out) hb)
                   replace HB := Aside0.mk (below_step bp_ hb)
                   (try clear hb)
                   (try clear hb2)
                   (try clear hk)
                   (try clear hi)
                   (try clear ho0)
                   obtain ⟨Ao103, co103, eo103⟩ := Kd.R_slice HO555.out
                   (first | subst eo103 | (injection eo103 with f1_ f2_ f3_; have f4_ := f1_.symm; have f5_ := f3_.symm; clear f1_ f2_ f3_; subst f4_; subst f5_))
                   obtain ⟨Ao104, co104, eo104⟩ := Kd.R_slice HO558.out
                   (first | subst eo104 | (injection eo104 with f1_ f2_ f3_; have f4_ := f1_.symm; have f5_ := f3_.symm; clear f1_ f2_ f3_; subst f4_; subst f5_))
                   refine hK.out _ _ ⟨(blk_cell BK531.out 0).trans rfl, (blk_cell BK531.out 1).trans rfl, (blk_cell BK531.out 2).trans rfl, (blk_cell BK518.out 0).trans rfl, (blk_cell BK518.out 1).trans rfl, (blk_cell BK518.out 2).trans rfl⟩ (fun hHeld => ?_)
                   clear hK K
                   refine norm_ (a' := ?_) ?_ ?_
                   rotate_left
                   · show Act.put _ (some 109) _ = _
                     simp only [Act.put, List.setIfInBounds_toArray, List.set_cons_zero, List.set_cons_succ, i64_w, i32_w]
                     rfl
                   refine one_ (i := 15) (N := some 110) Fl211 rfl rfl (one_of HT_.out (by kernel_rfl)) (by decide) (fun K hK => ?_)
                   refine goes_ Try.func32 (by kernel_rfl) rfl #[.slice Ao103 t553.length co103, .slice Ao104 t556.length co104] (by rfl) rfl rfl (by (try simp only [List.map_toArray, List.map_cons, List.map_nil]); first | done | rfl | (simp only [List.length_drop, List.length_take]; rfl)) ?_
                   with_reducible refine (chequerref03_SameRow.calls k4 _ _ t553 _ _ t556 true _ ?side1 ?side2 ?side3 ?side4 A94.out).mono ?_
                   (case side1 => exact cp_ (Kd.R_reads' HO555.out).2.2)
                   (case side2 => exact (Kd.R_reads' HO555.out).2.1)
                   (case side3 => exact cp_ (Kd.R_reads' HO558.out).2.2)
                   (case side4 => exact (Kd.R_reads' HO558.out).2.1)
                   rintro e w' ⟨rfl, ⟨nd, rfl⟩⟩
                   refine ⟨_, rfl, ?_⟩
                   refine hK.out _ _ ⟨(blk_cell BK531.out 0).trans rfl, (blk_cell BK531.out 1).trans rfl, (blk_cell BK531.out 2).trans rfl, (blk_cell BK518.out 0).trans rfl, (blk_cell BK518.out 1).trans rfl, (blk_cell BK518.out 2).trans rfl⟩ (fun hHeld => ?_)
                   clear hK K
                   refine norm_ (a' := ?_) ?_ ?_
                   rotate_left
                   · show Act.put _ (some 110) _ = _
                     simp only [Act.put, List.setIfInBounds_toArray, List.set_cons_zero, List.set_cons_succ, i64_w, i32_w]
                     rfl
                   refine pur_ (i := 16) (N := some 111) Fl213 (any_of HT_.out (by kernel_rfl)) ?_
                   refine pur_ (i := 17) (N := some 112) Fl214 (any_of HT_.out (by kernel_rfl)) ?_
                   refine done_ (done_of HT_.out (by kernel_rfl)) ?_
                   try go_wp2
                   go_roundg k4
                   case measure => have := HJ2.out; have := HK2.out; have := HJ46.out; have := HK4.out; omega
                   case rel => exact ⟨(wrap64 (x16_4 + 1)), (by first | rfl | (simp; done) | (simp [*]; done)), H', ⟨by have := HJ2.out; have := HK2.out; have := HJ46.out; have := HK4.out; omega⟩, ⟨by (with_reducible repeat (first | apply Kd.R_alloc | apply Kd.R_drewN | apply Kd.R_drew)); exact Kd.R_mono HO_506002.out (fun _ hk => ⟨hk.1.1.1.1.1, ⟨hk.1.1.1.1.2.1, ⟨hk.1.1.1.1.2.2.1, hk.1.1.1.1.2.2.2⟩⟩⟩)⟩, ⟨by (with_reducible repeat (first | apply Kd.R_alloc | apply Kd.R_drewN | apply Kd.R_drew)); exact Kd.R_mono HO_513002.out (fun _ hk => ⟨hk.1.1.1.1.1, ⟨hk.1.1.1.1.2.1, ⟨hk.1.1.1.1.2.2.1, hk.1.1.1.1.2.2.2⟩⟩⟩)⟩, ⟨by (with_reducible repeat (first | apply Kd.R_alloc | apply Kd.R_drewN | apply Kd.R_drew)); exact Kd.R_mono HO_519002.out (fun _ hk => ⟨hk.1.1.1.1.1, ⟨hk.1.1.1.1.2.1, ⟨hk.1.1.1.1.2.2.1, hk.1.1.1.1.2.2.2⟩⟩⟩)⟩, ⟨by (with_reducible repeat (first | apply Kd.R_alloc | apply Kd.R_drewN | apply Kd.R_drew)); exact Kd.R_mono HO_532002.out (fun _ hk => ⟨hk.1.1.1.1.1, ⟨hk.1.1.1.1.2.1, ⟨hk.1.1.1.1.2.2.1, hk.1.1.1.1.2.2.2⟩⟩⟩)⟩, ⟨hp_ BK505.out⟩, ⟨hp_ BK512.out⟩, ⟨hp_ BK518.out⟩, ⟨hp_ BK531.out⟩, ⟨bp_⟩⟩
                 · replace c95 := Bool.eq_false_iff.mpr c95
                   subst c95
                   have H1 : (some false) = some r := by rw [if_neg (show ¬ (false = true) by decide)] at H; exact H
                   clear H
                   have H := H1
                   clear H1
                   obtain rfl := Option.some.inj H
                   try go_wp2
                   (try (rw [drewN_self wr]; generalize hq_ : World.drewN wr _ = wr; have n0_ := Aside0.mk (qrp_ hq_ HO_506002.out); have n1_ := Aside0.mk (qrp_ hq_ HO_513002.out); have n2_ := Aside0.mk (qrp_ hq_ HO_519002.out); have n3_ := Aside0.mk (qrp_ hq_ HO_532002.out); have n4_ := Aside0.mk (qhp_ hq_ BK518.out); have n5_ := Aside0.mk (qhp_ hq_ BK531.out); have n6_ : Aside0 (Below w.heap.size w wr) := ⟨qbp_ hq_⟩; clear HO_506002 HO_513002 HO_519002 HO_532002 BK518 BK531 HB hq_; have HO_506002 := n0_; have HO_513002 := n1_; have HO_519002 := n2_; have HO_532002 := n3_; have BK518 := n4_; have BK531 := n5_; have HB := n6_; clear n0_ n1_ n2_ n3_ n4_ n5_ n6_))
                   replace HO_506002 := Aside0.mk (Kd.R_drew HO_506002.out)
                   replace HO_513002 := Aside0.mk (Kd.R_drew HO_513002.out)
                   replace HO_519002 := Aside0.mk (Kd.R_drew HO_519002.out)
                   replace HO_532002 := Aside0.mk (Kd.R_drew HO_532002.out)
                   replace BK518 := Aside0.mk (blk_drew BK518.out)
                   replace BK531 := Aside0.mk (blk_drew BK531.out)
                   replace HB := Aside0.mk (below_drew1 HB.out)
                   refine start_ (n := 18) (S := fun w' => w'.cell? ⟨gb531, 0, none⟩ = some (.int .i64 t525) ∧ w'.cell? ⟨gb531, 1, none⟩ = some (.int .i64 t526) ∧ w'.cell? ⟨gb531, 2, none⟩ = some (.slice Ao58 t527.length co58) ∧ w'.cell? ⟨gb518, 0, none⟩ = some (.int .i64 t513) ∧ w'.cell? ⟨gb518, 1, none⟩ = some (.int .i64 t514) ∧ w'.cell? ⟨gb518, 2, none⟩ = some (.slice Ao36 t515.length co36)) (ds := []) Fl198 (by kernel_rfl) rfl rfl ⟨(blk_cell BK531.out 0).trans rfl, (blk_cell BK531.out 1).trans rfl, (blk_cell BK531.out 2).trans rfl, (blk_cell BK518.out 0).trans rfl, (blk_cell BK518.out 1).trans rfl, (blk_cell BK518.out 2).trans rfl⟩ (fun hHeld => ?_); refine with_tabW chequerlaw03_RectOf.tab20 chequerlaw03_RectOf.bits20 (fun HT_ HW_ => ?_)
                   generalize wr.drew = w105 at HO_506002 HO_513002 HO_519002 HO_532002 BK518 BK531 HB hHeld ⊢
                   refine pur_ (i := 1) (N := some 96) Fl199 (any_of HT_.out (by kernel_rfl)) ?_
                   refine pur_ (i := 4) (N := some 99) Fl200 (any_of HT_.out (by kernel_rfl)) ?_
                   refine take_ (i := 0) (N := some 95) (v := ?_) (a' := ?_) Fl201 rfl rfl (take_ofW HT_.out HW_.out (by kernel_rfl)) (fun _ _ _ h => h) (Or.inl ⟨by rfl, ?_⟩) hHeld ?_ ?_
                   rotate_left
                   · rintro w' ⟨s0, s1, s2, s3, s4, s5⟩
                     go_simp
                     with_reducible rfl
                   rotate_left
                   · simp only [Act.put, List.setIfInBounds_toArray, List.set_cons_zero, List.set_cons_succ, i64_w, i32_w]
                     rfl
                   refine take_ (i := 3) (N := some 98) (v := ?_) (a' := ?_) Fl202 rfl rfl (take_ofW HT_.out HW_.out (by kernel_rfl)) (fun _ _ _ h => h) (Or.inl ⟨by rfl, ?_⟩) hHeld ?_ ?_
                   rotate_left
                   · rintro w' ⟨s0, s1, s2, s3, s4, s5⟩
                     go_simp
                     with_reducible rfl
                   rotate_left
                   · simp only [Act.put, List.setIfInBounds_toArray, List.set_cons_zero, List.set_cons_succ, i64_w, i32_w]
                     rfl
                   refine one_ (i := 2) (N := some 97) Fl203 rfl rfl (one_of HT_.out (by kernel_rfl)) (by decide) (fun K hK => ?_)
                   refine goes_ Try.func33 (by kernel_rfl) rfl #[.agg #[.int .i64 t525, .int .i64 t526, .slice Ao58 t527.length co58], .int .i64 x16_4] (by rfl) rfl rfl (by (try simp only [List.map_toArray, List.map_cons, List.map_nil]); first | done | rfl | (simp only [List.length_drop, List.length_take]; rfl)) ?_
                   with_reducible refine (rect_Matrix_Row.calls t525 t526 _ _ t527 x16_4 t546 _ ?side1 ?side2 A88.out).mono ?_
                   (case side1 => exact cp_ (Kd.R_reads' HO_532002.out).2.2)
                   (case side2 => exact (Kd.R_reads' HO_532002.out).2.1)
                   rintro e w106 ⟨v547, rfl, ho0, hb⟩
                   refine ⟨_, rfl, ?_⟩
                   have HO548 := Aside0.mk (Kd.R_lower (Kd.R_new' (Kd.R_new' (Kd.R_new' (Kd.R_new' (Kd.R_newM (M := fun k_ => (w.heap.size ≤ k_)) ho0 (below_size bp_) (fun k_ h_ => h_)) (Kd.R_lt (rp_ HO_506002.out))) (Kd.R_lt (rp_ HO_513002.out))) (Kd.R_lt (rp_ HO_519002.out))) (Kd.R_lt (rp_ HO_532002.out))) (below_size bp_))
                   replace HO_506002 := Aside0.mk (Kd.R_elder' (rp_ HO_506002.out) (Kd.R_base ho0) hb)
                   replace HO_513002 := Aside0.mk (Kd.R_elder' (rp_ HO_513002.out) (Kd.R_base ho0) hb)
                   replace HO_519002 := Aside0.mk (Kd.R_elder' (rp_ HO_519002.out) (Kd.R_base ho0) hb)
                   replace HO_532002 := Aside0.mk (Kd.R_elder' (rp_ HO_532002.out) (Kd.R_base ho0) hb)
                   replace BK518 := Aside0.mk (blk_below (hp_ BK518.out) hb)
                   replace BK531 := Aside0.mk (blk_below (hp_ BK531.out) hb)
                   replace HB := Aside0.mk (below_step bp_ hb)
                   (try clear hb)
                   (try clear hb2)
                   (try clear hk)
                   (try clear hi)
                   (try clear ho0)
                   refine hK.out _ _ ⟨(blk_cell BK531.out 0).trans rfl, (blk_cell BK531.out 1).trans rfl, (blk_cell BK531.out 2).trans rfl, (blk_cell BK518.out 0).trans rfl, (blk_cell BK518.out 1).trans rfl, (blk_cell BK518.out 2).trans rfl⟩ (fun hHeld => ?_)
                   clear hK K
                   refine norm_ (a' := ?_) ?_ ?_
                   rotate_left
                   · show Act.put _ (some 97) _ = _
                     simp only [Act.put, List.setIfInBounds_toArray, List.set_cons_zero, List.set_cons_succ, i64_w, i32_w]
                     rfl
                   refine one_ (i := 5) (N := some 100) Fl205 rfl rfl (one_of HT_.out (by kernel_rfl)) (by decide) (fun K hK => ?_)
                   refine goes_ Try.func31 (by kernel_rfl) rfl #[.agg #[.int .i64 t513, .int .i64 t514, .slice Ao36 t515.length co36], .int .i64 x16_4] (by rfl) rfl rfl (by (try simp only [List.map_toArray, List.map_cons, List.map_nil]); first | done | rfl | (simp only [List.length_drop, List.length_take]; rfl)) ?_
                   with_reducible refine (chequerref03_Row.calls k4 t513 t514 _ _ t515 x16_4 t549 _ ?side1 ?side2 A89.out).mono ?_
                   (case side1 => exact cp_ (Kd.R_reads' HO_519002.out).2.2)
                   (case side2 => exact (Kd.R_reads' HO_519002.out).2.1)
                   rintro e w107 ⟨v550, rfl, ho0, hb⟩
                   refine ⟨_, rfl, ?_⟩
                   have HO551 := Aside0.mk (Kd.R_lower (Kd.R_new' (Kd.R_new' (Kd.R_new' (Kd.R_new' (Kd.R_new' (Kd.R_newM (M := fun k_ => (w.heap.size ≤ k_)) ho0 (below_size bp_) (fun k_ h_ => h_)) (Kd.R_lt (rp_ HO_506002.out))) (Kd.R_lt (rp_ HO_513002.out))) (Kd.R_lt (rp_ HO_519002.out))) (Kd.R_lt (rp_ HO_532002.out))) (Kd.R_lt (rp_ HO548.out))) (below_size bp_))
                   replace HO_506002 := Aside0.mk (Kd.R_elder' (rp_ HO_506002.out) (Kd.R_base ho0) hb)
                   replace HO_513002 := Aside0.mk (Kd.R_elder' (rp_ HO_513002.out) (Kd.R_base ho0) hb)
                   replace HO_519002 := Aside0.mk (Kd.R_elder' (rp_ HO_519002.out) (Kd.R_base ho0) hb)
                   replace HO_532002 := Aside0.mk (Kd.R_elder' (rp_ HO_532002.out) (Kd.R_base ho0) hb)
                   replace HO548 := Aside0.mk (Kd.R_elder' (rp_ HO548.out) (Kd.R_base ho0) hb)
                   replace BK518 := Aside0.mk (blk_below (hp_ BK518.out) hb)
                   replace BK531 := Aside0.mk (blk_below (hp_ BK531.out) hb)
                   replace HB := Aside0.mk (below_step bp_ hb)
                   (try clear hb)
                   (try clear hb2)
                   (try clear hk)
                   (try clear hi)
                   (try clear ho0)
                   obtain ⟨Ao108, co108, eo108⟩ := Kd.R_slice HO548.out
                   (first | subst eo108 | (injection eo108 with f1_ f2_ f3_; have f4_ := f1_.symm; have f5_ := f3_.symm; clear f1_ f2_ f3_; subst f4_; subst f5_))
                   obtain ⟨Ao109, co109, eo109⟩ := Kd.R_slice HO551.out
                   (first | subst eo109 | (injection eo109 with f1_ f2_ f3_; have f4_ := f1_.symm; have f5_ := f3_.symm; clear f1_ f2_ f3_; subst f4_; subst f5_))
                   refine hK.out _ _ ⟨(blk_cell BK531.out 0).trans rfl, (blk_cell BK531.out 1).trans rfl, (blk_cell BK531.out 2).trans rfl, (blk_cell BK518.out 0).trans rfl, (blk_cell BK518.out 1).trans rfl, (blk_cell BK518.out 2).trans rfl⟩ (fun hHeld => ?_)
                   clear hK K
                   refine norm_ (a' := ?_) ?_ ?_
                   rotate_left
                   · show Act.put _ (some 100) _ = _
                     simp only [Act.put, List.setIfInBounds_toArray, List.set_cons_zero, List.set_cons_succ, i64_w, i32_w]
                     rfl
                   refine one_ (i := 6) (N := some 101) Fl206 rfl rfl (one_of HT_.out (by kernel_rfl)) (by decide) (fun K hK => ?_)
                   refine goes_ Try.func32 (by kernel_rfl) rfl #[.slice Ao108 t546.length co108, .slice Ao109 t549.length co109] (by rfl) rfl rfl (by (try simp only [List.map_toArray, List.map_cons, List.map_nil]); first | done | rfl | (simp only [List.length_drop, List.length_take]; rfl)) ?_
                   with_reducible refine (chequerref03_SameRow.calls k4 _ _ t546 _ _ t549 true _ ?side1 ?side2 ?side3 ?side4 A90.out).mono ?_
                   (case side1 => exact cp_ (Kd.R_reads' HO548.out).2.2)
                   (case side2 => exact (Kd.R_reads' HO548.out).2.1)
                   (case side3 => exact cp_ (Kd.R_reads' HO551.out).2.2)
                   (case side4 => exact (Kd.R_reads' HO551.out).2.1)
                   rintro e w' ⟨rfl, ⟨nd, rfl⟩⟩
                   refine ⟨_, rfl, ?_⟩
                   refine hK.out _ _ ⟨(blk_cell BK531.out 0).trans rfl, (blk_cell BK531.out 1).trans rfl, (blk_cell BK531.out 2).trans rfl, (blk_cell BK518.out 0).trans rfl, (blk_cell BK518.out 1).trans rfl, (blk_cell BK518.out 2).trans rfl⟩ (fun hHeld => ?_)
                   clear hK K
                   refine norm_ (a' := ?_) ?_ ?_
                   rotate_left
                   · show Act.put _ (some 101) _ = _
                     simp only [Act.put, List.setIfInBounds_toArray, List.set_cons_zero, List.set_cons_succ, i64_w, i32_w]
                     rfl
                   refine pur_ (i := 7) (N := some 102) Fl207 (any_of HT_.out (by kernel_rfl)) ?_
                   refine pur_ (i := 8) (N := some 103) Fl208 (any_of HT_.out (by kernel_rfl)) ?_
                   refine pur_ (i := 10) (N := some 105) Fl215 (any_of HT_.out (by kernel_rfl)) ?_
                   refine pur_ (i := 13) (N := some 108) Fl216 (any_of HT_.out (by kernel_rfl)) ?_
                   refine take_ (i := 9) (N := some 104) (v := ?_) (a' := ?_) Fl217 rfl rfl (take_ofW HT_.out HW_.out (by kernel_rfl)) (fun _ _ _ h => h) (Or.inl ⟨by rfl, ?_⟩) hHeld ?_ ?_
                   rotate_left
                   · rintro w' ⟨s0, s1, s2, s3, s4, s5⟩
                     go_simp
                     with_reducible rfl
                   rotate_left
                   · simp only [Act.put, List.setIfInBounds_toArray, List.set_cons_zero, List.set_cons_succ, i64_w, i32_w]
                     rfl
                   refine take_ (i := 12) (N := some 107) (v := ?_) (a' := ?_) Fl218 rfl rfl (take_ofW HT_.out HW_.out (by kernel_rfl)) (fun _ _ _ h => h) (Or.inl ⟨by rfl, ?_⟩) hHeld ?_ ?_
                   rotate_left
                   · rintro w' ⟨s0, s1, s2, s3, s4, s5⟩
                     go_simp
                     with_reducible rfl
                   rotate_left
                   · simp only [Act.put, List.setIfInBounds_toArray, List.set_cons_zero, List.set_cons_succ, i64_w, i32_w]
                     rfl
                   refine one_ (i := 11) (N := some 106) Fl209 rfl rfl (one_of HT_.out (by kernel_rfl)) (by decide) (fun K hK => ?_)
                   refine goes_ Try.func34 (by kernel_rfl) rfl #[.agg #[.int .i64 t525, .int .i64 t526, .slice Ao58 t527.length co58], .int .i64 x16_4] (by rfl) rfl rfl (by (try simp only [List.map_toArray, List.map_cons, List.map_nil]); first | done | rfl | (simp only [List.length_drop, List.length_take]; rfl)) ?_
                   with_reducible refine (rect_Matrix_Col.calls k4 t525 t526 _ _ t527 x16_4 t553 _ ?side1 ?side2 A92.out).mono ?_
                   (case side1 => exact cp_ (Kd.R_reads' HO_532002.out).2.2)
                   (case side2 => exact (Kd.R_reads' HO_532002.out).2.1)
                   rintro e w110 ⟨v554, rfl, ho0, hb⟩
                   refine ⟨_, rfl, ?_⟩
                   have HO555 := Aside0.mk (Kd.R_lower (Kd.R_new' (Kd.R_new' (Kd.R_new' (Kd.R_new' (Kd.R_new' (Kd.R_new' (Kd.R_newM (M := fun k_ => (w.heap.size ≤ k_)) ho0 (below_size bp_) (fun k_ h_ => h_)) (Kd.R_lt (rp_ HO_506002.out))) (Kd.R_lt (rp_ HO_513002.out))) (Kd.R_lt (rp_ HO_519002.out))) (Kd.R_lt (rp_ HO_532002.out))) (Kd.R_lt (rp_ HO548.out))) (Kd.R_lt (rp_ HO551.out))) (below_size bp_))
                   replace HO_506002 := Aside0.mk (Kd.R_elder' (rp_ HO_506002.out) (Kd.R_base ho0) hb)
                   replace HO_513002 := Aside0.mk (Kd.R_elder' (rp_ HO_513002.out) (Kd.R_base ho0) hb)
                   replace HO_519002 := Aside0.mk (Kd.R_elder' (rp_ HO_519002.out) (Kd.R_base ho0) hb)
                   replace HO_532002 := Aside0.mk (Kd.R_elder' (rp_ HO_532002.out) (Kd.R_base ho0) hb)
                   replace HO548 := Aside0.mk (Kd.R_elder' (rp_ HO548.out) (Kd.R_base ho0) hb)
                   replace HO551 := Aside0.mk (Kd.R_elder' (rp_ HO551.out) (Kd.R_base ho0) hb)
                   replace BK518 := Aside0.mk (blk_below (hp_ BK518.out) hb)
                   replace BK531 := Aside0.mk (blk_below (hp_ BK531.out) hb)
                   replace HB := Aside0.mk (below_step bp_ hb)
                   (try clear hb)
                   (try clear hb2)
                   (try clear hk)
                   (try clear hi)
                   (try clear ho0)
                   refine hK.out _ _ ⟨(blk_cell BK531.out 0).trans rfl, (blk_cell BK531.out 1).trans rfl, (blk_cell BK531.out 2).trans rfl, (blk_cell BK518.out 0).trans rfl, (blk_cell BK518.out 1).trans rfl, (blk_cell BK518.out 2).trans rfl⟩ (fun hHeld => ?_)
                   clear hK K
                   refine norm_ (a' := ?_) ?_ ?_
                   rotate_left
                   · show Act.put _ (some 106) _ = _
                     simp only [Act.put, List.setIfInBounds_toArray, List.set_cons_zero, List.set_cons_succ, i64_w, i32_w]
                     rfl
                   refine one_ (i := 14) (N := some 109) Fl210 rfl rfl (one_of HT_.out (by kernel_rfl)) (by decide) (fun K hK => ?_)
                   refine goes_ Try.func35 (by kernel_rfl) rfl #[.agg #[.int .i64 t513, .int .i64 t514, .slice Ao36 t515.length co36], .int .i64 x16_4] (by rfl) rfl rfl (by (try simp only [List.map_toArray, List.map_cons, List.map_nil]); first | done | rfl | (simp only [List.length_drop, List.length_take]; rfl)) ?_
                   with_reducible refine (chequerref03_Col.calls k4 t513 t514 _ _ t515 x16_4 t556 _ ?side1 ?side2 A93.out).mono ?_
                   (case side1 => exact cp_ (Kd.R_reads' HO_519002.out).2.2)
                   (case side2 => exact (Kd.R_reads' HO_519002.out).2.1)
                   rintro e w111 ⟨v557, rfl, ho0, hb⟩
                   refine ⟨_, rfl, ?_⟩
                   have HO558 := Aside0.mk (Kd.R_lower (Kd.R_new' (Kd.R_new' (Kd.R_new' (Kd.R_new' (Kd.R_new' (Kd.R_new' (Kd.R_new' (Kd.R_newM (M := fun k_ => (w.heap.size ≤ k_)) ho0 (below_size bp_) (fun k_ h_ => h_)) (Kd.R_lt (rp_ HO_506002.out))) (Kd.R_lt (rp_ HO_513002.out))) (Kd.R_lt (rp_ HO_519002.out))) (Kd.R_lt (rp_ HO_532002.out))) (Kd.R_lt (rp_ HO548.out))) (Kd.R_lt (rp_ HO551.out))) (Kd.R_lt (rp_ HO555.out))) (below_size bp_))
                   replace HO_506002 := Aside0.mk (Kd.R_elder' (rp_ HO_506002.out) (Kd.R_base ho0) hb)
                   replace HO_513002 := Aside0.mk (Kd.R_elder' (rp_ HO_513002.out) (Kd.R_base ho0) hb)
                   replace HO_519002 := Aside0.mk (Kd.R_elder' (rp_ HO_519002.out) (Kd.R_base ho0) hb)
                   replace HO_532002 := Aside0.mk (Kd.R_elder' (rp_ HO_532002.out) (Kd.R_base ho0) hb)
                   replace HO548 := Aside0.mk (Kd.R_elder' (rp_ HO548.out) (Kd.R_base ho0) hb)
                   replace HO551 := Aside0.mk (Kd.R_elder' (rp_ HO551.out) (Kd.R_base ho0) hb)
                   replace HO555 := Aside0.mk (Kd.R_elder' (rp_ HO555.out) (Kd.R_base ho0) hb)
                   replace BK518 := Aside0.mk (blk_below (hp_ BK518.out) hb)
                   replace BK531 := Aside0.mk (blk_below (hp_ BK531.out) hb)
                   replace HB := Aside0.mk (below_step bp_ hb)
                   (try clear hb)
                   (try clear hb2)
                   (try clear hk)
                   (try clear hi)
                   (try clear ho0)
                   obtain ⟨Ao112, co112, eo112⟩ := Kd.R_slice HO555.out
                   (first | subst eo112 | (injection eo112 with f1_ f2_ f3_; have f4_ := f1_.symm; have f5_ := f3_.symm; clear f1_ f2_ f3_; subst f4_; subst f5_))
                   obtain ⟨Ao113, co113, eo113⟩ := Kd.R_slice HO558.out
                   (first | subst eo113 | (injection eo113 with f1_ f2_ f3_; have f4_ := f1_.symm; have f5_ := f3_.symm; clear f1_ f2_ f3_; subst f4_; subst f5_))
                   refine hK.out _ _ ⟨(blk_cell BK531.out 0).trans rfl, (blk_cell BK531.out 1).trans rfl, (blk_cell BK531.out 2).trans rfl, (blk_cell BK518.out 0).trans rfl, (blk_cell BK518.out 1).trans rfl, (blk_cell BK518.out 2).trans rfl⟩ (fun hHeld => ?_)
                   clear hK K
                   refine norm_ (a' := ?_) ?_ ?_
                   rotate_left
                   · show Act.put _ (some 109) _ = _
                     simp only [Act.put, List.setIfInBounds_toArray, List.set_cons_zero, List.set_cons_succ, i64_w, i32_w]
                     rfl
                   refine one_ (i := 15) (N := some 110) Fl211 rfl rfl (one_of HT_.out (by kernel_rfl)) (by decide) (fun K hK => ?_)
                   refine goes_ Try.func32 (by kernel_rfl) rfl #[.slice Ao112 t553.length co112, .slice Ao113 t556.length co113] (by rfl) rfl rfl (by (try simp only [List.map_toArray, List.map_cons, List.map_nil]); first | done | rfl | (simp only [List.length_drop, List.length_take]; rfl)) ?_
                   with_reducible refine (chequerref03_SameRow.calls k4 _ _ t553 _ _ t556 false _ ?side1 ?side2 ?side3 ?side4 A94.out).mono ?_
                   (case side1 => exact cp_ (Kd.R_reads' HO555.out).2.2)
                   (case side2 => exact (Kd.R_reads' HO555.out).2.1)
                   (case side3 => exact cp_ (Kd.R_reads' HO558.out).2.2)
                   (case side4 => exact (Kd.R_reads' HO558.out).2.1)
                   rintro e w' ⟨rfl, ⟨nd, rfl⟩⟩
                   refine ⟨_, rfl, ?_⟩
                   refine hK.out _ _ ⟨(blk_cell BK531.out 0).trans rfl, (blk_cell BK531.out 1).trans rfl, (blk_cell BK531.out 2).trans rfl, (blk_cell BK518.out 0).trans rfl, (blk_cell BK518.out 1).trans rfl, (blk_cell BK518.out 2).trans rfl⟩ (fun hHeld => ?_)
                   clear hK K
                   refine norm_ (a' := ?_) ?_ ?_
                   rotate_left
                   · show Act.put _ (some 110) _ = _
                     simp only [Act.put, List.setIfInBounds_toArray, List.set_cons_zero, List.set_cons_succ, i64_w, i32_w]
                     rfl
                   refine pur_ (i := 16) (N := some 111) Fl213 (any_of HT_.out (by kernel_rfl)) ?_
                   refine pur_ (i := 17) (N := some 112) Fl214 (any_of HT_.out (by kernel_rfl)) ?_
                   refine done_ (done_of HT_.out (by kernel_rfl)) ?_
                   try go_wp2
                   go_ret
                   exact ⟨by first | rfl | (simp [errW_none, errW_some] <;> rfl) | (simp [*, errW_none, errW_some] <;> rfl), bp_⟩
               · replace c91 := Bool.eq_false_iff.mpr c91
                 subst c91
                 have H1 : (some false) = some r := by rw [if_neg (show ¬ (false = true) by decide)] at H; exact H
                 clear H
                 have H := H1
                 clear H1
                 obtain rfl := Option.some.inj H
                 try go_wp2
                 (try (rw [drewN_self wr]; generalize hq_ : World.drewN wr _ = wr; have n0_ := Aside0.mk (qrp_ hq_ HO_506002.out); have n1_ := Aside0.mk (qrp_ hq_ HO_513002.out); have n2_ := Aside0.mk (qrp_ hq_ HO_519002.out); have n3_ := Aside0.mk (qrp_ hq_ HO_532002.out); have n4_ := Aside0.mk (qhp_ hq_ BK518.out); have n5_ := Aside0.mk (qhp_ hq_ BK531.out); have n6_ : Aside0 (Below w.heap.size w wr) := ⟨qbp_ hq_⟩; clear HO_506002 HO_513002 HO_519002 HO_532002 BK518 BK531 HB hq_; have HO_506002 := n0_; have HO_513002 := n1_; have HO_519002 := n2_; have HO_532002 := n3_; have BK518 := n4_; have BK531 := n5_; have HB := n6_; clear n0_ n1_ n2_ n3_ n4_ n5_ n6_))
                 replace HO_506002 := Aside0.mk (Kd.R_drew HO_506002.out)
                 replace HO_513002 := Aside0.mk (Kd.R_drew HO_513002.out)
                 replace HO_519002 := Aside0.mk (Kd.R_drew HO_519002.out)
                 replace HO_532002 := Aside0.mk (Kd.R_drew HO_532002.out)
                 replace BK518 := Aside0.mk (blk_drew BK518.out)
                 replace BK531 := Aside0.mk (blk_drew BK531.out)
                 replace HB := Aside0.mk (below_drew1 HB.out)
                 refine start_ (n := 18) (S := fun w' => w'.cell? ⟨gb531, 0, none⟩ = some (.int .i64 t525) ∧ w'.cell? ⟨gb531, 1, none⟩ = some (.int .i64 t526) ∧ w'.cell? ⟨gb531, 2, none⟩ = some (.slice Ao58 t527.length co58) ∧ w'.cell? ⟨gb518, 0, none⟩ = some (.int .i64 t513) ∧ w'.cell? ⟨gb518, 1, none⟩ = some (.int .i64 t514) ∧ w'.cell? ⟨gb518, 2, none⟩ = some (.slice Ao36 t515.length co36)) (ds := []) Fl198 (by kernel_rfl) rfl rfl ⟨(blk_cell BK531.out 0).trans rfl, (blk_cell BK531.out 1).trans rfl, (blk_cell BK531.out 2).trans rfl, (blk_cell BK518.out 0).trans rfl, (blk_cell BK518.out 1).trans rfl, (blk_cell BK518.out 2).trans rfl⟩ (fun hHeld => ?_); refine with_tabW chequerlaw03_RectOf.tab20 chequerlaw03_RectOf.bits20 (fun HT_ HW_ => ?_)
                 generalize wr.drew = w114 at HO_506002 HO_513002 HO_519002 HO_532002 BK518 BK531 HB hHeld ⊢
                 refine pur_ (i := 1) (N := some 96) Fl199 (any_of HT_.out (by kernel_rfl)) ?_
                 refine pur_ (i := 4) (N := some 99) Fl200 (any_of HT_.out (by kernel_rfl)) ?_
                 refine take_ (i := 0) (N := some 95) (v := ?_) (a' := ?_) Fl201 rfl rfl (take_ofW HT_.out HW_.out (by kernel_rfl)) (fun _ _ _ h => h) (Or.inl ⟨by rfl, ?_⟩) hHeld ?_ ?_
                 rotate_left
                 · rintro w' ⟨s0, s1, s2, s3, s4, s5⟩
                   go_simp
                   with_reducible rfl
                 rotate_left
                 · simp only [Act.put, List.setIfInBounds_toArray, List.set_cons_zero, List.set_cons_succ, i64_w, i32_w]
                   rfl
                 refine take_ (i := 3) (N := some 98) (v := ?_) (a' := ?_) Fl202 rfl rfl (take_ofW HT_.out HW_.out (by kernel_rfl)) (fun _ _ _ h => h) (Or.inl ⟨by rfl, ?_⟩) hHeld ?_ ?_
                 rotate_left
                 · rintro w' ⟨s0, s1, s2, s3, s4, s5⟩
                   go_simp
                   with_reducible rfl
                 rotate_left
                 · simp only [Act.put, List.setIfInBounds_toArray, List.set_cons_zero, List.set_cons_succ, i64_w, i32_w]
                   rfl
                 refine one_ (i := 2) (N := some 97) Fl203 rfl rfl (one_of HT_.out (by kernel_rfl)) (by decide) (fun K hK => ?_)
                 refine goes_ Try.func33 (by kernel_rfl) rfl #[.agg #[.int .i64 t525, .int .i64 t526, .slice Ao58 t527.length co58], .int .i64 x16_4] (by rfl) rfl rfl (by (try simp only [List.map_toArray, List.map_cons, List.map_nil]); first | done | rfl | (simp only [List.length_drop, List.length_take]; rfl)) ?_
                 with_reducible refine (rect_Matrix_Row.calls t525 t526 _ _ t527 x16_4 t546 _ ?side1 ?side2 A88.out).mono ?_
                 (case side1 => exact cp_ (Kd.R_reads' HO_532002.out).2.2)
                 (case side2 => exact (Kd.R_reads' HO_532002.out).2.1)
                 rintro e w115 ⟨v547, rfl, ho0, hb⟩
                 refine ⟨_, rfl, ?_⟩
                 have HO548 := Aside0.mk (Kd.R_lower (Kd.R_new' (Kd.R_new' (Kd.R_new' (Kd.R_new' (Kd.R_newM (M := fun k_ => (w.heap.size ≤ k_)) ho0 (below_size bp_) (fun k_ h_ => h_)) (Kd.R_lt (rp_ HO_506002.out))) (Kd.R_lt (rp_ HO_513002.out))) (Kd.R_lt (rp_ HO_519002.out))) (Kd.R_lt (rp_ HO_532002.out))) (below_size bp_))
                 replace HO_506002 := Aside0.mk (Kd.R_elder' (rp_ HO_506002.out) (Kd.R_base ho0) hb)
                 replace HO_513002 := Aside0.mk (Kd.R_elder' (rp_ HO_513002.out) (Kd.R_base ho0) hb)
                 replace HO_519002 := Aside0.mk (Kd.R_elder' (rp_ HO_519002.out) (Kd.R_base ho0) hb)
                 replace HO_532002 := Aside0.mk (Kd.R_elder' (rp_ HO_532002.out) (Kd.R_base ho0) hb)
                 replace BK518 := Aside0.mk (blk_below (hp_ BK518.out) hb)
                 replace BK531 := Aside0.mk (blk_below (hp_ BK531.out) hb)
                 replace HB := Aside0.mk (below_step bp_ hb)
                 (try clear hb)
                 (try clear hb2)
                 (try clear hk)
                 (try clear hi)
                 (try clear ho0)
                 refine hK.out _ _ ⟨(blk_cell BK531.out 0).trans rfl, (blk_cell BK531.out 1).trans rfl, (blk_cell BK531.out 2).trans rfl, (blk_cell BK518.out 0).trans rfl, (blk_cell BK518.out 1).trans rfl, (blk_cell BK518.out 2).trans rfl⟩ (fun hHeld => ?_)
                 clear hK K
                 refine norm_ (a' := ?_) ?_ ?_
                 rotate_left
                 · show Act.put _ (some 97) _ = _
                   simp only [Act.put, List.setIfInBounds_toArray, List.set_cons_zero, List.set_cons_succ, i64_w, i32_w]
                   rfl
                 refine one_ (i := 5) (N := some 100) Fl205 rfl rfl (one_of HT_.out (by kernel_rfl)) (by decide) (fun K hK => ?_)
                 refine goes_ Try.func31 (by kernel_rfl) rfl #[.agg #[.int .i64 t513, .int .i64 t514, .slice Ao36 t515.length co36], .int .i64 x16_4] (by rfl) rfl rfl (by (try simp only [List.map_toArray, List.map_cons, List.map_nil]); first | done | rfl | (simp only [List.length_drop, List.length_take]; rfl)) ?_
                 with_reducible refine (chequerref03_Row.calls k4 t513 t514 _ _ t515 x16_4 t549 _ ?side1 ?side2 A89.out).mono ?_
                 (case side1 => exact cp_ (Kd.R_reads' HO_519002.out).2.2)
                 (case side2 => exact (Kd.R_reads' HO_519002.out).2.1)
                 rintro e w116 ⟨v550, rfl, ho0, hb⟩
                 refine ⟨_, rfl, ?_⟩
                 have HO551 := Aside0.mk (Kd.R_lower (Kd.R_new' (Kd.R_new' (Kd.R_new' (Kd.R_new' (Kd.R_new' (Kd.R_newM (M := fun k_ => (w.heap.size ≤ k_)) ho0 (below_size bp_) (fun k_ h_ => h_)) (Kd.R_lt (rp_ HO_506002.out))) (Kd.R_lt (rp_ HO_513002.out))) (Kd.R_lt (rp_ HO_519002.out))) (Kd.R_lt (rp_ HO_532002.out))) (Kd.R_lt (rp_ HO548.out))) (below_size bp_))
                 replace HO_506002 := Aside0.mk (Kd.R_elder' (rp_ HO_506002.out) (Kd.R_base ho0) hb)
                 replace HO_513002 := Aside0.mk (Kd.R_elder' (rp_ HO_513002.out) (Kd.R_base ho0) hb)
                 replace HO_519002 := Aside0.mk (Kd.R_elder' (rp_ HO_519002.out) (Kd.R_base ho0) hb)
                 replace HO_532002 := Aside0.mk (Kd.R_elder' (rp_ HO_532002.out) (Kd.R_base ho0) hb)
                 replace HO548 := Aside0.mk (Kd.R_elder' (rp_ HO548.out) (Kd.R_base ho0) hb)
                 replace BK518 := Aside0.mk (blk_below (hp_ BK518.out) hb)
                 replace BK531 := Aside0.mk (blk_below (hp_ BK531.out) hb)
                 replace HB := Aside0.mk (below_step bp_ hb)
                 (try clear hb)
                 (try clear hb2)
                 (try clear hk)
                 (try clear hi)
                 (try clear ho0)
                 obtain ⟨Ao117, co117, eo117⟩ := Kd.R_slice HO548.out
                 (first | subst eo117 | (injection eo117 with f1_ f2_ f3_; have f4_ := f1_.symm; have f5_ := f3_.symm; clear f1_ f2_ f3_; subst f4_; subst f5_))
                 obtain ⟨Ao118, co118, eo118⟩ := Kd.R_slice HO551.out
                 (first | subst eo118 | (injection eo118 with f1_ f2_ f3_; have f4_ := f1_.symm; have f5_ := f3_.symm; clear f1_ f2_ f3_; subst f4_; subst f5_))
                 refine hK.out _ _ ⟨(blk_cell BK531.out 0).trans rfl, (blk_cell BK531.out 1).trans rfl, (blk_cell BK531.out 2).trans rfl, (blk_cell BK518.out 0).trans rfl, (blk_cell BK518.out 1).trans rfl, (blk_cell BK518.out 2).trans rfl⟩ (fun hHeld => ?_)
                 clear hK K
                 refine norm_ (a' := ?_) ?_ ?_
                 rotate_left
                 · show Act.put _ (some 100) _ = _
                   simp only [Act.put, List.setIfInBounds_toArray, List.set_cons_zero, List.set_cons_succ, i64_w, i32_w]
                   rfl
                 refine one_ (i := 6) (N := some 101) Fl206 rfl rfl (one_of HT_.out (by kernel_rfl)) (by decide) (fun K hK => ?_)
                 refine goes_ Try.func32 (by kernel_rfl) rfl #[.slice Ao117 t546.length co117, .slice Ao118 t549.length co118] (by rfl) rfl rfl (by (try simp only [List.map_toArray, List.map_cons, List.map_nil]); first | done | rfl | (simp only [List.length_drop, List.length_take]; rfl)) ?_
                 with_reducible refine (chequerref03_SameRow.calls k4 _ _ t546 _ _ t549 false _ ?side1 ?side2 ?side3 ?side4 A90.out).mono ?_
                 (case side1 => exact cp_ (Kd.R_reads' HO548.out).2.2)
                 (case side2 => exact (Kd.R_reads' HO548.out).2.1)
                 (case side3 => exact cp_ (Kd.R_reads' HO551.out).2.2)
                 (case side4 => exact (Kd.R_reads' HO551.out).2.1)
                 rintro e w' ⟨rfl, ⟨nd, rfl⟩⟩
                 refine ⟨_, rfl, ?_⟩
                 refine hK.out _ _ ⟨(blk_cell BK531.out 0).trans rfl, (blk_cell BK531.out 1).trans rfl, (blk_cell BK531.out 2).trans rfl, (blk_cell BK518.out 0).trans rfl, (blk_cell BK518.out 1).trans rfl, (blk_cell BK518.out 2).trans rfl⟩ (fun hHeld => ?_)
                 clear hK K
                 refine norm_ (a' := ?_) ?_ ?_
                 rotate_left
                 · show Act.put _ (some 101) _ = _
                   simp only [Act.put, List.setIfInBounds_toArray, List.set_cons_zero, List.set_cons_succ, i64_w, i32_w]
                   rfl
                 refine pur_ (i := 7) (N := some 102) Fl207 (any_of HT_.out (by kernel_rfl)) ?_
                 refine pur_ (i := 8) (N := some 103) Fl208 (any_of HT_.out (by kernel_rfl)) ?_
                 refine pun_ (i := 9) (N := some 104) #[true, true, true, true, true, true, true, true, true, true, false, false, false, false, false, false, false, false] (any_of HT_.out (by kernel_rfl)) ?_
                 refine pun_ (i := 10) (N := some 105) #[true, true, true, true, true, true, true, true, true, true, true, false, false, false, false, false, false, false] (any_of HT_.out (by kernel_rfl)) ?_
                 refine pun_ (i := 11) (N := some 106) #[true, true, true, true, true, true, true, true, true, true, true, true, false, false, false, false, false, false] (any_of HT_.out (by kernel_rfl)) ?_
                 refine pun_ (i := 12) (N := some 107) #[true, true, true, true, true, true, true, true, true, true, true, true, true, false, false, false, false, false] (any_of HT_.out (by kernel_rfl)) ?_
                 refine pun_ (i := 13) (N := some 108) Fl209 (any_of HT_.out (by kernel_rfl)) ?_
                 refine pun_ (i := 14) (N := some 109) Fl210 (any_of HT_.out (by kernel_rfl)) ?_
                 refine pun_ (i := 15) (N := some 110) Fl211 (any_of HT_.out (by kernel_rfl)) ?_
                 refine pun_ (i := 16) (N := some 111) Fl213 (any_of HT_.out (by kernel_rfl)) ?_
                 refine pur_ (i := 17) (N := some 112) Fl214 (any_of HT_.out (by kernel_rfl)) ?_
                 refine done_ (done_of HT_.out (by kernel_rfl)) ?_
                 try go_wp2
                 go_ret
                 exact ⟨by first | rfl | (simp [errW_none, errW_some] <;> rfl) | (simp [*, errW_none, errW_some] <;> rfl), bp_⟩
             · rw [if_neg c87] at H
               have c87b0 : decide (x16_4 ≤ 5) = false := decide_eq_false c87
               clear c87
               replace H := Option.bind_eq_some_iff.mp H
               obtain ⟨t544, A1190, H⟩ := H
               replace H : (if t544 = true then ((chequerlaw03_lives.f k4).bind fun t545 => (some t545)) else (some false)) = some r := H
               have A119 := Aside0.mk A1190
               clear A1190
               by_cases c120 : t544 = true
               · subst c120
                 have H1 : ((chequerlaw03_lives.f k4).bind fun t545 => (some t545)) = some r := by rw [if_pos rfl] at H; exact H
                 clear H
                 have H := H1
                 clear H1
                 replace H := Option.bind_eq_some_iff.mp H
                 obtain ⟨t545, A1210, H⟩ := H
                 replace H : (some t545) = some r := H
                 have A121 := Aside0.mk A1210
                 clear A1210
                 obtain rfl := Option.some.inj H
                 have hcz122_0 : wr.cell? ⟨gb531, 0, none⟩ = some (.int .i64 t525) := (blk_cell BK531.out 0).trans rfl
                 have hcz122_1 : wr.cell? ⟨gb531, 1, none⟩ = some (.int .i64 t526) := (blk_cell BK531.out 1).trans rfl
                 have hcz122_2 : wr.cell? ⟨gb531, 2, none⟩ = some (.slice Ao58 t527.length co58) := (blk_cell BK531.out 2).trans rfl
                 have hfz122_0 := blk_frozen BK531.out 0
                 have hfz122_1 := blk_frozen BK531.out 1
                 have hfz122_2 := blk_frozen BK531.out 2
                 go_wp2_with (first | ((with_reducible refine gate_callee (f := 19) rfl ?_); refine goQ_ (some 114) Try.func19 #[.agg #[.int .i64 t525, .int .i64 t526, .slice Ao58 t527.length co58]] ?_; (with_reducible refine (rect_May.calls t525 t526 _ _ t527 true _ ?side1 ?side2 A119.out).mono ?_); (case side1 => exact cp_ (Kd.R_reads' HO_532002.out).2.2); (case side2 => exact (Kd.R_reads' HO_532002.out).2.1); rintro e w123 ⟨rfl, hb⟩; refine ⟨_, rfl, ?_⟩; replace HO_506002 := Aside0.mk (Kd.R_below (rp_ HO_506002.out) hb); replace HO_513002 := Aside0.mk (Kd.R_below (rp_ HO_513002.out) hb); replace HO_519002 := Aside0.mk (Kd.R_below (rp_ HO_519002.out) hb); replace HO_532002 := Aside0.mk (Kd.R_below (rp_ HO_532002.out) hb); replace HB := Aside0.mk (below_step bp_ hb); (try clear hb); (try clear hb2); (try clear hk); (try clear hi)) | (go_at_call 16; (with_reducible refine (chequerlaw03_lives.calls k4  t545 _ A121.out).mono ?_); rintro e w124 ⟨rfl, hb⟩; replace HO_506002 := Aside0.mk (Kd.R_below (rp_ HO_506002.out) hb); replace HO_513002 := Aside0.mk (Kd.R_below (rp_ HO_513002.out) hb); replace HO_519002 := Aside0.mk (Kd.R_below (rp_ HO_519002.out) hb); replace HO_532002 := Aside0.mk (Kd.R_below (rp_ HO_532002.out) hb); replace HB := Aside0.mk (below_step bp_ hb); (try clear hb); (try clear hb2); (try clear hk); (try clear hi)))
                 go_ret
                 exact ⟨by first | rfl | (simp [errW_none, errW_some] <;> rfl) | (simp [*, errW_none, errW_some] <;> rfl), bp_⟩
               · replace c120 := Bool.eq_false_iff.mpr c120
                 subst c120
                 have H1 : (some false) = some r := by rw [if_neg (show ¬ (false = true) by decide)] at H; exact H
                 clear H
                 have H := H1
                 clear H1
                 obtain rfl := Option.some.inj H
                 have hcz125_0 : wr.cell? ⟨gb531, 0, none⟩ = some (.int .i64 t525) := (blk_cell BK531.out 0).trans rfl
                 have hcz125_1 : wr.cell? ⟨gb531, 1, none⟩ = some (.int .i64 t526) := (blk_cell BK531.out 1).trans rfl
                 have hcz125_2 : wr.cell? ⟨gb531, 2, none⟩ = some (.slice Ao58 t527.length co58) := (blk_cell BK531.out 2).trans rfl
                 have hfz125_0 := blk_frozen BK531.out 0
                 have hfz125_1 := blk_frozen BK531.out 1
                 have hfz125_2 := blk_frozen BK531.out 2
                 go_wp2_with (first | ((with_reducible refine gate_callee (f := 19) rfl ?_); refine goQ_ (some 114) Try.func19 #[.agg #[.int .i64 t525, .int .i64 t526, .slice Ao58 t527.length co58]] ?_; (with_reducible refine (rect_May.calls t525 t526 _ _ t527 false _ ?side1 ?side2 A119.out).mono ?_); (case side1 => exact cp_ (Kd.R_reads' HO_532002.out).2.2); (case side2 => exact (Kd.R_reads' HO_532002.out).2.1); rintro e w126 ⟨rfl, hb⟩; refine ⟨_, rfl, ?_⟩; replace HO_506002 := Aside0.mk (Kd.R_below (rp_ HO_506002.out) hb); replace HO_513002 := Aside0.mk (Kd.R_below (rp_ HO_513002.out) hb); replace HO_519002 := Aside0.mk (Kd.R_below (rp_ HO_519002.out) hb); replace HO_532002 := Aside0.mk (Kd.R_below (rp_ HO_532002.out) hb); replace HB := Aside0.mk (below_step bp_ hb); (try clear hb); (try clear hb2); (try clear hk); (try clear hi)))
                 go_ret
                 exact ⟨by first | rfl | (simp [errW_none, errW_some] <;> rfl) | (simp [*, errW_none, errW_some] <;> rfl), bp_⟩

/-- THE ONE PURE STATEMENT of chequerlaw03_RectOf. -/
def chequerlaw03_RectOf.Pure : Prop := ∀ (l0 : List (List Int)) (a1_0 : Int) (a1_1 : Int) (l1_2 : List Int), l0.length ≤ maxLen → (∀ r ∈ l0, r.length ≤ maxLen ∧ ∀ z ∈ r, (Lit.int .u64 z).wf = true) → (Lit.int .i64 a1_0).wf = true → (Lit.int .i64 a1_1).wf = true → l1_2.length ≤ maxLen → (∀ x ∈ l1_2, (Lit.int .u64 x).wf = true) → ∃ k, chequerlaw03_RectOf.f k l0 a1_0 a1_1 l1_2 = some true
theorem chequerlaw03_RectOf.walk (P : chequerlaw03_RectOf.Pure) (a0 : Option Addr) (cap0 : Nat) (l0 : List (List Int)) (a1_0 : Int) (a1_1 : Int) (a1_2 : Option Addr) (len1_2 cap1_2 : Nat) (z1_2 : List Int) (w : World) (wl0 : l0.length ≤ cap0) (wm0 : l0.length ≤ maxLen) (wC0 : Kd.C (Kd.slice 46 (Kd.int .u64)) w a0 l0.length l0) (wz0 : ∀ r ∈ l0, r.length ≤ maxLen ∧ ∀ z ∈ r, (Lit.int .u64 z).wf = true) (w1_0 : (Lit.int .i64 a1_0).wf = true) (w1_1 : (Lit.int .i64 a1_1).wf = true) (w1_2 : (a1_2 = none ∧ len1_2 = 0 ∧ cap1_2 = 0 ∧ z1_2 = []) ∨ ∃ x, a1_2 = some x ∧ len1_2 ≤ cap1_2 ∧ cap1_2 ≤ maxLen ∧ z1_2.length = cap1_2 ∧ (∀ i, i < z1_2.length → w.cell? (x.add i) = some (.int .u64 (z1_2.getD i 0))) ∧ ∀ n ∈ z1_2, (Lit.int .u64 n).wf = true) :
 Calls Try.prog 7 #[.slice a0 l0.length cap0, .agg #[.int .i64 a1_0, .int .i64 a1_1, .slice a1_2 len1_2 cap1_2]] w fun e w' => e = .returned (.bool true) ∧ Below w.heap.size w w' := by
 obtain ⟨l1_2, rfl, hr1_2, hm1_2, hw1_2, hc1_2⟩ := ReadsInt.ofRowC w1_2
 obtain ⟨k, h⟩ := P l0 a1_0 a1_1 l1_2 wm0 wz0 w1_0 w1_1 hm1_2 hw1_2
 refine (chequerlaw03_RectOf.calls k (fun _ => True) _ _ l0 a1_0 a1_1 _ _ l1_2 true w (Mo.V_any (Kd.heap_slice 46 (Kd.heap_int .u64)) wC0 wl0) (Kd.C_of_reads (d := (0 : Int)) (h1 := fun _ => rfl) hr1_2) hc1_2 h).mono ?_
 rintro e w' ⟨rfl, hd⟩
 exact ⟨rfl, hd⟩

end Go.Proofs.Ytidpaaemfiopkaa.Q
