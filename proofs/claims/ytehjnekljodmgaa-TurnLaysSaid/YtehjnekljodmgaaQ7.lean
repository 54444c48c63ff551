-- written by our own program (wip/tools/myprint.py) out of the translation, by the kit's print; Lean checks it
import Derived.Test.YtehjnekljodmgaaQ0
import Derived.Test.YtehjnekljodmgaaQ1
import Derived.Test.YtehjnekljodmgaaIturn_From
import Derived.Test.YtehjnekljodmgaaQ3
import Derived.Test.YtehjnekljodmgaaIchequerref04_Lay
import Derived.Test.YtehjnekljodmgaaQ6
namespace Go.Proofs.Ytehjnekljodmgaa.Q
open Go.RowKit Go.Proofs.YtehjnekljodmgaaW.PrintWords Go.Proofs.YtehjnekljodmgaaW.PrintLast Go.Proofs.YtehjnekljodmgaaW.PrintMore
attribute [local go_sem] max2_int min2_int max_two min_two max_three min_three max_four min_four   -- for this text's walks alone
set_option linter.unusedVariables false
set_option linter.unusedSimpArgs false

abbrev Fl1 : Array Bool := #[false, false, false, false, false, false, false, false, false, false, false, false, false, false, false, false, false, false, false, false, false, false, false, false, false, false, false, false, false, false, false, false, false, false, false]
abbrev Fl2 : Array Bool := #[true, false, false, false, false, false, false, false, false, false, false, false, false, false, false, false, false, false, false, false, false, false, false, false, false, false, false, false, false, false, false, false, false, false, false]
abbrev Fl3 : Array Bool := #[true, true, false, false, false, false, false, false, false, false, false, false, false, false, false, false, false, false, false, false, false, false, false, false, false, false, false, false, false, false, false, false, false, false, false]
abbrev Fl4 : Array Bool := #[true, true, true, false, false, false, false, false, false, false, false, false, false, false, false, false, false, false, false, false, false, false, false, false, false, false, false, false, false, false, false, false, false, false, false]
abbrev Fl5 : Array Bool := #[true, true, true, true, false, false, false, false, false, false, false, false, false, false, false, false, false, false, false, false, false, false, false, false, false, false, false, false, false, false, false, false, false, false, false]
abbrev Fl6 : Array Bool := #[true, true, true, true, true, false, false, false, false, false, false, false, false, false, false, false, false, false, false, false, false, false, false, false, false, false, false, false, false, false, false, false, false, false, false]
abbrev Fl7 : Array Bool := #[true, true, true, true, true, true, true, false, false, false, false, false, false, false, false, false, false, false, false, false, false, false, false, false, false, false, false, false, false, false, false, false, false, false, false]
abbrev Fl8 : Array Bool := #[true, true, true, true, true, true, true, true, false, false, false, false, false, false, false, false, false, false, false, false, false, false, false, false, false, false, false, false, false, false, false, false, false, false, false]
abbrev Fl9 : Array Bool := #[true, true, true, true, true, true, true, true, true, false, false, false, false, false, false, false, false, false, false, false, false, false, false, false, false, false, false, false, false, false, false, false, false, false, false]
abbrev Fl10 : Array Bool := #[true, true, true, true, true, true, true, true, true, true, false, false, false, false, false, false, false, false, false, false, false, false, false, false, false, false, false, false, false, false, false, false, false, false, false]
abbrev Fl11 : Array Bool := #[true, true, true, true, true, true, true, true, true, true, true, false, false, false, false, false, false, false, false, false, false, false, false, false, false, false, false, false, false, false, false, false, false, false, false]
abbrev Fl12 : Array Bool := #[true, true, true, true, true, true, true, true, true, true, true, true, false, false, false, false, false, false, false, false, false, false, false, false, false, false, false, false, false, false, false, false, false, false, false]
abbrev Fl13 : Array Bool := #[true, true, true, true, true, true, true, true, true, true, true, true, true, true, false, false, false, false, false, false, false, false, false, false, false, false, false, false, false, false, false, false, false, false, false]
abbrev Fl14 : Array Bool := #[true, true, true, true, true, true, true, true, true, true, true, true, true, true, true, false, false, false, false, false, false, false, false, false, false, false, false, false, false, false, false, false, false, false, false]
abbrev Fl15 : Array Bool := #[true, true, true, true, true, true, true, true, true, true, true, true, true, true, true, true, false, false, false, false, false, false, false, false, false, false, false, false, false, false, false, false, false, false, false]
abbrev Fl16 : Array Bool := #[true, true, true, true, true, true, true, true, true, true, true, true, true, true, true, true, true, false, false, false, false, false, false, false, false, false, false, false, false, false, false, false, false, false, false]
abbrev Fl17 : Array Bool := #[true, true, true, true, true, true, true, true, true, true, true, true, true, true, true, true, true, true, false, false, false, false, false, false, false, false, false, false, false, false, false, false, false, false, false]
abbrev Fl18 : Array Bool := #[true, true, true, true, true, true, true, true, true, true, true, true, true, true, true, true, true, true, true, false, false, false, false, false, false, false, false, false, false, false, false, false, false, false, false]
abbrev Fl19 : Array Bool := #[true, true, true, true, true, true, true, true, true, true, true, true, true, true, true, true, true, true, true, true, false, false, false, false, false, false, false, false, false, false, false, false, false, false, false]
abbrev Fl20 : Array Bool := #[true, true, true, true, true, true, true, true, true, true, true, true, true, true, true, true, true, true, true, true, true, false, false, false, false, false, false, false, false, false, false, false, false, false, false]
abbrev Fl21 : Array Bool := #[true, true, true, true, true, true, true, true, true, true, true, true, true, true, true, true, true, true, true, true, true, true, false, false, false, false, false, false, false, false, false, false, false, false, false]
abbrev Fl22 : Array Bool := #[true, true, true, true, true, true, true, true, true, true, true, true, true, true, true, true, true, true, true, true, true, true, true, false, false, false, false, false, false, false, false, false, false, false, false]
abbrev Fl23 : Array Bool := #[true, true, true, true, true, true, true, true, true, true, true, true, true, true, true, true, true, true, true, true, true, true, true, true, false, false, false, false, false, false, false, false, false, false, false]
abbrev Fl24 : Array Bool := #[true, true, true, true, true, true, true, true, true, true, true, true, true, true, true, true, true, true, true, true, true, true, true, true, true, false, false, false, false, false, false, false, false, false, false]
abbrev Fl25 : Array Bool := #[true, true, true, true, true, true, true, true, true, true, true, true, true, true, true, true, true, true, true, true, true, true, true, true, true, true, false, false, false, false, false, false, false, false, false]
abbrev Fl26 : Array Bool := #[true, true, true, true, true, true, true, true, true, true, true, true, true, true, true, true, true, true, true, true, true, true, true, true, true, true, true, false, false, false, false, false, false, false, false]
abbrev Fl27 : Array Bool := #[true, true, true, true, true, true, true, true, true, true, true, true, true, true, true, true, true, true, true, true, true, true, true, true, true, true, true, true, false, false, false, false, false, false, false]
abbrev Fl28 : Array Bool := #[true, true, true, true, true, true, true, true, true, true, true, true, true, true, true, true, true, true, true, true, true, true, true, true, true, true, true, true, true, false, false, false, false, false, false]
abbrev Fl29 : Array Bool := #[true, true, true, true, true, true, true, true, true, true, true, true, true, true, true, true, true, true, true, true, true, true, true, true, true, true, true, true, true, true, false, false, false, false, false]
abbrev Fl30 : Array Bool := #[true, true, true, true, true, true, true, true, true, true, true, true, true, true, true, true, true, true, true, true, true, true, true, true, true, true, true, true, true, true, true, true, true, false, false]
abbrev Fl31 : Array Bool := #[true, true, true, true, true, true, true, true, true, true, true, true, true, true, true, true, true, true, true, true, true, true, true, true, true, true, true, true, true, true, true, true, true, true, false]
abbrev Fl32 : Array Bool := #[true, true, true, true, true, true, true, true, true, true, true, true, true, true, true, true, true, true, true, true, true, true, true, true, true, true, true, true, true, true, true, true, true, true, true]
abbrev Fl33 : Array Bool := #[true, true, true, true, true, false, true, false, false, false, false, false, false, false, false, false, false, false, false, false, false, false, false, false, false, false, false, false, false, false, false, false, false, false, false]
abbrev Fl34 : Array Bool := #[true, true, true, true, true, true, true, true, true, true, true, true, true, true, true, true, true, true, true, true, true, true, true, true, true, true, true, true, true, true, true, false, false, false, false]
abbrev Fl35 : Array Bool := #[true, true, true, true, true, true, true, true, true, true, true, true, true, true, true, true, true, true, true, true, true, true, true, true, true, true, true, true, true, true, true, true, false, false, false]
abbrev Fl36 : Array Bool := #[true, true, true, true, true, true, true, true, true, true, true, true, false, true, false, false, false, false, false, false, false, false, false, false, false, false, false, false, false, false, false, false, false, false, false]
abbrev Fl37 : Array Bool := #[false, false, false, false, false, false, false, false, false, false, false, false, false, false, false, false, false, false, false]
abbrev Fl38 : Array Bool := #[true, false, false, false, false, false, false, false, false, false, false, false, false, false, false, false, false, false, false]
abbrev Fl39 : Array Bool := #[true, false, true, false, false, false, false, false, false, false, false, false, false, false, false, false, false, false, false]
abbrev Fl40 : Array Bool := #[true, false, true, false, true, false, false, false, false, false, false, false, false, false, false, false, false, false, false]
abbrev Fl41 : Array Bool := #[true, false, true, false, true, true, false, false, false, false, false, false, false, false, false, false, false, false, false]
abbrev Fl42 : Array Bool := #[true, false, true, false, true, true, true, false, false, false, false, false, false, false, false, false, false, false, false]
abbrev Fl43 : Array Bool := #[true, false, true, false, true, true, true, false, false, true, false, false, false, false, false, false, false, false, false]
abbrev Fl44 : Array Bool := #[true, false, true, false, true, true, true, false, false, true, true, false, false, false, false, false, false, false, false]
abbrev Fl45 : Array Bool := #[true, true, true, false, true, true, true, false, false, true, true, false, false, false, false, false, false, false, false]
abbrev Fl46 : Array Bool := #[true, true, true, true, true, true, true, false, false, true, true, false, false, false, false, false, false, false, false]
abbrev Fl47 : Array Bool := #[true, true, true, true, true, true, true, true, false, true, true, false, false, false, false, false, false, false, false]
abbrev Fl48 : Array Bool := #[true, true, true, true, true, true, true, true, true, true, true, false, false, false, false, false, false, false, false]
abbrev Fl49 : Array Bool := #[true, true, true, true, true, true, true, true, true, true, true, true, false, false, false, false, false, false, false]
abbrev Fl50 : Array Bool := #[true, true, true, true, true, true, true, true, true, true, true, true, true, false, false, false, false, false, false]
abbrev Fl51 : Array Bool := #[true, true, true, true, true, true, true, true, true, true, true, true, true, true, false, false, false, false, false]
abbrev Fl52 : Array Bool := #[true, true, true, true, true, true, true, true, true, true, true, true, true, true, true, false, false, false, false]
abbrev Fl53 : Array Bool := #[true, true, true, true, true, true, true, true, true, true, true, true, true, true, true, true, false, false, false]
abbrev Fl54 : Array Bool := #[true, true, true, true, true, true, true, true, true, true, true, true, true, true, true, true, true, false, false]
abbrev Fl55 : Array Bool := #[true, true, true, true, true, true, true, true, true, true, true, true, true, true, true, true, true, true, false]
abbrev Fl56 : Array Bool := #[true, true, true, true, true, true, true, true, true, true, true, true, true, true, true, true, true, true, true]
abbrev Fl57 : Array Bool := #[true, true, true, true, true, true, true, true, true, true, true, true, true, false, false, false, false, false, false, false, false, false, false, false, false, false, false, false, false, false, false, false, false, false, false]
/-! ### chequerlaw04_TurnLays: function 3 -/
mutual
def chequerlaw04_TurnLays.l0 : Nat → Int → Int → Int → Int → List Int → Option (Bool)
 | 0, _, _, _, _, _ => none
 | k + 1, x1, x6, x201000, x201001, x201002 => if x6 < 8 then (if x6 < 0 then (chequerlaw04_TurnLays.j1 k x1 x6 x1 x201000 x201001 x201002) else (chequerlaw04_TurnLays.j1 k x1 x6 x6 x201000 x201001 x201002)) else ((chequerlaw04_lives.f k).bind fun t201 => (some t201))
def chequerlaw04_TurnLays.j1 : Nat → Int → Int → Int → Int → Int → List Int → Option (Bool)
 | 0, _, _, _, _, _, _ => none
 | k + 1, x1, x6, x7, x201000, x201001, x201002 => (chequerlaw04_of.f x201000 x201001 x201002).bind fun bt202 => ((turn_Lay.f k bt202.1 bt202.2.1 bt202.2.2 x7).bind fun bt207 => ((chequerref04_Lay.f k x201000 x201001 x201002 x7).bind fun bt214 => ((turn_Size.f x201000 x201001 x7).bind fun bt221 => (if x7 ≥ 0 then (chequerlaw04_TurnLays.j2 k x1 x6 x7 bt207.2.2.2 bt214.2.2.2 bt221.1 bt221.2 (decide (x7 < 8)) x201000 x201001 x201002 bt207.1 bt207.2.1 bt207.2.2.1 bt214.1 bt214.2.1 bt214.2.2.1) else (chequerlaw04_TurnLays.j2 k x1 x6 x7 bt207.2.2.2 bt214.2.2.2 bt221.1 bt221.2 false x201000 x201001 x201002 bt207.1 bt207.2.1 bt207.2.2.1 bt214.1 bt214.2.1 bt214.2.2.1)))))
def chequerlaw04_TurnLays.j2 : Nat → Int → Int → Int → Int → Int → Int → Int → Bool → Int → Int → List Int → Int → Int → List Int → Int → Int → List Int → Option (Bool)
 | 0, _, _, _, _, _, _, _, _, _, _, _, _, _, _, _, _, _ => none
 | k + 1, x1, x6, x7, x9, x11, x12, x13, x14, x201000, x201001, x201002, x214000, x214001, x214002, x221000, x221001, x221002 => if x9 = x11 then ((chequerlaw04_as.f x214000 x214001 x214002).bind fun bt223 => ((chequerref03_Same.f k bt223.1 bt223.2.1 bt223.2.2 x221000 x221001 x221002).bind fun t228 => (if t228 = true then ((turn_May.f x7).bind fun t229 => (if (t229 != x14) = true then (chequerlaw04_TurnLays.j3 k x1 x6 x7 true x201000 x201001 x201002 x221000 x221001 x221002) else (if x12 = x221000 then (if x13 = x221001 then ((turn_Name.f x7).bind fun t230 => (chequerlaw04_TurnLays.j3 k x1 x6 x7 ((t230.toList != ([] : List UInt8)) != x14) x201000 x201001 x201002 x221000 x221001 x221002)) else (chequerlaw04_TurnLays.j3 k x1 x6 x7 true x201000 x201001 x201002 x221000 x221001 x221002)) else (chequerlaw04_TurnLays.j3 k x1 x6 x7 true x201000 x201001 x201002 x221000 x221001 x221002)))) else (chequerlaw04_TurnLays.j3 k x1 x6 x7 true x201000 x201001 x201002 x221000 x221001 x221002)))) else (chequerlaw04_TurnLays.j3 k x1 x6 x7 true x201000 x201001 x201002 x221000 x221001 x221002)
def chequerlaw04_TurnLays.j3 : Nat → Int → Int → Int → Bool → Int → Int → List Int → Int → Int → List Int → Option (Bool)
 | 0, _, _, _, _, _, _, _, _, _, _ => none
 | k + 1, x1, x6, x7, x92, x201000, x201001, x201002, x221000, x221001, x221002 => if x92 = true then (some false) else (chequerlaw04_TurnLays.l1 k x1 x6 x7 0 x201000 x201001 x201002 x221000 x221001 x221002)
def chequerlaw04_TurnLays.l1 : Nat → Int → Int → Int → Int → Int → Int → List Int → Int → Int → List Int → Option (Bool)
 | 0, _, _, _, _, _, _, _, _, _, _ => none
 | k + 1, x1, x6, x7, x15, x201000, x201001, x201002, x221000, x221001, x221002 => if x15 < (x221002.length : Int) then (if x221000 = 0 then (none) else ((turn_From.f x201000 x201001 x7 (Int.tmod x15 x221000) (wrap64 (Int.tdiv x15 x221000))).bind fun bt231 => ((chequerref03_At.f x201000 x201001 x201002 bt231.1 bt231.2).bind fun bt233 => (if bt233.2 = true then (if 0 ≤ x15 then (if bt233.1 = (rd x221002 x15) then (chequerlaw04_TurnLays.l1 k x1 x6 x7 (wrap64 (x15 + 1)) x201000 x201001 x201002 x221000 x221001 x221002) else (some false)) else (none)) else (some false))))) else (chequerlaw04_TurnLays.l0 k x1 (wrap64 (x6 + 1)) x201000 x201001 x201002)
end
def chequerlaw04_TurnLays.f (k : Nat) (a0_0 : Int) (a0_1 : Int) (l0_2 : List Int) (a1 : Int) : Option (Bool) := (chequerref03_Good.f k a0_0 a0_1 l0_2 6).bind fun bt195 => (chequerlaw04_TurnLays.l0 k a1 (-1) bt195.1 bt195.2.1 bt195.2.2)
theorem chequerlaw04_TurnLays.mono_l : ∀ k, (∀ y0 y1 y2 y3 y4, LeO (chequerlaw04_TurnLays.l0 k y0 y1 y2 y3 y4) (chequerlaw04_TurnLays.l0 (k + 1) y0 y1 y2 y3 y4)) ∧ (∀ y0 y1 y2 y3 y4 y5, LeO (chequerlaw04_TurnLays.j1 k y0 y1 y2 y3 y4 y5) (chequerlaw04_TurnLays.j1 (k + 1) y0 y1 y2 y3 y4 y5)) ∧ (∀ y0 y1 y2 y3 y4 y5 y6 y7 y8 y9 y10 y11 y12 y13 y14 y15 y16, LeO (chequerlaw04_TurnLays.j2 k y0 y1 y2 y3 y4 y5 y6 y7 y8 y9 y10 y11 y12 y13 y14 y15 y16) (chequerlaw04_TurnLays.j2 (k + 1) y0 y1 y2 y3 y4 y5 y6 y7 y8 y9 y10 y11 y12 y13 y14 y15 y16)) ∧ (∀ y0 y1 y2 y3 y4 y5 y6 y7 y8 y9, LeO (chequerlaw04_TurnLays.j3 k y0 y1 y2 y3 y4 y5 y6 y7 y8 y9) (chequerlaw04_TurnLays.j3 (k + 1) y0 y1 y2 y3 y4 y5 y6 y7 y8 y9)) ∧ (∀ y0 y1 y2 y3 y4 y5 y6 y7 y8 y9, LeO (chequerlaw04_TurnLays.l1 k y0 y1 y2 y3 y4 y5 y6 y7 y8 y9) (chequerlaw04_TurnLays.l1 (k + 1) y0 y1 y2 y3 y4 y5 y6 y7 y8 y9))
 | 0 => ⟨fun _ _ _ _ _ r h => by simp [chequerlaw04_TurnLays.l0] at h, fun _ _ _ _ _ _ r h => by simp [chequerlaw04_TurnLays.j1] at h, fun _ _ _ _ _ _ _ _ _ _ _ _ _ _ _ _ _ r h => by simp [chequerlaw04_TurnLays.j2] at h, fun _ _ _ _ _ _ _ _ _ _ r h => by simp [chequerlaw04_TurnLays.j3] at h, fun _ _ _ _ _ _ _ _ _ _ r h => by simp [chequerlaw04_TurnLays.l1] at h⟩
 | k + 1 => by
  obtain ⟨ih0, ih1, ih2, ih3, ih4⟩ := chequerlaw04_TurnLays.mono_l k
  refine ⟨?_, ?_, ?_, ?_, ?_⟩
  · intro y0 y1 y2 y3 y4
    unfold chequerlaw04_TurnLays.l0
    repeat' first
    | (with_reducible exact ih0 _ _ _ _ _)
    | (with_reducible exact ih1 _ _ _ _ _ _)
    | (with_reducible exact ih2 _ _ _ _ _ _ _ _ _ _ _ _ _ _ _ _ _)
    | (with_reducible exact ih3 _ _ _ _ _ _ _ _ _ _)
    | (with_reducible exact ih4 _ _ _ _ _ _ _ _ _ _)
    | (with_reducible exact chequerlaw04_lives.mono _)
    | (with_reducible exact chequerref03_Good.mono _ _ _ _ _)
    | (with_reducible exact chequerref03_Same.mono _ _ _ _ _ _ _)
    | (with_reducible exact chequerref04_Lay.mono _ _ _ _ _)
    | (with_reducible exact turn_Lay.mono _ _ _ _ _)
    | (with_reducible exact LeO.refl _)
    | (with_reducible exact LeO.none _)
    | (with_reducible refine LeO.ite ?_ ?_)
    | (with_reducible refine LeO.bind ?_ (fun _ => ?_))
    | exact ih0 _ _ _ _ _
    | exact ih1 _ _ _ _ _ _
    | exact ih2 _ _ _ _ _ _ _ _ _ _ _ _ _ _ _ _ _
    | exact ih3 _ _ _ _ _ _ _ _ _ _
    | exact ih4 _ _ _ _ _ _ _ _ _ _
    | exact chequerlaw04_lives.mono _
    | exact chequerref03_Good.mono _ _ _ _ _
    | exact chequerref03_Same.mono _ _ _ _ _ _ _
    | exact chequerref04_Lay.mono _ _ _ _ _
    | exact turn_Lay.mono _ _ _ _ _
    | exact LeO.none _
    | refine LeO.ite ?_ ?_
    | refine LeO.bind ?_ (fun _ => ?_)
  · intro y0 y1 y2 y3 y4 y5
    unfold chequerlaw04_TurnLays.j1
    repeat' first
    | (with_reducible exact ih0 _ _ _ _ _)
    | (with_reducible exact ih1 _ _ _ _ _ _)
    | (with_reducible exact ih2 _ _ _ _ _ _ _ _ _ _ _ _ _ _ _ _ _)
    | (with_reducible exact ih3 _ _ _ _ _ _ _ _ _ _)
    | (with_reducible exact ih4 _ _ _ _ _ _ _ _ _ _)
    | (with_reducible exact chequerlaw04_lives.mono _)
    | (with_reducible exact chequerref03_Good.mono _ _ _ _ _)
    | (with_reducible exact chequerref03_Same.mono _ _ _ _ _ _ _)
    | (with_reducible exact chequerref04_Lay.mono _ _ _ _ _)
    | (with_reducible exact turn_Lay.mono _ _ _ _ _)
    | (with_reducible exact LeO.refl _)
    | (with_reducible exact LeO.none _)
    | (with_reducible refine LeO.ite ?_ ?_)
    | (with_reducible refine LeO.bind ?_ (fun _ => ?_))
    | exact ih0 _ _ _ _ _
    | exact ih1 _ _ _ _ _ _
    | exact ih2 _ _ _ _ _ _ _ _ _ _ _ _ _ _ _ _ _
    | exact ih3 _ _ _ _ _ _ _ _ _ _
    | exact ih4 _ _ _ _ _ _ _ _ _ _
    | exact chequerlaw04_lives.mono _
    | exact chequerref03_Good.mono _ _ _ _ _
    | exact chequerref03_Same.mono _ _ _ _ _ _ _
    | exact chequerref04_Lay.mono _ _ _ _ _
    | exact turn_Lay.mono _ _ _ _ _
    | exact LeO.none _
    | refine LeO.ite ?_ ?_
    | refine LeO.bind ?_ (fun _ => ?_)
  · intro y0 y1 y2 y3 y4 y5 y6 y7 y8 y9 y10 y11 y12 y13 y14 y15 y16
    unfold chequerlaw04_TurnLays.j2
    repeat' first
    | (with_reducible exact ih0 _ _ _ _ _)
    | (with_reducible exact ih1 _ _ _ _ _ _)
    | (with_reducible exact ih2 _ _ _ _ _ _ _ _ _ _ _ _ _ _ _ _ _)
    | (with_reducible exact ih3 _ _ _ _ _ _ _ _ _ _)
    | (with_reducible exact ih4 _ _ _ _ _ _ _ _ _ _)
    | (with_reducible exact chequerlaw04_lives.mono _)
    | (with_reducible exact chequerref03_Good.mono _ _ _ _ _)
    | (with_reducible exact chequerref03_Same.mono _ _ _ _ _ _ _)
    | (with_reducible exact chequerref04_Lay.mono _ _ _ _ _)
    | (with_reducible exact turn_Lay.mono _ _ _ _ _)
    | (with_reducible exact LeO.refl _)
    | (with_reducible exact LeO.none _)
    | (with_reducible refine LeO.ite ?_ ?_)
    | (with_reducible refine LeO.bind ?_ (fun _ => ?_))
    | exact ih0 _ _ _ _ _
    | exact ih1 _ _ _ _ _ _
    | exact ih2 _ _ _ _ _ _ _ _ _ _ _ _ _ _ _ _ _
    | exact ih3 _ _ _ _ _ _ _ _ _ _
    | exact ih4 _ _ _ _ _ _ _ _ _ _
    | exact chequerlaw04_lives.mono _
    | exact chequerref03_Good.mono _ _ _ _ _
    | exact chequerref03_Same.mono _ _ _ _ _ _ _
    | exact chequerref04_Lay.mono _ _ _ _ _
    | exact turn_Lay.mono _ _ _ _ _
    | exact LeO.none _
    | refine LeO.ite ?_ ?_
    | refine LeO.bind ?_ (fun _ => ?_)
  · intro y0 y1 y2 y3 y4 y5 y6 y7 y8 y9
    unfold chequerlaw04_TurnLays.j3
    repeat' first
    | (with_reducible exact ih0 _ _ _ _ _)
    | (with_reducible exact ih1 _ _ _ _ _ _)
    | (with_reducible exact ih2 _ _ _ _ _ _ _ _ _ _ _ _ _ _ _ _ _)
    | (with_reducible exact ih3 _ _ _ _ _ _ _ _ _ _)
    | (with_reducible exact ih4 _ _ _ _ _ _ _ _ _ _)
    | (with_reducible exact chequerlaw04_lives.mono _)
    | (with_reducible exact chequerref03_Good.mono _ _ _ _ _)
    | (with_reducible exact chequerref03_Same.mono _ _ _ _ _ _ _)
    | (with_reducible exact chequerref04_Lay.mono _ _ _ _ _)
    | (with_reducible exact turn_Lay.mono _ _ _ _ _)
    | (with_reducible exact LeO.refl _)
    | (with_reducible exact LeO.none _)
    | (with_reducible refine LeO.ite ?_ ?_)
    | (with_reducible refine LeO.bind ?_ (fun _ => ?_))
    | exact ih0 _ _ _ _ _
    | exact ih1 _ _ _ _ _ _
    | exact ih2 _ _ _ _ _ _ _ _ _ _ _ _ _ _ _ _ _
    | exact ih3 _ _ _ _ _ _ _ _ _ _
    | exact ih4 _ _ _ _ _ _ _ _ _ _
    | exact chequerlaw04_lives.mono _
    | exact chequerref03_Good.mono _ _ _ _ _
    | exact chequerref03_Same.mono _ _ _ _ _ _ _
    | exact chequerref04_Lay.mono _ _ _ _ _
    | exact turn_Lay.mono _ _ _ _ _
    | exact LeO.none _
    | refine LeO.ite ?_ ?_
    | refine LeO.bind ?_ (fun _ => ?_)
  · intro y0 y1 y2 y3 y4 y5 y6 y7 y8 y9
    unfold chequerlaw04_TurnLays.l1
    repeat' first
    | (with_reducible exact ih0 _ _ _ _ _)
    | (with_reducible exact ih1 _ _ _ _ _ _)
    | (with_reducible exact ih2 _ _ _ _ _ _ _ _ _ _ _ _ _ _ _ _ _)
    | (with_reducible exact ih3 _ _ _ _ _ _ _ _ _ _)
    | (with_reducible exact ih4 _ _ _ _ _ _ _ _ _ _)
    | (with_reducible exact chequerlaw04_lives.mono _)
    | (with_reducible exact chequerref03_Good.mono _ _ _ _ _)
    | (with_reducible exact chequerref03_Same.mono _ _ _ _ _ _ _)
    | (with_reducible exact chequerref04_Lay.mono _ _ _ _ _)
    | (with_reducible exact turn_Lay.mono _ _ _ _ _)
    | (with_reducible exact LeO.refl _)
    | (with_reducible exact LeO.none _)
    | (with_reducible refine LeO.ite ?_ ?_)
    | (with_reducible refine LeO.bind ?_ (fun _ => ?_))
    | exact ih0 _ _ _ _ _
    | exact ih1 _ _ _ _ _ _
    | exact ih2 _ _ _ _ _ _ _ _ _ _ _ _ _ _ _ _ _
    | exact ih3 _ _ _ _ _ _ _ _ _ _
    | exact ih4 _ _ _ _ _ _ _ _ _ _
    | exact chequerlaw04_lives.mono _
    | exact chequerref03_Good.mono _ _ _ _ _
    | exact chequerref03_Same.mono _ _ _ _ _ _ _
    | exact chequerref04_Lay.mono _ _ _ _ _
    | exact turn_Lay.mono _ _ _ _ _
    | exact LeO.none _
    | refine LeO.ite ?_ ?_
    | refine LeO.bind ?_ (fun _ => ?_)
theorem chequerlaw04_TurnLays.mono : ∀ a0 a1 a2 a3 k, LeO (chequerlaw04_TurnLays.f k a0 a1 a2 a3) (chequerlaw04_TurnLays.f (k + 1) a0 a1 a2 a3) := by
 intro a0 a1 a2 a3 k
 obtain ⟨ih0, ih1, ih2, ih3, ih4⟩ := chequerlaw04_TurnLays.mono_l k
 unfold chequerlaw04_TurnLays.f
 repeat' first
  | (with_reducible exact ih0 _ _ _ _ _)
  | (with_reducible exact ih1 _ _ _ _ _ _)
  | (with_reducible exact ih2 _ _ _ _ _ _ _ _ _ _ _ _ _ _ _ _ _)
  | (with_reducible exact ih3 _ _ _ _ _ _ _ _ _ _)
  | (with_reducible exact ih4 _ _ _ _ _ _ _ _ _ _)
  | (with_reducible exact chequerlaw04_lives.mono _)
  | (with_reducible exact chequerref03_Good.mono _ _ _ _ _)
  | (with_reducible exact chequerref03_Same.mono _ _ _ _ _ _ _)
  | (with_reducible exact chequerref04_Lay.mono _ _ _ _ _)
  | (with_reducible exact turn_Lay.mono _ _ _ _ _)
  | (with_reducible exact LeO.refl _)
  | (with_reducible exact LeO.none _)
  | (with_reducible refine LeO.ite ?_ ?_)
  | (with_reducible refine LeO.bind ?_ (fun _ => ?_))
  | exact ih0 _ _ _ _ _
  | exact ih1 _ _ _ _ _ _
  | exact ih2 _ _ _ _ _ _ _ _ _ _ _ _ _ _ _ _ _
  | exact ih3 _ _ _ _ _ _ _ _ _ _
  | exact ih4 _ _ _ _ _ _ _ _ _ _
  | exact chequerlaw04_lives.mono _
  | exact chequerref03_Good.mono _ _ _ _ _
  | exact chequerref03_Same.mono _ _ _ _ _ _ _
  | exact chequerref04_Lay.mono _ _ _ _ _
  | exact turn_Lay.mono _ _ _ _ _
  | exact LeO.none _
  | refine LeO.ite ?_ ?_
  | refine LeO.bind ?_ (fun _ => ?_)
def chequerlaw04_TurnLays.T12 : Bool × List (List Nat × List Nat) := (true, [([], []), ([], []), ([0, 1], [0, 1]), ([2], [2]), ([3], [3]), ([4, 3, 3], [3, 4]), ([3], [3]), ([5, 6, 5, 3], [3, 5, 6]), ([7, 3], [3, 7]), ([3, 8], [3, 8]), ([9, 7], [9]), ([10], [10]), ([11, 10, 10], [10, 11]), ([10], [10]), ([12, 13, 10], [10, 12, 13]), ([10, 14], [10, 14]), ([15, 12], [15]), ([16], [16]), ([16], [16]), ([18, 16], [16, 18]), ([17, 19, 16], [16, 17, 19]), ([16, 20], [16, 20]), ([21, 16], [21]), ([22], [22]), ([22], [22]), ([24, 22], [22, 24]), ([23, 25, 22], [22, 23, 25]), ([22, 26], [22, 26]), ([27, 22], [27]), ([28], [28]), ([29, 28, 28], [28, 29]), ([30, 28], [28, 30]), ([28], [28]), ([31, 32, 28], [28, 31, 32]), ([28, 33], [28, 33])])
def chequerlaw04_TurnLays.B12 : List Nat := [0, 0, 3, 7, 15, 31, 15, 127, 255, 511, 1023, 2047, 4095, 2047, 16383, 32767, 65535, 131071, 131071, 393215, 1048575, 2097151, 4194303, 8388607, 8388607, 25165823, 67108863, 134217727, 268435455, 536870911, 1073741823, 2147483647, 536870911, 8589934591, 17179869183]
theorem chequerlaw04_TurnLays.tab12 : rtab .any (opsOf Try.f3 12) = chequerlaw04_TurnLays.T12 := by kernel_rfl
theorem chequerlaw04_TurnLays.bits12 : waitsOk chequerlaw04_TurnLays.T12.2 chequerlaw04_TurnLays.B12 = true := by kernel_rfl
def chequerlaw04_TurnLays.T17 : Bool × List (List Nat × List Nat) := (true, [([], []), ([0], [0]), ([], []), ([2], [2]), ([], []), ([], []), ([], []), ([6], [6]), ([5, 7], [5, 7]), ([], []), ([], []), ([10], [10]), ([9, 11], [9, 11]), ([1, 3, 4, 8, 12], [1, 3, 4, 8, 12]), ([13], [13]), ([14], [14]), ([14], [14]), ([15, 13, 0, 1, 2, 3, 4, 5, 6, 7, 8, 9, 10, 11, 12, 13, 14, 15], [15]), ([16, 17, 0, 1, 2, 3, 4, 5, 6, 7, 8, 9, 10, 11, 12, 13, 14, 15, 16, 17], [16])])
def chequerlaw04_TurnLays.B17 : List Nat := [0, 1, 0, 4, 0, 0, 0, 64, 224, 0, 0, 1024, 3584, 8191, 16383, 32767, 32767, 65535, 262143]
theorem chequerlaw04_TurnLays.tab17 : rtab .any (opsOf Try.f3 17) = chequerlaw04_TurnLays.T17 := by kernel_rfl
theorem chequerlaw04_TurnLays.bits17 : waitsOk chequerlaw04_TurnLays.T17.2 chequerlaw04_TurnLays.B17 = true := by kernel_rfl
set_option maxHeartbeats 8000000 in
set_option maxRecDepth 100000 in
theorem chequerlaw04_TurnLays.calls (k : Nat) (a0_0 : Int) (a0_1 : Int) (A0_2 : Option Addr) (c0_2 : Nat) (l0_2 : List Int) (a1 : Int) (r : Bool) (w : World) (hr0_2 : Kd.C (Kd.int .u64) w A0_2 l0_2.length l0_2) (hc0_2 : l0_2.length ≤ c0_2) (h : chequerlaw04_TurnLays.f k a0_0 a0_1 l0_2 a1 = some r) :
 Calls Try.prog 3 #[.agg #[.int .i64 a0_0, .int .i64 a0_1, .slice A0_2 l0_2.length c0_2], .int .i64 a1] w fun e w' => e = .returned (.bool r) ∧ Below w.heap.size w w' := by
 have hu24 := Try.underlying24
 have hu26 := Try.underlying26
 have HR0_2 := Aside0.mk hr0_2
 have HC0_2 := Aside0.mk hc0_2
 clear hr0_2 hc0_2
 have HB := Aside0.mk (Below.refl w.heap.size w)
 have H : ((chequerref03_Good.f k a0_0 a0_1 l0_2 6).bind fun bt195 => (chequerlaw04_TurnLays.l0 k a1 (-1) bt195.1 bt195.2.1 bt195.2.2)) = some r := h
 clear h
 replace H := Option.bind_eq_some_iff.mp H
 obtain ⟨⟨t195, t196, t197⟩, A30, H⟩ := H
 replace H : (chequerlaw04_TurnLays.l0 k a1 (-1) t195 t196 t197) = some r := H
 have A3 := Aside0.mk A30
 clear A30
 have H' := Aside0.mk H
 clear H
 go_enter Try.func3, Try.ntmps3
 go_wp2_with (first | ((with_reducible refine gate_dst (N := 2) rfl ?_); refine box_event ?hg (N := 2) ?hd (cs := #[.int .i64 a0_0, .int .i64 a0_1, .slice A0_2 l0_2.length c0_2]) (t := 24) ?hr ?_; (case hd => rfl); (case hg => rfl); (case hr => first | (go_simp; done) | (go_simp; rfl)); intro gb194 hg w4 hbox hb; have BK194 := Aside0.mk (hbox); have GW194 := Aside0.mk ((by rw [hg]; exact (below_size bp_) : w.heap.size ≤ gb194)); have GE194 := Aside0.mk ((by rw [hg]; exact (below_size bp_) : w.heap.size ≤ gb194)); replace HB := Aside0.mk (below_step bp_ hb); clear hb hbox hg; have hcz5_0 : w4.cell? ⟨gb194, 0, none⟩ = some (.int .i64 a0_0) := (blk_cell BK194.out 0).trans rfl; have hcz5_1 : w4.cell? ⟨gb194, 1, none⟩ = some (.int .i64 a0_1) := (blk_cell BK194.out 1).trans rfl; have hcz5_2 : w4.cell? ⟨gb194, 2, none⟩ = some (.slice A0_2 l0_2.length c0_2) := (blk_cell BK194.out 2).trans rfl; have hfz5_0 := blk_frozen BK194.out 0; have hfz5_1 := blk_frozen BK194.out 1; have hfz5_2 := blk_frozen BK194.out 2) | ((with_reducible refine gate_callee (f := 11) rfl ?_); refine goQ_ (some 21) Try.func11 #[.agg #[.int .i64 a0_0, .int .i64 a0_1, .slice A0_2 l0_2.length c0_2], .int .i64 6] ?_; (with_reducible refine (chequerref03_Good.calls k a0_0 a0_1 _ _ l0_2 6 t195 t196 t197 _ ?side1 ?side2 A3.out).mono ?_); (case side1 => repeat (first | exact (Kd.C_below HR0_2.out HB.out) | (with_reducible refine Kd.C_alloc ?_ _) | (with_reducible refine Kd.C_drewN ?_ _) | (with_reducible refine Kd.C_drew ?_))); (case side2 => exact HC0_2.out); rintro e w6 ⟨v198, rfl, ho0, hb⟩; refine ⟨_, rfl, ?_⟩; have HO199 := Aside0.mk (Kd.R_lower ho0 (below_size bp_)); replace HB := Aside0.mk (below_step bp_ hb); (try clear hb); (try clear hb2); (try clear hk); (try clear hi); (try clear ho0)) | ((with_reducible refine gate_dst (N := 5) rfl ?_); refine box_event ?hg (N := 5) ?hd (cs := #[.int .i64 0, .int .i64 0, .slice none 0 0]) (t := 24) ?hr ?_; (case hd => rfl); (case hg => rfl); (case hr => first | (go_simp; done) | (go_simp; rfl)); intro gb200 hg w7 hbox hb; replace HO199 := Aside0.mk (Kd.R_below (rp_ HO199.out) hb); have BK200 := Aside0.mk (hbox); have GW200 := Aside0.mk ((by rw [hg]; exact (below_size bp_) : w.heap.size ≤ gb200)); have GE200 := Aside0.mk ((by rw [hg]; exact (below_size bp_) : w.heap.size ≤ gb200)); replace HB := Aside0.mk (below_step bp_ hb); clear hb hbox hg; have hcz8_0 : w7.cell? ⟨gb200, 0, none⟩ = some (.int .i64 0) := (blk_cell BK200.out 0).trans rfl; have hcz8_1 : w7.cell? ⟨gb200, 1, none⟩ = some (.int .i64 0) := (blk_cell BK200.out 1).trans rfl; have hcz8_2 : w7.cell? ⟨gb200, 2, none⟩ = some (.slice none 0 0) := (blk_cell BK200.out 2).trans rfl; have hfz8_0 := blk_frozen BK200.out 0; have hfz8_1 := blk_frozen BK200.out 1; have hfz8_2 := blk_frozen BK200.out 2; obtain ⟨Ao9, co9, eo9⟩ := Kd.R_slice HO199.out; subst eo9))
 go_loopg [6] k (fun kq v6 w' => ∃ (x6_1 : Int), v6 = .int .i64 x6_1 ∧ Aside0 (chequerlaw04_TurnLays.l0 kq a1 x6_1 t195 t196 t197 = some r) ∧ Aside0 (kq ≤ k) ∧ Aside0 (Kd.R (Kd.int .u64) 41 w' w.heap.size (fun _ => True) (.slice Ao9 t197.length co9) t197) ∧ Aside0 (w'.heap[gb200]? = some (.cells #[.int .i64 t195, .int .i64 t196, (.slice Ao9 t197.length co9)] 24 (0, 0))) ∧ Aside0 (Below w.heap.size w w'))
 case atStart => exact ⟨((-1)), (by first | rfl | (simp; done) | (simp [*]; done)), H', ⟨Nat.le_refl _⟩, ⟨rf_ HO199.out BK200.out (by decide) (fun _ hk => trivial)⟩, ⟨by (with_reducible repeat (first | refine blk_drewN ?_ _ | refine blk_drew ?_ | refine blk_alloc ?_ _)); refine blk_put (cs := #[.int .i64 t195, .int .i64 t196, .slice none 0 0]) ?_ 2 _ rfl; (with_reducible repeat (first | refine blk_drewN ?_ _ | refine blk_drew ?_ | refine blk_alloc ?_ _)); refine blk_put (cs := #[.int .i64 t195, .int .i64 0, .slice none 0 0]) ?_ 1 _ rfl; (with_reducible repeat (first | refine blk_drewN ?_ _ | refine blk_drew ?_ | refine blk_alloc ?_ _)); refine blk_put (cs := #[.int .i64 0, .int .i64 0, .slice none 0 0]) ?_ 0 _ rfl; (with_reducible repeat (first | refine blk_drewN ?_ _ | refine blk_drew ?_ | refine blk_alloc ?_ _)); exact BK200.out⟩, ⟨bp_⟩⟩
 case round =>
  clear H'
  try clear c1
  try clear p2
  try clear c3
  try clear hcz5_0
  try clear hcz5_1
  try clear hcz5_2
  try clear hcz8_0
  try clear hcz8_1
  try clear hcz8_2
  try clear hfz5_0
  try clear hfz5_1
  try clear hfz5_2
  try clear hfz8_0
  try clear hfz8_1
  try clear hfz8_2
  obtain ⟨x6_1, rfl, HA, HK1, HO_201002, BK200, HB⟩ := hrel
  cases gk with
  | zero => exact absurd HA.out (by simp [chequerlaw04_TurnLays.l0])
  | succ k1 =>
   have H := HA.out
   clear HA
   simp only [chequerlaw04_TurnLays.l0] at H
   by_cases c10 : x6_1 < 8
   · rw [if_pos c10] at H
     have c10b0 : decide (x6_1 < 8) = true := decide_eq_true c10
     clear c10
     have HC11 := Aside0.mk H
     clear H
     go_upto_if 28 with (fail)
     go_cut [7] (fun v7 wc => ∃ (kq : Nat) (x7_10 : Int), v7 = .int .i64 x7_10 ∧ Aside0 (chequerlaw04_TurnLays.j1 kq a1 x6_1 x7_10 t195 t196 t197 = some r) ∧ Aside0 (kq ≤ k1) ∧ Aside0 (Kd.R (Kd.int .u64) 41 wc w.heap.size (fun _ => True) (.slice Ao9 t197.length co9) t197) ∧ Aside0 (wc.heap[gb200]? = some (.cells #[.int .i64 t195, .int .i64 t196, (.slice Ao9 t197.length co9)] 24 (0, 0))) ∧ Aside0 (Below w.heap.size w wc))
     case first =>
      have H := HC11.out
      clear HC11
      by_cases c12 : x6_1 < 0
      · rw [if_pos c12] at H
        have c12b0 : decide (x6_1 < 0) = true := decide_eq_true c12
        clear c12
        (first | rw [c12b0] | (simp only [i64_w, i32_w]; rw [c12b0]) | skip)
        have H' := Aside0.mk H
        clear H
        go_wp2
        go_meet
        case rel => exact ⟨_, (a1), (by first | rfl | (simp; done) | (simp [*]; done)), H', ⟨by have := HK1.out; first | omega | exact Nat.le_refl _⟩, ⟨rp_ HO_201002.out⟩, ⟨hp_ BK200.out⟩, ⟨bp_⟩⟩
      · rw [if_neg c12] at H
        have c12b0 : decide (x6_1 < 0) = false := decide_eq_false c12
        clear c12
        (first | rw [c12b0] | (simp only [i64_w, i32_w]; rw [c12b0]) | skip)
        have H' := Aside0.mk H
        clear H
        go_wp2
        go_meet
        case rel => exact ⟨_, (x6_1), (by first | rfl | (simp; done) | (simp [*]; done)), H', ⟨by have := HK1.out; first | omega | exact Nat.le_refl _⟩, ⟨rp_ HO_201002.out⟩, ⟨hp_ BK200.out⟩, ⟨bp_⟩⟩
     case rest =>
      clear HC11
      try clear c1
      try clear p2
      try clear c3
      try clear c10
      try clear c10b0
      try clear c11
      try clear c12
      try clear c12b0
      try clear hcz5_0
      try clear hcz5_1
      try clear hcz5_2
      try clear hcz8_0
      try clear hcz8_1
      try clear hcz8_2
      try clear hfz5_0
      try clear hfz5_1
      try clear hfz5_2
      try clear hfz8_0
      try clear hfz8_1
      try clear hfz8_2
      try clear p2
      obtain ⟨kq, x7_10, rfl, HA, HJ10, HO_201002, BK200, HB⟩ := hcut
      cases kq with
      | zero => exact absurd HA.out (by simp [chequerlaw04_TurnLays.j1])
      | succ kj10 =>
       have H := HA.out
       clear HA
       simp only [chequerlaw04_TurnLays.j1] at H
       replace H := Option.bind_eq_some_iff.mp H
       obtain ⟨⟨t202, t203, t204⟩, A130, H⟩ := H
       replace H : ((turn_Lay.f kj10 t202 t203 t204 x7_10).bind fun bt207 => ((chequerref04_Lay.f kj10 t195 t196 t197 x7_10).bind fun bt214 => ((turn_Size.f t195 t196 x7_10).bind fun bt221 => (if x7_10 ≥ 0 then (chequerlaw04_TurnLays.j2 kj10 a1 x6_1 x7_10 bt207.2.2.2 bt214.2.2.2 bt221.1 bt221.2 (decide (x7_10 < 8)) t195 t196 t197 bt207.1 bt207.2.1 bt207.2.2.1 bt214.1 bt214.2.1 bt214.2.2.1) else (chequerlaw04_TurnLays.j2 kj10 a1 x6_1 x7_10 bt207.2.2.2 bt214.2.2.2 bt221.1 bt221.2 false t195 t196 t197 bt207.1 bt207.2.1 bt207.2.2.1 bt214.1 bt214.2.1 bt214.2.2.1))))) = some r := H
       have A13 := Aside0.mk A130
       clear A130
       replace H := Option.bind_eq_some_iff.mp H
       obtain ⟨⟨t207, t208, t209, t212⟩, A140, H⟩ := H
       replace H : ((chequerref04_Lay.f kj10 t195 t196 t197 x7_10).bind fun bt214 => ((turn_Size.f t195 t196 x7_10).bind fun bt221 => (if x7_10 ≥ 0 then (chequerlaw04_TurnLays.j2 kj10 a1 x6_1 x7_10 t212 bt214.2.2.2 bt221.1 bt221.2 (decide (x7_10 < 8)) t195 t196 t197 t207 t208 t209 bt214.1 bt214.2.1 bt214.2.2.1) else (chequerlaw04_TurnLays.j2 kj10 a1 x6_1 x7_10 t212 bt214.2.2.2 bt221.1 bt221.2 false t195 t196 t197 t207 t208 t209 bt214.1 bt214.2.1 bt214.2.2.1)))) = some r := H
       have A14 := Aside0.mk A140
       clear A140
       replace H := Option.bind_eq_some_iff.mp H
       obtain ⟨⟨t214, t215, t216, t219⟩, A150, H⟩ := H
       replace H : ((turn_Size.f t195 t196 x7_10).bind fun bt221 => (if x7_10 ≥ 0 then (chequerlaw04_TurnLays.j2 kj10 a1 x6_1 x7_10 t212 t219 bt221.1 bt221.2 (decide (x7_10 < 8)) t195 t196 t197 t207 t208 t209 t214 t215 t216) else (chequerlaw04_TurnLays.j2 kj10 a1 x6_1 x7_10 t212 t219 bt221.1 bt221.2 false t195 t196 t197 t207 t208 t209 t214 t215 t216))) = some r := H
       have A15 := Aside0.mk A150
       clear A150
       replace H := Option.bind_eq_some_iff.mp H
       obtain ⟨⟨t221, t222⟩, A160, H⟩ := H
       replace H : (if x7_10 ≥ 0 then (chequerlaw04_TurnLays.j2 kj10 a1 x6_1 x7_10 t212 t219 t221 t222 (decide (x7_10 < 8)) t195 t196 t197 t207 t208 t209 t214 t215 t216) else (chequerlaw04_TurnLays.j2 kj10 a1 x6_1 x7_10 t212 t219 t221 t222 false t195 t196 t197 t207 t208 t209 t214 t215 t216)) = some r := H
       have A16 := Aside0.mk A160
       clear A160
       have HC17 := Aside0.mk H
       clear H
       have hcz18_0 : wc.cell? ⟨gb200, 0, none⟩ = some (.int .i64 t195) := (blk_cell BK200.out 0).trans rfl
       have hcz18_1 : wc.cell? ⟨gb200, 1, none⟩ = some (.int .i64 t196) := (blk_cell BK200.out 1).trans rfl
       have hcz18_2 : wc.cell? ⟨gb200, 2, none⟩ = some (.slice Ao9 t197.length co9) := (blk_cell BK200.out 2).trans rfl
       have hfz18_0 := blk_frozen BK200.out 0
       have hfz18_1 := blk_frozen BK200.out 1
       have hfz18_2 := blk_frozen BK200.out 2
       go_upto_region 11 with (first | ((with_reducible refine gate_callee (f := 13) rfl ?_); refine goQ_ (some 32) Try.func13 #[.agg #[.int .i64 t195, .int .i64 t196, .slice Ao9 t197.length co9]] ?_; (with_reducible refine (chequerlaw04_of.calls t195 t196 (fun k_ => some k_ = (.slice Ao9 t197.length co9 : Value).ownBlock) _ _ t197 t202 t203 t204 _ ?side1 A13.out).mono ?_); (case side1 => exact Kd.R_V (Kd.R_tight rfl (Kd.R_types (HO_201002.out) BK200.out (by decide)))); rintro e w19 ⟨v205, rfl, ho0, hb⟩; refine ⟨_, rfl, ?_⟩; have HO206 := Aside0.mk (Kd.V_lower (Kd.V_mono (ok' := fun k_ => k_ ≠ gb200) ho0 (fun k_ hk_ => Or.elim hk_ (fun hs_ => ((Kd.R_types (HO_201002.out) BK200.out (by decide)).1 k_ hs_.symm).2) (fun hn_ => (Kd.freshB (g := gb200) (o := .cells #[.int .i64 t195, .int .i64 t196, .slice Ao9 t197.length co9] 24 (0, 0)) (hp_ BK200.out) k_ hn_)))) (below_size bp_)); replace HO_201002 := Aside0.mk (Kd.R_below (rp_ HO_201002.out) hb); replace BK200 := Aside0.mk (blk_below (hp_ BK200.out) hb); replace HB := Aside0.mk (below_step bp_ hb); (try clear hb); (try clear hb2); (try clear hk); (try clear hi); (try clear ho0); obtain ⟨Ao20, co20, eo20⟩ := Kd.V_slice HO206.out; subst eo20) | ((with_reducible refine gate_callee (f := 12) rfl ?_); refine goQ_ (some 34) Try.func12 #[.agg #[.int .i64 t202, .int .i64 t203, .slice Ao20 t204.length co20], .int .i64 x7_10] ?_; (with_reducible refine (turn_Lay.calls kj10 t202 t203 _ _ t204 x7_10 t207 t208 t209 t212 _ ?side1 ?side2 A14.out).mono ?_); (case side1 => exact cp_ (Kd.V_reads' HO206.out).2.2); (case side2 => exact (Kd.V_reads' HO206.out).2.1); rintro e w21 ⟨v210, rfl, ho0, hb⟩; refine ⟨_, rfl, ?_⟩; replace HO206 := Aside0.mk (Kd.V_elder' (vp_ HO206.out) (Kd.R_base ho0) hb); have HO211 := Aside0.mk (Kd.R_lower (Kd.R_new' ho0 (Kd.R_lt (rp_ HO_201002.out))) (below_size bp_)); replace HO_201002 := Aside0.mk (Kd.R_elder' (rp_ HO_201002.out) (Kd.R_base ho0) hb); replace BK200 := Aside0.mk (blk_below (hp_ BK200.out) hb); replace HB := Aside0.mk (below_step bp_ hb); (try clear hb); (try clear hb2); (try clear hk); (try clear hi); (try clear ho0)) | ((with_reducible refine gate_dst (N := 8) rfl ?_); refine box_event ?hg (N := 8) ?hd (cs := #[.int .i64 0, .int .i64 0, .slice none 0 0]) (t := 26) ?hr ?_; (case hd => rfl); (case hg => rfl); (case hr => first | (go_simp; done) | (go_simp; rfl)); intro gb213 hg w22 hbox hb; replace HO_201002 := Aside0.mk (Kd.R_below (rp_ HO_201002.out) hb); replace HO206 := Aside0.mk (Kd.V_below (Kd.V_elderB (vp_ HO206.out) gb213 (Nat.le_of_eq hg.symm)) hb); replace HO211 := Aside0.mk (Kd.R_below (rp_ HO211.out) hb); have BK213 := Aside0.mk (hbox); have GW213 := Aside0.mk ((by rw [hg]; exact (below_size bp_) : w.heap.size ≤ gb213)); have GE213 := Aside0.mk ((by rw [hg]; exact (below_size bp_) : w.heap.size ≤ gb213)); replace HB := Aside0.mk (below_step bp_ hb); have NB200_213 := Aside0.mk ((nlt_ hg (hp_ BK200.out))); have NB213_200 := Aside0.mk ((ngt_ hg (hp_ BK200.out))); replace BK200 := Aside0.mk (blk_below (hp_ BK200.out) hb); clear hb hbox hg; have hnb23 := NB213_200.out; have hnc23 := NB200_213.out; have hcz24_0 : w22.cell? ⟨gb213, 0, none⟩ = some (.int .i64 0) := (blk_cell BK213.out 0).trans rfl; have hcz24_1 : w22.cell? ⟨gb213, 1, none⟩ = some (.int .i64 0) := (blk_cell BK213.out 1).trans rfl; have hcz24_2 : w22.cell? ⟨gb213, 2, none⟩ = some (.slice none 0 0) := (blk_cell BK213.out 2).trans rfl; have hfz24_0 := blk_frozen BK213.out 0; have hfz24_1 := blk_frozen BK213.out 1; have hfz24_2 := blk_frozen BK213.out 2; obtain ⟨Ao25, co25, eo25⟩ := Kd.R_slice HO211.out; subst eo25) | ((with_reducible refine gate_store (t := 26) (p := 8) rfl ?_); refine store_event (t := 26) (p := 8) (v := ?vo_w26) (w1 := (((w22.setCell ⟨gb213, 0, none⟩ (.int .i64 t207)).setCell ⟨gb213, 1, none⟩ (.int .i64 t208)).setCell ⟨gb213, 2, none⟩ (.slice Ao25 t209.length co25))) ?hg ?ho ?hn ?hr ?_; (case ho => rfl); (case hg => rfl); (case hn => rfl); (case hr => first | (go_simp; done) | (go_simp; rfl)); intro w26 hw; replace HO_201002 : Aside0 (Kd.R (Kd.int .u64) 41 w26 w.heap.size (fun k_ => some k_ ≠ (.slice Ao25 t209.length co25 : Value).ownBlock) (.slice Ao9 t197.length co9) t197) := ⟨(by rw [hw]; exact (rf_ HO_201002.out BK213.out (by decide) (fun _ hk => hk.1.2)))⟩; replace HO206 : Aside0 (Kd.V (Kd.int .u64) 41 w26 w.heap.size (fun k_ => some k_ ≠ (.slice Ao25 t209.length co25 : Value).ownBlock ∧ k_ ≠ gb200 ∧ k_ ≠ gb213) (.slice Ao20 t204.length co20) t204) := ⟨(by rw [hw]; exact (by (with_reducible repeat (first | apply Kd.V_alloc | apply Kd.V_drewN | apply Kd.V_drew)); exact Kd.V_mono (Kd.V_far (p := ⟨gb213, 2, none⟩) (Kd.V_far (p := ⟨gb213, 1, none⟩) (Kd.V_far (p := ⟨gb213, 0, none⟩) (Kd.V_mono HO206.out (fun k_ hk => (⟨hk, hk.2⟩ : _ ∧ k_ ≠ gb213))) (fun _ hk => hk.2) (.int .i64 t207)) (fun _ hk => hk.2) (.int .i64 t208)) (fun _ hk => hk.2) (.slice Ao25 t209.length co25)) (fun _ hk => ⟨hk.1.1.2, ⟨hk.1.1.1, hk.1.2⟩⟩)))⟩; replace HO211 : Aside0 (Kd.R (Kd.int .u64) 41 w26 w.heap.size (fun k_ => some k_ ≠ (.slice Ao9 t197.length co9 : Value).ownBlock) (.slice Ao25 t209.length co25) t209) := ⟨(by rw [hw]; exact (rf_ HO211.out BK213.out (by decide) (fun _ hk => hk.1.2)))⟩; replace BK200 : Aside0 (w26.heap[gb200]? = some (.cells #[.int .i64 t195, .int .i64 t196, .slice Ao9 t197.length co9] 24 (0, 0))) := ⟨(by rw [hw]; exact (hf_ BK200.out NB200_213.out))⟩; replace BK213 : Aside0 (w26.heap[gb213]? = some (.cells #[.int .i64 t207, .int .i64 t208, .slice Ao25 t209.length co25] 26 (0, 0))) := ⟨(by rw [hw]; exact (by (with_reducible repeat (first | refine blk_drewN ?_ _ | refine blk_drew ?_ | refine blk_alloc ?_ _)); refine blk_put (cs := #[.int .i64 t207, .int .i64 t208, .slice none 0 0]) ?_ 2 _ rfl; (with_reducible repeat (first | refine blk_drewN ?_ _ | refine blk_drew ?_ | refine blk_alloc ?_ _)); refine blk_put (cs := #[.int .i64 t207, .int .i64 0, .slice none 0 0]) ?_ 1 _ rfl; (with_reducible repeat (first | refine blk_drewN ?_ _ | refine blk_drew ?_ | refine blk_alloc ?_ _)); refine blk_put (cs := #[.int .i64 0, .int .i64 0, .slice none 0 0]) ?_ 0 _ rfl; (with_reducible repeat (first | refine blk_drewN ?_ _ | refine blk_drew ?_ | refine blk_alloc ?_ _)); exact BK213.out))⟩; replace HB : Aside0 (Below w.heap.size w w26) := ⟨(by rw [hw]; exact bp_)⟩; clear hw; have hcz27_0 : w26.cell? ⟨gb200, 0, none⟩ = some (.int .i64 t195) := (blk_cell BK200.out 0).trans rfl; have hcz27_1 : w26.cell? ⟨gb200, 1, none⟩ = some (.int .i64 t196) := (blk_cell BK200.out 1).trans rfl; have hcz27_2 : w26.cell? ⟨gb200, 2, none⟩ = some (.slice Ao9 t197.length co9) := (blk_cell BK200.out 2).trans rfl; have hfz27_0 := blk_frozen BK200.out 0; have hfz27_1 := blk_frozen BK200.out 1; have hfz27_2 := blk_frozen BK200.out 2) | ((with_reducible refine gate_callee (f := 14) rfl ?_); refine goQ_ (some 40) Try.func14 #[.agg #[.int .i64 t195, .int .i64 t196, .slice Ao9 t197.length co9], .int .i64 x7_10] ?_; (with_reducible refine (chequerref04_Lay.calls kj10 t195 t196 (fun k_ => some k_ = (.slice Ao9 t197.length co9 : Value).ownBlock) _ _ t197 x7_10 t214 t215 t216 t219 _ ?side1 A15.out).mono ?_); (case side1 => exact Kd.R_V (Kd.R_tight rfl (Kd.R_types (Kd.R_types (HO_201002.out) BK200.out (by decide)) BK213.out (by decide)))); rintro e w28 ⟨v217, rfl, ho0, hb⟩; refine ⟨_, rfl, ?_⟩; replace HO206 := Aside0.mk (Kd.V_below (vp_ HO206.out) hb); have HO218 := Aside0.mk (Kd.V_lower (Kd.V_mono (ok' := fun k_ => some k_ ≠ (.slice Ao25 t209.length co25 : Value).ownBlock ∧ k_ ≠ gb200 ∧ k_ ≠ gb213) ho0 (fun k_ hk_ => ⟨Or.elim hk_ (fun hs_ => ((Kd.R_types (Kd.R_types (HO_201002.out) BK200.out (by decide)) BK213.out (by decide)).1 k_ hs_.symm).1.1) (fun hn_ => (Kd.fresh' (Kd.R_lt (rp_ HO211.out)) k_ hn_)), Or.elim hk_ (fun hs_ => ((Kd.R_types (Kd.R_types (HO_201002.out) BK200.out (by decide)) BK213.out (by decide)).1 k_ hs_.symm).1.2) (fun hn_ => (Kd.freshB (g := gb200) (o := .cells #[.int .i64 t195, .int .i64 t196, .slice Ao9 t197.length co9] 24 (0, 0)) (hp_ BK200.out) k_ hn_)), Or.elim hk_ (fun hs_ => ((Kd.R_types (Kd.R_types (HO_201002.out) BK200.out (by decide)) BK213.out (by decide)).1 k_ hs_.symm).2) (fun hn_ => (Kd.freshB (g := gb213) (o := .cells #[.int .i64 t207, .int .i64 t208, .slice Ao25 t209.length co25] 26 (0, 0)) (hp_ BK213.out) k_ hn_))⟩)) (below_size bp_)); replace HO_201002 := Aside0.mk (Kd.R_below (rp_ HO_201002.out) hb); replace HO211 := Aside0.mk (Kd.R_below (rp_ HO211.out) hb); replace BK200 := Aside0.mk (blk_below (hp_ BK200.out) hb); replace BK213 := Aside0.mk (blk_below (hp_ BK213.out) hb); replace HB := Aside0.mk (below_step bp_ hb); (try clear hb); (try clear hb2); (try clear hk); (try clear hi); (try clear ho0)) | ((with_reducible refine gate_dst (N := 10) rfl ?_); refine box_event ?hg (N := 10) ?hd (cs := #[.int .i64 0, .int .i64 0, .slice none 0 0]) (t := 24) ?hr ?_; (case hd => rfl); (case hg => rfl); (case hr => first | (go_simp; done) | (go_simp; rfl)); intro gb220 hg w29 hbox hb; replace HO_201002 := Aside0.mk (Kd.R_below (rp_ HO_201002.out) hb); replace HO206 := Aside0.mk (Kd.V_below (Kd.V_elderB (vp_ HO206.out) gb220 (Nat.le_of_eq hg.symm)) hb); replace HO211 := Aside0.mk (Kd.R_below (rp_ HO211.out) hb); replace HO218 := Aside0.mk (Kd.V_below (Kd.V_elderB (vp_ HO218.out) gb220 (Nat.le_of_eq hg.symm)) hb); have BK220 := Aside0.mk (hbox); have GW220 := Aside0.mk ((by rw [hg]; exact (below_size bp_) : w.heap.size ≤ gb220)); have GE220 := Aside0.mk ((by rw [hg]; exact (below_size bp_) : w.heap.size ≤ gb220)); replace HB := Aside0.mk (below_step bp_ hb); have NB200_220 := Aside0.mk ((nlt_ hg (hp_ BK200.out))); have NB220_200 := Aside0.mk ((ngt_ hg (hp_ BK200.out))); replace BK200 := Aside0.mk (blk_below (hp_ BK200.out) hb); have NB213_220 := Aside0.mk ((nlt_ hg (hp_ BK213.out))); have NB220_213 := Aside0.mk ((ngt_ hg (hp_ BK213.out))); replace BK213 := Aside0.mk (blk_below (hp_ BK213.out) hb); clear hb hbox hg; have hnb30 := NB220_200.out; have hnc30 := NB200_220.out; have hnb31 := NB220_213.out; have hnc31 := NB213_220.out; have hcz32_0 : w29.cell? ⟨gb220, 0, none⟩ = some (.int .i64 0) := (blk_cell BK220.out 0).trans rfl; have hcz32_1 : w29.cell? ⟨gb220, 1, none⟩ = some (.int .i64 0) := (blk_cell BK220.out 1).trans rfl; have hcz32_2 : w29.cell? ⟨gb220, 2, none⟩ = some (.slice none 0 0) := (blk_cell BK220.out 2).trans rfl; have hfz32_0 := blk_frozen BK220.out 0; have hfz32_1 := blk_frozen BK220.out 1; have hfz32_2 := blk_frozen BK220.out 2; obtain ⟨Ao33, co33, eo33⟩ := Kd.V_slice HO218.out; subst eo33; have hcz34_0 : w29.cell? ⟨gb200, 0, none⟩ = some (.int .i64 t195) := (blk_cell BK200.out 0).trans rfl; have hcz34_1 : w29.cell? ⟨gb200, 1, none⟩ = some (.int .i64 t196) := (blk_cell BK200.out 1).trans rfl; have hcz34_2 : w29.cell? ⟨gb200, 2, none⟩ = some (.slice Ao9 t197.length co9) := (blk_cell BK200.out 2).trans rfl; have hfz34_0 := blk_frozen BK200.out 0; have hfz34_1 := blk_frozen BK200.out 1; have hfz34_2 := blk_frozen BK200.out 2) | ((with_reducible refine gate_callee (f := 15) rfl ?_); refine goQ_ (some 49) Try.func15 #[.int .i64 t195, .int .i64 t196, .int .i64 x7_10] ?_; (with_reducible refine (turn_Size.calls t195 t196 x7_10 t221 t222 _ A16.out).mono ?_); rintro e w' ⟨rfl, ⟨nd, rfl⟩⟩; refine ⟨_, rfl, ?_⟩))
       (try simp only [Act.put, List.setIfInBounds_toArray, List.set_cons_zero, List.set_cons_succ])
       go_cut [14] (fun v14 wc => ∃ (kq : Nat) (x14_16 : Bool), v14 = .bool x14_16 ∧ Aside0 (chequerlaw04_TurnLays.j2 kq a1 x6_1 x7_10 t212 t219 t221 t222 x14_16 t195 t196 t197 t207 t208 t209 t214 t215 t216 = some r) ∧ Aside0 (kq ≤ kj10) ∧ Aside0 (Kd.R (Kd.int .u64) 41 wc w.heap.size (fun k_ => some k_ ≠ ((.slice Ao25 t209.length co25) : Value).ownBlock) (.slice Ao9 t197.length co9) t197) ∧ Aside0 (Kd.R (Kd.int .u64) 41 wc w.heap.size (fun k_ => some k_ ≠ ((.slice Ao9 t197.length co9) : Value).ownBlock) (.slice Ao25 t209.length co25) t209) ∧ Aside0 (Kd.V (Kd.int .u64) 41 wc w.heap.size (fun k_ => some k_ ≠ ((.slice Ao25 t209.length co25) : Value).ownBlock ∧ k_ ≠ gb200 ∧ k_ ≠ gb213 ∧ k_ ≠ gb220) (.slice Ao33 t216.length co33) t216) ∧ Aside0 (wc.heap[gb200]? = some (.cells #[.int .i64 t195, .int .i64 t196, (.slice Ao9 t197.length co9)] 24 (0, 0))) ∧ Aside0 (wc.heap[gb213]? = some (.cells #[.int .i64 t207, .int .i64 t208, (.slice Ao25 t209.length co25)] 26 (0, 0))) ∧ Aside0 (wc.heap[gb220]? = some (.cells #[.int .i64 t214, .int .i64 t215, (.slice Ao33 t216.length co33)] 24 (0, 0))) ∧ Aside0 (Below w.heap.size w wc))
       case first =>
        have H := HC17.out
        clear HC17
        by_cases c35 : x7_10 ≥ 0
        · rw [if_pos c35] at H
          have c35b0 : decide (0 ≤ x7_10) = true := decide_eq_true c35
          clear c35
          (first | rw [c35b0] | (simp only [i64_w, i32_w]; rw [c35b0]) | skip)
          have H' := Aside0.mk H
          clear H
          go_wp2
          go_meet
          case rel => exact ⟨_, (decide (x7_10 < 8)), (by first | rfl | (simp; done) | (simp [*]; done)), H', ⟨by have := HK1.out; have := HJ10.out; first | omega | exact Nat.le_refl _⟩, ⟨rf_ HO_201002.out BK220.out (by decide) (fun _ hk => hk.1)⟩, ⟨rf_ HO211.out BK220.out (by decide) (fun _ hk => hk.1)⟩, ⟨by (with_reducible repeat (first | apply Kd.V_alloc | apply Kd.V_drewN | apply Kd.V_drew)); exact Kd.V_mono (Kd.V_far (p := ⟨gb220, 2, none⟩) (Kd.V_far (p := ⟨gb220, 1, none⟩) (Kd.V_far (p := ⟨gb220, 0, none⟩) (Kd.V_mono HO218.out (fun k_ hk => (⟨hk, hk.2⟩ : _ ∧ k_ ≠ gb220))) (fun _ hk => hk.2) (.int .i64 t214)) (fun _ hk => hk.2) (.int .i64 t215)) (fun _ hk => hk.2) (.slice Ao33 t216.length co33)) (fun _ hk => ⟨hk.1.1.1, ⟨hk.1.1.2.1, ⟨hk.1.1.2.2, hk.1.2⟩⟩⟩)⟩, ⟨hf_ BK200.out NB200_220.out⟩, ⟨hf_ BK213.out NB213_220.out⟩, ⟨by (with_reducible repeat (first | refine blk_drewN ?_ _ | refine blk_drew ?_ | refine blk_alloc ?_ _)); refine blk_put (cs := #[.int .i64 t214, .int .i64 t215, .slice none 0 0]) ?_ 2 _ rfl; (with_reducible repeat (first | refine blk_drewN ?_ _ | refine blk_drew ?_ | refine blk_alloc ?_ _)); refine blk_put (cs := #[.int .i64 t214, .int .i64 0, .slice none 0 0]) ?_ 1 _ rfl; (with_reducible repeat (first | refine blk_drewN ?_ _ | refine blk_drew ?_ | refine blk_alloc ?_ _)); refine blk_put (cs := #[.int .i64 0, .int .i64 0, .slice none 0 0]) ?_ 0 _ rfl; (with_reducible repeat (first | refine blk_drewN ?_ _ | refine blk_drew ?_ | refine blk_alloc ?_ _)); exact BK220.out⟩, ⟨bp_⟩⟩
        · rw [if_neg c35] at H
          have c35b0 : decide (0 ≤ x7_10) = false := decide_eq_false c35
          clear c35
          (first | rw [c35b0] | (simp only [i64_w, i32_w]; rw [c35b0]) | skip)
          have H' := Aside0.mk H
          clear H
          go_wp2
          go_meet
          case rel => exact ⟨_, (false), (by first | rfl | (simp; done) | (simp [*]; done)), H', ⟨by have := HK1.out; have := HJ10.out; first | omega | exact Nat.le_refl _⟩, ⟨rf_ HO_201002.out BK220.out (by decide) (fun _ hk => hk.1)⟩, ⟨rf_ HO211.out BK220.out (by decide) (fun _ hk => hk.1)⟩, ⟨by (with_reducible repeat (first | apply Kd.V_alloc | apply Kd.V_drewN | apply Kd.V_drew)); exact Kd.V_mono (Kd.V_far (p := ⟨gb220, 2, none⟩) (Kd.V_far (p := ⟨gb220, 1, none⟩) (Kd.V_far (p := ⟨gb220, 0, none⟩) (Kd.V_mono HO218.out (fun k_ hk => (⟨hk, hk.2⟩ : _ ∧ k_ ≠ gb220))) (fun _ hk => hk.2) (.int .i64 t214)) (fun _ hk => hk.2) (.int .i64 t215)) (fun _ hk => hk.2) (.slice Ao33 t216.length co33)) (fun _ hk => ⟨hk.1.1.1, ⟨hk.1.1.2.1, ⟨hk.1.1.2.2, hk.1.2⟩⟩⟩)⟩, ⟨hf_ BK200.out NB200_220.out⟩, ⟨hf_ BK213.out NB213_220.out⟩, ⟨by (with_reducible repeat (first | refine blk_drewN ?_ _ | refine blk_drew ?_ | refine blk_alloc ?_ _)); refine blk_put (cs := #[.int .i64 t214, .int .i64 t215, .slice none 0 0]) ?_ 2 _ rfl; (with_reducible repeat (first | refine blk_drewN ?_ _ | refine blk_drew ?_ | refine blk_alloc ?_ _)); refine blk_put (cs := #[.int .i64 t214, .int .i64 0, .slice none 0 0]) ?_ 1 _ rfl; (with_reducible repeat (first | refine blk_drewN ?_ _ | refine blk_drew ?_ | refine blk_alloc ?_ _)); refine blk_put (cs := #[.int .i64 0, .int .i64 0, .slice none 0 0]) ?_ 0 _ rfl; (with_reducible repeat (first | refine blk_drewN ?_ _ | refine blk_drew ?_ | refine blk_alloc ?_ _)); exact BK220.out⟩, ⟨bp_⟩⟩
       case rest =>
        clear HC17
        try clear c1
        try clear c2
        try clear p2
        try clear c3
        try clear c10
        try clear c10b0
        try clear c11
        try clear c12
        try clear c12b0
        try clear c13
        try clear c14
        try clear c15
        try clear c23
        try clear c30
        try clear c31
        try clear c35
        try clear c35b0
        try clear hcz18_0
        try clear hcz18_1
        try clear hcz18_2
        try clear hcz24_0
        try clear hcz24_1
        try clear hcz24_2
        try clear hcz27_0
        try clear hcz27_1
        try clear hcz27_2
        try clear hcz32_0
        try clear hcz32_1
        try clear hcz32_2
        try clear hcz34_0
        try clear hcz34_1
        try clear hcz34_2
        try clear hcz5_0
        try clear hcz5_1
        try clear hcz5_2
        try clear hcz8_0
        try clear hcz8_1
        try clear hcz8_2
        try clear hfz18_0
        try clear hfz18_1
        try clear hfz18_2
        try clear hfz24_0
        try clear hfz24_1
        try clear hfz24_2
        try clear hfz27_0
        try clear hfz27_1
        try clear hfz27_2
        try clear hfz32_0
        try clear hfz32_1
        try clear hfz32_2
        try clear hfz34_0
        try clear hfz34_1
        try clear hfz34_2
        try clear hfz5_0
        try clear hfz5_1
        try clear hfz5_2
        try clear hfz8_0
        try clear hfz8_1
        try clear hfz8_2
        try clear p2
        obtain ⟨kq, x14_16, rfl, HA, HJ16, HO_201002, HO_214002, HO_221002, BK200, BK213, BK220, HB⟩ := hcut
        cases kq with
        | zero => exact absurd HA.out (by simp [chequerlaw04_TurnLays.j2])
        | succ kj16 =>
         have H := HA.out
         clear HA
         simp only [chequerlaw04_TurnLays.j2] at H
         have HC36 := Aside0.mk H
         clear H
         go_upto_region 12 with (fail)
         go_cut [92] (fun v92 wc => ∃ (kq : Nat) (x92_35 : Bool), v92 = .bool x92_35 ∧ Aside0 (chequerlaw04_TurnLays.j3 kq a1 x6_1 x7_10 x92_35 t195 t196 t197 t214 t215 t216 = some r) ∧ Aside0 (kq ≤ kj16) ∧ Aside0 (Kd.R (Kd.int .u64) 41 wc w.heap.size (fun k_ => some k_ ≠ ((.slice Ao25 t209.length co25) : Value).ownBlock) (.slice Ao9 t197.length co9) t197) ∧ Aside0 (Kd.R (Kd.int .u64) 41 wc w.heap.size (fun k_ => some k_ ≠ ((.slice Ao9 t197.length co9) : Value).ownBlock) (.slice Ao25 t209.length co25) t209) ∧ Aside0 (Kd.V (Kd.int .u64) 41 wc w.heap.size (fun k_ => some k_ ≠ ((.slice Ao25 t209.length co25) : Value).ownBlock ∧ k_ ≠ gb200 ∧ k_ ≠ gb213 ∧ k_ ≠ gb220) (.slice Ao33 t216.length co33) t216) ∧ Aside0 (wc.heap[gb200]? = some (.cells #[.int .i64 t195, .int .i64 t196, (.slice Ao9 t197.length co9)] 24 (0, 0))) ∧ Aside0 (wc.heap[gb213]? = some (.cells #[.int .i64 t207, .int .i64 t208, (.slice Ao25 t209.length co25)] 26 (0, 0))) ∧ Aside0 (wc.heap[gb220]? = some (.cells #[.int .i64 t214, .int .i64 t215, (.slice Ao33 t216.length co33)] 24 (0, 0))) ∧ Aside0 (Below w.heap.size w wc))
         case first =>
          have H := HC36.out
          clear HC36
          by_cases c37 : t212 = t219
          · rw [if_pos c37] at H
            have c37b0 : (t212 == t219) = true := beq_iff_eq.mpr c37
            have c37b1 : (t212 != t219) = false := bne_eq_false_iff_eq.mpr c37
            clear c37
            (first | rw [c37b0] | (simp only [i64_w, i32_w]; rw [c37b0]) | skip)
            replace H := Option.bind_eq_some_iff.mp H
            obtain ⟨⟨t223, t224, t225⟩, A380, H⟩ := H
            replace H : ((chequerref03_Same.f kj16 t223 t224 t225 t214 t215 t216).bind fun t228 => (if t228 = true then ((turn_May.f x7_10).bind fun t229 => (if (t229 != x14_16) = true then (chequerlaw04_TurnLays.j3 kj16 a1 x6_1 x7_10 true t195 t196 t197 t214 t215 t216) else (if t221 = t214 then (if t222 = t215 then ((turn_Name.f x7_10).bind fun t230 => (chequerlaw04_TurnLays.j3 kj16 a1 x6_1 x7_10 ((t230.toList != ([] : List UInt8)) != x14_16) t195 t196 t197 t214 t215 t216)) else (chequerlaw04_TurnLays.j3 kj16 a1 x6_1 x7_10 true t195 t196 t197 t214 t215 t216)) else (chequerlaw04_TurnLays.j3 kj16 a1 x6_1 x7_10 true t195 t196 t197 t214 t215 t216)))) else (chequerlaw04_TurnLays.j3 kj16 a1 x6_1 x7_10 true t195 t196 t197 t214 t215 t216))) = some r := H
            have A38 := Aside0.mk A380
            clear A380
            replace H := Option.bind_eq_some_iff.mp H
            obtain ⟨t228, A390, H⟩ := H
            replace H : (if t228 = true then ((turn_May.f x7_10).bind fun t229 => (if (t229 != x14_16) = true then (chequerlaw04_TurnLays.j3 kj16 a1 x6_1 x7_10 true t195 t196 t197 t214 t215 t216) else (if t221 = t214 then (if t222 = t215 then ((turn_Name.f x7_10).bind fun t230 => (chequerlaw04_TurnLays.j3 kj16 a1 x6_1 x7_10 ((t230.toList != ([] : List UInt8)) != x14_16) t195 t196 t197 t214 t215 t216)) else (chequerlaw04_TurnLays.j3 kj16 a1 x6_1 x7_10 true t195 t196 t197 t214 t215 t216)) else (chequerlaw04_TurnLays.j3 kj16 a1 x6_1 x7_10 true t195 t196 t197 t214 t215 t216)))) else (chequerlaw04_TurnLays.j3 kj16 a1 x6_1 x7_10 true t195 t196 t197 t214 t215 t216)) = some r := H
            have A39 := Aside0.mk A390
            clear A390
            by_cases c40 : t228 = true
            · subst c40
              have H1 : ((turn_May.f x7_10).bind fun t229 => (if (t229 != x14_16) = true then (chequerlaw04_TurnLays.j3 kj16 a1 x6_1 x7_10 true t195 t196 t197 t214 t215 t216) else (if t221 = t214 then (if t222 = t215 then ((turn_Name.f x7_10).bind fun t230 => (chequerlaw04_TurnLays.j3 kj16 a1 x6_1 x7_10 ((t230.toList != ([] : List UInt8)) != x14_16) t195 t196 t197 t214 t215 t216)) else (chequerlaw04_TurnLays.j3 kj16 a1 x6_1 x7_10 true t195 t196 t197 t214 t215 t216)) else (chequerlaw04_TurnLays.j3 kj16 a1 x6_1 x7_10 true t195 t196 t197 t214 t215 t216)))) = some r := by rw [if_pos rfl] at H; exact H
              clear H
              have H := H1
              clear H1
              replace H := Option.bind_eq_some_iff.mp H
              obtain ⟨t229, A410, H⟩ := H
              replace H : (if (t229 != x14_16) = true then (chequerlaw04_TurnLays.j3 kj16 a1 x6_1 x7_10 true t195 t196 t197 t214 t215 t216) else (if t221 = t214 then (if t222 = t215 then ((turn_Name.f x7_10).bind fun t230 => (chequerlaw04_TurnLays.j3 kj16 a1 x6_1 x7_10 ((t230.toList != ([] : List UInt8)) != x14_16) t195 t196 t197 t214 t215 t216)) else (chequerlaw04_TurnLays.j3 kj16 a1 x6_1 x7_10 true t195 t196 t197 t214 t215 t216)) else (chequerlaw04_TurnLays.j3 kj16 a1 x6_1 x7_10 true t195 t196 t197 t214 t215 t216))) = some r := H
              have A41 := Aside0.mk A410
              clear A410
              by_cases c42 : (t229 != x14_16) = true
              · rw [if_pos c42] at H
                have c42b0 : (t229 != x14_16) = true := c42
                (try (have c42b1 : decide (t229 = x14_16) = false := by simpa using c42))
                (try (have c42b2 : (t229 == x14_16) = false := by simpa using c42))
                (try (have c42b3 : ¬ (t229 = x14_16) := by simpa using c42))
                clear c42
                have H' := Aside0.mk H
                clear H
                try go_wp2
                (try (rw [drewN_self wc]; generalize hq_ : World.drewN wc _ = wc; have n0_ := Aside0.mk (qrp_ hq_ HO_201002.out); have n1_ := Aside0.mk (qrp_ hq_ HO_214002.out); have n2_ := Aside0.mk (qvp_ hq_ HO_221002.out); have n3_ := Aside0.mk (qhp_ hq_ BK200.out); have n4_ := Aside0.mk (qhp_ hq_ BK213.out); have n5_ := Aside0.mk (qhp_ hq_ BK220.out); have n6_ : Aside0 (Below w.heap.size w wc) := ⟨qbp_ hq_⟩; clear HO_201002 HO_214002 HO_221002 BK200 BK213 BK220 HB hq_; have HO_201002 := n0_; have HO_214002 := n1_; have HO_221002 := n2_; have BK200 := n3_; have BK213 := n4_; have BK220 := n5_; have HB := n6_; clear n0_ n1_ n2_ n3_ n4_ n5_ n6_))
                replace HO_201002 := Aside0.mk (Kd.R_drew HO_201002.out)
                replace HO_214002 := Aside0.mk (Kd.R_drew HO_214002.out)
                replace HO_221002 := Aside0.mk (Kd.V_drew HO_221002.out)
                replace BK200 := Aside0.mk (blk_drew BK200.out)
                replace BK213 := Aside0.mk (blk_drew BK213.out)
                replace BK220 := Aside0.mk (blk_drew BK220.out)
                replace HB := Aside0.mk (below_drew1 HB.out)
                refine start_ (n := 35) (S := fun w' => w'.cell? ⟨gb213, 0, none⟩ = some (.int .i64 t207) ∧ w'.cell? ⟨gb213, 1, none⟩ = some (.int .i64 t208) ∧ w'.cell? ⟨gb213, 2, none⟩ = some (.slice Ao25 t209.length co25) ∧ w'.cell? ⟨gb220, 0, none⟩ = some (.int .i64 t214) ∧ w'.cell? ⟨gb220, 1, none⟩ = some (.int .i64 t215) ∧ w'.cell? ⟨gb220, 2, none⟩ = some (.slice Ao33 t216.length co33)) (ds := []) Fl1 (by kernel_rfl) rfl rfl ⟨(blk_cell BK213.out 0).trans rfl, (blk_cell BK213.out 1).trans rfl, (blk_cell BK213.out 2).trans rfl, (blk_cell BK220.out 0).trans rfl, (blk_cell BK220.out 1).trans rfl, (blk_cell BK220.out 2).trans rfl⟩ (fun hHeld => ?_); refine with_tabW chequerlaw04_TurnLays.tab12 chequerlaw04_TurnLays.bits12 (fun HT_ HW_ => ?_)
                generalize wc.drew = w43 at HO_201002 HO_214002 HO_221002 BK200 BK213 BK220 HB hHeld ⊢
                refine pur_ (i := 0) (N := some 58) Fl2 (any_of HT_.out (by kernel_rfl)) ?_
                refine pur_ (i := 1) (N := some 59) Fl3 (any_of HT_.out (by kernel_rfl)) ?_
                refine pur_ (i := 2) (N := some 60) Fl4 (any_of HT_.out (by kernel_rfl)) ?_
                refine pur_ (i := 3) (N := some 61) Fl5 (any_of HT_.out (by kernel_rfl)) ?_
                refine take_ (i := 4) (N := some 62) (v := ?_) (a' := ?_) Fl6 rfl rfl (take_ofW HT_.out HW_.out (by kernel_rfl)) (fun _ _ _ h => h) (Or.inl ⟨by rfl, ?_⟩) hHeld ?_ ?_
                rotate_left
                · rintro w' ⟨s0, s1, s2, s3, s4, s5⟩
                  go_simp
                  with_reducible rfl
                rotate_left
                · simp only [Act.put, List.setIfInBounds_toArray, List.set_cons_zero, List.set_cons_succ, i64_w, i32_w]
                  rfl
                refine take_ (i := 6) (N := some 64) (v := ?_) (a' := ?_) Fl33 rfl rfl (take_ofW HT_.out HW_.out (by kernel_rfl)) (fun _ _ _ h => h) (Or.inl ⟨by rfl, ?_⟩) hHeld ?_ ?_
                rotate_left
                · rintro w' ⟨s0, s1, s2, s3, s4, s5⟩
                  go_simp
                  with_reducible rfl
                rotate_left
                · simp only [Act.put, List.setIfInBounds_toArray, List.set_cons_zero, List.set_cons_succ, i64_w, i32_w]
                  rfl
                refine one_ (i := 5) (N := some 63) Fl7 rfl rfl (one_of HT_.out (by kernel_rfl)) (by decide) (fun K hK => ?_)
                refine goes_ Try.func17 (by kernel_rfl) rfl #[.agg #[.int .i64 t207, .int .i64 t208, .slice Ao25 t209.length co25]] (by rfl) rfl rfl (by (try simp only [List.map_toArray, List.map_cons, List.map_nil]); first | done | rfl | (simp only [List.length_drop, List.length_take]; rfl)) ?_
                with_reducible refine (chequerlaw04_as.calls t207 t208 (fun k_ => some k_ = (.slice Ao25 t209.length co25 : Value).ownBlock) _ _ t209 t223 t224 t225 _ ?side1 A38.out).mono ?_
                (case side1 => exact Kd.R_V (Kd.R_tight rfl (Kd.R_types (Kd.R_types (Kd.R_types (HO_214002.out) BK200.out (by decide)) BK213.out (by decide)) BK220.out (by decide))))
                rintro e w44 ⟨v226, rfl, ho0, hb⟩
                refine ⟨_, rfl, ?_⟩
                replace HO_221002 := Aside0.mk (Kd.V_below (vp_ HO_221002.out) hb)
                have HO227 := Aside0.mk (Kd.V_lower (Kd.V_mono (ok' := fun k_ => some k_ ≠ (.slice Ao9 t197.length co9 : Value).ownBlock ∧ k_ ≠ gb200 ∧ k_ ≠ gb213 ∧ k_ ≠ gb220) ho0 (fun k_ hk_ => ⟨Or.elim hk_ (fun hs_ => ((Kd.R_types (Kd.R_types (Kd.R_types (HO_214002.out) BK200.out (by decide)) BK213.out (by decide)) BK220.out (by decide)).1 k_ hs_.symm).1.1.1) (fun hn_ => (Kd.fresh' (Kd.R_lt (rp_ HO_201002.out)) k_ hn_)), Or.elim hk_ (fun hs_ => ((Kd.R_types (Kd.R_types (Kd.R_types (HO_214002.out) BK200.out (by decide)) BK213.out (by decide)) BK220.out (by decide)).1 k_ hs_.symm).1.1.2) (fun hn_ => (Kd.freshB (g := gb200) (o := .cells #[.int .i64 t195, .int .i64 t196, .slice Ao9 t197.length co9] 24 (0, 0)) (hp_ BK200.out) k_ hn_)), Or.elim hk_ (fun hs_ => ((Kd.R_types (Kd.R_types (Kd.R_types (HO_214002.out) BK200.out (by decide)) BK213.out (by decide)) BK220.out (by decide)).1 k_ hs_.symm).1.2) (fun hn_ => (Kd.freshB (g := gb213) (o := .cells #[.int .i64 t207, .int .i64 t208, .slice Ao25 t209.length co25] 26 (0, 0)) (hp_ BK213.out) k_ hn_)), Or.elim hk_ (fun hs_ => ((Kd.R_types (Kd.R_types (Kd.R_types (HO_214002.out) BK200.out (by decide)) BK213.out (by decide)) BK220.out (by decide)).1 k_ hs_.symm).2) (fun hn_ => (Kd.freshB (g := gb220) (o := .cells #[.int .i64 t214, .int .i64 t215, .slice Ao33 t216.length co33] 24 (0, 0)) (hp_ BK220.out) k_ hn_))⟩)) (below_size bp_))
                replace HO_201002 := Aside0.mk (Kd.R_below (rp_ HO_201002.out) hb)
                replace HO_214002 := Aside0.mk (Kd.R_below (rp_ HO_214002.out) hb)
                replace BK200 := Aside0.mk (blk_below (hp_ BK200.out) hb)
                replace BK213 := Aside0.mk (blk_below (hp_ BK213.out) hb)
                replace BK220 := Aside0.mk (blk_below (hp_ BK220.out) hb)
                replace HB := Aside0.mk (below_step bp_ hb)
                (try clear hb)
                (try clear hb2)
                (try clear hk)
                (try clear hi)
                (try clear ho0)
                obtain ⟨Ao45, co45, eo45⟩ := Kd.V_slice HO227.out
                (first | subst eo45 | (injection eo45 with f1_ f2_ f3_; have f4_ := f1_.symm; have f5_ := f3_.symm; clear f1_ f2_ f3_; subst f4_; subst f5_))
                refine hK.out _ _ ⟨(blk_cell BK213.out 0).trans rfl, (blk_cell BK213.out 1).trans rfl, (blk_cell BK213.out 2).trans rfl, (blk_cell BK220.out 0).trans rfl, (blk_cell BK220.out 1).trans rfl, (blk_cell BK220.out 2).trans rfl⟩ (fun hHeld => ?_)
                clear hK K
                refine norm_ (a' := ?_) ?_ ?_
                rotate_left
                · show Act.put _ (some 63) _ = _
                  simp only [Act.put, List.setIfInBounds_toArray, List.set_cons_zero, List.set_cons_succ, i64_w, i32_w]
                  rfl
                refine one_ (i := 7) (N := some 65) Fl8 rfl rfl (one_of HT_.out (by kernel_rfl)) (by decide) (fun K hK => ?_)
                refine goes_ Try.func16 (by kernel_rfl) rfl #[.agg #[.int .i64 t223, .int .i64 t224, .slice Ao45 t225.length co45], .agg #[.int .i64 t214, .int .i64 t215, .slice Ao33 t216.length co33]] (by rfl) rfl rfl (by (try simp only [List.map_toArray, List.map_cons, List.map_nil]); first | done | rfl | (simp only [List.length_drop, List.length_take]; rfl)) ?_
                with_reducible refine (chequerref03_Same.calls kj16 t223 t224 _ _ t225 t214 t215 _ _ t216 true _ ?side1 ?side2 ?side3 ?side4 A39.out).mono ?_
                (case side1 => exact cp_ (Kd.V_reads' HO227.out).2.2)
                (case side2 => exact (Kd.V_reads' HO227.out).2.1)
                (case side3 => exact cp_ (Kd.V_reads' HO_221002.out).2.2)
                (case side4 => exact (Kd.V_reads' HO_221002.out).2.1)
                rintro e w46 ⟨rfl, hb⟩
                refine ⟨_, rfl, ?_⟩
                replace HO_201002 := Aside0.mk (Kd.R_below (rp_ HO_201002.out) hb)
                replace HO_214002 := Aside0.mk (Kd.R_below (rp_ HO_214002.out) hb)
                replace HO_221002 := Aside0.mk (Kd.V_below (vp_ HO_221002.out) hb)
                replace HO227 := Aside0.mk (Kd.V_below (vp_ HO227.out) hb)
                replace BK200 := Aside0.mk (blk_below (hp_ BK200.out) hb)
                replace BK213 := Aside0.mk (blk_below (hp_ BK213.out) hb)
                replace BK220 := Aside0.mk (blk_below (hp_ BK220.out) hb)
                replace HB := Aside0.mk (below_step bp_ hb)
                (try clear hb)
                (try clear hb2)
                (try clear hk)
                (try clear hi)
                refine hK.out _ _ ⟨(blk_cell BK213.out 0).trans rfl, (blk_cell BK213.out 1).trans rfl, (blk_cell BK213.out 2).trans rfl, (blk_cell BK220.out 0).trans rfl, (blk_cell BK220.out 1).trans rfl, (blk_cell BK220.out 2).trans rfl⟩ (fun hHeld => ?_)
                clear hK K
                refine norm_ (a' := ?_) ?_ ?_
                rotate_left
                · show Act.put _ (some 65) _ = _
                  simp only [Act.put, List.setIfInBounds_toArray, List.set_cons_zero, List.set_cons_succ, i64_w, i32_w]
                  rfl
                refine pur_ (i := 8) (N := some 66) Fl9 (any_of HT_.out (by kernel_rfl)) ?_
                refine pur_ (i := 9) (N := some 67) Fl10 (any_of HT_.out (by kernel_rfl)) ?_
                refine pur_ (i := 10) (N := some 68) Fl11 (any_of HT_.out (by kernel_rfl)) ?_
                refine pur_ (i := 11) (N := some 69) Fl12 (any_of HT_.out (by kernel_rfl)) ?_
                refine pur_ (i := 13) (N := some 71) Fl36 (any_of HT_.out (by kernel_rfl)) ?_
                refine one_ (i := 12) (N := some 70) Fl13 rfl rfl (one_of HT_.out (by kernel_rfl)) (by decide) (fun K hK => ?_)
                refine goes_ Try.func18 (by kernel_rfl) rfl #[.int .i64 x7_10] (by rfl) rfl rfl (by (try simp only [List.map_toArray, List.map_cons, List.map_nil]); first | done | rfl | (simp only [List.length_drop, List.length_take]; rfl)) ?_
                with_reducible refine (turn_May.calls x7_10 t229 _ A41.out).mono ?_
                rintro e w' ⟨rfl, ⟨nd, rfl⟩⟩
                refine ⟨_, rfl, ?_⟩
                refine hK.out _ _ ⟨(blk_cell BK213.out 0).trans rfl, (blk_cell BK213.out 1).trans rfl, (blk_cell BK213.out 2).trans rfl, (blk_cell BK220.out 0).trans rfl, (blk_cell BK220.out 1).trans rfl, (blk_cell BK220.out 2).trans rfl⟩ (fun hHeld => ?_)
                clear hK K
                refine norm_ (a' := ?_) ?_ ?_
                rotate_left
                · show Act.put _ (some 70) _ = _
                  simp only [Act.put, List.setIfInBounds_toArray, List.set_cons_zero, List.set_cons_succ, i64_w, i32_w]
                  rfl
                refine pur_ (i := 14) (N := some 72) Fl14 (any_of HT_.out (by kernel_rfl)) ?_
                refine pur_ (i := 15) (N := some 73) Fl15 (any_of HT_.out (by kernel_rfl)) ?_
                refine pur_ (i := 16) (N := some 74) Fl16 (any_of HT_.out (by kernel_rfl)) ?_
                refine pun_ (i := 17) (N := some 75) Fl17 (any_of HT_.out (by kernel_rfl)) ?_
                refine pun_ (i := 18) (N := some 76) Fl18 (any_of HT_.out (by kernel_rfl)) ?_
                refine pun_ (i := 19) (N := some 77) Fl19 (any_of HT_.out (by kernel_rfl)) ?_
                refine pun_ (i := 20) (N := some 78) Fl20 (any_of HT_.out (by kernel_rfl)) ?_
                refine pur_ (i := 21) (N := some 79) Fl21 (any_of HT_.out (by kernel_rfl)) ?_
                refine pur_ (i := 22) (N := some 80) Fl22 (any_of HT_.out (by kernel_rfl)) ?_
                refine pun_ (i := 23) (N := some 81) Fl23 (any_of HT_.out (by kernel_rfl)) ?_
                refine pun_ (i := 24) (N := some 82) Fl24 (any_of HT_.out (by kernel_rfl)) ?_
                refine pun_ (i := 25) (N := some 83) Fl25 (any_of HT_.out (by kernel_rfl)) ?_
                refine pun_ (i := 26) (N := some 84) Fl26 (any_of HT_.out (by kernel_rfl)) ?_
                refine pur_ (i := 27) (N := some 85) Fl27 (any_of HT_.out (by kernel_rfl)) ?_
                refine pur_ (i := 28) (N := some 86) Fl28 (any_of HT_.out (by kernel_rfl)) ?_
                refine pun_ (i := 29) (N := some 87) Fl29 (any_of HT_.out (by kernel_rfl)) ?_
                refine pun_ (i := 30) (N := some 88) Fl34 (any_of HT_.out (by kernel_rfl)) ?_
                refine pun_ (i := 31) (N := some 89) Fl35 (any_of HT_.out (by kernel_rfl)) ?_
                refine pun_ (i := 32) (N := some 90) Fl30 (any_of HT_.out (by kernel_rfl)) ?_
                refine pun_ (i := 33) (N := some 91) Fl31 (any_of HT_.out (by kernel_rfl)) ?_
                refine pur_ (i := 34) (N := some 92) Fl32 (any_of HT_.out (by kernel_rfl)) ?_
                refine done_ (done_of HT_.out (by kernel_rfl)) ?_
                try go_wp2
                go_meet
                case rel => exact ⟨_, (true), (by first | rfl | (simp; done) | (simp [*]; done)), H', ⟨by have := HK1.out; have := HJ10.out; have := HJ16.out; first | omega | exact Nat.le_refl _⟩, ⟨rp_ HO_201002.out⟩, ⟨rp_ HO_214002.out⟩, ⟨vp_ HO_221002.out⟩, ⟨hp_ BK200.out⟩, ⟨hp_ BK213.out⟩, ⟨hp_ BK220.out⟩, ⟨bp_⟩⟩
              · rw [if_neg c42] at H
                have c42b0 : (t229 != x14_16) = false := by simpa using c42
                (try (have c42b1 : decide (t229 = x14_16) = true := by simpa using c42))
                (try (have c42b2 : (t229 == x14_16) = true := by simpa using c42))
                clear c42
                by_cases c47 : t221 = t214
                · rw [if_pos c47] at H
                  have c47b0 : (t221 == t214) = true := beq_iff_eq.mpr c47
                  have c47b1 : (t221 != t214) = false := bne_eq_false_iff_eq.mpr c47
                  clear c47
                  by_cases c48 : t222 = t215
                  · rw [if_pos c48] at H
                    have c48b0 : (t222 == t215) = true := beq_iff_eq.mpr c48
                    have c48b1 : (t222 != t215) = false := bne_eq_false_iff_eq.mpr c48
                    clear c48
                    replace H := Option.bind_eq_some_iff.mp H
                    obtain ⟨t230, A490, H⟩ := H
                    replace H : (chequerlaw04_TurnLays.j3 kj16 a1 x6_1 x7_10 ((t230.toList != ([] : List UInt8)) != x14_16) t195 t196 t197 t214 t215 t216) = some r := H
                    have A49 := Aside0.mk A490
                    clear A490
                    have H' := Aside0.mk H
                    clear H
                    try go_wp2
                    (try (rw [drewN_self wc]; generalize hq_ : World.drewN wc _ = wc; have n0_ := Aside0.mk (qrp_ hq_ HO_201002.out); have n1_ := Aside0.mk (qrp_ hq_ HO_214002.out); have n2_ := Aside0.mk (qvp_ hq_ HO_221002.out); have n3_ := Aside0.mk (qhp_ hq_ BK200.out); have n4_ := Aside0.mk (qhp_ hq_ BK213.out); have n5_ := Aside0.mk (qhp_ hq_ BK220.out); have n6_ : Aside0 (Below w.heap.size w wc) := ⟨qbp_ hq_⟩; clear HO_201002 HO_214002 HO_221002 BK200 BK213 BK220 HB hq_; have HO_201002 := n0_; have HO_214002 := n1_; have HO_221002 := n2_; have BK200 := n3_; have BK213 := n4_; have BK220 := n5_; have HB := n6_; clear n0_ n1_ n2_ n3_ n4_ n5_ n6_))
                    replace HO_201002 := Aside0.mk (Kd.R_drew HO_201002.out)
                    replace HO_214002 := Aside0.mk (Kd.R_drew HO_214002.out)
                    replace HO_221002 := Aside0.mk (Kd.V_drew HO_221002.out)
                    replace BK200 := Aside0.mk (blk_drew BK200.out)
                    replace BK213 := Aside0.mk (blk_drew BK213.out)
                    replace BK220 := Aside0.mk (blk_drew BK220.out)
                    replace HB := Aside0.mk (below_drew1 HB.out)
                    refine start_ (n := 35) (S := fun w' => w'.cell? ⟨gb213, 0, none⟩ = some (.int .i64 t207) ∧ w'.cell? ⟨gb213, 1, none⟩ = some (.int .i64 t208) ∧ w'.cell? ⟨gb213, 2, none⟩ = some (.slice Ao25 t209.length co25) ∧ w'.cell? ⟨gb220, 0, none⟩ = some (.int .i64 t214) ∧ w'.cell? ⟨gb220, 1, none⟩ = some (.int .i64 t215) ∧ w'.cell? ⟨gb220, 2, none⟩ = some (.slice Ao33 t216.length co33)) (ds := []) Fl1 (by kernel_rfl) rfl rfl ⟨(blk_cell BK213.out 0).trans rfl, (blk_cell BK213.out 1).trans rfl, (blk_cell BK213.out 2).trans rfl, (blk_cell BK220.out 0).trans rfl, (blk_cell BK220.out 1).trans rfl, (blk_cell BK220.out 2).trans rfl⟩ (fun hHeld => ?_); refine with_tabW chequerlaw04_TurnLays.tab12 chequerlaw04_TurnLays.bits12 (fun HT_ HW_ => ?_)
                    generalize wc.drew = w50 at HO_201002 HO_214002 HO_221002 BK200 BK213 BK220 HB hHeld ⊢
                    refine pur_ (i := 0) (N := some 58) Fl2 (any_of HT_.out (by kernel_rfl)) ?_
                    refine pur_ (i := 1) (N := some 59) Fl3 (any_of HT_.out (by kernel_rfl)) ?_
                    refine pur_ (i := 2) (N := some 60) Fl4 (any_of HT_.out (by kernel_rfl)) ?_
                    refine pur_ (i := 3) (N := some 61) Fl5 (any_of HT_.out (by kernel_rfl)) ?_
                    refine take_ (i := 4) (N := some 62) (v := ?_) (a' := ?_) Fl6 rfl rfl (take_ofW HT_.out HW_.out (by kernel_rfl)) (fun _ _ _ h => h) (Or.inl ⟨by rfl, ?_⟩) hHeld ?_ ?_
                    rotate_left
                    · rintro w' ⟨s0, s1, s2, s3, s4, s5⟩
                      go_simp
                      with_reducible rfl
                    rotate_left
                    · simp only [Act.put, List.setIfInBounds_toArray, List.set_cons_zero, List.set_cons_succ, i64_w, i32_w]
                      rfl
                    refine take_ (i := 6) (N := some 64) (v := ?_) (a' := ?_) Fl33 rfl rfl (take_ofW HT_.out HW_.out (by kernel_rfl)) (fun _ _ _ h => h) (Or.inl ⟨by rfl, ?_⟩) hHeld ?_ ?_
                    rotate_left
                    · rintro w' ⟨s0, s1, s2, s3, s4, s5⟩
                      go_simp
                      with_reducible rfl
                    rotate_left
                    · simp only [Act.put, List.setIfInBounds_toArray, List.set_cons_zero, List.set_cons_succ, i64_w, i32_w]
                      rfl
                    refine one_ (i := 5) (N := some 63) Fl7 rfl rfl (one_of HT_.out (by kernel_rfl)) (by decide) (fun K hK => ?_)
                    refine goes_ Try.func17 (by kernel_rfl) rfl #[.agg #[.int .i64 t207, .int .i64 t208, .slice Ao25 t209.length co25]] (by rfl) rfl rfl (by (try simp only [List.map_toArray, List.map_cons, List.map_nil]); first | done | rfl | (simp only [List.length_drop, List.length_take]; rfl)) ?_
                    with_reducible refine (chequerlaw04_as.calls t207 t208 (fun k_ => some k_ = (.slice Ao25 t209.length co25 : Value).ownBlock) _ _ t209 t223 t224 t225 _ ?side1 A38.out).mono ?_
                    (case side1 => exact Kd.R_V (Kd.R_tight rfl (Kd.R_types (Kd.R_types (Kd.R_types (HO_214002.out) BK200.out (by decide)) BK213.out (by decide)) BK220.out (by decide))))
                    rintro e w51 ⟨v226, rfl, ho0, hb⟩
                    refine ⟨_, rfl, ?_⟩
                    replace HO_221002 := Aside0.mk (Kd.V_below (vp_ HO_221002.out) hb)
                    have HO227 := Aside0.mk (Kd.V_lower (Kd.V_mono (ok' := fun k_ => some k_ ≠ (.slice Ao9 t197.length co9 : Value).ownBlock ∧ k_ ≠ gb200 ∧ k_ ≠ gb213 ∧ k_ ≠ gb220) ho0 (fun k_ hk_ => ⟨Or.elim hk_ (fun hs_ => ((Kd.R_types (Kd.R_types (Kd.R_types (HO_214002.out) BK200.out (by decide)) BK213.out (by decide)) BK220.out (by decide)).1 k_ hs_.symm).1.1.1) (fun hn_ => (Kd.fresh' (Kd.R_lt (rp_ HO_201002.out)) k_ hn_)), Or.elim hk_ (fun hs_ => ((Kd.R_types (Kd.R_types (Kd.R_types (HO_214002.out) BK200.out (by decide)) BK213.out (by decide)) BK220.out (by decide)).1 k_ hs_.symm).1.1.2) (fun hn_ => (Kd.freshB (g := gb200) (o := .cells #[.int .i64 t195, .int .i64 t196, .slice Ao9 t197.length co9] 24 (0, 0)) (hp_ BK200.out) k_ hn_)), Or.elim hk_ (fun hs_ => ((Kd.R_types (Kd.R_types (Kd.R_types (HO_214002.out) BK200.out (by decide)) BK213.out (by decide)) BK220.out (by decide)).1 k_ hs_.symm).1.2) (fun hn_ => (Kd.freshB (g := gb213) (o := .cells #[.int .i64 t207, .int .i64 t208, .slice Ao25 t209.length co25] 26 (0, 0)) (hp_ BK213.out) k_ hn_)), Or.elim hk_ (fun hs_ => ((Kd.R_types (Kd.R_types (Kd.R_types (HO_214002.out) BK200.out (by decide)) BK213.out (by decide)) BK220.out (by decide)).1 k_ hs_.symm).2) (fun hn_ => (Kd.freshB (g := gb220) (o := .cells #[.int .i64 t214, .int .i64 t215, .slice Ao33 t216.length co33] 24 (0, 0)) (hp_ BK220.out) k_ hn_))⟩)) (below_size bp_))
                    replace HO_201002 := Aside0.mk (Kd.R_below (rp_ HO_201002.out) hb)
                    replace HO_214002 := Aside0.mk (Kd.R_below (rp_ HO_214002.out) hb)
                    replace BK200 := Aside0.mk (blk_below (hp_ BK200.out) hb)
                    replace BK213 := Aside0.mk (blk_below (hp_ BK213.out) hb)
                    replace BK220 := Aside0.mk (blk_below (hp_ BK220.out) hb)
                    replace HB := Aside0.mk (below_step bp_ hb)
                    (try clear hb)
                    (try clear hb2)
                    (try clear hk)
                    (try clear hi)
                    (try clear ho0)
                    obtain ⟨Ao52, co52, eo52⟩ := Kd.V_slice HO227.out
                    (first | subst eo52 | (injection eo52 with f1_ f2_ f3_; have f4_ := f1_.symm; have f5_ := f3_.symm; clear f1_ f2_ f3_; subst f4_; subst f5_))
                    refine hK.out _ _ ⟨(blk_cell BK213.out 0).trans rfl, (blk_cell BK213.out 1).trans rfl, (blk_cell BK213.out 2).trans rfl, (blk_cell BK220.out 0).trans rfl, (blk_cell BK220.out 1).trans rfl, (blk_cell BK220.out 2).trans rfl⟩ (fun hHeld => ?_)
                    clear hK K
                    refine norm_ (a' := ?_) ?_ ?_
                    rotate_left
                    · show Act.put _ (some 63) _ = _
                      simp only [Act.put, List.setIfInBounds_toArray, List.set_cons_zero, List.set_cons_succ, i64_w, i32_w]
                      rfl
                    refine one_ (i := 7) (N := some 65) Fl8 rfl rfl (one_of HT_.out (by kernel_rfl)) (by decide) (fun K hK => ?_)
                    refine goes_ Try.func16 (by kernel_rfl) rfl #[.agg #[.int .i64 t223, .int .i64 t224, .slice Ao52 t225.length co52], .agg #[.int .i64 t214, .int .i64 t215, .slice Ao33 t216.length co33]] (by rfl) rfl rfl (by (try simp only [List.map_toArray, List.map_cons, List.map_nil]); first | done | rfl | (simp only [List.length_drop, List.length_take]; rfl)) ?_
                    with_reducible refine (chequerref03_Same.calls kj16 t223 t224 _ _ t225 t214 t215 _ _ t216 true _ ?side1 ?side2 ?side3 ?side4 A39.out).mono ?_
                    (case side1 => exact cp_ (Kd.V_reads' HO227.out).2.2)
                    (case side2 => exact (Kd.V_reads' HO227.out).2.1)
                    (case side3 => exact cp_ (Kd.V_reads' HO_221002.out).2.2)
                    (case side4 => exact (Kd.V_reads' HO_221002.out).2.1)
                    rintro e w53 ⟨rfl, hb⟩
                    refine ⟨_, rfl, ?_⟩
                    replace HO_201002 := Aside0.mk (Kd.R_below (rp_ HO_201002.out) hb)
                    replace HO_214002 := Aside0.mk (Kd.R_below (rp_ HO_214002.out) hb)
                    replace HO_221002 := Aside0.mk (Kd.V_below (vp_ HO_221002.out) hb)
                    replace HO227 := Aside0.mk (Kd.V_below (vp_ HO227.out) hb)
                    replace BK200 := Aside0.mk (blk_below (hp_ BK200.out) hb)
                    replace BK213 := Aside0.mk (blk_below (hp_ BK213.out) hb)
                    replace BK220 := Aside0.mk (blk_below (hp_ BK220.out) hb)
                    replace HB := Aside0.mk (below_step bp_ hb)
                    (try clear hb)
                    (try clear hb2)
                    (try clear hk)
                    (try clear hi)
                    refine hK.out _ _ ⟨(blk_cell BK213.out 0).trans rfl, (blk_cell BK213.out 1).trans rfl, (blk_cell BK213.out 2).trans rfl, (blk_cell BK220.out 0).trans rfl, (blk_cell BK220.out 1).trans rfl, (blk_cell BK220.out 2).trans rfl⟩ (fun hHeld => ?_)
                    clear hK K
                    refine norm_ (a' := ?_) ?_ ?_
                    rotate_left
                    · show Act.put _ (some 65) _ = _
                      simp only [Act.put, List.setIfInBounds_toArray, List.set_cons_zero, List.set_cons_succ, i64_w, i32_w]
                      rfl
                    refine pur_ (i := 8) (N := some 66) Fl9 (any_of HT_.out (by kernel_rfl)) ?_
                    refine pur_ (i := 9) (N := some 67) Fl10 (any_of HT_.out (by kernel_rfl)) ?_
                    refine pur_ (i := 10) (N := some 68) Fl11 (any_of HT_.out (by kernel_rfl)) ?_
                    refine pur_ (i := 11) (N := some 69) Fl12 (any_of HT_.out (by kernel_rfl)) ?_
                    refine pur_ (i := 13) (N := some 71) Fl36 (any_of HT_.out (by kernel_rfl)) ?_
                    refine one_ (i := 12) (N := some 70) Fl13 rfl rfl (one_of HT_.out (by kernel_rfl)) (by decide) (fun K hK => ?_)
                    refine goes_ Try.func18 (by kernel_rfl) rfl #[.int .i64 x7_10] (by rfl) rfl rfl (by (try simp only [List.map_toArray, List.map_cons, List.map_nil]); first | done | rfl | (simp only [List.length_drop, List.length_take]; rfl)) ?_
                    with_reducible refine (turn_May.calls x7_10 t229 _ A41.out).mono ?_
                    rintro e w' ⟨rfl, ⟨nd, rfl⟩⟩
                    refine ⟨_, rfl, ?_⟩
                    refine hK.out _ _ ⟨(blk_cell BK213.out 0).trans rfl, (blk_cell BK213.out 1).trans rfl, (blk_cell BK213.out 2).trans rfl, (blk_cell BK220.out 0).trans rfl, (blk_cell BK220.out 1).trans rfl, (blk_cell BK220.out 2).trans rfl⟩ (fun hHeld => ?_)
                    clear hK K
                    refine norm_ (a' := ?_) ?_ ?_
                    rotate_left
                    · show Act.put _ (some 70) _ = _
                      simp only [Act.put, List.setIfInBounds_toArray, List.set_cons_zero, List.set_cons_succ, i64_w, i32_w]
                      rfl
                    refine pur_ (i := 14) (N := some 72) Fl14 (any_of HT_.out (by kernel_rfl)) ?_
                    refine pur_ (i := 15) (N := some 73) Fl15 (any_of HT_.out (by kernel_rfl)) ?_
                    refine pur_ (i := 16) (N := some 74) Fl16 (any_of HT_.out (by kernel_rfl)) ?_
                    refine pur_ (i := 17) (N := some 75) Fl17 (any_of HT_.out (by kernel_rfl)) ?_
                    refine pur_ (i := 18) (N := some 76) Fl18 (any_of HT_.out (by kernel_rfl)) ?_
                    refine take_ (i := 19) (N := some 77) (v := ?_) (a' := ?_) Fl19 rfl rfl (take_ofW HT_.out HW_.out (by kernel_rfl)) (fun _ _ _ h => h) (Or.inl ⟨by rfl, ?_⟩) hHeld ?_ ?_
                    rotate_left
                    · rintro w' ⟨s0, s1, s2, s3, s4, s5⟩
                      go_simp
                      with_reducible rfl
                    rotate_left
                    · simp only [Act.put, List.setIfInBounds_toArray, List.set_cons_zero, List.set_cons_succ, i64_w, i32_w]
                      rfl
                    refine pur_ (i := 20) (N := some 78) Fl20 (any_of HT_.out (by kernel_rfl)) ?_
                    refine pur_ (i := 21) (N := some 79) Fl21 (any_of HT_.out (by kernel_rfl)) ?_
                    refine pur_ (i := 22) (N := some 80) Fl22 (any_of HT_.out (by kernel_rfl)) ?_
                    refine pur_ (i := 23) (N := some 81) Fl23 (any_of HT_.out (by kernel_rfl)) ?_
                    refine pur_ (i := 24) (N := some 82) Fl24 (any_of HT_.out (by kernel_rfl)) ?_
                    refine take_ (i := 25) (N := some 83) (v := ?_) (a' := ?_) Fl25 rfl rfl (take_ofW HT_.out HW_.out (by kernel_rfl)) (fun _ _ _ h => h) (Or.inl ⟨by rfl, ?_⟩) hHeld ?_ ?_
                    rotate_left
                    · rintro w' ⟨s0, s1, s2, s3, s4, s5⟩
                      go_simp
                      with_reducible rfl
                    rotate_left
                    · simp only [Act.put, List.setIfInBounds_toArray, List.set_cons_zero, List.set_cons_succ, i64_w, i32_w]
                      rfl
                    refine pur_ (i := 26) (N := some 84) Fl26 (any_of HT_.out (by kernel_rfl)) ?_
                    refine pur_ (i := 27) (N := some 85) Fl27 (any_of HT_.out (by kernel_rfl)) ?_
                    refine pur_ (i := 28) (N := some 86) Fl28 (any_of HT_.out (by kernel_rfl)) ?_
                    refine pur_ (i := 29) (N := some 87) Fl29 (any_of HT_.out (by kernel_rfl)) ?_
                    refine pur_ (i := 32) (N := some 90) #[true, true, true, true, true, true, true, true, true, true, true, true, true, true, true, true, true, true, true, true, true, true, true, true, true, true, true, true, true, true, false, false, true, false, false] (any_of HT_.out (by kernel_rfl)) ?_
                    refine one_ (i := 30) (N := some 88) #[true, true, true, true, true, true, true, true, true, true, true, true, true, true, true, true, true, true, true, true, true, true, true, true, true, true, true, true, true, true, true, false, true, false, false] rfl rfl (one_of HT_.out (by kernel_rfl)) (by decide) (fun K hK => ?_)
                    refine goes_ Try.func19 (by kernel_rfl) rfl #[.int .i64 x7_10] (by rfl) rfl rfl (by (try simp only [List.map_toArray, List.map_cons, List.map_nil]); first | done | rfl | (simp only [List.length_drop, List.length_take]; rfl)) ?_
                    with_reducible refine (turn_Name.calls x7_10 t230 _ A49.out).mono ?_
                    rintro e w' ⟨rfl, ⟨nd, rfl⟩⟩
                    refine ⟨_, rfl, ?_⟩
                    refine hK.out _ _ ⟨(blk_cell BK213.out 0).trans rfl, (blk_cell BK213.out 1).trans rfl, (blk_cell BK213.out 2).trans rfl, (blk_cell BK220.out 0).trans rfl, (blk_cell BK220.out 1).trans rfl, (blk_cell BK220.out 2).trans rfl⟩ (fun hHeld => ?_)
                    clear hK K
                    refine norm_ (a' := ?_) ?_ ?_
                    rotate_left
                    · show Act.put _ (some 88) _ = _
                      simp only [Act.put, List.setIfInBounds_toArray, List.set_cons_zero, List.set_cons_succ, i64_w, i32_w]
                      rfl
                    refine pur_ (i := 31) (N := some 89) Fl30 (any_of HT_.out (by kernel_rfl)) ?_
                    refine pur_ (i := 33) (N := some 91) Fl31 (any_of HT_.out (by kernel_rfl)) ?_
                    refine pur_ (i := 34) (N := some 92) Fl32 (any_of HT_.out (by kernel_rfl)) ?_
                    refine done_ (done_of HT_.out (by kernel_rfl)) ?_
                    try go_wp2
                    go_meet
                    case rel => exact ⟨_, (((t230.toList != ([] : List UInt8)) != x14_16)), (by first | rfl | (rw [bne_nil_] <;> rfl) | (simp only [bne_nil_] <;> rfl) | (simp; done) | (simp [*]; done)), H', ⟨by have := HK1.out; have := HJ10.out; have := HJ16.out; first | omega | exact Nat.le_refl _⟩, ⟨rp_ HO_201002.out⟩, ⟨rp_ HO_214002.out⟩, ⟨vp_ HO_221002.out⟩, ⟨hp_ BK200.out⟩, ⟨hp_ BK213.out⟩, ⟨hp_ BK220.out⟩, ⟨bp_⟩⟩
                  · rw [if_neg c48] at H
                    have c48b0 : (t222 == t215) = false := beq_eq_false_iff_ne.mpr c48
                    have c48b1 : (t222 != t215) = true := bne_iff_ne.mpr c48
                    have H' := Aside0.mk H
                    clear H
                    try go_wp2
                    (try (rw [drewN_self wc]; generalize hq_ : World.drewN wc _ = wc; have n0_ := Aside0.mk (qrp_ hq_ HO_201002.out); have n1_ := Aside0.mk (qrp_ hq_ HO_214002.out); have n2_ := Aside0.mk (qvp_ hq_ HO_221002.out); have n3_ := Aside0.mk (qhp_ hq_ BK200.out); have n4_ := Aside0.mk (qhp_ hq_ BK213.out); have n5_ := Aside0.mk (qhp_ hq_ BK220.out); have n6_ : Aside0 (Below w.heap.size w wc) := ⟨qbp_ hq_⟩; clear HO_201002 HO_214002 HO_221002 BK200 BK213 BK220 HB hq_; have HO_201002 := n0_; have HO_214002 := n1_; have HO_221002 := n2_; have BK200 := n3_; have BK213 := n4_; have BK220 := n5_; have HB := n6_; clear n0_ n1_ n2_ n3_ n4_ n5_ n6_))
                    replace HO_201002 := Aside0.mk (Kd.R_drew HO_201002.out)
                    replace HO_214002 := Aside0.mk (Kd.R_drew HO_214002.out)
                    replace HO_221002 := Aside0.mk (Kd.V_drew HO_221002.out)
                    replace BK200 := Aside0.mk (blk_drew BK200.out)
                    replace BK213 := Aside0.mk (blk_drew BK213.out)
                    replace BK220 := Aside0.mk (blk_drew BK220.out)
                    replace HB := Aside0.mk (below_drew1 HB.out)
                    refine start_ (n := 35) (S := fun w' => w'.cell? ⟨gb213, 0, none⟩ = some (.int .i64 t207) ∧ w'.cell? ⟨gb213, 1, none⟩ = some (.int .i64 t208) ∧ w'.cell? ⟨gb213, 2, none⟩ = some (.slice Ao25 t209.length co25) ∧ w'.cell? ⟨gb220, 0, none⟩ = some (.int .i64 t214) ∧ w'.cell? ⟨gb220, 1, none⟩ = some (.int .i64 t215) ∧ w'.cell? ⟨gb220, 2, none⟩ = some (.slice Ao33 t216.length co33)) (ds := []) Fl1 (by kernel_rfl) rfl rfl ⟨(blk_cell BK213.out 0).trans rfl, (blk_cell BK213.out 1).trans rfl, (blk_cell BK213.out 2).trans rfl, (blk_cell BK220.out 0).trans rfl, (blk_cell BK220.out 1).trans rfl, (blk_cell BK220.out 2).trans rfl⟩ (fun hHeld => ?_); refine with_tabW chequerlaw04_TurnLays.tab12 chequerlaw04_TurnLays.bits12 (fun HT_ HW_ => ?_)
                    generalize wc.drew = w54 at HO_201002 HO_214002 HO_221002 BK200 BK213 BK220 HB hHeld ⊢
                    refine pur_ (i := 0) (N := some 58) Fl2 (any_of HT_.out (by kernel_rfl)) ?_
                    refine pur_ (i := 1) (N := some 59) Fl3 (any_of HT_.out (by kernel_rfl)) ?_
                    refine pur_ (i := 2) (N := some 60) Fl4 (any_of HT_.out (by kernel_rfl)) ?_
                    refine pur_ (i := 3) (N := some 61) Fl5 (any_of HT_.out (by kernel_rfl)) ?_
                    refine take_ (i := 4) (N := some 62) (v := ?_) (a' := ?_) Fl6 rfl rfl (take_ofW HT_.out HW_.out (by kernel_rfl)) (fun _ _ _ h => h) (Or.inl ⟨by rfl, ?_⟩) hHeld ?_ ?_
                    rotate_left
                    · rintro w' ⟨s0, s1, s2, s3, s4, s5⟩
                      go_simp
                      with_reducible rfl
                    rotate_left
                    · simp only [Act.put, List.setIfInBounds_toArray, List.set_cons_zero, List.set_cons_succ, i64_w, i32_w]
                      rfl
                    refine take_ (i := 6) (N := some 64) (v := ?_) (a' := ?_) Fl33 rfl rfl (take_ofW HT_.out HW_.out (by kernel_rfl)) (fun _ _ _ h => h) (Or.inl ⟨by rfl, ?_⟩) hHeld ?_ ?_
                    rotate_left
                    · rintro w' ⟨s0, s1, s2, s3, s4, s5⟩
                      go_simp
                      with_reducible rfl
                    rotate_left
                    · simp only [Act.put, List.setIfInBounds_toArray, List.set_cons_zero, List.set_cons_succ, i64_w, i32_w]
                      rfl
                    refine one_ (i := 5) (N := some 63) Fl7 rfl rfl (one_of HT_.out (by kernel_rfl)) (by decide) (fun K hK => ?_)
                    refine goes_ Try.func17 (by kernel_rfl) rfl #[.agg #[.int .i64 t207, .int .i64 t208, .slice Ao25 t209.length co25]] (by rfl) rfl rfl (by (try simp only [List.map_toArray, List.map_cons, List.map_nil]); first | done | rfl | (simp only [List.length_drop, List.length_take]; rfl)) ?_
                    with_reducible refine (chequerlaw04_as.calls t207 t208 (fun k_ => some k_ = (.slice Ao25 t209.length co25 : Value).ownBlock) _ _ t209 t223 t224 t225 _ ?side1 A38.out).mono ?_
                    (case side1 => exact Kd.R_V (Kd.R_tight rfl (Kd.R_types (Kd.R_types (Kd.R_types (HO_214002.out) BK200.out (by decide)) BK213.out (by decide)) BK220.out (by decide))))
                    rintro e w55 ⟨v226, rfl, ho0, hb⟩
                    refine ⟨_, rfl, ?_⟩
                    replace HO_221002 := Aside0.mk (Kd.V_below (vp_ HO_221002.out) hb)
                    have HO227 := Aside0.mk (Kd.V_lower (Kd.V_mono (ok' := fun k_ => some k_ ≠ (.slice Ao9 t197.length co9 : Value).ownBlock ∧ k_ ≠ gb200 ∧ k_ ≠ gb213 ∧ k_ ≠ gb220) ho0 (fun k_ hk_ => ⟨Or.elim hk_ (fun hs_ => ((Kd.R_types (Kd.R_types (Kd.R_types (HO_214002.out) BK200.out (by decide)) BK213.out (by decide)) BK220.out (by decide)).1 k_ hs_.symm).1.1.1) (fun hn_ => (Kd.fresh' (Kd.R_lt (rp_ HO_201002.out)) k_ hn_)), Or.elim hk_ (fun hs_ => ((Kd.R_types (Kd.R_types (Kd.R_types (HO_214002.out) BK200.out (by decide)) BK213.out (by decide)) BK220.out (by decide)).1 k_ hs_.symm).1.1.2) (fun hn_ => (Kd.freshB (g := gb200) (o := .cells #[.int .i64 t195, .int .i64 t196, .slice Ao9 t197.length co9] 24 (0, 0)) (hp_ BK200.out) k_ hn_)), Or.elim hk_ (fun hs_ => ((Kd.R_types (Kd.R_types (Kd.R_types (HO_214002.out) BK200.out (by decide)) BK213.out (by decide)) BK220.out (by decide)).1 k_ hs_.symm).1.2) (fun hn_ => (Kd.freshB (g := gb213) (o := .cells #[.int .i64 t207, .int .i64 t208, .slice Ao25 t209.length co25] 26 (0, 0)) (hp_ BK213.out) k_ hn_)), Or.elim hk_ (fun hs_ => ((Kd.R_types (Kd.R_types (Kd.R_types (HO_214002.out) BK200.out (by decide)) BK213.out (by decide)) BK220.out (by decide)).1 k_ hs_.symm).2) (fun hn_ => (Kd.freshB (g := gb220) (o := .cells #[.int .i64 t214, .int .i64 t215, .slice Ao33 t216.length co33] 24 (0, 0)) (hp_ BK220.out) k_ hn_))⟩)) (below_size bp_))
                    replace HO_201002 := Aside0.mk (Kd.R_below (rp_ HO_201002.out) hb)
                    replace HO_214002 := Aside0.mk (Kd.R_below (rp_ HO_214002.out) hb)
                    replace BK200 := Aside0.mk (blk_below (hp_ BK200.out) hb)
                    replace BK213 := Aside0.mk (blk_below (hp_ BK213.out) hb)
                    replace BK220 := Aside0.mk (blk_below (hp_ BK220.out) hb)
                    replace HB := Aside0.mk (below_step bp_ hb)
                    (try clear hb)
                    (try clear hb2)
                    (try clear hk)
                    (try clear hi)
                    (try clear ho0)
                    obtain ⟨Ao56, co56, eo56⟩ := Kd.V_slice HO227.out
                    (first | subst eo56 | (injection eo56 with f1_ f2_ f3_; have f4_ := f1_.symm; have f5_ := f3_.symm; clear f1_ f2_ f3_; subst f4_; subst f5_))
                    refine hK.out _ _ ⟨(blk_cell BK213.out 0).trans rfl, (blk_cell BK213.out 1).trans rfl, (blk_cell BK213.out 2).trans rfl, (blk_cell BK220.out 0).trans rfl, (blk_cell BK220.out 1).trans rfl, (blk_cell BK220.out 2).trans rfl⟩ (fun hHeld => ?_)
                    clear hK K
                    refine norm_ (a' := ?_) ?_ ?_
                    rotate_left
                    · show Act.put _ (some 63) _ = _
                      simp only [Act.put, List.setIfInBounds_toArray, List.set_cons_zero, List.set_cons_succ, i64_w, i32_w]
                      rfl
                    refine one_ (i := 7) (N := some 65) Fl8 rfl rfl (one_of HT_.out (by kernel_rfl)) (by decide) (fun K hK => ?_)
                    refine goes_ Try.func16 (by kernel_rfl) rfl #[.agg #[.int .i64 t223, .int .i64 t224, .slice Ao56 t225.length co56], .agg #[.int .i64 t214, .int .i64 t215, .slice Ao33 t216.length co33]] (by rfl) rfl rfl (by (try simp only [List.map_toArray, List.map_cons, List.map_nil]); first | done | rfl | (simp only [List.length_drop, List.length_take]; rfl)) ?_
                    with_reducible refine (chequerref03_Same.calls kj16 t223 t224 _ _ t225 t214 t215 _ _ t216 true _ ?side1 ?side2 ?side3 ?side4 A39.out).mono ?_
                    (case side1 => exact cp_ (Kd.V_reads' HO227.out).2.2)
                    (case side2 => exact (Kd.V_reads' HO227.out).2.1)
                    (case side3 => exact cp_ (Kd.V_reads' HO_221002.out).2.2)
                    (case side4 => exact (Kd.V_reads' HO_221002.out).2.1)
                    rintro e w57 ⟨rfl, hb⟩
                    refine ⟨_, rfl, ?_⟩
                    replace HO_201002 := Aside0.mk (Kd.R_below (rp_ HO_201002.out) hb)
                    replace HO_214002 := Aside0.mk (Kd.R_below (rp_ HO_214002.out) hb)
                    replace HO_221002 := Aside0.mk (Kd.V_below (vp_ HO_221002.out) hb)
                    replace HO227 := Aside0.mk (Kd.V_below (vp_ HO227.out) hb)
                    replace BK200 := Aside0.mk (blk_below (hp_ BK200.out) hb)
                    replace BK213 := Aside0.mk (blk_below (hp_ BK213.out) hb)
                    replace BK220 := Aside0.mk (blk_below (hp_ BK220.out) hb)
                    replace HB := Aside0.mk (below_step bp_ hb)
                    (try clear hb)
                    (try clear hb2)
                    (try clear hk)
                    (try clear hi)
                    refine hK.out _ _ ⟨(blk_cell BK213.out 0).trans rfl, (blk_cell BK213.out 1).trans rfl, (blk_cell BK213.out 2).trans rfl, (blk_cell BK220.out 0).trans rfl, (blk_cell BK220.out 1).trans rfl, (blk_cell BK220.out 2).trans rfl⟩ (fun hHeld => ?_)
                    clear hK K
                    refine norm_ (a' := ?_) ?_ ?_
                    rotate_left
                    · show Act.put _ (some 65) _ = _
                      simp only [Act.put, List.setIfInBounds_toArray, List.set_cons_zero, List.set_cons_succ, i64_w, i32_w]
                      rfl
                    refine pur_ (i := 8) (N := some 66) Fl9 (any_of HT_.out (by kernel_rfl)) ?_
                    refine pur_ (i := 9) (N := some 67) Fl10 (any_of HT_.out (by kernel_rfl)) ?_
                    refine pur_ (i := 10) (N := some 68) Fl11 (any_of HT_.out (by kernel_rfl)) ?_
                    refine pur_ (i := 11) (N := some 69) Fl12 (any_of HT_.out (by kernel_rfl)) ?_
                    refine pur_ (i := 13) (N := some 71) Fl36 (any_of HT_.out (by kernel_rfl)) ?_
                    refine one_ (i := 12) (N := some 70) Fl13 rfl rfl (one_of HT_.out (by kernel_rfl)) (by decide) (fun K hK => ?_)
                    refine goes_ Try.func18 (by kernel_rfl) rfl #[.int .i64 x7_10] (by rfl) rfl rfl (by (try simp only [List.map_toArray, List.map_cons, List.map_nil]); first | done | rfl | (simp only [List.length_drop, List.length_take]; rfl)) ?_
                    with_reducible refine (turn_May.calls x7_10 t229 _ A41.out).mono ?_
                    rintro e w' ⟨rfl, ⟨nd, rfl⟩⟩
                    refine ⟨_, rfl, ?_⟩
                    refine hK.out _ _ ⟨(blk_cell BK213.out 0).trans rfl, (blk_cell BK213.out 1).trans rfl, (blk_cell BK213.out 2).trans rfl, (blk_cell BK220.out 0).trans rfl, (blk_cell BK220.out 1).trans rfl, (blk_cell BK220.out 2).trans rfl⟩ (fun hHeld => ?_)
                    clear hK K
                    refine norm_ (a' := ?_) ?_ ?_
                    rotate_left
                    · show Act.put _ (some 70) _ = _
                      simp only [Act.put, List.setIfInBounds_toArray, List.set_cons_zero, List.set_cons_succ, i64_w, i32_w]
                      rfl
                    refine pur_ (i := 14) (N := some 72) Fl14 (any_of HT_.out (by kernel_rfl)) ?_
                    refine pur_ (i := 15) (N := some 73) Fl15 (any_of HT_.out (by kernel_rfl)) ?_
                    refine pur_ (i := 16) (N := some 74) Fl16 (any_of HT_.out (by kernel_rfl)) ?_
                    refine pur_ (i := 17) (N := some 75) Fl17 (any_of HT_.out (by kernel_rfl)) ?_
                    refine pur_ (i := 18) (N := some 76) Fl18 (any_of HT_.out (by kernel_rfl)) ?_
                    refine take_ (i := 19) (N := some 77) (v := ?_) (a' := ?_) Fl19 rfl rfl (take_ofW HT_.out HW_.out (by kernel_rfl)) (fun _ _ _ h => h) (Or.inl ⟨by rfl, ?_⟩) hHeld ?_ ?_
                    rotate_left
                    · rintro w' ⟨s0, s1, s2, s3, s4, s5⟩
                      go_simp
                      with_reducible rfl
                    rotate_left
                    · simp only [Act.put, List.setIfInBounds_toArray, List.set_cons_zero, List.set_cons_succ, i64_w, i32_w]
                      rfl
                    refine pur_ (i := 20) (N := some 78) Fl20 (any_of HT_.out (by kernel_rfl)) ?_
                    refine pur_ (i := 21) (N := some 79) Fl21 (any_of HT_.out (by kernel_rfl)) ?_
                    refine pur_ (i := 22) (N := some 80) Fl22 (any_of HT_.out (by kernel_rfl)) ?_
                    refine pur_ (i := 23) (N := some 81) Fl23 (any_of HT_.out (by kernel_rfl)) ?_
                    refine pur_ (i := 24) (N := some 82) Fl24 (any_of HT_.out (by kernel_rfl)) ?_
                    refine take_ (i := 25) (N := some 83) (v := ?_) (a' := ?_) Fl25 rfl rfl (take_ofW HT_.out HW_.out (by kernel_rfl)) (fun _ _ _ h => h) (Or.inl ⟨by rfl, ?_⟩) hHeld ?_ ?_
                    rotate_left
                    · rintro w' ⟨s0, s1, s2, s3, s4, s5⟩
                      go_simp
                      with_reducible rfl
                    rotate_left
                    · simp only [Act.put, List.setIfInBounds_toArray, List.set_cons_zero, List.set_cons_succ, i64_w, i32_w]
                      rfl
                    refine pur_ (i := 26) (N := some 84) Fl26 (any_of HT_.out (by kernel_rfl)) ?_
                    refine pur_ (i := 27) (N := some 85) Fl27 (any_of HT_.out (by kernel_rfl)) ?_
                    refine pur_ (i := 28) (N := some 86) Fl28 (any_of HT_.out (by kernel_rfl)) ?_
                    refine pun_ (i := 29) (N := some 87) Fl29 (any_of HT_.out (by kernel_rfl)) ?_
                    refine pun_ (i := 30) (N := some 88) Fl34 (any_of HT_.out (by kernel_rfl)) ?_
                    refine pun_ (i := 31) (N := some 89) Fl35 (any_of HT_.out (by kernel_rfl)) ?_
                    refine pun_ (i := 32) (N := some 90) Fl30 (any_of HT_.out (by kernel_rfl)) ?_
                    refine pun_ (i := 33) (N := some 91) Fl31 (any_of HT_.out (by kernel_rfl)) ?_
                    refine pur_ (i := 34) (N := some 92) Fl32 (any_of HT_.out (by kernel_rfl)) ?_
                    refine done_ (done_of HT_.out (by kernel_rfl)) ?_
                    try go_wp2
                    go_meet
                    case rel => exact ⟨_, (true), (by first | rfl | (simp; done) | (simp [*]; done)), H', ⟨by have := HK1.out; have := HJ10.out; have := HJ16.out; first | omega | exact Nat.le_refl _⟩, ⟨rp_ HO_201002.out⟩, ⟨rp_ HO_214002.out⟩, ⟨vp_ HO_221002.out⟩, ⟨hp_ BK200.out⟩, ⟨hp_ BK213.out⟩, ⟨hp_ BK220.out⟩, ⟨bp_⟩⟩
                · rw [if_neg c47] at H
                  have c47b0 : (t221 == t214) = false := beq_eq_false_iff_ne.mpr c47
                  have c47b1 : (t221 != t214) = true := bne_iff_ne.mpr c47
                  have H' := Aside0.mk H
                  clear H
                  try go_wp2
                  (try (rw [drewN_self wc]; generalize hq_ : World.drewN wc _ = wc; have n0_ := Aside0.mk (qrp_ hq_ HO_201002.out); have n1_ := Aside0.mk (qrp_ hq_ HO_214002.out); have n2_ := Aside0.mk (qvp_ hq_ HO_221002.out); have n3_ := Aside0.mk (qhp_ hq_ BK200.out); have n4_ := Aside0.mk (qhp_ hq_ BK213.out); have n5_ := Aside0.mk (qhp_ hq_ BK220.out); have n6_ : Aside0 (Below w.heap.size w wc) := ⟨qbp_ hq_⟩; clear HO_201002 HO_214002 HO_221002 BK200 BK213 BK220 HB hq_; have HO_201002 := n0_; have HO_214002 := n1_; have HO_221002 := n2_; have BK200 := n3_; have BK213 := n4_; have BK220 := n5_; have HB := n6_; clear n0_ n1_ n2_ n3_ n4_ n5_ n6_))
                  replace HO_201002 := Aside0.mk (Kd.R_drew HO_201002.out)
                  replace HO_214002 := Aside0.mk (Kd.R_drew HO_214002.out)
                  replace HO_221002 := Aside0.mk (Kd.V_drew HO_221002.out)
                  replace BK200 := Aside0.mk (blk_drew BK200.out)
                  replace BK213 := Aside0.mk (blk_drew BK213.out)
                  replace BK220 := Aside0.mk (blk_drew BK220.out)
                  replace HB := Aside0.mk (below_drew1 HB.out)
                  refine start_ (n := 35) (S := fun w' => w'.cell? ⟨gb213, 0, none⟩ = some (.int .i64 t207) ∧ w'.cell? ⟨gb213, 1, none⟩ = some (.int .i64 t208) ∧ w'.cell? ⟨gb213, 2, none⟩ = some (.slice Ao25 t209.length co25) ∧ w'.cell? ⟨gb220, 0, none⟩ = some (.int .i64 t214) ∧ w'.cell? ⟨gb220, 1, none⟩ = some (.int .i64 t215) ∧ w'.cell? ⟨gb220, 2, none⟩ = some (.slice Ao33 t216.length co33)) (ds := []) Fl1 (by kernel_rfl) rfl rfl ⟨(blk_cell BK213.out 0).trans rfl, (blk_cell BK213.out 1).trans rfl, (blk_cell BK213.out 2).trans rfl, (blk_cell BK220.out 0).trans rfl, (blk_cell BK220.out 1).trans rfl, (blk_cell BK220.out 2).trans rfl⟩ (fun hHeld => ?_); refine with_tabW chequerlaw04_TurnLays.tab12 chequerlaw04_TurnLays.bits12 (fun HT_ HW_ => ?_)
                  generalize wc.drew = w58 at HO_201002 HO_214002 HO_221002 BK200 BK213 BK220 HB hHeld ⊢
                  refine pur_ (i := 0) (N := some 58) Fl2 (any_of HT_.out (by kernel_rfl)) ?_
                  refine pur_ (i := 1) (N := some 59) Fl3 (any_of HT_.out (by kernel_rfl)) ?_
                  refine pur_ (i := 2) (N := some 60) Fl4 (any_of HT_.out (by kernel_rfl)) ?_
                  refine pur_ (i := 3) (N := some 61) Fl5 (any_of HT_.out (by kernel_rfl)) ?_
                  refine take_ (i := 4) (N := some 62) (v := ?_) (a' := ?_) Fl6 rfl rfl (take_ofW HT_.out HW_.out (by kernel_rfl)) (fun _ _ _ h => h) (Or.inl ⟨by rfl, ?_⟩) hHeld ?_ ?_
                  rotate_left
                  · rintro w' ⟨s0, s1, s2, s3, s4, s5⟩
                    go_simp
                    with_reducible rfl
                  rotate_left
                  · simp only [Act.put, List.setIfInBounds_toArray, List.set_cons_zero, List.set_cons_succ, i64_w, i32_w]
                    rfl
                  refine take_ (i := 6) (N := some 64) (v := ?_) (a' := ?_) Fl33 rfl rfl (take_ofW HT_.out HW_.out (by kernel_rfl)) (fun _ _ _ h => h) (Or.inl ⟨by rfl, ?_⟩) hHeld ?_ ?_
                  rotate_left
                  · rintro w' ⟨s0, s1, s2, s3, s4, s5⟩
                    go_simp
                    with_reducible rfl
                  rotate_left
                  · simp only [Act.put, List.setIfInBounds_toArray, List.set_cons_zero, List.set_cons_succ, i64_w, i32_w]
                    rfl
                  refine one_ (i := 5) (N := some 63) Fl7 rfl rfl (one_of HT_.out (by kernel_rfl)) (by decide) (fun K hK => ?_)
                  refine goes_ Try.func17 (by kernel_rfl) rfl #[.agg #[.int .i64 t207, .int .i64 t208, .slice Ao25 t209.length co25]] (by rfl) rfl rfl (by (try simp only [List.map_toArray, List.map_cons, List.map_nil]); first | done | rfl | (simp only [List.length_drop, List.length_take]; rfl)) ?_
                  with_reducible refine (chequerlaw04_as.calls t207 t208 (fun k_ => some k_ = (.slice Ao25 t209.length co25 : Value).ownBlock) _ _ t209 t223 t224 t225 _ ?side1 A38.out).mono ?_
                  (case side1 => exact Kd.R_V (Kd.R_tight rfl (Kd.R_types (Kd.R_types (Kd.R_types (HO_214002.out) BK200.out (by decide)) BK213.out (by decide)) BK220.out (by decide))))
                  rintro e w59 ⟨v226, rfl, ho0, hb⟩
                  refine ⟨_, rfl, ?_⟩
                  replace HO_221002 := Aside0.mk (Kd.V_below (vp_ HO_221002.out) hb)
                  have HO227 := Aside0.mk (Kd.V_lower (Kd.V_mono (ok' := fun k_ => some k_ ≠ (.slice Ao9 t197.length co9 : Value).ownBlock ∧ k_ ≠ gb200 ∧ k_ ≠ gb213 ∧ k_ ≠ gb220) ho0 (fun k_ hk_ => ⟨Or.elim hk_ (fun hs_ => ((Kd.R_types (Kd.R_types (Kd.R_types (HO_214002.out) BK200.out (by decide)) BK213.out (by decide)) BK220.out (by decide)).1 k_ hs_.symm).1.1.1) (fun hn_ => (Kd.fresh' (Kd.R_lt (rp_ HO_201002.out)) k_ hn_)), Or.elim hk_ (fun hs_ => ((Kd.R_types (Kd.R_types (Kd.R_types (HO_214002.out) BK200.out (by decide)) BK213.out (by decide)) BK220.out (by decide)).1 k_ hs_.symm).1.1.2) (fun hn_ => (Kd.freshB (g := gb200) (o := .cells #[.int .i64 t195, .int .i64 t196, .slice Ao9 t197.length co9] 24 (0, 0)) (hp_ BK200.out) k_ hn_)), Or.elim hk_ (fun hs_ => ((Kd.R_types (Kd.R_types (Kd.R_types (HO_214002.out) BK200.out (by decide)) BK213.out (by decide)) BK220.out (by decide)).1 k_ hs_.symm).1.2) (fun hn_ => (Kd.freshB (g := gb213) (o := .cells #[.int .i64 t207, .int .i64 t208, .slice Ao25 t209.length co25] 26 (0, 0)) (hp_ BK213.out) k_ hn_)), Or.elim hk_ (fun hs_ => ((Kd.R_types (Kd.R_types (Kd.R_types (HO_214002.out) BK200.out (by decide)) BK213.out (by decide)) BK220.out (by decide)).1 k_ hs_.symm).2) (fun hn_ => (Kd.freshB (g := gb220) (o := .cells #[.int .i64 t214, .int .i64 t215, .slice Ao33 t216.length co33] 24 (0, 0)) (hp_ BK220.out) k_ hn_))⟩)) (below_size bp_))
                  replace HO_201002 := Aside0.mk (Kd.R_below (rp_ HO_201002.out) hb)
                  replace HO_214002 := Aside0.mk (Kd.R_below (rp_ HO_214002.out) hb)
                  replace BK200 := Aside0.mk (blk_below (hp_ BK200.out) hb)
                  replace BK213 := Aside0.mk (blk_below (hp_ BK213.out) hb)
                  replace BK220 := Aside0.mk (blk_below (hp_ BK220.out) hb)
                  replace HB := Aside0.mk (below_step bp_ hb)
                  (try clear hb)
                  (try clear hb2)
                  (try clear hk)
                  (try clear hi)
                  (try clear ho0)
                  obtain ⟨Ao60, co60, eo60⟩ := Kd.V_slice HO227.out
                  (first | subst eo60 | (injection eo60 with f1_ f2_ f3_; have f4_ := f1_.symm; have f5_ := f3_.symm; clear f1_ f2_ f3_; subst f4_; subst f5_))
                  refine hK.out _ _ ⟨(blk_cell BK213.out 0).trans rfl, (blk_cell BK213.out 1).trans rfl, (blk_cell BK213.out 2).trans rfl, (blk_cell BK220.out 0).trans rfl, (blk_cell BK220.out 1).trans rfl, (blk_cell BK220.out 2).trans rfl⟩ (fun hHeld => ?_)
                  clear hK K
                  refine norm_ (a' := ?_) ?_ ?_
                  rotate_left
                  · show Act.put _ (some 63) _ = _
                    simp only [Act.put, List.setIfInBounds_toArray, List.set_cons_zero, List.set_cons_succ, i64_w, i32_w]
                    rfl
                  refine one_ (i := 7) (N := some 65) Fl8 rfl rfl (one_of HT_.out (by kernel_rfl)) (by decide) (fun K hK => ?_)
                  refine goes_ Try.func16 (by kernel_rfl) rfl #[.agg #[.int .i64 t223, .int .i64 t224, .slice Ao60 t225.length co60], .agg #[.int .i64 t214, .int .i64 t215, .slice Ao33 t216.length co33]] (by rfl) rfl rfl (by (try simp only [List.map_toArray, List.map_cons, List.map_nil]); first | done | rfl | (simp only [List.length_drop, List.length_take]; rfl)) ?_
                  with_reducible refine (chequerref03_Same.calls kj16 t223 t224 _ _ t225 t214 t215 _ _ t216 true _ ?side1 ?side2 ?side3 ?side4 A39.out).mono ?_
                  (case side1 => exact cp_ (Kd.V_reads' HO227.out).2.2)
                  (case side2 => exact (Kd.V_reads' HO227.out).2.1)
                  (case side3 => exact cp_ (Kd.V_reads' HO_221002.out).2.2)
                  (case side4 => exact (Kd.V_reads' HO_221002.out).2.1)
                  rintro e w61 ⟨rfl, hb⟩
                  refine ⟨_, rfl, ?_⟩
                  replace HO_201002 := Aside0.mk (Kd.R_below (rp_ HO_201002.out) hb)
                  replace HO_214002 := Aside0.mk (Kd.R_below (rp_ HO_214002.out) hb)
                  replace HO_221002 := Aside0.mk (Kd.V_below (vp_ HO_221002.out) hb)
                  replace HO227 := Aside0.mk (Kd.V_below (vp_ HO227.out) hb)
                  replace BK200 := Aside0.mk (blk_below (hp_ BK200.out) hb)
                  replace BK213 := Aside0.mk (blk_below (hp_ BK213.out) hb)
                  replace BK220 := Aside0.mk (blk_below (hp_ BK220.out) hb)
                  replace HB := Aside0.mk (below_step bp_ hb)
                  (try clear hb)
                  (try clear hb2)
                  (try clear hk)
                  (try clear hi)
                  refine hK.out _ _ ⟨(blk_cell BK213.out 0).trans rfl, (blk_cell BK213.out 1).trans rfl, (blk_cell BK213.out 2).trans rfl, (blk_cell BK220.out 0).trans rfl, (blk_cell BK220.out 1).trans rfl, (blk_cell BK220.out 2).trans rfl⟩ (fun hHeld => ?_)
                  clear hK K
                  refine norm_ (a' := ?_) ?_ ?_
                  rotate_left
                  · show Act.put _ (some 65) _ = _
                    simp only [Act.put, List.setIfInBounds_toArray, List.set_cons_zero, List.set_cons_succ, i64_w, i32_w]
                    rfl
                  refine pur_ (i := 8) (N := some 66) Fl9 (any_of HT_.out (by kernel_rfl)) ?_
                  refine pur_ (i := 9) (N := some 67) Fl10 (any_of HT_.out (by kernel_rfl)) ?_
                  refine pur_ (i := 10) (N := some 68) Fl11 (any_of HT_.out (by kernel_rfl)) ?_
                  refine pur_ (i := 11) (N := some 69) Fl12 (any_of HT_.out (by kernel_rfl)) ?_
                  refine pur_ (i := 13) (N := some 71) Fl36 (any_of HT_.out (by kernel_rfl)) ?_
                  refine one_ (i := 12) (N := some 70) Fl13 rfl rfl (one_of HT_.out (by kernel_rfl)) (by decide) (fun K hK => ?_)
                  refine goes_ Try.func18 (by kernel_rfl) rfl #[.int .i64 x7_10] (by rfl) rfl rfl (by (try simp only [List.map_toArray, List.map_cons, List.map_nil]); first | done | rfl | (simp only [List.length_drop, List.length_take]; rfl)) ?_
                  with_reducible refine (turn_May.calls x7_10 t229 _ A41.out).mono ?_
                  rintro e w' ⟨rfl, ⟨nd, rfl⟩⟩
                  refine ⟨_, rfl, ?_⟩
                  refine hK.out _ _ ⟨(blk_cell BK213.out 0).trans rfl, (blk_cell BK213.out 1).trans rfl, (blk_cell BK213.out 2).trans rfl, (blk_cell BK220.out 0).trans rfl, (blk_cell BK220.out 1).trans rfl, (blk_cell BK220.out 2).trans rfl⟩ (fun hHeld => ?_)
                  clear hK K
                  refine norm_ (a' := ?_) ?_ ?_
                  rotate_left
                  · show Act.put _ (some 70) _ = _
                    simp only [Act.put, List.setIfInBounds_toArray, List.set_cons_zero, List.set_cons_succ, i64_w, i32_w]
                    rfl
                  refine pur_ (i := 14) (N := some 72) Fl14 (any_of HT_.out (by kernel_rfl)) ?_
                  refine pur_ (i := 15) (N := some 73) Fl15 (any_of HT_.out (by kernel_rfl)) ?_
                  refine pur_ (i := 16) (N := some 74) Fl16 (any_of HT_.out (by kernel_rfl)) ?_
                  refine pur_ (i := 17) (N := some 75) Fl17 (any_of HT_.out (by kernel_rfl)) ?_
                  refine pur_ (i := 18) (N := some 76) Fl18 (any_of HT_.out (by kernel_rfl)) ?_
                  refine take_ (i := 19) (N := some 77) (v := ?_) (a' := ?_) Fl19 rfl rfl (take_ofW HT_.out HW_.out (by kernel_rfl)) (fun _ _ _ h => h) (Or.inl ⟨by rfl, ?_⟩) hHeld ?_ ?_
                  rotate_left
                  · rintro w' ⟨s0, s1, s2, s3, s4, s5⟩
                    go_simp
                    with_reducible rfl
                  rotate_left
                  · simp only [Act.put, List.setIfInBounds_toArray, List.set_cons_zero, List.set_cons_succ, i64_w, i32_w]
                    rfl
                  refine pur_ (i := 20) (N := some 78) Fl20 (any_of HT_.out (by kernel_rfl)) ?_
                  refine pur_ (i := 21) (N := some 79) Fl21 (any_of HT_.out (by kernel_rfl)) ?_
                  refine pur_ (i := 22) (N := some 80) Fl22 (any_of HT_.out (by kernel_rfl)) ?_
                  refine pun_ (i := 23) (N := some 81) Fl23 (any_of HT_.out (by kernel_rfl)) ?_
                  refine pun_ (i := 24) (N := some 82) Fl24 (any_of HT_.out (by kernel_rfl)) ?_
                  refine pun_ (i := 25) (N := some 83) Fl25 (any_of HT_.out (by kernel_rfl)) ?_
                  refine pun_ (i := 26) (N := some 84) Fl26 (any_of HT_.out (by kernel_rfl)) ?_
                  refine pur_ (i := 27) (N := some 85) Fl27 (any_of HT_.out (by kernel_rfl)) ?_
                  refine pur_ (i := 28) (N := some 86) Fl28 (any_of HT_.out (by kernel_rfl)) ?_
                  refine pun_ (i := 29) (N := some 87) Fl29 (any_of HT_.out (by kernel_rfl)) ?_
                  refine pun_ (i := 30) (N := some 88) Fl34 (any_of HT_.out (by kernel_rfl)) ?_
                  refine pun_ (i := 31) (N := some 89) Fl35 (any_of HT_.out (by kernel_rfl)) ?_
                  refine pun_ (i := 32) (N := some 90) Fl30 (any_of HT_.out (by kernel_rfl)) ?_
                  refine pun_ (i := 33) (N := some 91) Fl31 (any_of HT_.out (by kernel_rfl)) ?_
                  refine pur_ (i := 34) (N := some 92) Fl32 (any_of HT_.out (by kernel_rfl)) ?_
                  refine done_ (done_of HT_.out (by kernel_rfl)) ?_
                  try go_wp2
                  go_meet
                  case rel => exact ⟨_, (true), (by first | rfl | (simp; done) | (simp [*]; done)), H', ⟨by have := HK1.out; have := HJ10.out; have := HJ16.out; first | omega | exact Nat.le_refl _⟩, ⟨rp_ HO_201002.out⟩, ⟨rp_ HO_214002.out⟩, ⟨vp_ HO_221002.out⟩, ⟨hp_ BK200.out⟩, ⟨hp_ BK213.out⟩, ⟨hp_ BK220.out⟩, ⟨bp_⟩⟩
            · replace c40 := Bool.eq_false_iff.mpr c40
              subst c40
              have H1 : (chequerlaw04_TurnLays.j3 kj16 a1 x6_1 x7_10 true t195 t196 t197 t214 t215 t216) = some r := by rw [if_neg (show ¬ (false = true) by decide)] at H; exact H
              clear H
              have H := H1
              clear H1
              have H' := Aside0.mk H
              clear H
              try go_wp2
              (try (rw [drewN_self wc]; generalize hq_ : World.drewN wc _ = wc; have n0_ := Aside0.mk (qrp_ hq_ HO_201002.out); have n1_ := Aside0.mk (qrp_ hq_ HO_214002.out); have n2_ := Aside0.mk (qvp_ hq_ HO_221002.out); have n3_ := Aside0.mk (qhp_ hq_ BK200.out); have n4_ := Aside0.mk (qhp_ hq_ BK213.out); have n5_ := Aside0.mk (qhp_ hq_ BK220.out); have n6_ : Aside0 (Below w.heap.size w wc) := ⟨qbp_ hq_⟩; clear HO_201002 HO_214002 HO_221002 BK200 BK213 BK220 HB hq_; have HO_201002 := n0_; have HO_214002 := n1_; have HO_221002 := n2_; have BK200 := n3_; have BK213 := n4_; have BK220 := n5_; have HB := n6_; clear n0_ n1_ n2_ n3_ n4_ n5_ n6_))
              replace HO_201002 := Aside0.mk (Kd.R_drew HO_201002.out)
              replace HO_214002 := Aside0.mk (Kd.R_drew HO_214002.out)
              replace HO_221002 := Aside0.mk (Kd.V_drew HO_221002.out)
              replace BK200 := Aside0.mk (blk_drew BK200.out)
              replace BK213 := Aside0.mk (blk_drew BK213.out)
              replace BK220 := Aside0.mk (blk_drew BK220.out)
              replace HB := Aside0.mk (below_drew1 HB.out)
              refine start_ (n := 35) (S := fun w' => w'.cell? ⟨gb213, 0, none⟩ = some (.int .i64 t207) ∧ w'.cell? ⟨gb213, 1, none⟩ = some (.int .i64 t208) ∧ w'.cell? ⟨gb213, 2, none⟩ = some (.slice Ao25 t209.length co25) ∧ w'.cell? ⟨gb220, 0, none⟩ = some (.int .i64 t214) ∧ w'.cell? ⟨gb220, 1, none⟩ = some (.int .i64 t215) ∧ w'.cell? ⟨gb220, 2, none⟩ = some (.slice Ao33 t216.length co33)) (ds := []) Fl1 (by kernel_rfl) rfl rfl ⟨(blk_cell BK213.out 0).trans rfl, (blk_cell BK213.out 1).trans rfl, (blk_cell BK213.out 2).trans rfl, (blk_cell BK220.out 0).trans rfl, (blk_cell BK220.out 1).trans rfl, (blk_cell BK220.out 2).trans rfl⟩ (fun hHeld => ?_); refine with_tabW chequerlaw04_TurnLays.tab12 chequerlaw04_TurnLays.bits12 (fun HT_ HW_ => ?_)
              generalize wc.drew = w62 at HO_201002 HO_214002 HO_221002 BK200 BK213 BK220 HB hHeld ⊢
              refine pur_ (i := 0) (N := some 58) Fl2 (any_of HT_.out (by kernel_rfl)) ?_
              refine pur_ (i := 1) (N := some 59) Fl3 (any_of HT_.out (by kernel_rfl)) ?_
              refine pur_ (i := 2) (N := some 60) Fl4 (any_of HT_.out (by kernel_rfl)) ?_
              refine pur_ (i := 3) (N := some 61) Fl5 (any_of HT_.out (by kernel_rfl)) ?_
              refine take_ (i := 4) (N := some 62) (v := ?_) (a' := ?_) Fl6 rfl rfl (take_ofW HT_.out HW_.out (by kernel_rfl)) (fun _ _ _ h => h) (Or.inl ⟨by rfl, ?_⟩) hHeld ?_ ?_
              rotate_left
              · rintro w' ⟨s0, s1, s2, s3, s4, s5⟩
                go_simp
                with_reducible rfl
              rotate_left
              · simp only [Act.put, List.setIfInBounds_toArray, List.set_cons_zero, List.set_cons_succ, i64_w, i32_w]
                rfl
              refine take_ (i := 6) (N := some 64) (v := ?_) (a' := ?_) Fl33 rfl rfl (take_ofW HT_.out HW_.out (by kernel_rfl)) (fun _ _ _ h => h) (Or.inl ⟨by rfl, ?_⟩) hHeld ?_ ?_
              rotate_left
              · rintro w' ⟨s0, s1, s2, s3, s4, s5⟩
                go_simp
                with_reducible rfl
              rotate_left
              · simp only [Act.put, List.setIfInBounds_toArray, List.set_cons_zero, List.set_cons_succ, i64_w, i32_w]
                rfl
              refine one_ (i := 5) (N := some 63) Fl7 rfl rfl (one_of HT_.out (by kernel_rfl)) (by decide) (fun K hK => ?_)
              refine goes_ Try.func17 (by kernel_rfl) rfl #[.agg #[.int .i64 t207, .int .i64 t208, .slice Ao25 t209.length co25]] (by rfl) rfl rfl (by (try simp only [List.map_toArray, List.map_cons, List.map_nil]); first | done | rfl | (simp only [List.length_drop, List.length_take]; rfl)) ?_
              with_reducible refine (chequerlaw04_as.calls t207 t208 (fun k_ => some k_ = (.slice Ao25 t209.length co25 : Value).ownBlock) _ _ t209 t223 t224 t225 _ ?side1 A38.out).mono ?_
              (case side1 => exact Kd.R_V (Kd.R_tight rfl (Kd.R_types (Kd.R_types (Kd.R_types (HO_214002.out) BK200.out (by decide)) BK213.out (by decide)) BK220.out (by decide))))
              rintro e w63 ⟨v226, rfl, ho0, hb⟩
              refine ⟨_, rfl, ?_⟩
              replace HO_221002 := Aside0.mk (Kd.V_below (vp_ HO_221002.out) hb)
              have HO227 := Aside0.mk (Kd.V_lower (Kd.V_mono (ok' := fun k_ => some k_ ≠ (.slice Ao9 t197.length co9 : Value).ownBlock ∧ k_ ≠ gb200 ∧ k_ ≠ gb213 ∧ k_ ≠ gb220) ho0 (fun k_ hk_ => ⟨Or.elim hk_ (fun hs_ => ((Kd.R_types (Kd.R_types (Kd.R_types (HO_214002.out) BK200.out (by decide)) BK213.out (by decide)) BK220.out (by decide)).1 k_ hs_.symm).1.1.1) (fun hn_ => (Kd.fresh' (Kd.R_lt (rp_ HO_201002.out)) k_ hn_)), Or.elim hk_ (fun hs_ => ((Kd.R_types (Kd.R_types (Kd.R_types (HO_214002.out) BK200.out (by decide)) BK213.out (by decide)) BK220.out (by decide)).1 k_ hs_.symm).1.1.2) (fun hn_ => (Kd.freshB (g := gb200) (o := .cells #[.int .i64 t195, .int .i64 t196, .slice Ao9 t197.length co9] 24 (0, 0)) (hp_ BK200.out) k_ hn_)), Or.elim hk_ (fun hs_ => ((Kd.R_types (Kd.R_types (Kd.R_types (HO_214002.out) BK200.out (by decide)) BK213.out (by decide)) BK220.out (by decide)).1 k_ hs_.symm).1.2) (fun hn_ => (Kd.freshB (g := gb213) (o := .cells #[.int .i64 t207, .int .i64 t208, .slice Ao25 t209.length co25] 26 (0, 0)) (hp_ BK213.out) k_ hn_)), Or.elim hk_ (fun hs_ => ((Kd.R_types (Kd.R_types (Kd.R_types (HO_214002.out) BK200.out (by decide)) BK213.out (by decide)) BK220.out (by decide)).1 k_ hs_.symm).2) (fun hn_ => (Kd.freshB (g := gb220) (o := .cells #[.int .i64 t214, .int .i64 t215, .slice Ao33 t216.length co33] 24 (0, 0)) (hp_ BK220.out) k_ hn_))⟩)) (below_size bp_))
              replace HO_201002 := Aside0.mk (Kd.R_below (rp_ HO_201002.out) hb)
              replace HO_214002 := Aside0.mk (Kd.R_below (rp_ HO_214002.out) hb)
              replace BK200 := Aside0.mk (blk_below (hp_ BK200.out) hb)
              replace BK213 := Aside0.mk (blk_below (hp_ BK213.out) hb)
              replace BK220 := Aside0.mk (blk_below (hp_ BK220.out) hb)
              replace HB := Aside0.mk (below_step bp_ hb)
              (try clear hb)
              (try clear hb2)
              (try clear hk)
              (try clear hi)
              (try clear ho0)
              obtain ⟨Ao64, co64, eo64⟩ := Kd.V_slice HO227.out
              (first | subst eo64 | (injection eo64 with f1_ f2_ f3_; have f4_ := f1_.symm; have f5_ := f3_.symm; clear f1_ f2_ f3_; subst f4_; subst f5_))
              refine hK.out _ _ ⟨(blk_cell BK213.out 0).trans rfl, (blk_cell BK213.out 1).trans rfl, (blk_cell BK213.out 2).trans rfl, (blk_cell BK220.out 0).trans rfl, (blk_cell BK220.out 1).trans rfl, (blk_cell BK220.out 2).trans rfl⟩ (fun hHeld => ?_)
              clear hK K
              refine norm_ (a' := ?_) ?_ ?_
              rotate_left
              · show Act.put _ (some 63) _ = _
                simp only [Act.put, List.setIfInBounds_toArray, List.set_cons_zero, List.set_cons_succ, i64_w, i32_w]
                rfl
              refine one_ (i := 7) (N := some 65) Fl8 rfl rfl (one_of HT_.out (by kernel_rfl)) (by decide) (fun K hK => ?_)
              refine goes_ Try.func16 (by kernel_rfl) rfl #[.agg #[.int .i64 t223, .int .i64 t224, .slice Ao64 t225.length co64], .agg #[.int .i64 t214, .int .i64 t215, .slice Ao33 t216.length co33]] (by rfl) rfl rfl (by (try simp only [List.map_toArray, List.map_cons, List.map_nil]); first | done | rfl | (simp only [List.length_drop, List.length_take]; rfl)) ?_
              with_reducible refine (chequerref03_Same.calls kj16 t223 t224 _ _ t225 t214 t215 _ _ t216 false _ ?side1 ?side2 ?side3 ?side4 A39.out).mono ?_
              (case side1 => exact cp_ (Kd.V_reads' HO227.out).2.2)
              (case side2 => exact (Kd.V_reads' HO227.out).2.1)
              (case side3 => exact cp_ (Kd.V_reads' HO_221002.out).2.2)
              (case side4 => exact (Kd.V_reads' HO_221002.out).2.1)
              rintro e w65 ⟨rfl, hb⟩
              refine ⟨_, rfl, ?_⟩
              replace HO_201002 := Aside0.mk (Kd.R_below (rp_ HO_201002.out) hb)
              replace HO_214002 := Aside0.mk (Kd.R_below (rp_ HO_214002.out) hb)
              replace HO_221002 := Aside0.mk (Kd.V_below (vp_ HO_221002.out) hb)
              replace HO227 := Aside0.mk (Kd.V_below (vp_ HO227.out) hb)
              replace BK200 := Aside0.mk (blk_below (hp_ BK200.out) hb)
              replace BK213 := Aside0.mk (blk_below (hp_ BK213.out) hb)
              replace BK220 := Aside0.mk (blk_below (hp_ BK220.out) hb)
              replace HB := Aside0.mk (below_step bp_ hb)
              (try clear hb)
              (try clear hb2)
              (try clear hk)
              (try clear hi)
              refine hK.out _ _ ⟨(blk_cell BK213.out 0).trans rfl, (blk_cell BK213.out 1).trans rfl, (blk_cell BK213.out 2).trans rfl, (blk_cell BK220.out 0).trans rfl, (blk_cell BK220.out 1).trans rfl, (blk_cell BK220.out 2).trans rfl⟩ (fun hHeld => ?_)
              clear hK K
              refine norm_ (a' := ?_) ?_ ?_
              rotate_left
              · show Act.put _ (some 65) _ = _
                simp only [Act.put, List.setIfInBounds_toArray, List.set_cons_zero, List.set_cons_succ, i64_w, i32_w]
                rfl
              refine pur_ (i := 8) (N := some 66) Fl9 (any_of HT_.out (by kernel_rfl)) ?_
              refine pur_ (i := 9) (N := some 67) Fl10 (any_of HT_.out (by kernel_rfl)) ?_
              refine pur_ (i := 10) (N := some 68) Fl11 (any_of HT_.out (by kernel_rfl)) ?_
              refine pun_ (i := 11) (N := some 69) Fl12 (any_of HT_.out (by kernel_rfl)) ?_
              refine pun_ (i := 12) (N := some 70) Fl57 (any_of HT_.out (by kernel_rfl)) ?_
              refine pun_ (i := 13) (N := some 71) Fl13 (any_of HT_.out (by kernel_rfl)) ?_
              refine pun_ (i := 14) (N := some 72) Fl14 (any_of HT_.out (by kernel_rfl)) ?_
              refine pur_ (i := 15) (N := some 73) Fl15 (any_of HT_.out (by kernel_rfl)) ?_
              refine pur_ (i := 16) (N := some 74) Fl16 (any_of HT_.out (by kernel_rfl)) ?_
              refine pun_ (i := 17) (N := some 75) Fl17 (any_of HT_.out (by kernel_rfl)) ?_
              refine pun_ (i := 18) (N := some 76) Fl18 (any_of HT_.out (by kernel_rfl)) ?_
              refine pun_ (i := 19) (N := some 77) Fl19 (any_of HT_.out (by kernel_rfl)) ?_
              refine pun_ (i := 20) (N := some 78) Fl20 (any_of HT_.out (by kernel_rfl)) ?_
              refine pur_ (i := 21) (N := some 79) Fl21 (any_of HT_.out (by kernel_rfl)) ?_
              refine pur_ (i := 22) (N := some 80) Fl22 (any_of HT_.out (by kernel_rfl)) ?_
              refine pun_ (i := 23) (N := some 81) Fl23 (any_of HT_.out (by kernel_rfl)) ?_
              refine pun_ (i := 24) (N := some 82) Fl24 (any_of HT_.out (by kernel_rfl)) ?_
              refine pun_ (i := 25) (N := some 83) Fl25 (any_of HT_.out (by kernel_rfl)) ?_
              refine pun_ (i := 26) (N := some 84) Fl26 (any_of HT_.out (by kernel_rfl)) ?_
              refine pur_ (i := 27) (N := some 85) Fl27 (any_of HT_.out (by kernel_rfl)) ?_
              refine pur_ (i := 28) (N := some 86) Fl28 (any_of HT_.out (by kernel_rfl)) ?_
              refine pun_ (i := 29) (N := some 87) Fl29 (any_of HT_.out (by kernel_rfl)) ?_
              refine pun_ (i := 30) (N := some 88) Fl34 (any_of HT_.out (by kernel_rfl)) ?_
              refine pun_ (i := 31) (N := some 89) Fl35 (any_of HT_.out (by kernel_rfl)) ?_
              refine pun_ (i := 32) (N := some 90) Fl30 (any_of HT_.out (by kernel_rfl)) ?_
              refine pun_ (i := 33) (N := some 91) Fl31 (any_of HT_.out (by kernel_rfl)) ?_
              refine pur_ (i := 34) (N := some 92) Fl32 (any_of HT_.out (by kernel_rfl)) ?_
              refine done_ (done_of HT_.out (by kernel_rfl)) ?_
              try go_wp2
              go_meet
              case rel => exact ⟨_, (true), (by first | rfl | (simp; done) | (simp [*]; done)), H', ⟨by have := HK1.out; have := HJ10.out; have := HJ16.out; first | omega | exact Nat.le_refl _⟩, ⟨rp_ HO_201002.out⟩, ⟨rp_ HO_214002.out⟩, ⟨vp_ HO_221002.out⟩, ⟨hp_ BK200.out⟩, ⟨hp_ BK213.out⟩, ⟨hp_ BK220.out⟩, ⟨bp_⟩⟩
          · rw [if_neg c37] at H
            have c37b0 : (t212 == t219) = false := beq_eq_false_iff_ne.mpr c37
            have c37b1 : (t212 != t219) = true := bne_iff_ne.mpr c37
            (first | rw [c37b0] | (simp only [i64_w, i32_w]; rw [c37b0]) | skip)
            have H' := Aside0.mk H
            clear H
            try go_wp2
            (try (rw [drewN_self wc]; generalize hq_ : World.drewN wc _ = wc; have n0_ := Aside0.mk (qrp_ hq_ HO_201002.out); have n1_ := Aside0.mk (qrp_ hq_ HO_214002.out); have n2_ := Aside0.mk (qvp_ hq_ HO_221002.out); have n3_ := Aside0.mk (qhp_ hq_ BK200.out); have n4_ := Aside0.mk (qhp_ hq_ BK213.out); have n5_ := Aside0.mk (qhp_ hq_ BK220.out); have n6_ : Aside0 (Below w.heap.size w wc) := ⟨qbp_ hq_⟩; clear HO_201002 HO_214002 HO_221002 BK200 BK213 BK220 HB hq_; have HO_201002 := n0_; have HO_214002 := n1_; have HO_221002 := n2_; have BK200 := n3_; have BK213 := n4_; have BK220 := n5_; have HB := n6_; clear n0_ n1_ n2_ n3_ n4_ n5_ n6_))
            replace HO_201002 := Aside0.mk (Kd.R_drew HO_201002.out)
            replace HO_214002 := Aside0.mk (Kd.R_drew HO_214002.out)
            replace HO_221002 := Aside0.mk (Kd.V_drew HO_221002.out)
            replace BK200 := Aside0.mk (blk_drew BK200.out)
            replace BK213 := Aside0.mk (blk_drew BK213.out)
            replace BK220 := Aside0.mk (blk_drew BK220.out)
            replace HB := Aside0.mk (below_drew1 HB.out)
            refine start_ (n := 35) (S := fun w' => True) (ds := []) Fl1 (by kernel_rfl) rfl rfl trivial (fun hHeld => ?_); refine with_tabW chequerlaw04_TurnLays.tab12 chequerlaw04_TurnLays.bits12 (fun HT_ HW_ => ?_)
            generalize wc.drew = w66 at HO_201002 HO_214002 HO_221002 BK200 BK213 BK220 HB hHeld ⊢
            refine pur_ (i := 0) (N := some 58) Fl2 (any_of HT_.out (by kernel_rfl)) ?_
            refine pur_ (i := 1) (N := some 59) Fl3 (any_of HT_.out (by kernel_rfl)) ?_
            refine pur_ (i := 2) (N := some 60) Fl4 (any_of HT_.out (by kernel_rfl)) ?_
            refine pur_ (i := 3) (N := some 61) Fl5 (any_of HT_.out (by kernel_rfl)) ?_
            refine pun_ (i := 4) (N := some 62) Fl6 (any_of HT_.out (by kernel_rfl)) ?_
            refine pun_ (i := 5) (N := some 63) #[true, true, true, true, true, true, false, false, false, false, false, false, false, false, false, false, false, false, false, false, false, false, false, false, false, false, false, false, false, false, false, false, false, false, false] (any_of HT_.out (by kernel_rfl)) ?_
            refine pun_ (i := 6) (N := some 64) Fl7 (any_of HT_.out (by kernel_rfl)) ?_
            refine pun_ (i := 7) (N := some 65) Fl8 (any_of HT_.out (by kernel_rfl)) ?_
            refine pun_ (i := 8) (N := some 66) Fl9 (any_of HT_.out (by kernel_rfl)) ?_
            refine pur_ (i := 9) (N := some 67) Fl10 (any_of HT_.out (by kernel_rfl)) ?_
            refine pur_ (i := 10) (N := some 68) Fl11 (any_of HT_.out (by kernel_rfl)) ?_
            refine pun_ (i := 11) (N := some 69) Fl12 (any_of HT_.out (by kernel_rfl)) ?_
            refine pun_ (i := 12) (N := some 70) Fl57 (any_of HT_.out (by kernel_rfl)) ?_
            refine pun_ (i := 13) (N := some 71) Fl13 (any_of HT_.out (by kernel_rfl)) ?_
            refine pun_ (i := 14) (N := some 72) Fl14 (any_of HT_.out (by kernel_rfl)) ?_
            refine pur_ (i := 15) (N := some 73) Fl15 (any_of HT_.out (by kernel_rfl)) ?_
            refine pur_ (i := 16) (N := some 74) Fl16 (any_of HT_.out (by kernel_rfl)) ?_
            refine pun_ (i := 17) (N := some 75) Fl17 (any_of HT_.out (by kernel_rfl)) ?_
            refine pun_ (i := 18) (N := some 76) Fl18 (any_of HT_.out (by kernel_rfl)) ?_
            refine pun_ (i := 19) (N := some 77) Fl19 (any_of HT_.out (by kernel_rfl)) ?_
            refine pun_ (i := 20) (N := some 78) Fl20 (any_of HT_.out (by kernel_rfl)) ?_
            refine pur_ (i := 21) (N := some 79) Fl21 (any_of HT_.out (by kernel_rfl)) ?_
            refine pur_ (i := 22) (N := some 80) Fl22 (any_of HT_.out (by kernel_rfl)) ?_
            refine pun_ (i := 23) (N := some 81) Fl23 (any_of HT_.out (by kernel_rfl)) ?_
            refine pun_ (i := 24) (N := some 82) Fl24 (any_of HT_.out (by kernel_rfl)) ?_
            refine pun_ (i := 25) (N := some 83) Fl25 (any_of HT_.out (by kernel_rfl)) ?_
            refine pun_ (i := 26) (N := some 84) Fl26 (any_of HT_.out (by kernel_rfl)) ?_
            refine pur_ (i := 27) (N := some 85) Fl27 (any_of HT_.out (by kernel_rfl)) ?_
            refine pur_ (i := 28) (N := some 86) Fl28 (any_of HT_.out (by kernel_rfl)) ?_
            refine pun_ (i := 29) (N := some 87) Fl29 (any_of HT_.out (by kernel_rfl)) ?_
            refine pun_ (i := 30) (N := some 88) Fl34 (any_of HT_.out (by kernel_rfl)) ?_
            refine pun_ (i := 31) (N := some 89) Fl35 (any_of HT_.out (by kernel_rfl)) ?_
            refine pun_ (i := 32) (N := some 90) Fl30 (any_of HT_.out (by kernel_rfl)) ?_
            refine pun_ (i := 33) (N := some 91) Fl31 (any_of HT_.out (by kernel_rfl)) ?_
            refine pur_ (i := 34) (N := some 92) Fl32 (any_of HT_.out (by kernel_rfl)) ?_
            refine done_ (done_of HT_.out (by kernel_rfl)) ?_
            try go_wp2
            go_meet
            case rel => exact ⟨_, (true), (by first | rfl | (simp; done) | (simp [*]; done)), H', ⟨by have := HK1.out; have := HJ10.out; have := HJ16.out; first | omega | exact Nat.le_refl _⟩, ⟨rp_ HO_201002.out⟩, ⟨rp_ HO_214002.out⟩, ⟨vp_ HO_221002.out⟩, ⟨hp_ BK200.out⟩, ⟨hp_ BK213.out⟩, ⟨hp_ BK220.out⟩, ⟨bp_⟩⟩
         case rest =>
          clear HC36
          try clear c1
          try clear p2
          try clear c3
          try clear c4
          try clear c16
          try clear c17
          try clear c37
          try clear c37b0
          try clear c37b1
          try clear c40
          obtain ⟨kq, x92_35, rfl, HA, HJ35, HO_201002, HO_214002, HO_221002, BK200, BK213, BK220, HB⟩ := hcut
          cases kq with
          | zero => exact absurd HA.out (by simp [chequerlaw04_TurnLays.j3])
          | succ kj35 =>
           have H := HA.out
           clear HA
           simp only [chequerlaw04_TurnLays.j3] at H
           by_cases c67 : x92_35 = true
           · subst c67
             have H1 : (some false) = some r := by rw [if_pos rfl] at H; exact H
             clear H
             have H := H1
             clear H1
             obtain rfl := Option.some.inj H
             go_wp2
             go_ret
             exact ⟨by first | rfl | (simp [errW_none, errW_some] <;> rfl) | (simp [*, errW_none, errW_some] <;> rfl), bp_⟩
           · replace c67 := Bool.eq_false_iff.mpr c67
             subst c67
             have H1 : (chequerlaw04_TurnLays.l1 kj35 a1 x6_1 x7_10 0 t195 t196 t197 t214 t215 t216) = some r := by rw [if_neg (show ¬ (false = true) by decide)] at H; exact H
             clear H
             have H := H1
             clear H1
             have H' := Aside0.mk H
             clear H
             go_wp2
             go_loopg [15] kj35 (fun kq v15 w' => ∃ (x15_5 : Int), v15 = .int .i64 x15_5 ∧ Aside0 (chequerlaw04_TurnLays.l1 kq a1 x6_1 x7_10 x15_5 t195 t196 t197 t214 t215 t216 = some r) ∧ Aside0 (kq ≤ kj35) ∧ Aside0 (Kd.R (Kd.int .u64) 41 w' w.heap.size (fun k_ => some k_ ≠ ((.slice Ao25 t209.length co25) : Value).ownBlock) (.slice Ao9 t197.length co9) t197) ∧ Aside0 (Kd.R (Kd.int .u64) 41 w' w.heap.size (fun k_ => some k_ ≠ ((.slice Ao9 t197.length co9) : Value).ownBlock) (.slice Ao25 t209.length co25) t209) ∧ Aside0 (Kd.V (Kd.int .u64) 41 w' w.heap.size (fun k_ => some k_ ≠ ((.slice Ao25 t209.length co25) : Value).ownBlock ∧ k_ ≠ gb200 ∧ k_ ≠ gb213 ∧ k_ ≠ gb220) (.slice Ao33 t216.length co33) t216) ∧ Aside0 (w'.heap[gb200]? = some (.cells #[.int .i64 t195, .int .i64 t196, (.slice Ao9 t197.length co9)] 24 (0, 0))) ∧ Aside0 (w'.heap[gb213]? = some (.cells #[.int .i64 t207, .int .i64 t208, (.slice Ao25 t209.length co25)] 26 (0, 0))) ∧ Aside0 (w'.heap[gb220]? = some (.cells #[.int .i64 t214, .int .i64 t215, (.slice Ao33 t216.length co33)] 24 (0, 0))) ∧ Aside0 (Below w.heap.size w w'))
             case atStart => exact ⟨(0), (by first | rfl | (simp; done) | (simp [*]; done)), H', ⟨Nat.le_refl _⟩, ⟨rp_ HO_201002.out⟩, ⟨rp_ HO_214002.out⟩, ⟨vp_ HO_221002.out⟩, ⟨hp_ BK200.out⟩, ⟨hp_ BK213.out⟩, ⟨hp_ BK220.out⟩, ⟨bp_⟩⟩
             case round =>
              clear H'
              try clear c1
              try clear p2
              try clear c3
              try clear c4
              try clear c6
              try clear c16
              try clear c17
              try clear c37
              try clear c37b0
              try clear c37b1
              try clear c40
              try clear c67
              try clear p2
              obtain ⟨x15_5, rfl, HA, HK5, HO_201002, HO_214002, HO_221002, BK200, BK213, BK220, HB⟩ := hrel
              cases gk with
              | zero => exact absurd HA.out (by simp [chequerlaw04_TurnLays.l1])
              | succ k5 =>
               have H := HA.out
               clear HA
               simp only [chequerlaw04_TurnLays.l1] at H
               by_cases c68 : x15_5 < (t216.length : Int)
               · rw [if_pos c68] at H
                 have c68b0 : decide (x15_5 < (t216.length : Int)) = true := decide_eq_true c68
                 clear c68
                 by_cases c69 : t214 = 0
                 · rw [if_pos c69] at H
                   exact absurd H (by simp)
                 · rw [if_neg c69] at H
                   have c69b0 : (t214 == 0) = false := beq_eq_false_iff_ne.mpr c69
                   have c69b1 : (t214 != 0) = true := bne_iff_ne.mpr c69
                   replace H := Option.bind_eq_some_iff.mp H
                   obtain ⟨⟨t231, t232⟩, A700, H⟩ := H
                   replace H : ((chequerref03_At.f t195 t196 t197 t231 t232).bind fun bt233 => (if bt233.2 = true then (if 0 ≤ x15_5 then (if bt233.1 = (rd t216 x15_5) then (chequerlaw04_TurnLays.l1 k5 a1 x6_1 x7_10 (wrap64 (x15_5 + 1)) t195 t196 t197 t214 t215 t216) else (some false)) else (none)) else (some false))) = some r := H
                   have A70 := Aside0.mk A700
                   clear A700
                   replace H := Option.bind_eq_some_iff.mp H
                   obtain ⟨⟨t233, t234⟩, A710, H⟩ := H
                   replace H : (if t234 = true then (if 0 ≤ x15_5 then (if t233 = (rd t216 x15_5) then (chequerlaw04_TurnLays.l1 k5 a1 x6_1 x7_10 (wrap64 (x15_5 + 1)) t195 t196 t197 t214 t215 t216) else (some false)) else (none)) else (some false)) = some r := H
                   have A71 := Aside0.mk A710
                   clear A710
                   by_cases c72 : t234 = true
                   · subst c72
                     have H1 : (if 0 ≤ x15_5 then (if t233 = (rd t216 x15_5) then (chequerlaw04_TurnLays.l1 k5 a1 x6_1 x7_10 (wrap64 (x15_5 + 1)) t195 t196 t197 t214 t215 t216) else (some false)) else (none)) = some r := by rw [if_pos rfl] at H; exact H
                     clear H
                     have H := H1
                     clear H1
                     by_cases c73 : 0 ≤ x15_5
                     · rw [if_pos c73] at H
                       have c73b0 : decide (0 ≤ x15_5) = true := decide_eq_true c73
                       clear c73
                       by_cases c74 : t233 = (rd t216 x15_5)
                       · rw [if_pos c74] at H
                         have c74b0 : (t233 == (rd t216 x15_5)) = true := beq_iff_eq.mpr c74
                         have c74b1 : (t233 != (rd t216 x15_5)) = false := bne_eq_false_iff_eq.mpr c74
                         clear c74
                         have H' := Aside0.mk H
                         clear H
                         have hnb75 := NB220_200.out
                         have hnc75 := NB200_220.out
                         have hnb76 := NB220_213.out
                         have hnc76 := NB213_220.out
                         have hcz77_0 : wr.cell? ⟨gb220, 0, none⟩ = some (.int .i64 t214) := (blk_cell BK220.out 0).trans rfl
                         have hcz77_1 : wr.cell? ⟨gb220, 1, none⟩ = some (.int .i64 t215) := (blk_cell BK220.out 1).trans rfl
                         have hcz77_2 : wr.cell? ⟨gb220, 2, none⟩ = some (.slice Ao33 t216.length co33) := (blk_cell BK220.out 2).trans rfl
                         have hfz77_0 := blk_frozen BK220.out 0
                         have hfz77_1 := blk_frozen BK220.out 1
                         have hfz77_2 := blk_frozen BK220.out 2
                         try go_wp2
                         (try (rw [drewN_self wr]; generalize hq_ : World.drewN wr _ = wr; have n0_ := Aside0.mk (qrp_ hq_ HO_201002.out); have n1_ := Aside0.mk (qrp_ hq_ HO_214002.out); have n2_ := Aside0.mk (qvp_ hq_ HO_221002.out); have n3_ := Aside0.mk (qhp_ hq_ BK200.out); have n4_ := Aside0.mk (qhp_ hq_ BK213.out); have n5_ := Aside0.mk (qhp_ hq_ BK220.out); have n6_ : Aside0 (Below w.heap.size w wr) := ⟨qbp_ hq_⟩; clear HO_201002 HO_214002 HO_221002 BK200 BK213 BK220 HB hq_; have HO_201002 := n0_; have HO_214002 := n1_; have HO_221002 := n2_; have BK200 := n3_; have BK213 := n4_; have BK220 := n5_; have HB := n6_; clear n0_ n1_ n2_ n3_ n4_ n5_ n6_))
                         replace HO_201002 := Aside0.mk (Kd.R_drew HO_201002.out)
                         replace HO_214002 := Aside0.mk (Kd.R_drew HO_214002.out)
                         replace HO_221002 := Aside0.mk (Kd.V_drew HO_221002.out)
                         replace BK200 := Aside0.mk (blk_drew BK200.out)
                         replace BK213 := Aside0.mk (blk_drew BK213.out)
                         replace BK220 := Aside0.mk (blk_drew BK220.out)
                         replace HB := Aside0.mk (below_drew1 HB.out)
                         refine start_ (n := 19) (S := fun w' => w'.cell? ⟨gb200, 0, none⟩ = some (.int .i64 t195) ∧ w'.cell? ⟨gb200, 1, none⟩ = some (.int .i64 t196) ∧ w'.cell? ⟨gb200, 2, none⟩ = some (.slice Ao9 t197.length co9) ∧ w'.cell? ⟨gb220, 0, none⟩ = some (.int .i64 t214) ∧ w'.cell? ⟨gb220, 1, none⟩ = some (.int .i64 t215) ∧ w'.cell? ⟨gb220, 2, none⟩ = some (.slice Ao33 t216.length co33)) (ds := []) Fl37 (by kernel_rfl) rfl rfl ⟨(blk_cell BK200.out 0).trans rfl, (blk_cell BK200.out 1).trans rfl, (blk_cell BK200.out 2).trans rfl, (blk_cell BK220.out 0).trans rfl, (blk_cell BK220.out 1).trans rfl, (blk_cell BK220.out 2).trans rfl⟩ (fun hHeld => ?_); refine with_tabW chequerlaw04_TurnLays.tab17 chequerlaw04_TurnLays.bits17 (fun HT_ HW_ => ?_)
                         generalize wr.drew = w78 at HO_201002 HO_214002 HO_221002 BK200 BK213 BK220 HB hHeld ⊢
                         refine pur_ (i := 0) (N := some 101) Fl38 (any_of HT_.out (by kernel_rfl)) ?_
                         refine pur_ (i := 2) (N := some 103) Fl39 (any_of HT_.out (by kernel_rfl)) ?_
                         refine pur_ (i := 4) (N := some 105) Fl40 (any_of HT_.out (by kernel_rfl)) ?_
                         refine pur_ (i := 5) (N := some 106) Fl41 (any_of HT_.out (by kernel_rfl)) ?_
                         refine pur_ (i := 6) (N := some 107) Fl42 (any_of HT_.out (by kernel_rfl)) ?_
                         refine pur_ (i := 9) (N := some 110) Fl43 (any_of HT_.out (by kernel_rfl)) ?_
                         refine pur_ (i := 10) (N := some 111) Fl44 (any_of HT_.out (by kernel_rfl)) ?_
                         refine take_ (i := 1) (N := some 102) (v := ?_) (a' := ?_) Fl45 rfl rfl (take_ofW HT_.out HW_.out (by kernel_rfl)) (fun _ _ _ h => h) (Or.inl ⟨by rfl, ?_⟩) hHeld ?_ ?_
                         rotate_left
                         · rintro w' ⟨s0, s1, s2, s3, s4, s5⟩
                           go_simp
                           with_reducible rfl
                         rotate_left
                         · simp only [Act.put, List.setIfInBounds_toArray, List.set_cons_zero, List.set_cons_succ, i64_w, i32_w]
                           rfl
                         refine take_ (i := 3) (N := some 104) (v := ?_) (a' := ?_) Fl46 rfl rfl (take_ofW HT_.out HW_.out (by kernel_rfl)) (fun _ _ _ h => h) (Or.inl ⟨by rfl, ?_⟩) hHeld ?_ ?_
                         rotate_left
                         · rintro w' ⟨s0, s1, s2, s3, s4, s5⟩
                           go_simp
                           with_reducible rfl
                         rotate_left
                         · simp only [Act.put, List.setIfInBounds_toArray, List.set_cons_zero, List.set_cons_succ, i64_w, i32_w]
                           rfl
                         refine take_ (i := 7) (N := some 108) (v := ?_) (a' := ?_) Fl47 rfl rfl (take_ofW HT_.out HW_.out (by kernel_rfl)) (fun _ _ _ h => h) (Or.inl ⟨by rfl, ?_⟩) hHeld ?_ ?_
                         rotate_left
                         · rintro w' ⟨s0, s1, s2, s3, s4, s5⟩
                           go_simp
                           with_reducible rfl
                         rotate_left
                         · simp only [Act.put, List.setIfInBounds_toArray, List.set_cons_zero, List.set_cons_succ, i64_w, i32_w]
                           rfl
                         refine pur_ (i := 8) (N := some 109) Fl48 (any_of HT_.out (by kernel_rfl)) ?_
                         refine take_ (i := 11) (N := some 112) (v := ?_) (a' := ?_) Fl49 rfl rfl (take_ofW HT_.out HW_.out (by kernel_rfl)) (fun _ _ _ h => h) (Or.inl ⟨by rfl, ?_⟩) hHeld ?_ ?_
                         rotate_left
                         · rintro w' ⟨s0, s1, s2, s3, s4, s5⟩
                           go_simp
                           with_reducible rfl
                         rotate_left
                         · simp only [Act.put, List.setIfInBounds_toArray, List.set_cons_zero, List.set_cons_succ, i64_w, i32_w]
                           rfl
                         refine pur_ (i := 12) (N := some 113) Fl50 (any_of HT_.out (by kernel_rfl)) ?_
                         refine one_ (i := 13) (N := some 114) Fl51 rfl rfl (one_of HT_.out (by kernel_rfl)) (by decide) (fun K hK => ?_)
                         refine goes_ Try.func20 (by kernel_rfl) rfl #[.int .i64 t195, .int .i64 t196, .int .i64 x7_10, .int .i64 (Int.tmod x15_5 t214), .int .i64 (wrap64 (Int.tdiv x15_5 t214))] (by rfl) rfl rfl (by (try simp only [List.map_toArray, List.map_cons, List.map_nil]); first | done | rfl | (simp only [List.length_drop, List.length_take]; rfl)) ?_
                         with_reducible refine (turn_From.calls t195 t196 x7_10 (Int.tmod x15_5 t214) (wrap64 (Int.tdiv x15_5 t214)) t231 t232 _ A70.out).mono ?_
                         rintro e w79 ⟨rfl, hb⟩
                         refine ⟨_, rfl, ?_⟩
                         replace HO_201002 := Aside0.mk (Kd.R_below (rp_ HO_201002.out) hb)
                         replace HO_214002 := Aside0.mk (Kd.R_below (rp_ HO_214002.out) hb)
                         replace HO_221002 := Aside0.mk (Kd.V_below (vp_ HO_221002.out) hb)
                         replace BK200 := Aside0.mk (blk_below (hp_ BK200.out) hb)
                         replace BK213 := Aside0.mk (blk_below (hp_ BK213.out) hb)
                         replace BK220 := Aside0.mk (blk_below (hp_ BK220.out) hb)
                         replace HB := Aside0.mk (below_step bp_ hb)
                         (try clear hb)
                         (try clear hb2)
                         (try clear hk)
                         (try clear hi)
                         refine hK.out _ _ ⟨(blk_cell BK200.out 0).trans rfl, (blk_cell BK200.out 1).trans rfl, (blk_cell BK200.out 2).trans rfl, (blk_cell BK220.out 0).trans rfl, (blk_cell BK220.out 1).trans rfl, (blk_cell BK220.out 2).trans rfl⟩ (fun hHeld => ?_)
                         clear hK K
                         refine norm_ (a' := ?_) ?_ ?_
                         rotate_left
                         · show Act.put _ (some 114) _ = _
                           simp only [Act.put, List.setIfInBounds_toArray, List.set_cons_zero, List.set_cons_succ, i64_w, i32_w]
                           rfl
                         refine pur_ (i := 14) (N := some 100) Fl52 (any_of HT_.out (by kernel_rfl)) ?_
                         refine pur_ (i := 15) (N := some 115) Fl53 (any_of HT_.out (by kernel_rfl)) ?_
                         refine pur_ (i := 16) (N := some 116) Fl54 (any_of HT_.out (by kernel_rfl)) ?_
                         refine pur_ (i := 17) (N := some 16) Fl55 (any_of HT_.out (by kernel_rfl)) ?_
                         refine pur_ (i := 18) (N := some 17) Fl56 (any_of HT_.out (by kernel_rfl)) ?_
                         refine done_ (done_of HT_.out (by kernel_rfl)) ?_
                         have hnb80 := NB200_213.out
                         have hnc80 := NB213_200.out
                         have hcz81_0 : w79.cell? ⟨gb200, 0, none⟩ = some (.int .i64 t195) := (blk_cell BK200.out 0).trans rfl
                         have hcz81_1 : w79.cell? ⟨gb200, 1, none⟩ = some (.int .i64 t196) := (blk_cell BK200.out 1).trans rfl
                         have hcz81_2 : w79.cell? ⟨gb200, 2, none⟩ = some (.slice Ao9 t197.length co9) := (blk_cell BK200.out 2).trans rfl
                         have hfz81_0 := blk_frozen BK200.out 0
                         have hfz81_1 := blk_frozen BK200.out 1
                         have hfz81_2 := blk_frozen BK200.out 2
                         try go_wp2_with (first | ((with_reducible refine gate_callee (f := 21) rfl ?_); refine goQ_ (some 121) Try.func21 #[.agg #[.int .i64 t195, .int .i64 t196, .slice Ao9 t197.length co9], .int .i64 t231, .int .i64 t232] ?_; (with_reducible refine (chequerref03_At.calls t195 t196 _ _ t197 t231 t232 t233 true _ ?side1 ?side2 A71.out).mono ?_); (case side1 => exact cp_ (Kd.R_reads' HO_201002.out).2.2); (case side2 => exact (Kd.R_reads' HO_201002.out).2.1); rintro e w82 ⟨rfl, hb⟩; refine ⟨_, rfl, ?_⟩; replace HO_201002 := Aside0.mk (Kd.R_below (rp_ HO_201002.out) hb); replace HO_214002 := Aside0.mk (Kd.R_below (rp_ HO_214002.out) hb); replace HO_221002 := Aside0.mk (Kd.V_below (vp_ HO_221002.out) hb); replace BK200 := Aside0.mk (blk_below (hp_ BK200.out) hb); replace BK213 := Aside0.mk (blk_below (hp_ BK213.out) hb); replace BK220 := Aside0.mk (blk_below (hp_ BK220.out) hb); replace HB := Aside0.mk (below_step bp_ hb); (try clear hb); (try clear hb2); (try clear hk); (try clear hi); have hcz83_0 : w82.cell? ⟨gb220, 0, none⟩ = some (.int .i64 t214) := (blk_cell BK220.out 0).trans rfl; have hcz83_1 : w82.cell? ⟨gb220, 1, none⟩ = some (.int .i64 t215) := (blk_cell BK220.out 1).trans rfl; have hcz83_2 : w82.cell? ⟨gb220, 2, none⟩ = some (.slice Ao33 t216.length co33) := (blk_cell BK220.out 2).trans rfl; have hfz83_0 := blk_frozen BK220.out 0; have hfz83_1 := blk_frozen BK220.out 1; have hfz83_2 := blk_frozen BK220.out 2; have p235 : 0 ≤ (x15_5 : Int) := of_decide_eq_true (by first | (with_reducible assumption) | assumption); have q235 : x15_5 < (t216.length : Int) := of_decide_eq_true (by first | (with_reducible assumption) | assumption); obtain ⟨ad235, e235, hx235_0⟩ := Kd.at_int (Kd.V_reads' HO_221002.out).2.2 x15_5 p235 q235; cases e235; replace p235 := eq_true p235; replace q235 := eq_true q235))
                         go_roundg k5
                         case measure => have := HK1.out; have := HJ10.out; have := HJ16.out; have := HJ35.out; have := HK5.out; omega
                         case rel => exact ⟨(wrap64 (x15_5 + 1)), (by first | rfl | (simp; done) | (simp [*]; done)), H', ⟨by have := HK1.out; have := HJ10.out; have := HJ16.out; have := HJ35.out; have := HK5.out; omega⟩, ⟨rp_ HO_201002.out⟩, ⟨rp_ HO_214002.out⟩, ⟨vp_ HO_221002.out⟩, ⟨hp_ BK200.out⟩, ⟨hp_ BK213.out⟩, ⟨hp_ BK220.out⟩, ⟨bp_⟩⟩
                       · rw [if_neg c74] at H
                         have c74b0 : (t233 == (rd t216 x15_5)) = false := beq_eq_false_iff_ne.mpr c74
                         have c74b1 : (t233 != (rd t216 x15_5)) = true := bne_iff_ne.mpr c74
                         obtain rfl := Option.some.inj H
                         have hnb84 := NB220_200.out
                         have hnc84 := NB200_220.out
                         have hcz85_0 : wr.cell? ⟨gb220, 0, none⟩ = some (.int .i64 t214) := (blk_cell BK220.out 0).trans rfl
                         have hcz85_1 : wr.cell? ⟨gb220, 1, none⟩ = some (.int .i64 t215) := (blk_cell BK220.out 1).trans rfl
                         have hcz85_2 : wr.cell? ⟨gb220, 2, none⟩ = some (.slice Ao33 t216.length co33) := (blk_cell BK220.out 2).trans rfl
                         have hfz85_0 := blk_frozen BK220.out 0
                         have hfz85_1 := blk_frozen BK220.out 1
                         have hfz85_2 := blk_frozen BK220.out 2
                         try go_wp2
                         (try (rw [drewN_self wr]; generalize hq_ : World.drewN wr _ = wr; have n0_ := Aside0.mk (qrp_ hq_ HO_201002.out); have n1_ := Aside0.mk (qrp_ hq_ HO_214002.out); have n2_ := Aside0.mk (qvp_ hq_ HO_221002.out); have n3_ := Aside0.mk (qhp_ hq_ BK200.out); have n4_ := Aside0.mk (qhp_ hq_ BK220.out); have n5_ : Aside0 (Below w.heap.size w wr) := ⟨qbp_ hq_⟩; clear HO_201002 HO_214002 HO_221002 BK200 BK220 HB hq_; have HO_201002 := n0_; have HO_214002 := n1_; have HO_221002 := n2_; have BK200 := n3_; have BK220 := n4_; have HB := n5_; clear n0_ n1_ n2_ n3_ n4_ n5_))
                         replace HO_201002 := Aside0.mk (Kd.R_drew HO_201002.out)
                         replace HO_214002 := Aside0.mk (Kd.R_drew HO_214002.out)
                         replace HO_221002 := Aside0.mk (Kd.V_drew HO_221002.out)
                         replace BK200 := Aside0.mk (blk_drew BK200.out)
                         replace BK220 := Aside0.mk (blk_drew BK220.out)
                         replace HB := Aside0.mk (below_drew1 HB.out)
                         refine start_ (n := 19) (S := fun w' => w'.cell? ⟨gb200, 0, none⟩ = some (.int .i64 t195) ∧ w'.cell? ⟨gb200, 1, none⟩ = some (.int .i64 t196) ∧ w'.cell? ⟨gb200, 2, none⟩ = some (.slice Ao9 t197.length co9) ∧ w'.cell? ⟨gb220, 0, none⟩ = some (.int .i64 t214) ∧ w'.cell? ⟨gb220, 1, none⟩ = some (.int .i64 t215) ∧ w'.cell? ⟨gb220, 2, none⟩ = some (.slice Ao33 t216.length co33)) (ds := []) Fl37 (by kernel_rfl) rfl rfl ⟨(blk_cell BK200.out 0).trans rfl, (blk_cell BK200.out 1).trans rfl, (blk_cell BK200.out 2).trans rfl, (blk_cell BK220.out 0).trans rfl, (blk_cell BK220.out 1).trans rfl, (blk_cell BK220.out 2).trans rfl⟩ (fun hHeld => ?_); refine with_tabW chequerlaw04_TurnLays.tab17 chequerlaw04_TurnLays.bits17 (fun HT_ HW_ => ?_)
                         generalize wr.drew = w86 at HO_201002 HO_214002 HO_221002 BK200 BK220 HB hHeld ⊢
                         refine pur_ (i := 0) (N := some 101) Fl38 (any_of HT_.out (by kernel_rfl)) ?_
                         refine pur_ (i := 2) (N := some 103) Fl39 (any_of HT_.out (by kernel_rfl)) ?_
                         refine pur_ (i := 4) (N := some 105) Fl40 (any_of HT_.out (by kernel_rfl)) ?_
                         refine pur_ (i := 5) (N := some 106) Fl41 (any_of HT_.out (by kernel_rfl)) ?_
                         refine pur_ (i := 6) (N := some 107) Fl42 (any_of HT_.out (by kernel_rfl)) ?_
                         refine pur_ (i := 9) (N := some 110) Fl43 (any_of HT_.out (by kernel_rfl)) ?_
                         refine pur_ (i := 10) (N := some 111) Fl44 (any_of HT_.out (by kernel_rfl)) ?_
                         refine take_ (i := 1) (N := some 102) (v := ?_) (a' := ?_) Fl45 rfl rfl (take_ofW HT_.out HW_.out (by kernel_rfl)) (fun _ _ _ h => h) (Or.inl ⟨by rfl, ?_⟩) hHeld ?_ ?_
                         rotate_left
                         · rintro w' ⟨s0, s1, s2, s3, s4, s5⟩
                           go_simp
                           with_reducible rfl
                         rotate_left
                         · simp only [Act.put, List.setIfInBounds_toArray, List.set_cons_zero, List.set_cons_succ, i64_w, i32_w]
                           rfl
                         refine take_ (i := 3) (N := some 104) (v := ?_) (a' := ?_) Fl46 rfl rfl (take_ofW HT_.out HW_.out (by kernel_rfl)) (fun _ _ _ h => h) (Or.inl ⟨by rfl, ?_⟩) hHeld ?_ ?_
                         rotate_left
                         · rintro w' ⟨s0, s1, s2, s3, s4, s5⟩
                           go_simp
                           with_reducible rfl
                         rotate_left
                         · simp only [Act.put, List.setIfInBounds_toArray, List.set_cons_zero, List.set_cons_succ, i64_w, i32_w]
                           rfl
                         refine take_ (i := 7) (N := some 108) (v := ?_) (a' := ?_) Fl47 rfl rfl (take_ofW HT_.out HW_.out (by kernel_rfl)) (fun _ _ _ h => h) (Or.inl ⟨by rfl, ?_⟩) hHeld ?_ ?_
                         rotate_left
                         · rintro w' ⟨s0, s1, s2, s3, s4, s5⟩
                           go_simp
                           with_reducible rfl
                         rotate_left
                         · simp only [Act.put, List.setIfInBounds_toArray, List.set_cons_zero, List.set_cons_succ, i64_w, i32_w]
                           rfl
                         refine pur_ (i := 8) (N := some 109) Fl48 (any_of HT_.out (by kernel_rfl)) ?_
                         refine take_ (i := 11) (N := some 112) (v := ?_) (a' := ?_) Fl49 rfl rfl (take_ofW HT_.out HW_.out (by kernel_rfl)) (fun _ _ _ h => h) (Or.inl ⟨by rfl, ?_⟩) hHeld ?_ ?_
                         rotate_left
                         · rintro w' ⟨s0, s1, s2, s3, s4, s5⟩
                           go_simp
                           with_reducible rfl
                         rotate_left
                         · simp only [Act.put, List.setIfInBounds_toArray, List.set_cons_zero, List.set_cons_succ, i64_w, i32_w]
                           rfl
                         refine pur_ (i := 12) (N := some 113) Fl50 (any_of HT_.out (by kernel_rfl)) ?_
                         refine one_ (i := 13) (N := some 114) Fl51 rfl rfl (one_of HT_.out (by kernel_rfl)) (by decide) (fun K hK => ?_)
                         refine goes_ Try.func20 (by kernel_rfl) rfl #[.int .i64 t195, .int .i64 t196, .int .i64 x7_10, .int .i64 (Int.tmod x15_5 t214), .int .i64 (wrap64 (Int.tdiv x15_5 t214))] (by rfl) rfl rfl (by (try simp only [List.map_toArray, List.map_cons, List.map_nil]); first | done | rfl | (simp only [List.length_drop, List.length_take]; rfl)) ?_
                         with_reducible refine (turn_From.calls t195 t196 x7_10 (Int.tmod x15_5 t214) (wrap64 (Int.tdiv x15_5 t214)) t231 t232 _ A70.out).mono ?_
                         rintro e w87 ⟨rfl, hb⟩
                         refine ⟨_, rfl, ?_⟩
                         replace HO_201002 := Aside0.mk (Kd.R_below (rp_ HO_201002.out) hb)
                         replace HO_214002 := Aside0.mk (Kd.R_below (rp_ HO_214002.out) hb)
                         replace HO_221002 := Aside0.mk (Kd.V_below (vp_ HO_221002.out) hb)
                         replace BK200 := Aside0.mk (blk_below (hp_ BK200.out) hb)
                         replace BK220 := Aside0.mk (blk_below (hp_ BK220.out) hb)
                         replace HB := Aside0.mk (below_step bp_ hb)
                         (try clear hb)
                         (try clear hb2)
                         (try clear hk)
                         (try clear hi)
                         refine hK.out _ _ ⟨(blk_cell BK200.out 0).trans rfl, (blk_cell BK200.out 1).trans rfl, (blk_cell BK200.out 2).trans rfl, (blk_cell BK220.out 0).trans rfl, (blk_cell BK220.out 1).trans rfl, (blk_cell BK220.out 2).trans rfl⟩ (fun hHeld => ?_)
                         clear hK K
                         refine norm_ (a' := ?_) ?_ ?_
                         rotate_left
                         · show Act.put _ (some 114) _ = _
                           simp only [Act.put, List.setIfInBounds_toArray, List.set_cons_zero, List.set_cons_succ, i64_w, i32_w]
                           rfl
                         refine pur_ (i := 14) (N := some 100) Fl52 (any_of HT_.out (by kernel_rfl)) ?_
                         refine pur_ (i := 15) (N := some 115) Fl53 (any_of HT_.out (by kernel_rfl)) ?_
                         refine pur_ (i := 16) (N := some 116) Fl54 (any_of HT_.out (by kernel_rfl)) ?_
                         refine pur_ (i := 17) (N := some 16) Fl55 (any_of HT_.out (by kernel_rfl)) ?_
                         refine pur_ (i := 18) (N := some 17) Fl56 (any_of HT_.out (by kernel_rfl)) ?_
                         refine done_ (done_of HT_.out (by kernel_rfl)) ?_
                         have hcz88_0 : w87.cell? ⟨gb200, 0, none⟩ = some (.int .i64 t195) := (blk_cell BK200.out 0).trans rfl
                         have hcz88_1 : w87.cell? ⟨gb200, 1, none⟩ = some (.int .i64 t196) := (blk_cell BK200.out 1).trans rfl
                         have hcz88_2 : w87.cell? ⟨gb200, 2, none⟩ = some (.slice Ao9 t197.length co9) := (blk_cell BK200.out 2).trans rfl
                         have hfz88_0 := blk_frozen BK200.out 0
                         have hfz88_1 := blk_frozen BK200.out 1
                         have hfz88_2 := blk_frozen BK200.out 2
                         try go_wp2_with (first | ((with_reducible refine gate_callee (f := 21) rfl ?_); refine goQ_ (some 121) Try.func21 #[.agg #[.int .i64 t195, .int .i64 t196, .slice Ao9 t197.length co9], .int .i64 t231, .int .i64 t232] ?_; (with_reducible refine (chequerref03_At.calls t195 t196 _ _ t197 t231 t232 t233 true _ ?side1 ?side2 A71.out).mono ?_); (case side1 => exact cp_ (Kd.R_reads' HO_201002.out).2.2); (case side2 => exact (Kd.R_reads' HO_201002.out).2.1); rintro e w89 ⟨rfl, hb⟩; refine ⟨_, rfl, ?_⟩; replace HO_201002 := Aside0.mk (Kd.R_below (rp_ HO_201002.out) hb); replace HO_214002 := Aside0.mk (Kd.R_below (rp_ HO_214002.out) hb); replace HO_221002 := Aside0.mk (Kd.V_below (vp_ HO_221002.out) hb); replace BK220 := Aside0.mk (blk_below (hp_ BK220.out) hb); replace HB := Aside0.mk (below_step bp_ hb); (try clear hb); (try clear hb2); (try clear hk); (try clear hi); have hcz90_0 : w89.cell? ⟨gb220, 0, none⟩ = some (.int .i64 t214) := (blk_cell BK220.out 0).trans rfl; have hcz90_1 : w89.cell? ⟨gb220, 1, none⟩ = some (.int .i64 t215) := (blk_cell BK220.out 1).trans rfl; have hcz90_2 : w89.cell? ⟨gb220, 2, none⟩ = some (.slice Ao33 t216.length co33) := (blk_cell BK220.out 2).trans rfl; have hfz90_0 := blk_frozen BK220.out 0; have hfz90_1 := blk_frozen BK220.out 1; have hfz90_2 := blk_frozen BK220.out 2; have p235 : 0 ≤ (x15_5 : Int) := of_decide_eq_true (by first | (with_reducible assumption) | assumption); have q235 : x15_5 < (t216.length : Int) := of_decide_eq_true (by first | (with_reducible assumption) | assumption); obtain ⟨ad235, e235, hx235_0⟩ := Kd.at_int (Kd.V_reads' HO_221002.out).2.2 x15_5 p235 q235; cases e235; replace p235 := eq_true p235; replace q235 := eq_true q235))
                         go_ret
                         exact ⟨by first | rfl | (simp [errW_none, errW_some] <;> rfl) | (simp [*, errW_none, errW_some] <;> rfl), bp_⟩
                     · rw [if_neg c73] at H
                       exact absurd H (by simp)
                   · replace c72 := Bool.eq_false_iff.mpr c72
                     subst c72
                     have H1 : (some false) = some r := by rw [if_neg (show ¬ (false = true) by decide)] at H; exact H
                     clear H
                     have H := H1
                     clear H1
                     obtain rfl := Option.some.inj H
                     have hnb91 := NB220_200.out
                     have hnc91 := NB200_220.out
                     have hcz92_0 : wr.cell? ⟨gb220, 0, none⟩ = some (.int .i64 t214) := (blk_cell BK220.out 0).trans rfl
                     have hcz92_1 : wr.cell? ⟨gb220, 1, none⟩ = some (.int .i64 t215) := (blk_cell BK220.out 1).trans rfl
                     have hcz92_2 : wr.cell? ⟨gb220, 2, none⟩ = some (.slice Ao33 t216.length co33) := (blk_cell BK220.out 2).trans rfl
                     have hfz92_0 := blk_frozen BK220.out 0
                     have hfz92_1 := blk_frozen BK220.out 1
                     have hfz92_2 := blk_frozen BK220.out 2
                     try go_wp2
                     (try (rw [drewN_self wr]; generalize hq_ : World.drewN wr _ = wr; have n0_ := Aside0.mk (qrp_ hq_ HO_201002.out); have n1_ := Aside0.mk (qrp_ hq_ HO_214002.out); have n2_ := Aside0.mk (qvp_ hq_ HO_221002.out); have n3_ := Aside0.mk (qhp_ hq_ BK200.out); have n4_ := Aside0.mk (qhp_ hq_ BK220.out); have n5_ : Aside0 (Below w.heap.size w wr) := ⟨qbp_ hq_⟩; clear HO_201002 HO_214002 HO_221002 BK200 BK220 HB hq_; have HO_201002 := n0_; have HO_214002 := n1_; have HO_221002 := n2_; have BK200 := n3_; have BK220 := n4_; have HB := n5_; clear n0_ n1_ n2_ n3_ n4_ n5_))
                     replace HO_201002 := Aside0.mk (Kd.R_drew HO_201002.out)
                     replace HO_214002 := Aside0.mk (Kd.R_drew HO_214002.out)
                     replace HO_221002 := Aside0.mk (Kd.V_drew HO_221002.out)
                     replace BK200 := Aside0.mk (blk_drew BK200.out)
                     replace BK220 := Aside0.mk (blk_drew BK220.out)
                     replace HB := Aside0.mk (below_drew1 HB.out)
                     refine start_ (n := 19) (S := fun w' => w'.cell? ⟨gb200, 0, none⟩ = some (.int .i64 t195) ∧ w'.cell? ⟨gb200, 1, none⟩ = some (.int .i64 t196) ∧ w'.cell? ⟨gb200, 2, none⟩ = some (.slice Ao9 t197.length co9) ∧ w'.cell? ⟨gb220, 0, none⟩ = some (.int .i64 t214) ∧ w'.cell? ⟨gb220, 1, none⟩ = some (.int .i64 t215) ∧ w'.cell? ⟨gb220, 2, none⟩ = some (.slice Ao33 t216.length co33)) (ds := []) Fl37 (by kernel_rfl) rfl rfl ⟨(blk_cell BK200.out 0).trans rfl, (blk_cell BK200.out 1).trans rfl, (blk_cell BK200.out 2).trans rfl, (blk_cell BK220.out 0).trans rfl, (blk_cell BK220.out 1).trans rfl, (blk_cell BK220.out 2).trans rfl⟩ (fun hHeld => ?_); refine with_tabW chequerlaw04_TurnLays.tab17 chequerlaw04_TurnLays.bits17 (fun HT_ HW_ => ?_)
                     generalize wr.drew = w93 at HO_201002 HO_214002 HO_221002 BK200 BK220 HB hHeld ⊢
                     refine pur_ (i := 0) (N := some 101) Fl38 (any_of HT_.out (by kernel_rfl)) ?_
                     refine pur_ (i := 2) (N := some 103) Fl39 (any_of HT_.out (by kernel_rfl)) ?_
                     refine pur_ (i := 4) (N := some 105) Fl40 (any_of HT_.out (by kernel_rfl)) ?_
                     refine pur_ (i := 5) (N := some 106) Fl41 (any_of HT_.out (by kernel_rfl)) ?_
                     refine pur_ (i := 6) (N := some 107) Fl42 (any_of HT_.out (by kernel_rfl)) ?_
                     refine pur_ (i := 9) (N := some 110) Fl43 (any_of HT_.out (by kernel_rfl)) ?_
                     refine pur_ (i := 10) (N := some 111) Fl44 (any_of HT_.out (by kernel_rfl)) ?_
                     refine take_ (i := 1) (N := some 102) (v := ?_) (a' := ?_) Fl45 rfl rfl (take_ofW HT_.out HW_.out (by kernel_rfl)) (fun _ _ _ h => h) (Or.inl ⟨by rfl, ?_⟩) hHeld ?_ ?_
                     rotate_left
                     · rintro w' ⟨s0, s1, s2, s3, s4, s5⟩
                       go_simp
                       with_reducible rfl
                     rotate_left
                     · simp only [Act.put, List.setIfInBounds_toArray, List.set_cons_zero, List.set_cons_succ, i64_w, i32_w]
                       rfl
                     refine take_ (i := 3) (N := some 104) (v := ?_) (a' := ?_) Fl46 rfl rfl (take_ofW HT_.out HW_.out (by kernel_rfl)) (fun _ _ _ h => h) (Or.inl ⟨by rfl, ?_⟩) hHeld ?_ ?_
                     rotate_left
                     · rintro w' ⟨s0, s1, s2, s3, s4, s5⟩
                       go_simp
                       with_reducible rfl
                     rotate_left
                     · simp only [Act.put, List.setIfInBounds_toArray, List.set_cons_zero, List.set_cons_succ, i64_w, i32_w]
                       rfl
                     refine take_ (i := 7) (N := some 108) (v := ?_) (a' := ?_) Fl47 rfl rfl (take_ofW HT_.out HW_.out (by kernel_rfl)) (fun _ _ _ h => h) (Or.inl ⟨by rfl, ?_⟩) hHeld ?_ ?_
                     rotate_left
                     · rintro w' ⟨s0, s1, s2, s3, s4, s5⟩
                       go_simp
                       with_reducible rfl
                     rotate_left
                     · simp only [Act.put, List.setIfInBounds_toArray, List.set_cons_zero, List.set_cons_succ, i64_w, i32_w]
                       rfl
                     refine pur_ (i := 8) (N := some 109) Fl48 (any_of HT_.out (by kernel_rfl)) ?_
                     refine take_ (i := 11) (N := some 112) (v := ?_) (a' := ?_) Fl49 rfl rfl (take_ofW HT_.out HW_.out (by kernel_rfl)) (fun _ _ _ h => h) (Or.inl ⟨by rfl, ?_⟩) hHeld ?_ ?_
                     rotate_left
                     · rintro w' ⟨s0, s1, s2, s3, s4, s5⟩
                       go_simp
                       with_reducible rfl
                     rotate_left
                     · simp only [Act.put, List.setIfInBounds_toArray, List.set_cons_zero, List.set_cons_succ, i64_w, i32_w]
                       rfl
                     refine pur_ (i := 12) (N := some 113) Fl50 (any_of HT_.out (by kernel_rfl)) ?_
                     refine one_ (i := 13) (N := some 114) Fl51 rfl rfl (one_of HT_.out (by kernel_rfl)) (by decide) (fun K hK => ?_)
                     refine goes_ Try.func20 (by kernel_rfl) rfl #[.int .i64 t195, .int .i64 t196, .int .i64 x7_10, .int .i64 (Int.tmod x15_5 t214), .int .i64 (wrap64 (Int.tdiv x15_5 t214))] (by rfl) rfl rfl (by (try simp only [List.map_toArray, List.map_cons, List.map_nil]); first | done | rfl | (simp only [List.length_drop, List.length_take]; rfl)) ?_
                     with_reducible refine (turn_From.calls t195 t196 x7_10 (Int.tmod x15_5 t214) (wrap64 (Int.tdiv x15_5 t214)) t231 t232 _ A70.out).mono ?_
                     rintro e w94 ⟨rfl, hb⟩
                     refine ⟨_, rfl, ?_⟩
                     replace HO_201002 := Aside0.mk (Kd.R_below (rp_ HO_201002.out) hb)
                     replace HO_214002 := Aside0.mk (Kd.R_below (rp_ HO_214002.out) hb)
                     replace HO_221002 := Aside0.mk (Kd.V_below (vp_ HO_221002.out) hb)
                     replace BK200 := Aside0.mk (blk_below (hp_ BK200.out) hb)
                     replace BK220 := Aside0.mk (blk_below (hp_ BK220.out) hb)
                     replace HB := Aside0.mk (below_step bp_ hb)
                     (try clear hb)
                     (try clear hb2)
                     (try clear hk)
                     (try clear hi)
                     refine hK.out _ _ ⟨(blk_cell BK200.out 0).trans rfl, (blk_cell BK200.out 1).trans rfl, (blk_cell BK200.out 2).trans rfl, (blk_cell BK220.out 0).trans rfl, (blk_cell BK220.out 1).trans rfl, (blk_cell BK220.out 2).trans rfl⟩ (fun hHeld => ?_)
                     clear hK K
                     refine norm_ (a' := ?_) ?_ ?_
                     rotate_left
                     · show Act.put _ (some 114) _ = _
                       simp only [Act.put, List.setIfInBounds_toArray, List.set_cons_zero, List.set_cons_succ, i64_w, i32_w]
                       rfl
                     refine pur_ (i := 14) (N := some 100) Fl52 (any_of HT_.out (by kernel_rfl)) ?_
                     refine pur_ (i := 15) (N := some 115) Fl53 (any_of HT_.out (by kernel_rfl)) ?_
                     refine pur_ (i := 16) (N := some 116) Fl54 (any_of HT_.out (by kernel_rfl)) ?_
                     refine pur_ (i := 17) (N := some 16) Fl55 (any_of HT_.out (by kernel_rfl)) ?_
                     refine pur_ (i := 18) (N := some 17) Fl56 (any_of HT_.out (by kernel_rfl)) ?_
                     refine done_ (done_of HT_.out (by kernel_rfl)) ?_
                     have hcz95_0 : w94.cell? ⟨gb200, 0, none⟩ = some (.int .i64 t195) := (blk_cell BK200.out 0).trans rfl
                     have hcz95_1 : w94.cell? ⟨gb200, 1, none⟩ = some (.int .i64 t196) := (blk_cell BK200.out 1).trans rfl
                     have hcz95_2 : w94.cell? ⟨gb200, 2, none⟩ = some (.slice Ao9 t197.length co9) := (blk_cell BK200.out 2).trans rfl
                     have hfz95_0 := blk_frozen BK200.out 0
                     have hfz95_1 := blk_frozen BK200.out 1
                     have hfz95_2 := blk_frozen BK200.out 2
                     try go_wp2_with (first | ((with_reducible refine gate_callee (f := 21) rfl ?_); refine goQ_ (some 121) Try.func21 #[.agg #[.int .i64 t195, .int .i64 t196, .slice Ao9 t197.length co9], .int .i64 t231, .int .i64 t232] ?_; (with_reducible refine (chequerref03_At.calls t195 t196 _ _ t197 t231 t232 t233 false _ ?side1 ?side2 A71.out).mono ?_); (case side1 => exact cp_ (Kd.R_reads' HO_201002.out).2.2); (case side2 => exact (Kd.R_reads' HO_201002.out).2.1); rintro e w96 ⟨rfl, hb⟩; refine ⟨_, rfl, ?_⟩; replace HO_201002 := Aside0.mk (Kd.R_below (rp_ HO_201002.out) hb); replace HO_214002 := Aside0.mk (Kd.R_below (rp_ HO_214002.out) hb); replace HO_221002 := Aside0.mk (Kd.V_below (vp_ HO_221002.out) hb); replace HB := Aside0.mk (below_step bp_ hb); (try clear hb); (try clear hb2); (try clear hk); (try clear hi)))
                     go_ret
                     exact ⟨by first | rfl | (simp [errW_none, errW_some] <;> rfl) | (simp [*, errW_none, errW_some] <;> rfl), bp_⟩
               · rw [if_neg c68] at H
                 have c68b0 : decide (x15_5 < (t216.length : Int)) = false := decide_eq_false c68
                 clear c68
                 have H' := Aside0.mk H
                 clear H
                 have hnb97 := NB220_200.out
                 have hnc97 := NB200_220.out
                 have hnb98 := NB220_213.out
                 have hnc98 := NB213_220.out
                 have hcz99_0 : wr.cell? ⟨gb220, 0, none⟩ = some (.int .i64 t214) := (blk_cell BK220.out 0).trans rfl
                 have hcz99_1 : wr.cell? ⟨gb220, 1, none⟩ = some (.int .i64 t215) := (blk_cell BK220.out 1).trans rfl
                 have hcz99_2 : wr.cell? ⟨gb220, 2, none⟩ = some (.slice Ao33 t216.length co33) := (blk_cell BK220.out 2).trans rfl
                 have hfz99_0 := blk_frozen BK220.out 0
                 have hfz99_1 := blk_frozen BK220.out 1
                 have hfz99_2 := blk_frozen BK220.out 2
                 go_wp2
                 go_roundg k5
                 case measure => have := HK1.out; have := HJ10.out; have := HJ16.out; have := HJ35.out; have := HK5.out; omega
                 case rel => exact ⟨(wrap64 (x6_1 + 1)), (by first | rfl | (simp; done) | (simp [*]; done)), H', ⟨by have := HK1.out; have := HJ10.out; have := HJ16.out; have := HJ35.out; have := HK5.out; omega⟩, ⟨by (with_reducible repeat (first | apply Kd.R_alloc | apply Kd.R_drewN | apply Kd.R_drew)); exact Kd.R_mono HO_201002.out (fun _ hk => trivial)⟩, ⟨hp_ BK200.out⟩, ⟨bp_⟩⟩
   · rw [if_neg c10] at H
     have c10b0 : decide (x6_1 < 8) = false := decide_eq_false c10
     clear c10
     replace H := Option.bind_eq_some_iff.mp H
     obtain ⟨t201, A1000, H⟩ := H
     replace H : (some t201) = some r := H
     have A100 := Aside0.mk A1000
     clear A1000
     obtain rfl := Option.some.inj H
     go_wp2_with (first | ((with_reducible refine gate_callee (f := 22) rfl ?_); refine goQ_ (some 135) Try.func22 #[] ?_; (with_reducible refine (chequerlaw04_lives.calls k1  t201 _ A100.out).mono ?_); rintro e w101 ⟨rfl, hb⟩; refine ⟨_, rfl, ?_⟩; replace HO_201002 := Aside0.mk (Kd.R_below (rp_ HO_201002.out) hb); replace HB := Aside0.mk (below_step bp_ hb); (try clear hb); (try clear hb2); (try clear hk); (try clear hi)))
     go_ret
     exact ⟨by first | rfl | (simp [errW_none, errW_some] <;> rfl) | (simp [*, errW_none, errW_some] <;> rfl), bp_⟩

/-- THE ONE PURE STATEMENT of chequerlaw04_TurnLays. -/
def chequerlaw04_TurnLays.Pure : Prop := ∀ (a0_0 : Int) (a0_1 : Int) (l0_2 : List Int) (a1 : Int), (Lit.int .i64 a0_0).wf = true → (Lit.int .i64 a0_1).wf = true → l0_2.length ≤ maxLen → (∀ x ∈ l0_2, (Lit.int .u64 x).wf = true) → (Lit.int .i64 a1).wf = true → ∃ k, chequerlaw04_TurnLays.f k a0_0 a0_1 l0_2 a1 = some true
theorem chequerlaw04_TurnLays.walk (P : chequerlaw04_TurnLays.Pure) (a0_0 : Int) (a0_1 : Int) (a0_2 : Option Addr) (len0_2 cap0_2 : Nat) (z0_2 : List Int) (a1 : Int) (w : World) (w0_0 : (Lit.int .i64 a0_0).wf = true) (w0_1 : (Lit.int .i64 a0_1).wf = true) (w0_2 : (a0_2 = none ∧ len0_2 = 0 ∧ cap0_2 = 0 ∧ z0_2 = []) ∨ ∃ x, a0_2 = some x ∧ len0_2 ≤ cap0_2 ∧ cap0_2 ≤ maxLen ∧ z0_2.length = cap0_2 ∧ (∀ i, i < z0_2.length → w.cell? (x.add i) = some (.int .u64 (z0_2.getD i 0))) ∧ ∀ n ∈ z0_2, (Lit.int .u64 n).wf = true) (w1 : (Lit.int .i64 a1).wf = true) :
 Calls Try.prog 3 #[.agg #[.int .i64 a0_0, .int .i64 a0_1, .slice a0_2 len0_2 cap0_2], .int .i64 a1] w fun e w' => e = .returned (.bool true) ∧ Below w.heap.size w w' := by
 obtain ⟨l0_2, rfl, hr0_2, hm0_2, hw0_2, hc0_2⟩ := ReadsInt.ofRowC w0_2
 obtain ⟨k, h⟩ := P a0_0 a0_1 l0_2 a1 w0_0 w0_1 hm0_2 hw0_2 w1
 refine (chequerlaw04_TurnLays.calls k a0_0 a0_1 _ _ l0_2 a1 true w (Kd.C_of_reads (d := (0 : Int)) (h1 := fun _ => rfl) hr0_2) hc0_2 h).mono ?_
 rintro e w' ⟨rfl, hd⟩
 exact ⟨rfl, hd⟩

end Go.Proofs.Ytehjnekljodmgaa.Q
