-- written by our own program (wip/tools/myprint.py) out of the translation, by the kit's print; Lean checks it
import Derived.Test.YtdjonaajfhbfhaaQ0
import Derived.Test.YtdjonaajfhbfhaaQ2
import Derived.Test.YtdjonaajfhbfhaaQ4
import Derived.Test.YtdjonaajfhbfhaaIraw_New
import Derived.Test.YtdjonaajfhbfhaaQ9
import Derived.Test.YtdjonaajfhbfhaaQ12
import Derived.Test.YtdjonaajfhbfhaaQ20
import Derived.Test.YtdjonaajfhbfhaaIraw_Reader_Left
import Derived.Test.YtdjonaajfhbfhaaIraw_Reader_Rows
import Derived.Test.YtdjonaajfhbfhaaIraw_Reader_Error
namespace Go.Proofs.Ytdjonaajfhbfhaa.Q
open Go.RowKit Go.Proofs.YtdjonaajfhbfhaaW.PrintWords Go.Proofs.YtdjonaajfhbfhaaW.PrintLast Go.Proofs.YtdjonaajfhbfhaaW.PrintMore
attribute [local go_sem] max2_int min2_int max_two min_two max_three min_three max_four min_four   -- for this text's walks alone
set_option linter.unusedVariables false
set_option linter.unusedSimpArgs false

abbrev Fl118 : Array Bool := #[false, false, false, false, false, false, false, false, false, false, false, false, false, false, false, false, false, false, false, false, false, false]
abbrev Fl119 : Array Bool := #[true, false, false, false, false, false, false, false, false, false, false, false, false, false, false, false, false, false, false, false, false, false]
abbrev Fl120 : Array Bool := #[true, true, false, false, false, false, false, false, false, false, false, false, false, false, false, false, false, false, false, false, false, false]
abbrev Fl121 : Array Bool := #[true, true, true, false, false, false, false, false, false, false, false, false, false, false, false, false, false, false, false, false, false, false]
abbrev Fl122 : Array Bool := #[true, true, true, true, false, false, false, false, false, false, false, false, false, false, false, false, false, false, false, false, false, false]
abbrev Fl123 : Array Bool := #[true, true, true, true, true, true, true, true, true, false, false, false, false, false, false, false, false, false, false, false, false, false]
abbrev Fl124 : Array Bool := #[true, true, true, true, true, true, true, true, true, true, false, false, false, false, false, false, false, false, false, false, false, false]
abbrev Fl125 : Array Bool := #[true, true, true, true, true, true, true, true, true, true, true, false, false, false, false, false, false, false, false, false, false, false]
abbrev Fl126 : Array Bool := #[true, true, true, true, true, true, true, true, true, true, true, true, false, false, false, false, false, false, false, false, false, false]
abbrev Fl127 : Array Bool := #[true, true, true, true, true, true, true, true, true, true, true, true, true, false, false, false, false, false, false, false, false, false]
abbrev Fl128 : Array Bool := #[true, true, true, true, true, true, true, true, true, true, true, true, true, true, false, false, false, false, false, false, false, false]
abbrev Fl129 : Array Bool := #[true, true, true, true, true, true, true, true, true, true, true, true, true, true, true, false, false, false, false, false, false, false]
abbrev Fl130 : Array Bool := #[true, true, true, true, true, true, true, true, true, true, true, true, true, true, true, true, false, false, false, false, false, false]
abbrev Fl131 : Array Bool := #[true, true, true, true, true, true, true, true, true, true, true, true, true, true, true, true, true, false, false, false, false, false]
abbrev Fl132 : Array Bool := #[true, true, true, true, true, true, true, true, true, true, true, true, true, true, true, true, true, true, false, false, false, false]
abbrev Fl133 : Array Bool := #[true, true, true, true, true, true, true, true, true, true, true, true, true, true, true, true, true, true, true, false, false, false]
abbrev Fl134 : Array Bool := #[true, true, true, true, true, true, true, true, true, true, true, true, true, true, true, true, true, true, true, true, false, false]
abbrev Fl135 : Array Bool := #[true, true, true, true, true, true, true, true, true, true, true, true, true, true, true, true, true, true, true, true, true, false]
abbrev Fl136 : Array Bool := #[true, true, true, true, true, true, true, true, true, true, true, true, true, true, true, true, true, true, true, true, true, true]
abbrev Fl137 : Array Bool := #[true, true, true, true, false, true, false, false, false, false, false, false, false, false, false, false, false, false, false, false, false, false]
abbrev Fl138 : Array Bool := #[true, true, true, true, false, true, true, false, false, false, false, false, false, false, false, false, false, false, false, false, false, false]
abbrev Fl139 : Array Bool := #[true, true, true, true, false, true, true, true, false, false, false, false, false, false, false, false, false, false, false, false, false, false]
abbrev Fl140 : Array Bool := #[true, true, true, true, false, true, true, true, true, false, false, false, false, false, false, false, false, false, false, false, false, false]
abbrev Fl141 : Array Bool := #[false, false, false, false, false, false, false, false, false, false, false, false, false, false, false, false, false, false, false]
abbrev Fl142 : Array Bool := #[true, false, false, false, false, false, false, false, false, false, false, false, false, false, false, false, false, false, false]
abbrev Fl143 : Array Bool := #[true, false, true, false, false, false, false, false, false, false, false, false, false, false, false, false, false, false, false]
abbrev Fl144 : Array Bool := #[true, true, true, false, false, false, false, false, false, false, false, false, false, false, false, false, false, false, false]
abbrev Fl145 : Array Bool := #[true, true, true, true, false, false, false, false, false, false, false, false, false, false, false, false, false, false, false]
abbrev Fl146 : Array Bool := #[true, true, true, true, true, false, false, false, false, false, false, false, false, false, false, false, false, false, false]
abbrev Fl147 : Array Bool := #[true, true, true, true, true, true, false, false, false, false, false, false, false, false, false, false, false, false, false]
abbrev Fl148 : Array Bool := #[true, true, true, true, true, true, true, true, true, true, true, true, false, false, false, false, false, false, false]
abbrev Fl149 : Array Bool := #[true, true, true, true, true, true, true, true, true, true, true, true, true, false, false, false, false, false, false]
abbrev Fl150 : Array Bool := #[true, true, true, true, true, true, true, true, true, true, true, true, true, true, false, false, false, false, false]
abbrev Fl151 : Array Bool := #[true, true, true, true, true, true, true, true, true, true, true, true, true, true, true, false, false, false, false]
abbrev Fl152 : Array Bool := #[true, true, true, true, true, true, true, true, true, true, true, true, true, true, true, true, false, false, false]
abbrev Fl153 : Array Bool := #[true, true, true, true, true, true, true, true, true, true, true, true, true, true, true, true, true, false, false]
abbrev Fl154 : Array Bool := #[true, true, true, true, true, true, true, true, true, true, true, true, true, true, true, true, true, true, false]
abbrev Fl155 : Array Bool := #[true, true, true, true, true, true, true, true, true, true, true, true, true, true, true, true, true, true, true]
abbrev Fl156 : Array Bool := #[true, true, true, true, true, true, false, false, true, false, false, false, false, false, false, false, false, false, false]
abbrev Fl157 : Array Bool := #[true, true, true, true, true, true, true, false, true, false, false, false, false, false, false, false, false, false, false]
abbrev Fl158 : Array Bool := #[true, true, true, true, true, true, true, false, true, true, false, false, false, false, false, false, false, false, false]
abbrev Fl159 : Array Bool := #[true, true, true, true, true, true, true, false, true, true, false, true, false, false, false, false, false, false, false]
abbrev Fl160 : Array Bool := #[true, true, true, true, true, true, true, true, true, true, false, true, false, false, false, false, false, false, false]
/-! ### chequerlaw09_RawNew: function 7 -/
mutual
def chequerlaw09_RawNew.l0 : Nat → List (S23) → Int → Int → Int → Int → Int → Option (Bool)
 | 0, _, _, _, _, _, _ => none
 | k + 1, x4, x5, x513000, x513001, x513002, x513003 => if x5 < 2 then (if 0 ≤ x5 then (if x5 < (x4.length : Int) then (if rawMayI ((rd_T23 x4 x5).f0) ((rd_T23 x4 x5).f1) ((rd_T23 x4 x5).f2) ((rd_T23 x4 x5).f3) = 1 then ((raw_New.f ((rd_T23 x4 x5).f0) ((rd_T23 x4 x5).f1) ((rd_T23 x4 x5).f2) ((rd_T23 x4 x5).f3)).bind fun bt517 => ((chequerref09_May.f ((rd_T23 x4 x5).f0) ((rd_T23 x4 x5).f1) ((rd_T23 x4 x5).f2) ((rd_T23 x4 x5).f3)).bind fun t529 => (if (true != t529) = true then (chequerlaw09_RawNew.j1 k x4 x5 true x513000 x513001 x513002 x513003 bt517.1 bt517.2.1 bt517.2.2.1 bt517.2.2.2.1 bt517.2.2.2.2.1 bt517.2.2.2.2.2.1 bt517.2.2.2.2.2.2.1 bt517.2.2.2.2.2.2.2.1 bt517.2.2.2.2.2.2.2.2.1) else (if ((bt517.2.2.2.2.2.2.2.2.2 == 0) != t529) = true then (chequerlaw09_RawNew.j1 k x4 x5 true x513000 x513001 x513002 x513003 bt517.1 bt517.2.1 bt517.2.2.1 bt517.2.2.2.1 bt517.2.2.2.2.1 bt517.2.2.2.2.2.1 bt517.2.2.2.2.2.2.1 bt517.2.2.2.2.2.2.2.1 bt517.2.2.2.2.2.2.2.2.1) else (if t529 = true then (chequerlaw09_RawNew.j1 k x4 x5 false x513000 x513001 x513002 x513003 bt517.1 bt517.2.1 bt517.2.2.1 bt517.2.2.2.1 bt517.2.2.2.2.1 bt517.2.2.2.2.2.1 bt517.2.2.2.2.2.2.1 bt517.2.2.2.2.2.2.2.1 bt517.2.2.2.2.2.2.2.2.1) else (chequerlaw09_RawNew.j1 k x4 x5 (bt517.2.2.2.2.2.2.2.2.2 != 1) x513000 x513001 x513002 x513003 bt517.1 bt517.2.1 bt517.2.2.1 bt517.2.2.2.1 bt517.2.2.2.2.1 bt517.2.2.2.2.2.1 bt517.2.2.2.2.2.2.1 bt517.2.2.2.2.2.2.2.1 bt517.2.2.2.2.2.2.2.2.1)))))) else ((raw_NewNil.f ((rd_T23 x4 x5).f0) ((rd_T23 x4 x5).f1) ((rd_T23 x4 x5).f2) ((rd_T23 x4 x5).f3)).bind fun t562 => ((chequerref09_May.f ((rd_T23 x4 x5).f0) ((rd_T23 x4 x5).f1) ((rd_T23 x4 x5).f2) ((rd_T23 x4 x5).f3)).bind fun t564 => (if (false != t564) = true then (chequerlaw09_RawNew.j2 k x4 x5 true x513000 x513001 x513002 x513003) else (if ((t562 == 0) != t564) = true then (chequerlaw09_RawNew.j2 k x4 x5 true x513000 x513001 x513002 x513003) else (if t564 = true then (chequerlaw09_RawNew.j2 k x4 x5 false x513000 x513001 x513002 x513003) else (chequerlaw09_RawNew.j2 k x4 x5 (t562 != 1) x513000 x513001 x513002 x513003))))))) else (none)) else (none)) else ((raw_Stride.f x513000 x513001 x513002 x513003).bind fun t565 => ((chequerref09_Stride.f x513000 x513001 x513002 x513003).bind fun t566 => (if t565 = t566 then ((raw_Stride.f x513000 x513001 x513002 x513003).bind fun t567 => ((chequerref06_Size.f x513000 x513001 x513002 x513003).bind fun t568 => (if (wrap64 (t567 * x513002)) = t568 then ((chequerlaw09_lives.f k).bind fun t569 => (some t569)) else (some false)))) else (some false))))
def chequerlaw09_RawNew.j1 : Nat → List (S23) → Int → Bool → Int → Int → Int → Int → Int → Int → Int → Int → Int → Int → Int → Int → Int → Option (Bool)
 | 0, _, _, _, _, _, _, _, _, _, _, _, _, _, _, _, _ => none
 | k + 1, x4, x5, x48, x513000, x513001, x513002, x513003, x527000, x527001, x527002, x527003, x527004, x527005, x527006, x527007, x527008 => if x48 = true then (some false) else ((raw_Reader_Left.f x527000 x527001 x527002 x527003 x527004 x527005 x527006 x527007 x527008).bind fun bt530 => (if 0 ≤ x5 then (if x5 < (x4.length : Int) then ((chequerref06_Size.f ((rd_T23 x4 x5).f0) ((rd_T23 x4 x5).f1) ((rd_T23 x4 x5).f2) ((rd_T23 x4 x5).f3)).bind fun t541 => (if bt530.1 = t541 then ((raw_Reader_Rows.f bt530.2.1 bt530.2.2.1 bt530.2.2.2.1 bt530.2.2.2.2.1 bt530.2.2.2.2.2.1 bt530.2.2.2.2.2.2.1 bt530.2.2.2.2.2.2.2.1 bt530.2.2.2.2.2.2.2.2.1 bt530.2.2.2.2.2.2.2.2.2).bind fun bt542 => (if bt542.1 = 0 then ((raw_Reader_Error.f bt542.2.1 bt542.2.2.1 bt542.2.2.2.1 bt542.2.2.2.2.1 bt542.2.2.2.2.2.1 bt542.2.2.2.2.2.2.1 bt542.2.2.2.2.2.2.2.1 bt542.2.2.2.2.2.2.2.2.1 bt542.2.2.2.2.2.2.2.2.2).bind fun bt552 => (if bt552.1 = 0 then (chequerlaw09_RawNew.l0 k x4 (wrap64 (x5 + 1)) x513000 x513001 x513002 x513003) else (some false))) else (some false))) else (some false))) else (none)) else (none)))
def chequerlaw09_RawNew.j2 : Nat → List (S23) → Int → Bool → Int → Int → Int → Int → Option (Bool)
 | 0, _, _, _, _, _, _, _ => none
 | k + 1, x4, x5, x48, x513000, x513001, x513002, x513003 => if x48 = true then (some false) else (chequerlaw09_RawNew.l0 k x4 (wrap64 (x5 + 1)) x513000 x513001 x513002 x513003)
end
def chequerlaw09_RawNew.f (k : Nat) (a0_0 : Int) (a0_1 : Int) (a0_2 : Int) (a0_3 : Int) : Option (Bool) := (chequerref06_Good.f a0_0 a0_1 a0_2 a0_3 4096).bind fun bt508 => (chequerlaw09_RawNew.l0 k (([(⟨a0_0, a0_1, a0_2, a0_3⟩ : S23), (⟨bt508.1, bt508.2.1, bt508.2.2.1, bt508.2.2.2⟩ : S23)] : List (S23))) 0 bt508.1 bt508.2.1 bt508.2.2.1 bt508.2.2.2)
theorem chequerlaw09_RawNew.mono_l : ∀ k, (∀ y0 y1 y2 y3 y4 y5, LeO (chequerlaw09_RawNew.l0 k y0 y1 y2 y3 y4 y5) (chequerlaw09_RawNew.l0 (k + 1) y0 y1 y2 y3 y4 y5)) ∧ (∀ y0 y1 y2 y3 y4 y5 y6 y7 y8 y9 y10 y11 y12 y13 y14 y15, LeO (chequerlaw09_RawNew.j1 k y0 y1 y2 y3 y4 y5 y6 y7 y8 y9 y10 y11 y12 y13 y14 y15) (chequerlaw09_RawNew.j1 (k + 1) y0 y1 y2 y3 y4 y5 y6 y7 y8 y9 y10 y11 y12 y13 y14 y15)) ∧ (∀ y0 y1 y2 y3 y4 y5 y6, LeO (chequerlaw09_RawNew.j2 k y0 y1 y2 y3 y4 y5 y6) (chequerlaw09_RawNew.j2 (k + 1) y0 y1 y2 y3 y4 y5 y6))
 | 0 => ⟨fun _ _ _ _ _ _ r h => by simp [chequerlaw09_RawNew.l0] at h, fun _ _ _ _ _ _ _ _ _ _ _ _ _ _ _ _ r h => by simp [chequerlaw09_RawNew.j1] at h, fun _ _ _ _ _ _ _ r h => by simp [chequerlaw09_RawNew.j2] at h⟩
 | k + 1 => by
  obtain ⟨ih0, ih1, ih2⟩ := chequerlaw09_RawNew.mono_l k
  refine ⟨?_, ?_, ?_⟩
  · intro y0 y1 y2 y3 y4 y5
    unfold chequerlaw09_RawNew.l0
    repeat' first
    | (with_reducible exact ih0 _ _ _ _ _ _)
    | (with_reducible exact ih1 _ _ _ _ _ _ _ _ _ _ _ _ _ _ _ _)
    | (with_reducible exact ih2 _ _ _ _ _ _ _)
    | (with_reducible exact chequerlaw09_lives.mono _)
    | (with_reducible exact LeO.refl _)
    | (with_reducible exact LeO.none _)
    | (with_reducible refine LeO.ite ?_ ?_)
    | (with_reducible refine LeO.bind ?_ (fun _ => ?_))
    | exact ih0 _ _ _ _ _ _
    | exact ih1 _ _ _ _ _ _ _ _ _ _ _ _ _ _ _ _
    | exact ih2 _ _ _ _ _ _ _
    | exact chequerlaw09_lives.mono _
    | exact LeO.none _
    | refine LeO.ite ?_ ?_
    | refine LeO.bind ?_ (fun _ => ?_)
  · intro y0 y1 y2 y3 y4 y5 y6 y7 y8 y9 y10 y11 y12 y13 y14 y15
    unfold chequerlaw09_RawNew.j1
    repeat' first
    | (with_reducible exact ih0 _ _ _ _ _ _)
    | (with_reducible exact ih1 _ _ _ _ _ _ _ _ _ _ _ _ _ _ _ _)
    | (with_reducible exact ih2 _ _ _ _ _ _ _)
    | (with_reducible exact chequerlaw09_lives.mono _)
    | (with_reducible exact LeO.refl _)
    | (with_reducible exact LeO.none _)
    | (with_reducible refine LeO.ite ?_ ?_)
    | (with_reducible refine LeO.bind ?_ (fun _ => ?_))
    | exact ih0 _ _ _ _ _ _
    | exact ih1 _ _ _ _ _ _ _ _ _ _ _ _ _ _ _ _
    | exact ih2 _ _ _ _ _ _ _
    | exact chequerlaw09_lives.mono _
    | exact LeO.none _
    | refine LeO.ite ?_ ?_
    | refine LeO.bind ?_ (fun _ => ?_)
  · intro y0 y1 y2 y3 y4 y5 y6
    unfold chequerlaw09_RawNew.j2
    repeat' first
    | (with_reducible exact ih0 _ _ _ _ _ _)
    | (with_reducible exact ih1 _ _ _ _ _ _ _ _ _ _ _ _ _ _ _ _)
    | (with_reducible exact ih2 _ _ _ _ _ _ _)
    | (with_reducible exact chequerlaw09_lives.mono _)
    | (with_reducible exact LeO.refl _)
    | (with_reducible exact LeO.none _)
    | (with_reducible refine LeO.ite ?_ ?_)
    | (with_reducible refine LeO.bind ?_ (fun _ => ?_))
    | exact ih0 _ _ _ _ _ _
    | exact ih1 _ _ _ _ _ _ _ _ _ _ _ _ _ _ _ _
    | exact ih2 _ _ _ _ _ _ _
    | exact chequerlaw09_lives.mono _
    | exact LeO.none _
    | refine LeO.ite ?_ ?_
    | refine LeO.bind ?_ (fun _ => ?_)
theorem chequerlaw09_RawNew.mono : ∀ a0 a1 a2 a3 k, LeO (chequerlaw09_RawNew.f k a0 a1 a2 a3) (chequerlaw09_RawNew.f (k + 1) a0 a1 a2 a3) := by
 intro a0 a1 a2 a3 k
 obtain ⟨ih0, ih1, ih2⟩ := chequerlaw09_RawNew.mono_l k
 unfold chequerlaw09_RawNew.f
 repeat' first
  | (with_reducible exact ih0 _ _ _ _ _ _)
  | (with_reducible exact ih1 _ _ _ _ _ _ _ _ _ _ _ _ _ _ _ _)
  | (with_reducible exact ih2 _ _ _ _ _ _ _)
  | (with_reducible exact chequerlaw09_lives.mono _)
  | (with_reducible exact LeO.refl _)
  | (with_reducible exact LeO.none _)
  | (with_reducible refine LeO.ite ?_ ?_)
  | (with_reducible refine LeO.bind ?_ (fun _ => ?_))
  | exact ih0 _ _ _ _ _ _
  | exact ih1 _ _ _ _ _ _ _ _ _ _ _ _ _ _ _ _
  | exact ih2 _ _ _ _ _ _ _
  | exact chequerlaw09_lives.mono _
  | exact LeO.none _
  | refine LeO.ite ?_ ?_
  | refine LeO.bind ?_ (fun _ => ?_)
def chequerlaw09_RawNew.T10 : Bool × List (List Nat × List Nat) := (true, [([], []), ([0], [0]), ([1], [1]), ([2], [2]), ([3, 2, 2], [2, 3]), ([2], [2]), ([2], [2]), ([5, 6, 2], [2, 5, 6]), ([7, 2], [2, 7]), ([8, 4, 2], [2, 8]), ([4, 9, 2], [2, 4, 9]), ([10, 9, 2], [2, 10]), ([11], [11]), ([12, 11, 11], [11, 12]), ([13, 11], [11, 13]), ([11, 14, 2], [2, 11, 14]), ([15, 13, 2], [2, 15]), ([16], [16]), ([17, 16, 16], [16, 17]), ([18, 16], [16, 18]), ([16, 19, 2], [2, 16, 19]), ([2, 20], [2, 20])])
def chequerlaw09_RawNew.B10 : List Nat := [0, 1, 3, 7, 15, 7, 7, 103, 231, 511, 1023, 2047, 4095, 8191, 16383, 32767, 65535, 131071, 262143, 524287, 1048575, 2097151]
theorem chequerlaw09_RawNew.tab10 : rtab .any (opsOf Try.f7 10) = chequerlaw09_RawNew.T10 := by kernel_rfl
theorem chequerlaw09_RawNew.bits10 : waitsOk chequerlaw09_RawNew.T10.2 chequerlaw09_RawNew.B10 = true := by kernel_rfl
def chequerlaw09_RawNew.T12 : Bool × List (List Nat × List Nat) := (true, [([], []), ([0], [0]), ([], []), ([2, 1], [2]), ([1, 3], [1, 3]), ([4, 3], [4]), ([5], [5]), ([6, 5, 5], [5, 6]), ([5], [5]), ([8, 5], [5, 8]), ([7, 9, 5], [5, 7, 9]), ([5], [5]), ([11, 7, 5], [5, 11]), ([10, 12, 5], [5, 10, 12]), ([5, 13], [5, 13]), ([14, 12], [14]), ([15, 15], [15]), ([15, 16], [15, 16]), ([17, 16, 0, 1, 2, 3, 4, 5, 6, 7, 8, 9, 10, 11, 12, 13, 14, 15, 16, 17], [17])])
def chequerlaw09_RawNew.B12 : List Nat := [0, 1, 0, 7, 15, 31, 63, 127, 63, 319, 1023, 63, 2303, 8191, 16383, 32767, 65535, 131071, 262143]
theorem chequerlaw09_RawNew.tab12 : rtab .any (opsOf Try.f7 12) = chequerlaw09_RawNew.T12 := by kernel_rfl
theorem chequerlaw09_RawNew.bits12 : waitsOk chequerlaw09_RawNew.T12.2 chequerlaw09_RawNew.B12 = true := by kernel_rfl
set_option maxHeartbeats 8000000 in
set_option maxRecDepth 100000 in
theorem chequerlaw09_RawNew.calls (k : Nat) (a0_0 : Int) (a0_1 : Int) (a0_2 : Int) (a0_3 : Int) (r : Bool) (w : World) (h : chequerlaw09_RawNew.f k a0_0 a0_1 a0_2 a0_3 = some r) :
 Calls Try.prog 7 #[.agg #[.int .i64 a0_0, .int .i64 a0_1, .int .i64 a0_2, .int .i64 a0_3]] w fun e w' => e = .returned (.bool r) ∧ Below w.heap.size w w' := by
 have hu23 := Try.underlying23
 have HB := Aside0.mk (Below.refl w.heap.size w)
 have H : ((chequerref06_Good.f a0_0 a0_1 a0_2 a0_3 4096).bind fun bt508 => (chequerlaw09_RawNew.l0 k (([(⟨a0_0, a0_1, a0_2, a0_3⟩ : S23), (⟨bt508.1, bt508.2.1, bt508.2.2.1, bt508.2.2.2⟩ : S23)] : List (S23))) 0 bt508.1 bt508.2.1 bt508.2.2.1 bt508.2.2.2)) = some r := h
 clear h
 replace H := Option.bind_eq_some_iff.mp H
 obtain ⟨⟨t508, t509, t510, t511⟩, A20, H⟩ := H
 replace H : (chequerlaw09_RawNew.l0 k (([(⟨a0_0, a0_1, a0_2, a0_3⟩ : S23), (⟨t508, t509, t510, t511⟩ : S23)] : List (S23))) 0 t508 t509 t510 t511) = some r := H
 have A2 := Aside0.mk A20
 clear A20
 obtain ⟨y513, hy513⟩ : ∃ y_ : List (S23), y_ = (([(⟨a0_0, a0_1, a0_2, a0_3⟩ : S23), (⟨t508, t509, t510, t511⟩ : S23)] : List (S23))) := ⟨_, rfl⟩
 replace H : (chequerlaw09_RawNew.l0 k y513 0 t508 t509 t510 t511) = some r := by first | (rw [hy513]; with_reducible exact H) | (have H2_ := (Option.bind_some _ _).symm.trans H; rw [hy513]; with_reducible exact H2_) | (have H2_ := (Option.bind_some _ _).symm.trans H; with_reducible exact H2_) | with_reducible exact H | (rw [hy513]; exact H) | exact H
 have Ny513 := Aside0.mk hy513
 clear hy513
 have H' := Aside0.mk H
 clear H
 go_enter Try.func7, Try.ntmps7
 go_wp2_with (first | ((with_reducible refine gate_dst (N := 1) rfl ?_); refine box_event ?hg (N := 1) ?hd (cs := #[.int .i64 a0_0, .int .i64 a0_1, .int .i64 a0_2, .int .i64 a0_3]) (t := 23) ?hr ?_; (case hd => rfl); (case hg => rfl); (case hr => first | (go_simp; done) | (go_simp; rfl)); intro gb507 hg w3 hbox hb; have BK507 := Aside0.mk (hbox); have GW507 := Aside0.mk ((by rw [hg]; exact (below_size bp_) : w.heap.size ≤ gb507)); have GE507 := Aside0.mk ((by rw [hg]; exact (below_size bp_) : w.heap.size ≤ gb507)); replace HB := Aside0.mk (below_step bp_ hb); clear hb hbox hg; have hcz4_0 : w3.cell? ⟨gb507, 0, none⟩ = some (.int .i64 a0_0) := (blk_cell BK507.out 0).trans rfl; have hcz4_1 : w3.cell? ⟨gb507, 1, none⟩ = some (.int .i64 a0_1) := (blk_cell BK507.out 1).trans rfl; have hcz4_2 : w3.cell? ⟨gb507, 2, none⟩ = some (.int .i64 a0_2) := (blk_cell BK507.out 2).trans rfl; have hcz4_3 : w3.cell? ⟨gb507, 3, none⟩ = some (.int .i64 a0_3) := (blk_cell BK507.out 3).trans rfl; have hfz4_0 := blk_frozen BK507.out 0; have hfz4_1 := blk_frozen BK507.out 1; have hfz4_2 := blk_frozen BK507.out 2; have hfz4_3 := blk_frozen BK507.out 3) | ((with_reducible refine gate_callee (f := 27) rfl ?_); refine goQ_ (some 10) Try.func27 #[.agg #[.int .i64 a0_0, .int .i64 a0_1, .int .i64 a0_2, .int .i64 a0_3], .int .i64 4096] ?_; (with_reducible refine (chequerref06_Good.calls a0_0 a0_1 a0_2 a0_3 4096 t508 t509 t510 t511 _ A2.out).mono ?_); rintro e w5 ⟨rfl, hb⟩; refine ⟨_, rfl, ?_⟩; replace BK507 := Aside0.mk (blk_below (hp_ BK507.out) hb); replace HB := Aside0.mk (below_step bp_ hb); (try clear hb); (try clear hb2); (try clear hk); (try clear hi)) | ((with_reducible refine gate_dst (N := 3) rfl ?_); refine box_event ?hg (N := 3) ?hd (cs := #[.int .i64 0, .int .i64 0, .int .i64 0, .int .i64 0]) (t := 23) ?hr ?_; (case hd => rfl); (case hg => rfl); (case hr => first | (go_simp; done) | (go_simp; rfl)); intro gb512 hg w6 hbox hb; have BK512 := Aside0.mk (hbox); have GW512 := Aside0.mk ((by rw [hg]; exact (below_size bp_) : w.heap.size ≤ gb512)); have GE512 := Aside0.mk ((by rw [hg]; exact (below_size bp_) : w.heap.size ≤ gb512)); replace HB := Aside0.mk (below_step bp_ hb); have NB507_512 := Aside0.mk ((nlt_ hg (hp_ BK507.out))); have NB512_507 := Aside0.mk ((ngt_ hg (hp_ BK507.out))); replace BK507 := Aside0.mk (blk_below (hp_ BK507.out) hb); clear hb hbox hg; have hnb7 := NB512_507.out; have hnc7 := NB507_512.out; have hcz8_0 : w6.cell? ⟨gb512, 0, none⟩ = some (.int .i64 0) := (blk_cell BK512.out 0).trans rfl; have hcz8_1 : w6.cell? ⟨gb512, 1, none⟩ = some (.int .i64 0) := (blk_cell BK512.out 1).trans rfl; have hcz8_2 : w6.cell? ⟨gb512, 2, none⟩ = some (.int .i64 0) := (blk_cell BK512.out 2).trans rfl; have hcz8_3 : w6.cell? ⟨gb512, 3, none⟩ = some (.int .i64 0) := (blk_cell BK512.out 3).trans rfl; have hfz8_0 := blk_frozen BK512.out 0; have hfz8_1 := blk_frozen BK512.out 1; have hfz8_2 := blk_frozen BK512.out 2; have hfz8_3 := blk_frozen BK512.out 3; have hcz9_0 : w6.cell? ⟨gb507, 0, none⟩ = some (.int .i64 a0_0) := (blk_cell BK507.out 0).trans rfl; have hcz9_1 : w6.cell? ⟨gb507, 1, none⟩ = some (.int .i64 a0_1) := (blk_cell BK507.out 1).trans rfl; have hcz9_2 : w6.cell? ⟨gb507, 2, none⟩ = some (.int .i64 a0_2) := (blk_cell BK507.out 2).trans rfl; have hcz9_3 : w6.cell? ⟨gb507, 3, none⟩ = some (.int .i64 a0_3) := (blk_cell BK507.out 3).trans rfl; have hfz9_0 := blk_frozen BK507.out 0; have hfz9_1 := blk_frozen BK507.out 1; have hfz9_2 := blk_frozen BK507.out 2; have hfz9_3 := blk_frozen BK507.out 3) | ((with_reducible refine gate_dst (N := 13) rfl ?_); refine Kd.R_lit k23 _ 23 ?hg (N := 13) ?hd (xs := ([(⟨a0_0, a0_1, a0_2, a0_3⟩ : S23), (⟨t508, t509, t510, t511⟩ : S23)] : List (S23))) (inner := [.int .i64 a0_0, .int .i64 a0_1, .int .i64 a0_2, .int .i64 a0_3, .int .i64 t508, .int .i64 t509, .int .i64 t510, .int .i64 t511]) (ok := fun _ => True) (okp := fun _ => True) ?hr ?hp (fun _ hk => hk) trivial (Below.refl _ _) (Nat.le_refl _) (by simp) ?_; (case hd => rfl); (case hg => rfl); (case hr => first | (go_simp; done) | (go_simp; rfl)); (case hp => exact (Reps.c4 (show Kd.M k23 _ _ _ (⟨a0_0, a0_1, a0_2, a0_3⟩ : S23) [.int .i64 a0_0, .int .i64 a0_1, .int .i64 a0_2, .int .i64 a0_3] from (k23_mkM _ _ _ (⟨a0_0, a0_1, a0_2, a0_3⟩ : S23) )) (Reps.c4 (show Kd.M k23 _ _ _ (⟨t508, t509, t510, t511⟩ : S23) [.int .i64 t508, .int .i64 t509, .int .i64 t510, .int .i64 t511] from (k23_mkM _ _ _ (⟨t508, t509, t510, t511⟩ : S23) )) (Reps.none _ _)))); intro v514 w10 ho11 hb hg_ hnew_; clear hg_ hnew_; (first | rw [← Ny513.out] at ho11 | (simp only [Int.reduceToNat] at ho11; rw [← Ny513.out] at ho11)); have HO515 := Aside0.mk (Kd.R_lower (Kd.R_newB (Kd.R_newB ho11 (g := gb507) (o := .cells #[.int .i64 a0_0, .int .i64 a0_1, .int .i64 a0_2, .int .i64 a0_3] 23 (0, 0)) (hf_ BK507.out NB507_512.out)) (g := gb512) (o := .cells #[.int .i64 t508, .int .i64 t509, .int .i64 t510, .int .i64 t511] 23 (0, 0)) (by (with_reducible repeat (first | refine blk_drewN ?_ _ | refine blk_drew ?_ | refine blk_alloc ?_ _)); refine blk_put (cs := #[.int .i64 t508, .int .i64 t509, .int .i64 t510, .int .i64 0]) ?_ 3 _ rfl; (with_reducible repeat (first | refine blk_drewN ?_ _ | refine blk_drew ?_ | refine blk_alloc ?_ _)); refine blk_put (cs := #[.int .i64 t508, .int .i64 t509, .int .i64 0, .int .i64 0]) ?_ 2 _ rfl; (with_reducible repeat (first | refine blk_drewN ?_ _ | refine blk_drew ?_ | refine blk_alloc ?_ _)); refine blk_put (cs := #[.int .i64 t508, .int .i64 0, .int .i64 0, .int .i64 0]) ?_ 1 _ rfl; (with_reducible repeat (first | refine blk_drewN ?_ _ | refine blk_drew ?_ | refine blk_alloc ?_ _)); refine blk_put (cs := #[.int .i64 0, .int .i64 0, .int .i64 0, .int .i64 0]) ?_ 0 _ rfl; (with_reducible repeat (first | refine blk_drewN ?_ _ | refine blk_drew ?_ | refine blk_alloc ?_ _)); exact BK512.out)) (below_size bp_)); replace BK507 := Aside0.mk (blk_below (hf_ BK507.out NB507_512.out) hb); replace BK512 := Aside0.mk (blk_below (g := gb512) (o := .cells #[.int .i64 t508, .int .i64 t509, .int .i64 t510, .int .i64 t511] 23 (0, 0)) (by (with_reducible repeat (first | refine blk_drewN ?_ _ | refine blk_drew ?_ | refine blk_alloc ?_ _)); refine blk_put (cs := #[.int .i64 t508, .int .i64 t509, .int .i64 t510, .int .i64 0]) ?_ 3 _ rfl; (with_reducible repeat (first | refine blk_drewN ?_ _ | refine blk_drew ?_ | refine blk_alloc ?_ _)); refine blk_put (cs := #[.int .i64 t508, .int .i64 t509, .int .i64 0, .int .i64 0]) ?_ 2 _ rfl; (with_reducible repeat (first | refine blk_drewN ?_ _ | refine blk_drew ?_ | refine blk_alloc ?_ _)); refine blk_put (cs := #[.int .i64 t508, .int .i64 0, .int .i64 0, .int .i64 0]) ?_ 1 _ rfl; (with_reducible repeat (first | refine blk_drewN ?_ _ | refine blk_drew ?_ | refine blk_alloc ?_ _)); refine blk_put (cs := #[.int .i64 0, .int .i64 0, .int .i64 0, .int .i64 0]) ?_ 0 _ rfl; (with_reducible repeat (first | refine blk_drewN ?_ _ | refine blk_drew ?_ | refine blk_alloc ?_ _)); exact BK512.out) hb); replace HB := Aside0.mk (below_step bp_ hb); clear hb ho11))
 go_loopg [5] k (fun kq v5 w' => ∃ (x5_1 : Int), v5 = .int .i64 x5_1 ∧ Aside0 (chequerlaw09_RawNew.l0 kq y513 x5_1 t508 t509 t510 t511 = some r) ∧ Aside0 (kq ≤ k) ∧ Aside0 (Kd.R k23 23 w' w.heap.size (fun k_ => k_ ≠ gb507 ∧ k_ ≠ gb512) v514 y513) ∧ Aside0 (w'.heap[gb507]? = some (.cells #[.int .i64 a0_0, .int .i64 a0_1, .int .i64 a0_2, .int .i64 a0_3] 23 (0, 0))) ∧ Aside0 (w'.heap[gb512]? = some (.cells #[.int .i64 t508, .int .i64 t509, .int .i64 t510, .int .i64 t511] 23 (0, 0))) ∧ Aside0 (Below w.heap.size w w'))
 case atStart => exact ⟨(0), (by first | rfl | (simp; done) | (simp [*]; done)), H', ⟨Nat.le_refl _⟩, ⟨by (with_reducible repeat (first | apply Kd.R_alloc | apply Kd.R_drewN | apply Kd.R_drew)); exact Kd.R_mono HO515.out (fun _ hk => ⟨hk.1.2, hk.2⟩)⟩, ⟨hp_ BK507.out⟩, ⟨hp_ BK512.out⟩, ⟨bp_⟩⟩
 case round =>
  clear H'
  try clear c2
  try clear p2
  try clear c4
  try clear c7
  try clear hcz4_0
  try clear hcz4_1
  try clear hcz4_2
  try clear hcz4_3
  try clear hcz8_0
  try clear hcz8_1
  try clear hcz8_2
  try clear hcz8_3
  try clear hcz9_0
  try clear hcz9_1
  try clear hcz9_2
  try clear hcz9_3
  try clear hfz4_0
  try clear hfz4_1
  try clear hfz4_2
  try clear hfz4_3
  try clear hfz8_0
  try clear hfz8_1
  try clear hfz8_2
  try clear hfz8_3
  try clear hfz9_0
  try clear hfz9_1
  try clear hfz9_2
  try clear hfz9_3
  obtain ⟨x5_1, rfl, HA, HK1, HO_4, BK507, BK512, HB⟩ := hrel
  cases gk with
  | zero => exact absurd HA.out (by simp [chequerlaw09_RawNew.l0])
  | succ k1 =>
   have H := HA.out
   clear HA
   simp only [chequerlaw09_RawNew.l0] at H
   by_cases c12 : x5_1 < 2
   · rw [if_pos c12] at H
     have c12b0 : decide (x5_1 < 2) = true := decide_eq_true c12
     clear c12
     by_cases c13 : 0 ≤ x5_1
     · rw [if_pos c13] at H
       have c13b0 : decide (0 ≤ x5_1) = true := decide_eq_true c13
       clear c13
       by_cases c14 : x5_1 < (y513.length : Int)
       · rw [if_pos c14] at H
         have c14b0 : decide (x5_1 < (y513.length : Int)) = true := decide_eq_true c14
         clear c14
         by_cases c15 : rawMayI ((rd_T23 y513 x5_1).f0) ((rd_T23 y513 x5_1).f1) ((rd_T23 y513 x5_1).f2) ((rd_T23 y513 x5_1).f3) = 1
         · rw [if_pos c15] at H
           have c15b0 : (rawMayI ((rd_T23 y513 x5_1).f0) ((rd_T23 y513 x5_1).f1) ((rd_T23 y513 x5_1).f2) ((rd_T23 y513 x5_1).f3) == 1) = true := beq_iff_eq.mpr c15
           have c15b1 : (rawMayI ((rd_T23 y513 x5_1).f0) ((rd_T23 y513 x5_1).f1) ((rd_T23 y513 x5_1).f2) ((rd_T23 y513 x5_1).f3) != 1) = false := bne_eq_false_iff_eq.mpr c15
           clear c15
           replace H := Option.bind_eq_some_iff.mp H
           obtain ⟨⟨t517, t518, t519, t520, t521, t522, t523, t524, t525, t527⟩, A160, H⟩ := H
           replace H : ((chequerref09_May.f ((rd_T23 y513 x5_1).f0) ((rd_T23 y513 x5_1).f1) ((rd_T23 y513 x5_1).f2) ((rd_T23 y513 x5_1).f3)).bind fun t529 => (if (true != t529) = true then (chequerlaw09_RawNew.j1 k1 y513 x5_1 true t508 t509 t510 t511 t517 t518 t519 t520 t521 t522 t523 t524 t525) else (if ((t527 == 0) != t529) = true then (chequerlaw09_RawNew.j1 k1 y513 x5_1 true t508 t509 t510 t511 t517 t518 t519 t520 t521 t522 t523 t524 t525) else (if t529 = true then (chequerlaw09_RawNew.j1 k1 y513 x5_1 false t508 t509 t510 t511 t517 t518 t519 t520 t521 t522 t523 t524 t525) else (chequerlaw09_RawNew.j1 k1 y513 x5_1 (t527 != 1) t508 t509 t510 t511 t517 t518 t519 t520 t521 t522 t523 t524 t525))))) = some r := H
           have A16 := Aside0.mk A160
           clear A160
           replace H := Option.bind_eq_some_iff.mp H
           obtain ⟨t529, A170, H⟩ := H
           replace H : (if (true != t529) = true then (chequerlaw09_RawNew.j1 k1 y513 x5_1 true t508 t509 t510 t511 t517 t518 t519 t520 t521 t522 t523 t524 t525) else (if ((t527 == 0) != t529) = true then (chequerlaw09_RawNew.j1 k1 y513 x5_1 true t508 t509 t510 t511 t517 t518 t519 t520 t521 t522 t523 t524 t525) else (if t529 = true then (chequerlaw09_RawNew.j1 k1 y513 x5_1 false t508 t509 t510 t511 t517 t518 t519 t520 t521 t522 t523 t524 t525) else (chequerlaw09_RawNew.j1 k1 y513 x5_1 (t527 != 1) t508 t509 t510 t511 t517 t518 t519 t520 t521 t522 t523 t524 t525)))) = some r := H
           have A17 := Aside0.mk A170
           clear A170
           have HC18 := Aside0.mk H
           clear H
           obtain ⟨Ao19, co19, eo19⟩ := Kd.R_slice HO_4.out
           subst eo19
           have p516 : 0 ≤ (x5_1 : Int) := of_decide_eq_true (by first | (with_reducible assumption) | assumption)
           have q516 : x5_1 < (y513.length : Int) := of_decide_eq_true (by first | (with_reducible assumption) | assumption)
           obtain ⟨ad516, e516, hx516_0, hx516_1, hx516_2, hx516_3⟩ := at_T23 (Kd.R_reads' HO_4.out).2.2 x5_1 p516 q516
           cases e516
           replace p516 := eq_true p516
           replace q516 := eq_true q516
           go_upto_region 8 with (first | ((with_reducible refine gate_callee (f := 18) rfl ?_); refine goQ_ (some 23) Try.func18 #[.agg #[.int .i64 ((rd_T23 y513 x5_1).f0), .int .i64 ((rd_T23 y513 x5_1).f1), .int .i64 ((rd_T23 y513 x5_1).f2), .int .i64 ((rd_T23 y513 x5_1).f3)]] ?_; (with_reducible refine (raw_New.calls ((rd_T23 y513 x5_1).f0) ((rd_T23 y513 x5_1).f1) ((rd_T23 y513 x5_1).f2) ((rd_T23 y513 x5_1).f3) t517 t518 t519 t520 t521 t522 t523 t524 t525 t527 w _ ?side1 A16.out).mono ?_); (case side1 => repeat (first | (with_reducible first | exact HB.out | apply below_alloc | apply pw_below_drewN | apply below_drew1 | refine below_set ?_ GE507.out | refine below_set ?_ GE512.out) | exact HB.out)); rintro e w20 ⟨g526, rfl, hi, hb, hb2⟩; refine ⟨_, rfl, ?_⟩; replace HO_4 := Aside0.mk (Kd.R_below (rp_ HO_4.out) hb2); replace HB := Aside0.mk (hb); have HI526 := Aside0.mk (hi); have NB526_507 := Aside0.mk (IsS71.ne_blk hi (blk_below (hp_ BK507.out) hb2) (by decide)); have NB507_526 := Aside0.mk (Ne.symm (IsS71.ne_blk hi (blk_below (hp_ BK507.out) hb2) (by decide))); replace BK507 := Aside0.mk (blk_below (hp_ BK507.out) hb2); have NB526_512 := Aside0.mk (IsS71.ne_blk hi (blk_below (hp_ BK512.out) hb2) (by decide)); have NB512_526 := Aside0.mk (Ne.symm (IsS71.ne_blk hi (blk_below (hp_ BK512.out) hb2) (by decide))); replace BK512 := Aside0.mk (blk_below (hp_ BK512.out) hb2); (try clear hb); (try clear hb2); (try clear hk); (try clear hi); have p528 : 0 ≤ (x5_1 : Int) := of_decide_eq_true (by first | (with_reducible assumption) | assumption); have q528 : x5_1 < (y513.length : Int) := of_decide_eq_true (by first | (with_reducible assumption) | assumption); obtain ⟨ad528, e528, hx528_0, hx528_1, hx528_2, hx528_3⟩ := at_T23 (Kd.R_reads' HO_4.out).2.2 x5_1 p528 q528; obtain rfl : ad516 = ad528 := (by injection e528); replace p528 := eq_true p528; replace q528 := eq_true q528) | ((with_reducible refine gate_callee (f := 28) rfl ?_); refine goQ_ (some 30) Try.func28 #[.agg #[.int .i64 ((rd_T23 y513 x5_1).f0), .int .i64 ((rd_T23 y513 x5_1).f1), .int .i64 ((rd_T23 y513 x5_1).f2), .int .i64 ((rd_T23 y513 x5_1).f3)]] ?_; (with_reducible refine (chequerref09_May.calls ((rd_T23 y513 x5_1).f0) ((rd_T23 y513 x5_1).f1) ((rd_T23 y513 x5_1).f2) ((rd_T23 y513 x5_1).f3) t529 _ A17.out).mono ?_); rintro e w21 ⟨rfl, hb⟩; refine ⟨_, rfl, ?_⟩; replace HO_4 := Aside0.mk (Kd.R_below (rp_ HO_4.out) hb); replace BK507 := Aside0.mk (blk_below (hp_ BK507.out) hb); replace BK512 := Aside0.mk (blk_below (hp_ BK512.out) hb); replace HB := Aside0.mk (below_step (by repeat (first | (with_reducible first | exact HB.out | apply below_alloc | apply pw_below_drewN | apply below_drew1 | refine below_set ?_ (IsS71.ge HI526.out) | refine below_set ?_ GE507.out | refine below_set ?_ GE512.out) | exact HB.out)) hb); replace HI526 := Aside0.mk (IsS71.below (by repeat (first | (with_reducible first | exact HI526.out | apply IsS71.alloc | apply IsS71.drewN | apply IsS71.drew | apply IsS71.set_0 | apply IsS71.set_1 | apply IsS71.set_2 | apply IsS71.set_3 | apply IsS71.set_4 | apply IsS71.set_5 | apply IsS71.set_6 | apply IsS71.set_7 | apply IsS71.set_8 | refine IsS71.far ?_ NB526_507.out _ | refine IsS71.far ?_ NB526_512.out _) | exact HI526.out)) hb); (try clear hb); (try clear hb2); (try clear hk); (try clear hi)))
           (try simp only [Act.put, List.setIfInBounds_toArray, List.set_cons_zero, List.set_cons_succ])
           go_cut [48] (fun v48 wc => ∃ (kq : Nat) (x48_17 : Bool), v48 = .bool x48_17 ∧ Aside0 (chequerlaw09_RawNew.j1 kq y513 x5_1 x48_17 t508 t509 t510 t511 t517 t518 t519 t520 t521 t522 t523 t524 t525 = some r) ∧ Aside0 (kq ≤ k1) ∧ Aside0 (Kd.R k23 23 wc w.heap.size (fun k_ => k_ ≠ gb507 ∧ k_ ≠ gb512) (.slice (some ad516) y513.length co19) y513) ∧ Aside0 (wc.heap[gb507]? = some (.cells #[.int .i64 a0_0, .int .i64 a0_1, .int .i64 a0_2, .int .i64 a0_3] 23 (0, 0))) ∧ Aside0 (wc.heap[gb512]? = some (.cells #[.int .i64 t508, .int .i64 t509, .int .i64 t510, .int .i64 t511] 23 (0, 0))) ∧ Aside0 (IsS71 w wc g526 t517 t518 t519 t520 t521 t522 t523 t524 t525) ∧ Aside0 (Below w.heap.size w wc))
           case first =>
            have H := HC18.out
            clear HC18
            by_cases c22 : (true != t529) = true
            · rw [if_pos c22] at H
              have c22b0 : (true != t529) = true := c22
              (try (have c22b1 : decide (true = t529) = false := by simpa using c22))
              (try (have c22b2 : (true == t529) = false := by simpa using c22))
              (try (have c22b3 : ¬ (true = t529) := by simpa using c22))
              clear c22
              (first | rw [c22b0] | (simp only [i64_w, i32_w]; rw [c22b0]) | skip)
              have H' := Aside0.mk H
              clear H
              go_wp2
              go_meet
              case rel => exact ⟨_, (true), (by first | rfl | (simp; done) | (simp [*]; done)), H', ⟨by have := HK1.out; first | omega | exact Nat.le_refl _⟩, ⟨rp_ HO_4.out⟩, ⟨hp_ BK507.out⟩, ⟨hp_ BK512.out⟩, ⟨by repeat (first | (with_reducible first | exact HI526.out | apply IsS71.alloc | apply IsS71.drewN | apply IsS71.drew | apply IsS71.set_0 | apply IsS71.set_1 | apply IsS71.set_2 | apply IsS71.set_3 | apply IsS71.set_4 | apply IsS71.set_5 | apply IsS71.set_6 | apply IsS71.set_7 | apply IsS71.set_8 | refine IsS71.far ?_ NB526_507.out _ | refine IsS71.far ?_ NB526_512.out _) | exact HI526.out)⟩, ⟨by repeat (first | (with_reducible first | exact HB.out | apply below_alloc | apply pw_below_drewN | apply below_drew1 | refine below_set ?_ (IsS71.ge HI526.out) | refine below_set ?_ GE507.out | refine below_set ?_ GE512.out) | exact HB.out)⟩⟩
            · rw [if_neg c22] at H
              have c22b0 : (true != t529) = false := by simpa using c22
              (try (have c22b1 : decide (true = t529) = true := by simpa using c22))
              (try (have c22b2 : (true == t529) = true := by simpa using c22))
              clear c22
              (first | rw [c22b0] | (simp only [i64_w, i32_w]; rw [c22b0]) | skip)
              by_cases c23 : ((t527 == 0) != t529) = true
              · rw [if_pos c23] at H
                have c23b0 : ((t527 == 0) != t529) = true := c23
                (try (have c23b1 : decide ((t527 == 0) = t529) = false := by simpa using c23))
                (try (have c23b2 : ((t527 == 0) == t529) = false := by simpa using c23))
                (try (have c23b3 : ¬ ((t527 == 0) = t529) := by simpa using c23))
                clear c23
                have H' := Aside0.mk H
                clear H
                go_wp2
                go_meet
                case rel => exact ⟨_, (true), (by first | rfl | (simp; done) | (simp [*]; done)), H', ⟨by have := HK1.out; first | omega | exact Nat.le_refl _⟩, ⟨rp_ HO_4.out⟩, ⟨hp_ BK507.out⟩, ⟨hp_ BK512.out⟩, ⟨by repeat (first | (with_reducible first | exact HI526.out | apply IsS71.alloc | apply IsS71.drewN | apply IsS71.drew | apply IsS71.set_0 | apply IsS71.set_1 | apply IsS71.set_2 | apply IsS71.set_3 | apply IsS71.set_4 | apply IsS71.set_5 | apply IsS71.set_6 | apply IsS71.set_7 | apply IsS71.set_8 | refine IsS71.far ?_ NB526_507.out _ | refine IsS71.far ?_ NB526_512.out _) | exact HI526.out)⟩, ⟨by repeat (first | (with_reducible first | exact HB.out | apply below_alloc | apply pw_below_drewN | apply below_drew1 | refine below_set ?_ (IsS71.ge HI526.out) | refine below_set ?_ GE507.out | refine below_set ?_ GE512.out) | exact HB.out)⟩⟩
              · rw [if_neg c23] at H
                have c23b0 : ((t527 == 0) != t529) = false := by simpa using c23
                (try (have c23b1 : decide ((t527 == 0) = t529) = true := by simpa using c23))
                (try (have c23b2 : ((t527 == 0) == t529) = true := by simpa using c23))
                clear c23
                by_cases c24 : t529 = true
                · subst c24
                  have H1 : (chequerlaw09_RawNew.j1 k1 y513 x5_1 false t508 t509 t510 t511 t517 t518 t519 t520 t521 t522 t523 t524 t525) = some r := by rw [if_pos rfl] at H; exact H
                  clear H
                  have H := H1
                  clear H1
                  have H' := Aside0.mk H
                  clear H
                  go_wp2
                  go_meet
                  case rel => exact ⟨_, (false), (by first | rfl | (simp; done) | (simp [*]; done)), H', ⟨by have := HK1.out; first | omega | exact Nat.le_refl _⟩, ⟨rp_ HO_4.out⟩, ⟨hp_ BK507.out⟩, ⟨hp_ BK512.out⟩, ⟨by repeat (first | (with_reducible first | exact HI526.out | apply IsS71.alloc | apply IsS71.drewN | apply IsS71.drew | apply IsS71.set_0 | apply IsS71.set_1 | apply IsS71.set_2 | apply IsS71.set_3 | apply IsS71.set_4 | apply IsS71.set_5 | apply IsS71.set_6 | apply IsS71.set_7 | apply IsS71.set_8 | refine IsS71.far ?_ NB526_507.out _ | refine IsS71.far ?_ NB526_512.out _) | exact HI526.out)⟩, ⟨by repeat (first | (with_reducible first | exact HB.out | apply below_alloc | apply pw_below_drewN | apply below_drew1 | refine below_set ?_ (IsS71.ge HI526.out) | refine below_set ?_ GE507.out | refine below_set ?_ GE512.out) | exact HB.out)⟩⟩
                · replace c24 := Bool.eq_false_iff.mpr c24
                  subst c24
                  have H1 : (chequerlaw09_RawNew.j1 k1 y513 x5_1 (t527 != 1) t508 t509 t510 t511 t517 t518 t519 t520 t521 t522 t523 t524 t525) = some r := by rw [if_neg (show ¬ (false = true) by decide)] at H; exact H
                  clear H
                  have H := H1
                  clear H1
                  have H' := Aside0.mk H
                  clear H
                  go_wp2
                  go_meet
                  case rel => exact ⟨_, ((t527 != 1)), (by first | rfl | (simp; done) | (simp [*]; done)), H', ⟨by have := HK1.out; first | omega | exact Nat.le_refl _⟩, ⟨rp_ HO_4.out⟩, ⟨hp_ BK507.out⟩, ⟨hp_ BK512.out⟩, ⟨by repeat (first | (with_reducible first | exact HI526.out | apply IsS71.alloc | apply IsS71.drewN | apply IsS71.drew | apply IsS71.set_0 | apply IsS71.set_1 | apply IsS71.set_2 | apply IsS71.set_3 | apply IsS71.set_4 | apply IsS71.set_5 | apply IsS71.set_6 | apply IsS71.set_7 | apply IsS71.set_8 | refine IsS71.far ?_ NB526_507.out _ | refine IsS71.far ?_ NB526_512.out _) | exact HI526.out)⟩, ⟨by repeat (first | (with_reducible first | exact HB.out | apply below_alloc | apply pw_below_drewN | apply below_drew1 | refine below_set ?_ (IsS71.ge HI526.out) | refine below_set ?_ GE507.out | refine below_set ?_ GE512.out) | exact HB.out)⟩⟩
           case rest =>
            clear HC18
            try clear c1
            try clear c2
            try clear p2
            try clear c4
            try clear p5
            try clear q5
            try clear hx5
            try clear c7
            try clear c12
            try clear c12b0
            try clear c13
            try clear c13b0
            try clear c14
            try clear c14b0
            try clear c15
            try clear c15b0
            try clear c15b1
            try clear c18
            try clear c22
            try clear c22b0
            try clear c22b1
            try clear c22b2
            try clear c23
            try clear c23b0
            try clear c23b1
            try clear c23b2
            try clear c24
            try clear hcz4_0
            try clear hcz4_1
            try clear hcz4_2
            try clear hcz4_3
            try clear hcz8_0
            try clear hcz8_1
            try clear hcz8_2
            try clear hcz8_3
            try clear hcz9_0
            try clear hcz9_1
            try clear hcz9_2
            try clear hcz9_3
            try clear hfz4_0
            try clear hfz4_1
            try clear hfz4_2
            try clear hfz4_3
            try clear hfz8_0
            try clear hfz8_1
            try clear hfz8_2
            try clear hfz8_3
            try clear hfz9_0
            try clear hfz9_1
            try clear hfz9_2
            try clear hfz9_3
            try clear hx516_0
            try clear hx516_1
            try clear hx516_2
            try clear hx516_3
            try clear hx528_0
            try clear hx528_1
            try clear hx528_2
            try clear hx528_3
            try clear p2
            try clear p516
            try clear p528
            try clear q516
            try clear q528
            obtain ⟨kq, x48_17, rfl, HA, HJ17, HO_4, BK507, BK512, HI526, HB⟩ := hcut
            cases kq with
            | zero => exact absurd HA.out (by simp [chequerlaw09_RawNew.j1])
            | succ kj17 =>
             have H := HA.out
             clear HA
             simp only [chequerlaw09_RawNew.j1] at H
             by_cases c25 : x48_17 = true
             · subst c25
               have H1 : (some false) = some r := by rw [if_pos rfl] at H; exact H
               clear H
               have H := H1
               clear H1
               obtain rfl := Option.some.inj H
               go_wp2
               go_ret
               exact ⟨by first | rfl | (simp [errW_none, errW_some] <;> rfl) | (simp [*, errW_none, errW_some] <;> rfl), by repeat (first | (with_reducible first | exact HB.out | apply below_alloc | apply pw_below_drewN | apply below_drew1 | refine below_set ?_ (IsS71.ge HI526.out) | refine below_set ?_ GE507.out | refine below_set ?_ GE512.out) | exact HB.out)⟩
             · replace c25 := Bool.eq_false_iff.mpr c25
               subst c25
               have H1 : ((raw_Reader_Left.f t517 t518 t519 t520 t521 t522 t523 t524 t525).bind fun bt530 => (if 0 ≤ x5_1 then (if x5_1 < (y513.length : Int) then ((chequerref06_Size.f ((rd_T23 y513 x5_1).f0) ((rd_T23 y513 x5_1).f1) ((rd_T23 y513 x5_1).f2) ((rd_T23 y513 x5_1).f3)).bind fun t541 => (if bt530.1 = t541 then ((raw_Reader_Rows.f bt530.2.1 bt530.2.2.1 bt530.2.2.2.1 bt530.2.2.2.2.1 bt530.2.2.2.2.2.1 bt530.2.2.2.2.2.2.1 bt530.2.2.2.2.2.2.2.1 bt530.2.2.2.2.2.2.2.2.1 bt530.2.2.2.2.2.2.2.2.2).bind fun bt542 => (if bt542.1 = 0 then ((raw_Reader_Error.f bt542.2.1 bt542.2.2.1 bt542.2.2.2.1 bt542.2.2.2.2.1 bt542.2.2.2.2.2.1 bt542.2.2.2.2.2.2.1 bt542.2.2.2.2.2.2.2.1 bt542.2.2.2.2.2.2.2.2.1 bt542.2.2.2.2.2.2.2.2.2).bind fun bt552 => (if bt552.1 = 0 then (chequerlaw09_RawNew.l0 kj17 y513 (wrap64 (x5_1 + 1)) t508 t509 t510 t511) else (some false))) else (some false))) else (some false))) else (none)) else (none))) = some r := by rw [if_neg (show ¬ (false = true) by decide)] at H; exact H
               clear H
               have H := H1
               clear H1
               replace H := Option.bind_eq_some_iff.mp H
               obtain ⟨⟨t530, t531, t532, t533, t534, t535, t536, t537, t538, t539⟩, A260, H⟩ := H
               replace H : (if 0 ≤ x5_1 then (if x5_1 < (y513.length : Int) then ((chequerref06_Size.f ((rd_T23 y513 x5_1).f0) ((rd_T23 y513 x5_1).f1) ((rd_T23 y513 x5_1).f2) ((rd_T23 y513 x5_1).f3)).bind fun t541 => (if t530 = t541 then ((raw_Reader_Rows.f t531 t532 t533 t534 t535 t536 t537 t538 t539).bind fun bt542 => (if bt542.1 = 0 then ((raw_Reader_Error.f bt542.2.1 bt542.2.2.1 bt542.2.2.2.1 bt542.2.2.2.2.1 bt542.2.2.2.2.2.1 bt542.2.2.2.2.2.2.1 bt542.2.2.2.2.2.2.2.1 bt542.2.2.2.2.2.2.2.2.1 bt542.2.2.2.2.2.2.2.2.2).bind fun bt552 => (if bt552.1 = 0 then (chequerlaw09_RawNew.l0 kj17 y513 (wrap64 (x5_1 + 1)) t508 t509 t510 t511) else (some false))) else (some false))) else (some false))) else (none)) else (none)) = some r := H
               have A26 := Aside0.mk A260
               clear A260
               by_cases c27 : 0 ≤ x5_1
               · rw [if_pos c27] at H
                 have c27b0 : decide (0 ≤ x5_1) = true := decide_eq_true c27
                 clear c27
                 by_cases c28 : x5_1 < (y513.length : Int)
                 · rw [if_pos c28] at H
                   have c28b0 : decide (x5_1 < (y513.length : Int)) = true := decide_eq_true c28
                   clear c28
                   replace H := Option.bind_eq_some_iff.mp H
                   obtain ⟨t541, A290, H⟩ := H
                   replace H : (if t530 = t541 then ((raw_Reader_Rows.f t531 t532 t533 t534 t535 t536 t537 t538 t539).bind fun bt542 => (if bt542.1 = 0 then ((raw_Reader_Error.f bt542.2.1 bt542.2.2.1 bt542.2.2.2.1 bt542.2.2.2.2.1 bt542.2.2.2.2.2.1 bt542.2.2.2.2.2.2.1 bt542.2.2.2.2.2.2.2.1 bt542.2.2.2.2.2.2.2.2.1 bt542.2.2.2.2.2.2.2.2.2).bind fun bt552 => (if bt552.1 = 0 then (chequerlaw09_RawNew.l0 kj17 y513 (wrap64 (x5_1 + 1)) t508 t509 t510 t511) else (some false))) else (some false))) else (some false)) = some r := H
                   have A29 := Aside0.mk A290
                   clear A290
                   by_cases c30 : t530 = t541
                   · rw [if_pos c30] at H
                     have c30b0 : (t530 == t541) = true := beq_iff_eq.mpr c30
                     have c30b1 : (t530 != t541) = false := bne_eq_false_iff_eq.mpr c30
                     clear c30
                     replace H := Option.bind_eq_some_iff.mp H
                     obtain ⟨⟨t542, t543, t544, t545, t546, t547, t548, t549, t550, t551⟩, A310, H⟩ := H
                     replace H : (if t542 = 0 then ((raw_Reader_Error.f t543 t544 t545 t546 t547 t548 t549 t550 t551).bind fun bt552 => (if bt552.1 = 0 then (chequerlaw09_RawNew.l0 kj17 y513 (wrap64 (x5_1 + 1)) t508 t509 t510 t511) else (some false))) else (some false)) = some r := H
                     have A31 := Aside0.mk A310
                     clear A310
                     by_cases c32 : t542 = 0
                     · rw [if_pos c32] at H
                       have c32b0 : (t542 == 0) = true := beq_iff_eq.mpr c32
                       have c32b1 : (t542 != 0) = false := bne_eq_false_iff_eq.mpr c32
                       clear c32
                       replace H := Option.bind_eq_some_iff.mp H
                       obtain ⟨⟨t552, t553, t554, t555, t556, t557, t558, t559, t560, t561⟩, A330, H⟩ := H
                       replace H : (if t552 = 0 then (chequerlaw09_RawNew.l0 kj17 y513 (wrap64 (x5_1 + 1)) t508 t509 t510 t511) else (some false)) = some r := H
                       have A33 := Aside0.mk A330
                       clear A330
                       by_cases c34 : t552 = 0
                       · rw [if_pos c34] at H
                         have c34b0 : (t552 == 0) = true := beq_iff_eq.mpr c34
                         have c34b1 : (t552 != 0) = false := bne_eq_false_iff_eq.mpr c34
                         clear c34
                         have H' := Aside0.mk H
                         clear H
                         try go_wp2
                         (try (rw [drewN_self wc]; generalize hq_ : World.drewN wc _ = wc; have n0_ := Aside0.mk (qrp_ hq_ HO_4.out); have n1_ := Aside0.mk (qhp_ hq_ BK507.out); have n2_ := Aside0.mk (qhp_ hq_ BK512.out); have n3_ : Aside0 (IsS71 w wc g526 t517 t518 t519 t520 t521 t522 t523 t524 t525) := ⟨by rw [← hq_]; exact (by repeat (first | (with_reducible first | exact HI526.out | apply IsS71.alloc | apply IsS71.drewN | apply IsS71.drew | apply IsS71.set_0 | apply IsS71.set_1 | apply IsS71.set_2 | apply IsS71.set_3 | apply IsS71.set_4 | apply IsS71.set_5 | apply IsS71.set_6 | apply IsS71.set_7 | apply IsS71.set_8 | refine IsS71.far ?_ NB526_507.out _ | refine IsS71.far ?_ NB526_512.out _) | exact HI526.out))⟩; have n4_ : Aside0 (Below w.heap.size w wc) := ⟨by rw [← hq_]; exact (by repeat (first | (with_reducible first | exact HB.out | apply below_alloc | apply pw_below_drewN | apply below_drew1 | refine below_set ?_ (IsS71.ge HI526.out) | refine below_set ?_ GE507.out | refine below_set ?_ GE512.out) | exact HB.out))⟩; clear HO_4 BK507 BK512 HI526 HB hq_; have HO_4 := n0_; have BK507 := n1_; have BK512 := n2_; have HI526 := n3_; have HB := n4_; clear n0_ n1_ n2_ n3_ n4_))
                         replace HO_4 := Aside0.mk (Kd.R_drew HO_4.out)
                         replace BK507 := Aside0.mk (blk_drew BK507.out)
                         replace BK512 := Aside0.mk (blk_drew BK512.out)
                         replace HI526 := Aside0.mk (IsS71.drew HI526.out)
                         replace HB := Aside0.mk (below_drew1 HB.out)
                         have p540 : 0 ≤ (x5_1 : Int) := of_decide_eq_true (by first | (with_reducible assumption) | assumption)
                         have q540 : x5_1 < (y513.length : Int) := of_decide_eq_true (by first | (with_reducible assumption) | assumption)
                         obtain ⟨ad540, e540, hx540_0, hx540_1, hx540_2, hx540_3⟩ := at_T23 (Kd.R_reads' HO_4.out).2.2 x5_1 p540 q540
                         obtain rfl : ad516 = ad540 := (by injection e540)
                         replace p540 := eq_true p540
                         replace q540 := eq_true q540
                         refine start_ (n := 22) (S := fun w' => w'.cell? (ad516.add ((x5_1).toNat * 4)) = some (.int .i64 ((rd_T23 y513 x5_1).f0)) ∧ w'.cell? ⟨(ad516.add ((x5_1).toNat * 4)).block, (ad516.add ((x5_1).toNat * 4)).off + 1, none⟩ = some (.int .i64 ((rd_T23 y513 x5_1).f1)) ∧ w'.cell? ⟨(ad516.add ((x5_1).toNat * 4)).block, (ad516.add ((x5_1).toNat * 4)).off + 2, none⟩ = some (.int .i64 ((rd_T23 y513 x5_1).f2)) ∧ w'.cell? ⟨(ad516.add ((x5_1).toNat * 4)).block, (ad516.add ((x5_1).toNat * 4)).off + 3, none⟩ = some (.int .i64 ((rd_T23 y513 x5_1).f3))) (ds := []) Fl118 (by kernel_rfl) rfl rfl ⟨hx540_0, hx540_1, hx540_2, hx540_3⟩ (fun hHeld => ?_); refine with_tabW chequerlaw09_RawNew.tab10 chequerlaw09_RawNew.bits10 (fun HT_ HW_ => ?_)
                         generalize wc.drew = w35 at HO_4 BK507 BK512 HI526 HB hx540_0 hx540_1 hx540_2 hx540_3 hHeld ⊢
                         refine pur_ (i := 0) (N := some 49) Fl119 (any_of HT_.out (by kernel_rfl)) ?_
                         refine pur_ (i := 1) (N := some 50) Fl120 (any_of HT_.out (by kernel_rfl)) ?_
                         refine pur_ (i := 2) (N := some 51) Fl121 (any_of HT_.out (by kernel_rfl)) ?_
                         refine pur_ (i := 3) (N := some 52) Fl122 (any_of HT_.out (by kernel_rfl)) ?_
                         refine pur_ (i := 5) (N := some 54) Fl137 (any_of HT_.out (by kernel_rfl)) ?_
                         refine pur_ (i := 6) (N := some 55) Fl138 (any_of HT_.out (by kernel_rfl)) ?_
                         refine pur_ (i := 7) (N := some 56) Fl139 (any_of HT_.out (by kernel_rfl)) ?_
                         refine take_ (i := 8) (N := some 57) (v := ?_) (a' := ?_) Fl140 rfl rfl (take_ofW HT_.out HW_.out (by kernel_rfl)) (fun _ _ _ h => h) (Or.inl ⟨by rfl, ?_⟩) hHeld ?_ ?_
                         rotate_left
                         · rintro w' ⟨s0, s1, s2, s3⟩
                           go_simp
                           with_reducible rfl
                         rotate_left
                         · simp only [Act.put, List.setIfInBounds_toArray, List.set_cons_zero, List.set_cons_succ, i64_w, i32_w]
                           rfl
                         refine one_ (i := 4) (N := some 53) Fl123 rfl rfl (one_of HT_.out (by kernel_rfl)) (by decide) (fun K hK => ?_)
                         refine goes_ Try.func20 (by kernel_rfl) rfl #[.pointer (some ⟨g526, 0, none⟩)] (by rfl) rfl rfl (by (try simp only [List.map_toArray, List.map_cons, List.map_nil]); first | done | rfl | (simp only [List.length_drop, List.length_take]; rfl)) ?_
                         with_reducible refine (raw_Reader_Left.calls g526 t517 t518 t519 t520 t521 t522 t523 t524 t525 t530 t531 t532 t533 t534 t535 t536 t537 t538 t539 w _ ?side1 ?side2 A26.out).mono ?_
                         (case side1 => repeat (first | (with_reducible first | exact HI526.out | apply IsS71.alloc | apply IsS71.drewN | apply IsS71.drew | apply IsS71.set_0 | apply IsS71.set_1 | apply IsS71.set_2 | apply IsS71.set_3 | apply IsS71.set_4 | apply IsS71.set_5 | apply IsS71.set_6 | apply IsS71.set_7 | apply IsS71.set_8 | refine IsS71.far ?_ NB526_507.out _ | refine IsS71.far ?_ NB526_512.out _) | exact HI526.out))
                         (case side2 => repeat (first | (with_reducible first | exact HB.out | apply below_alloc | apply pw_below_drewN | apply below_drew1 | refine below_set ?_ (IsS71.ge HI526.out) | refine below_set ?_ GE507.out | refine below_set ?_ GE512.out) | exact HB.out))
                         rintro e w36 ⟨rfl, hi, hb, hk⟩
                         have HS0_ := keep_cell_r hk (hHeld.1) (by first | (rw [add_block]; exact Kd.own_blk (IsS71.own_ne HI526.out HO_4.out (by decide))) | (show (Addr.add _ _).block ≠ _; rw [add_block]; exact Kd.own_blk (IsS71.own_ne HI526.out HO_4.out (by decide))) | exact Kd.own_blk (IsS71.own_ne HI526.out HO_4.out (by decide))) (by first | (rw [add_block]; exact Kd.own_blk (raw_row_ne HI526.out HO_4.out (by decide))) | (show (Addr.add _ _).block ≠ _; rw [add_block]; exact Kd.own_blk (raw_row_ne HI526.out HO_4.out (by decide))) | exact Kd.own_blk (raw_row_ne HI526.out HO_4.out (by decide)))
                         have HS1_ := keep_cell_r hk (hHeld.2.1) (by first | (rw [add_block]; exact Kd.own_blk (IsS71.own_ne HI526.out HO_4.out (by decide))) | (show (Addr.add _ _).block ≠ _; rw [add_block]; exact Kd.own_blk (IsS71.own_ne HI526.out HO_4.out (by decide))) | exact Kd.own_blk (IsS71.own_ne HI526.out HO_4.out (by decide))) (by first | (rw [add_block]; exact Kd.own_blk (raw_row_ne HI526.out HO_4.out (by decide))) | (show (Addr.add _ _).block ≠ _; rw [add_block]; exact Kd.own_blk (raw_row_ne HI526.out HO_4.out (by decide))) | exact Kd.own_blk (raw_row_ne HI526.out HO_4.out (by decide)))
                         have HS2_ := keep_cell_r hk (hHeld.2.2.1) (by first | (rw [add_block]; exact Kd.own_blk (IsS71.own_ne HI526.out HO_4.out (by decide))) | (show (Addr.add _ _).block ≠ _; rw [add_block]; exact Kd.own_blk (IsS71.own_ne HI526.out HO_4.out (by decide))) | exact Kd.own_blk (IsS71.own_ne HI526.out HO_4.out (by decide))) (by first | (rw [add_block]; exact Kd.own_blk (raw_row_ne HI526.out HO_4.out (by decide))) | (show (Addr.add _ _).block ≠ _; rw [add_block]; exact Kd.own_blk (raw_row_ne HI526.out HO_4.out (by decide))) | exact Kd.own_blk (raw_row_ne HI526.out HO_4.out (by decide)))
                         have HS3_ := keep_cell_r hk (hHeld.2.2.2) (by first | (rw [add_block]; exact Kd.own_blk (IsS71.own_ne HI526.out HO_4.out (by decide))) | (show (Addr.add _ _).block ≠ _; rw [add_block]; exact Kd.own_blk (IsS71.own_ne HI526.out HO_4.out (by decide))) | exact Kd.own_blk (IsS71.own_ne HI526.out HO_4.out (by decide))) (by first | (rw [add_block]; exact Kd.own_blk (raw_row_ne HI526.out HO_4.out (by decide))) | (show (Addr.add _ _).block ≠ _; rw [add_block]; exact Kd.own_blk (raw_row_ne HI526.out HO_4.out (by decide))) | exact Kd.own_blk (raw_row_ne HI526.out HO_4.out (by decide)))
                         refine ⟨_, rfl, ?_⟩
                         replace HO_4 := Aside0.mk (raw_row_keep (show IsS71 w _ g526 t517 t518 t519 t520 t521 t522 t523 t524 t525 from by repeat (first | (with_reducible first | exact HI526.out | apply IsS71.alloc | apply IsS71.drewN | apply IsS71.drew | apply IsS71.set_0 | apply IsS71.set_1 | apply IsS71.set_2 | apply IsS71.set_3 | apply IsS71.set_4 | apply IsS71.set_5 | apply IsS71.set_6 | apply IsS71.set_7 | apply IsS71.set_8 | refine IsS71.far ?_ NB526_507.out _ | refine IsS71.far ?_ NB526_512.out _) | exact HI526.out)) (rp_ HO_4.out) hk (by decide))
                         replace BK507 := Aside0.mk (KeepBut.blk hk (g' := gb507) (o := .cells #[.int .i64 a0_0, .int .i64 a0_1, .int .i64 a0_2, .int .i64 a0_3] 23 (0, 0)) (hp_ BK507.out) NB507_526.out (raw_hr HI526.out BK507.out (by decide)))
                         replace BK512 := Aside0.mk (KeepBut.blk hk (g' := gb512) (o := .cells #[.int .i64 t508, .int .i64 t509, .int .i64 t510, .int .i64 t511] 23 (0, 0)) (hp_ BK512.out) NB512_526.out (raw_hr HI526.out BK512.out (by decide)))
                         replace HB := Aside0.mk (hb)
                         replace HI526 := Aside0.mk (hi)
                         (try clear hb)
                         (try clear hb2)
                         (try clear hk)
                         (try clear hi)
                         refine hK.out _ _ ⟨HS0_, HS1_, HS2_, HS3_⟩ (fun hHeld => ?_)
                         clear hK K
                         refine norm_ (a' := ?_) ?_ ?_
                         rotate_left
                         · show Act.put _ (some 53) _ = _
                           simp only [Act.put, List.setIfInBounds_toArray, List.set_cons_zero, List.set_cons_succ, i64_w, i32_w]
                           rfl
                         refine one_ (i := 9) (N := some 58) Fl124 rfl rfl (one_of HT_.out (by kernel_rfl)) (by decide) (fun K hK => ?_)
                         refine goes_ Try.func12 (by kernel_rfl) rfl #[.agg #[.int .i64 ((rd_T23 y513 x5_1).f0), .int .i64 ((rd_T23 y513 x5_1).f1), .int .i64 ((rd_T23 y513 x5_1).f2), .int .i64 ((rd_T23 y513 x5_1).f3)]] (by rfl) rfl rfl (by (try simp only [List.map_toArray, List.map_cons, List.map_nil]); first | done | rfl | (simp only [List.length_drop, List.length_take]; rfl)) ?_
                         with_reducible refine (chequerref06_Size.calls ((rd_T23 y513 x5_1).f0) ((rd_T23 y513 x5_1).f1) ((rd_T23 y513 x5_1).f2) ((rd_T23 y513 x5_1).f3) t541 _ A29.out).mono ?_
                         rintro e w37 ⟨rfl, hb⟩
                         have HS0_ := (hb.cell (World.block_lt_of_cell? _ _ (hHeld.1))).trans (hHeld.1)
                         have HS1_ := (hb.cell (World.block_lt_of_cell? _ _ (hHeld.2.1))).trans (hHeld.2.1)
                         have HS2_ := (hb.cell (World.block_lt_of_cell? _ _ (hHeld.2.2.1))).trans (hHeld.2.2.1)
                         have HS3_ := (hb.cell (World.block_lt_of_cell? _ _ (hHeld.2.2.2))).trans (hHeld.2.2.2)
                         refine ⟨_, rfl, ?_⟩
                         replace HO_4 := Aside0.mk (Kd.R_below (rp_ HO_4.out) hb)
                         replace BK507 := Aside0.mk (blk_below (hp_ BK507.out) hb)
                         replace BK512 := Aside0.mk (blk_below (hp_ BK512.out) hb)
                         replace HB := Aside0.mk (below_step (by repeat (first | (with_reducible first | exact HB.out | apply below_alloc | apply pw_below_drewN | apply below_drew1 | refine below_set ?_ (IsS71.ge HI526.out) | refine below_set ?_ GE507.out | refine below_set ?_ GE512.out) | exact HB.out)) hb)
                         replace HI526 := Aside0.mk (IsS71.below (by repeat (first | (with_reducible first | exact HI526.out | apply IsS71.alloc | apply IsS71.drewN | apply IsS71.drew | apply IsS71.set_0 | apply IsS71.set_1 | apply IsS71.set_2 | apply IsS71.set_3 | apply IsS71.set_4 | apply IsS71.set_5 | apply IsS71.set_6 | apply IsS71.set_7 | apply IsS71.set_8 | refine IsS71.far ?_ NB526_507.out _ | refine IsS71.far ?_ NB526_512.out _) | exact HI526.out)) hb)
                         (try clear hb)
                         (try clear hb2)
                         (try clear hk)
                         (try clear hi)
                         refine hK.out _ _ ⟨HS0_, HS1_, HS2_, HS3_⟩ (fun hHeld => ?_)
                         clear hK K
                         refine norm_ (a' := ?_) ?_ ?_
                         rotate_left
                         · show Act.put _ (some 58) _ = _
                           simp only [Act.put, List.setIfInBounds_toArray, List.set_cons_zero, List.set_cons_succ, i64_w, i32_w]
                           rfl
                         refine pur_ (i := 10) (N := some 59) Fl125 (any_of HT_.out (by kernel_rfl)) ?_
                         refine pur_ (i := 11) (N := some 60) Fl126 (any_of HT_.out (by kernel_rfl)) ?_
                         refine pur_ (i := 12) (N := some 61) Fl127 (any_of HT_.out (by kernel_rfl)) ?_
                         refine one_ (i := 13) (N := some 62) Fl128 rfl rfl (one_of HT_.out (by kernel_rfl)) (by decide) (fun K hK => ?_)
                         refine goes_ Try.func21 (by kernel_rfl) rfl #[.pointer (some ⟨g526, 0, none⟩)] (by rfl) rfl rfl (by (try simp only [List.map_toArray, List.map_cons, List.map_nil]); first | done | rfl | (simp only [List.length_drop, List.length_take]; rfl)) ?_
                         with_reducible refine (raw_Reader_Rows.calls g526 t531 t532 t533 t534 t535 t536 t537 t538 t539 t542 t543 t544 t545 t546 t547 t548 t549 t550 t551 w _ ?side1 ?side2 A31.out).mono ?_
                         (case side1 => repeat (first | (with_reducible first | exact HI526.out | apply IsS71.alloc | apply IsS71.drewN | apply IsS71.drew | apply IsS71.set_0 | apply IsS71.set_1 | apply IsS71.set_2 | apply IsS71.set_3 | apply IsS71.set_4 | apply IsS71.set_5 | apply IsS71.set_6 | apply IsS71.set_7 | apply IsS71.set_8 | refine IsS71.far ?_ NB526_507.out _ | refine IsS71.far ?_ NB526_512.out _) | exact HI526.out))
                         (case side2 => repeat (first | (with_reducible first | exact HB.out | apply below_alloc | apply pw_below_drewN | apply below_drew1 | refine below_set ?_ (IsS71.ge HI526.out) | refine below_set ?_ GE507.out | refine below_set ?_ GE512.out) | exact HB.out))
                         rintro e w38 ⟨rfl, hi, hb, hk⟩
                         have HS0_ := keep_cell_r hk (hHeld.1) (by first | (rw [add_block]; exact Kd.own_blk (IsS71.own_ne HI526.out HO_4.out (by decide))) | (show (Addr.add _ _).block ≠ _; rw [add_block]; exact Kd.own_blk (IsS71.own_ne HI526.out HO_4.out (by decide))) | exact Kd.own_blk (IsS71.own_ne HI526.out HO_4.out (by decide))) (by first | (rw [add_block]; exact Kd.own_blk (raw_row_ne HI526.out HO_4.out (by decide))) | (show (Addr.add _ _).block ≠ _; rw [add_block]; exact Kd.own_blk (raw_row_ne HI526.out HO_4.out (by decide))) | exact Kd.own_blk (raw_row_ne HI526.out HO_4.out (by decide)))
                         have HS1_ := keep_cell_r hk (hHeld.2.1) (by first | (rw [add_block]; exact Kd.own_blk (IsS71.own_ne HI526.out HO_4.out (by decide))) | (show (Addr.add _ _).block ≠ _; rw [add_block]; exact Kd.own_blk (IsS71.own_ne HI526.out HO_4.out (by decide))) | exact Kd.own_blk (IsS71.own_ne HI526.out HO_4.out (by decide))) (by first | (rw [add_block]; exact Kd.own_blk (raw_row_ne HI526.out HO_4.out (by decide))) | (show (Addr.add _ _).block ≠ _; rw [add_block]; exact Kd.own_blk (raw_row_ne HI526.out HO_4.out (by decide))) | exact Kd.own_blk (raw_row_ne HI526.out HO_4.out (by decide)))
                         have HS2_ := keep_cell_r hk (hHeld.2.2.1) (by first | (rw [add_block]; exact Kd.own_blk (IsS71.own_ne HI526.out HO_4.out (by decide))) | (show (Addr.add _ _).block ≠ _; rw [add_block]; exact Kd.own_blk (IsS71.own_ne HI526.out HO_4.out (by decide))) | exact Kd.own_blk (IsS71.own_ne HI526.out HO_4.out (by decide))) (by first | (rw [add_block]; exact Kd.own_blk (raw_row_ne HI526.out HO_4.out (by decide))) | (show (Addr.add _ _).block ≠ _; rw [add_block]; exact Kd.own_blk (raw_row_ne HI526.out HO_4.out (by decide))) | exact Kd.own_blk (raw_row_ne HI526.out HO_4.out (by decide)))
                         have HS3_ := keep_cell_r hk (hHeld.2.2.2) (by first | (rw [add_block]; exact Kd.own_blk (IsS71.own_ne HI526.out HO_4.out (by decide))) | (show (Addr.add _ _).block ≠ _; rw [add_block]; exact Kd.own_blk (IsS71.own_ne HI526.out HO_4.out (by decide))) | exact Kd.own_blk (IsS71.own_ne HI526.out HO_4.out (by decide))) (by first | (rw [add_block]; exact Kd.own_blk (raw_row_ne HI526.out HO_4.out (by decide))) | (show (Addr.add _ _).block ≠ _; rw [add_block]; exact Kd.own_blk (raw_row_ne HI526.out HO_4.out (by decide))) | exact Kd.own_blk (raw_row_ne HI526.out HO_4.out (by decide)))
                         refine ⟨_, rfl, ?_⟩
                         replace HO_4 := Aside0.mk (raw_row_keep (show IsS71 w _ g526 t531 t532 t533 t534 t535 t536 t537 t538 t539 from by repeat (first | (with_reducible first | exact HI526.out | apply IsS71.alloc | apply IsS71.drewN | apply IsS71.drew | apply IsS71.set_0 | apply IsS71.set_1 | apply IsS71.set_2 | apply IsS71.set_3 | apply IsS71.set_4 | apply IsS71.set_5 | apply IsS71.set_6 | apply IsS71.set_7 | apply IsS71.set_8 | refine IsS71.far ?_ NB526_507.out _ | refine IsS71.far ?_ NB526_512.out _) | exact HI526.out)) (rp_ HO_4.out) hk (by decide))
                         replace BK507 := Aside0.mk (KeepBut.blk hk (g' := gb507) (o := .cells #[.int .i64 a0_0, .int .i64 a0_1, .int .i64 a0_2, .int .i64 a0_3] 23 (0, 0)) (hp_ BK507.out) NB507_526.out (raw_hr HI526.out BK507.out (by decide)))
                         replace BK512 := Aside0.mk (KeepBut.blk hk (g' := gb512) (o := .cells #[.int .i64 t508, .int .i64 t509, .int .i64 t510, .int .i64 t511] 23 (0, 0)) (hp_ BK512.out) NB512_526.out (raw_hr HI526.out BK512.out (by decide)))
                         replace HB := Aside0.mk (hb)
                         replace HI526 := Aside0.mk (hi)
                         (try clear hb)
                         (try clear hb2)
                         (try clear hk)
                         (try clear hi)
                         refine hK.out _ _ ⟨HS0_, HS1_, HS2_, HS3_⟩ (fun hHeld => ?_)
                         clear hK K
                         refine norm_ (a' := ?_) ?_ ?_
                         rotate_left
                         · show Act.put _ (some 62) _ = _
                           simp only [Act.put, List.setIfInBounds_toArray, List.set_cons_zero, List.set_cons_succ, i64_w, i32_w]
                           rfl
                         refine pur_ (i := 14) (N := some 63) Fl129 (any_of HT_.out (by kernel_rfl)) ?_
                         refine pur_ (i := 15) (N := some 64) Fl130 (any_of HT_.out (by kernel_rfl)) ?_
                         refine pur_ (i := 16) (N := some 65) Fl131 (any_of HT_.out (by kernel_rfl)) ?_
                         refine pur_ (i := 17) (N := some 66) Fl132 (any_of HT_.out (by kernel_rfl)) ?_
                         refine one_ (i := 18) (N := some 67) Fl133 rfl rfl (one_of HT_.out (by kernel_rfl)) (by decide) (fun K hK => ?_)
                         refine goes_ Try.func25 (by kernel_rfl) rfl #[.pointer (some ⟨g526, 0, none⟩)] (by rfl) rfl rfl (by (try simp only [List.map_toArray, List.map_cons, List.map_nil]); first | done | rfl | (simp only [List.length_drop, List.length_take]; rfl)) ?_
                         with_reducible refine (raw_Reader_Error.calls g526 t543 t544 t545 t546 t547 t548 t549 t550 t551 t552 t553 t554 t555 t556 t557 t558 t559 t560 t561 w _ ?side1 ?side2 A33.out).mono ?_
                         (case side1 => repeat (first | (with_reducible first | exact HI526.out | apply IsS71.alloc | apply IsS71.drewN | apply IsS71.drew | apply IsS71.set_0 | apply IsS71.set_1 | apply IsS71.set_2 | apply IsS71.set_3 | apply IsS71.set_4 | apply IsS71.set_5 | apply IsS71.set_6 | apply IsS71.set_7 | apply IsS71.set_8 | refine IsS71.far ?_ NB526_507.out _ | refine IsS71.far ?_ NB526_512.out _) | exact HI526.out))
                         (case side2 => repeat (first | (with_reducible first | exact HB.out | apply below_alloc | apply pw_below_drewN | apply below_drew1 | refine below_set ?_ (IsS71.ge HI526.out) | refine below_set ?_ GE507.out | refine below_set ?_ GE512.out) | exact HB.out))
                         rintro e w39 ⟨rfl, hi, hb, hk⟩
                         have HS0_ := keep_cell_r hk (hHeld.1) (by first | (rw [add_block]; exact Kd.own_blk (IsS71.own_ne HI526.out HO_4.out (by decide))) | (show (Addr.add _ _).block ≠ _; rw [add_block]; exact Kd.own_blk (IsS71.own_ne HI526.out HO_4.out (by decide))) | exact Kd.own_blk (IsS71.own_ne HI526.out HO_4.out (by decide))) (by first | (rw [add_block]; exact Kd.own_blk (raw_row_ne HI526.out HO_4.out (by decide))) | (show (Addr.add _ _).block ≠ _; rw [add_block]; exact Kd.own_blk (raw_row_ne HI526.out HO_4.out (by decide))) | exact Kd.own_blk (raw_row_ne HI526.out HO_4.out (by decide)))
                         have HS1_ := keep_cell_r hk (hHeld.2.1) (by first | (rw [add_block]; exact Kd.own_blk (IsS71.own_ne HI526.out HO_4.out (by decide))) | (show (Addr.add _ _).block ≠ _; rw [add_block]; exact Kd.own_blk (IsS71.own_ne HI526.out HO_4.out (by decide))) | exact Kd.own_blk (IsS71.own_ne HI526.out HO_4.out (by decide))) (by first | (rw [add_block]; exact Kd.own_blk (raw_row_ne HI526.out HO_4.out (by decide))) | (show (Addr.add _ _).block ≠ _; rw [add_block]; exact Kd.own_blk (raw_row_ne HI526.out HO_4.out (by decide))) | exact Kd.own_blk (raw_row_ne HI526.out HO_4.out (by decide)))
                         have HS2_ := keep_cell_r hk (hHeld.2.2.1) (by first | (rw [add_block]; exact Kd.own_blk (IsS71.own_ne HI526.out HO_4.out (by decide))) | (show (Addr.add _ _).block ≠ _; rw [add_block]; exact Kd.own_blk (IsS71.own_ne HI526.out HO_4.out (by decide))) | exact Kd.own_blk (IsS71.own_ne HI526.out HO_4.out (by decide))) (by first | (rw [add_block]; exact Kd.own_blk (raw_row_ne HI526.out HO_4.out (by decide))) | (show (Addr.add _ _).block ≠ _; rw [add_block]; exact Kd.own_blk (raw_row_ne HI526.out HO_4.out (by decide))) | exact Kd.own_blk (raw_row_ne HI526.out HO_4.out (by decide)))
                         have HS3_ := keep_cell_r hk (hHeld.2.2.2) (by first | (rw [add_block]; exact Kd.own_blk (IsS71.own_ne HI526.out HO_4.out (by decide))) | (show (Addr.add _ _).block ≠ _; rw [add_block]; exact Kd.own_blk (IsS71.own_ne HI526.out HO_4.out (by decide))) | exact Kd.own_blk (IsS71.own_ne HI526.out HO_4.out (by decide))) (by first | (rw [add_block]; exact Kd.own_blk (raw_row_ne HI526.out HO_4.out (by decide))) | (show (Addr.add _ _).block ≠ _; rw [add_block]; exact Kd.own_blk (raw_row_ne HI526.out HO_4.out (by decide))) | exact Kd.own_blk (raw_row_ne HI526.out HO_4.out (by decide)))
                         refine ⟨_, rfl, ?_⟩
                         replace HO_4 := Aside0.mk (raw_row_keep (show IsS71 w _ g526 t543 t544 t545 t546 t547 t548 t549 t550 t551 from by repeat (first | (with_reducible first | exact HI526.out | apply IsS71.alloc | apply IsS71.drewN | apply IsS71.drew | apply IsS71.set_0 | apply IsS71.set_1 | apply IsS71.set_2 | apply IsS71.set_3 | apply IsS71.set_4 | apply IsS71.set_5 | apply IsS71.set_6 | apply IsS71.set_7 | apply IsS71.set_8 | refine IsS71.far ?_ NB526_507.out _ | refine IsS71.far ?_ NB526_512.out _) | exact HI526.out)) (rp_ HO_4.out) hk (by decide))
                         replace BK507 := Aside0.mk (KeepBut.blk hk (g' := gb507) (o := .cells #[.int .i64 a0_0, .int .i64 a0_1, .int .i64 a0_2, .int .i64 a0_3] 23 (0, 0)) (hp_ BK507.out) NB507_526.out (raw_hr HI526.out BK507.out (by decide)))
                         replace BK512 := Aside0.mk (KeepBut.blk hk (g' := gb512) (o := .cells #[.int .i64 t508, .int .i64 t509, .int .i64 t510, .int .i64 t511] 23 (0, 0)) (hp_ BK512.out) NB512_526.out (raw_hr HI526.out BK512.out (by decide)))
                         replace HB := Aside0.mk (hb)
                         replace HI526 := Aside0.mk (hi)
                         (try clear hb)
                         (try clear hb2)
                         (try clear hk)
                         (try clear hi)
                         refine hK.out _ _ ⟨HS0_, HS1_, HS2_, HS3_⟩ (fun hHeld => ?_)
                         clear hK K
                         refine norm_ (a' := ?_) ?_ ?_
                         rotate_left
                         · show Act.put _ (some 67) _ = _
                           simp only [Act.put, List.setIfInBounds_toArray, List.set_cons_zero, List.set_cons_succ, i64_w, i32_w]
                           rfl
                         refine pur_ (i := 19) (N := some 68) Fl134 (any_of HT_.out (by kernel_rfl)) ?_
                         refine pur_ (i := 20) (N := some 69) Fl135 (any_of HT_.out (by kernel_rfl)) ?_
                         refine pur_ (i := 21) (N := some 70) Fl136 (any_of HT_.out (by kernel_rfl)) ?_
                         refine done_ (done_of HT_.out (by kernel_rfl)) ?_
                         try go_wp2
                         go_roundg kj17
                         case measure => have := HK1.out; have := HJ17.out; omega
                         case rel => exact ⟨(wrap64 (x5_1 + 1)), (by first | rfl | (simp; done) | (simp [*]; done)), H', ⟨by have := HK1.out; have := HJ17.out; omega⟩, ⟨rp_ HO_4.out⟩, ⟨hp_ BK507.out⟩, ⟨hp_ BK512.out⟩, ⟨by repeat (first | (with_reducible first | exact HB.out | apply below_alloc | apply pw_below_drewN | apply below_drew1 | refine below_set ?_ (IsS71.ge HI526.out) | refine below_set ?_ GE507.out | refine below_set ?_ GE512.out) | exact HB.out)⟩⟩
                       · rw [if_neg c34] at H
                         have c34b0 : (t552 == 0) = false := beq_eq_false_iff_ne.mpr c34
                         have c34b1 : (t552 != 0) = true := bne_iff_ne.mpr c34
                         obtain rfl := Option.some.inj H
                         try go_wp2
                         (try (rw [drewN_self wc]; generalize hq_ : World.drewN wc _ = wc; have n0_ := Aside0.mk (qrp_ hq_ HO_4.out); have n1_ : Aside0 (IsS71 w wc g526 t517 t518 t519 t520 t521 t522 t523 t524 t525) := ⟨by rw [← hq_]; exact (by repeat (first | (with_reducible first | exact HI526.out | apply IsS71.alloc | apply IsS71.drewN | apply IsS71.drew | apply IsS71.set_0 | apply IsS71.set_1 | apply IsS71.set_2 | apply IsS71.set_3 | apply IsS71.set_4 | apply IsS71.set_5 | apply IsS71.set_6 | apply IsS71.set_7 | apply IsS71.set_8) | exact HI526.out))⟩; have n2_ : Aside0 (Below w.heap.size w wc) := ⟨by rw [← hq_]; exact (by repeat (first | (with_reducible first | exact HB.out | apply below_alloc | apply pw_below_drewN | apply below_drew1 | refine below_set ?_ (IsS71.ge HI526.out)) | exact HB.out))⟩; clear HO_4 HI526 HB hq_; have HO_4 := n0_; have HI526 := n1_; have HB := n2_; clear n0_ n1_ n2_))
                         replace HO_4 := Aside0.mk (Kd.R_drew HO_4.out)
                         replace HI526 := Aside0.mk (IsS71.drew HI526.out)
                         replace HB := Aside0.mk (below_drew1 HB.out)
                         have p540 : 0 ≤ (x5_1 : Int) := of_decide_eq_true (by first | (with_reducible assumption) | assumption)
                         have q540 : x5_1 < (y513.length : Int) := of_decide_eq_true (by first | (with_reducible assumption) | assumption)
                         obtain ⟨ad540, e540, hx540_0, hx540_1, hx540_2, hx540_3⟩ := at_T23 (Kd.R_reads' HO_4.out).2.2 x5_1 p540 q540
                         obtain rfl : ad516 = ad540 := (by injection e540)
                         replace p540 := eq_true p540
                         replace q540 := eq_true q540
                         refine start_ (n := 22) (S := fun w' => w'.cell? (ad516.add ((x5_1).toNat * 4)) = some (.int .i64 ((rd_T23 y513 x5_1).f0)) ∧ w'.cell? ⟨(ad516.add ((x5_1).toNat * 4)).block, (ad516.add ((x5_1).toNat * 4)).off + 1, none⟩ = some (.int .i64 ((rd_T23 y513 x5_1).f1)) ∧ w'.cell? ⟨(ad516.add ((x5_1).toNat * 4)).block, (ad516.add ((x5_1).toNat * 4)).off + 2, none⟩ = some (.int .i64 ((rd_T23 y513 x5_1).f2)) ∧ w'.cell? ⟨(ad516.add ((x5_1).toNat * 4)).block, (ad516.add ((x5_1).toNat * 4)).off + 3, none⟩ = some (.int .i64 ((rd_T23 y513 x5_1).f3))) (ds := []) Fl118 (by kernel_rfl) rfl rfl ⟨hx540_0, hx540_1, hx540_2, hx540_3⟩ (fun hHeld => ?_); refine with_tabW chequerlaw09_RawNew.tab10 chequerlaw09_RawNew.bits10 (fun HT_ HW_ => ?_)
                         generalize wc.drew = w40 at HO_4 HI526 HB hx540_0 hx540_1 hx540_2 hx540_3 hHeld ⊢
                         refine pur_ (i := 0) (N := some 49) Fl119 (any_of HT_.out (by kernel_rfl)) ?_
                         refine pur_ (i := 1) (N := some 50) Fl120 (any_of HT_.out (by kernel_rfl)) ?_
                         refine pur_ (i := 2) (N := some 51) Fl121 (any_of HT_.out (by kernel_rfl)) ?_
                         refine pur_ (i := 3) (N := some 52) Fl122 (any_of HT_.out (by kernel_rfl)) ?_
                         refine pur_ (i := 5) (N := some 54) Fl137 (any_of HT_.out (by kernel_rfl)) ?_
                         refine pur_ (i := 6) (N := some 55) Fl138 (any_of HT_.out (by kernel_rfl)) ?_
                         refine pur_ (i := 7) (N := some 56) Fl139 (any_of HT_.out (by kernel_rfl)) ?_
                         refine take_ (i := 8) (N := some 57) (v := ?_) (a' := ?_) Fl140 rfl rfl (take_ofW HT_.out HW_.out (by kernel_rfl)) (fun _ _ _ h => h) (Or.inl ⟨by rfl, ?_⟩) hHeld ?_ ?_
                         rotate_left
                         · rintro w' ⟨s0, s1, s2, s3⟩
                           go_simp
                           with_reducible rfl
                         rotate_left
                         · simp only [Act.put, List.setIfInBounds_toArray, List.set_cons_zero, List.set_cons_succ, i64_w, i32_w]
                           rfl
                         refine one_ (i := 4) (N := some 53) Fl123 rfl rfl (one_of HT_.out (by kernel_rfl)) (by decide) (fun K hK => ?_)
                         refine goes_ Try.func20 (by kernel_rfl) rfl #[.pointer (some ⟨g526, 0, none⟩)] (by rfl) rfl rfl (by (try simp only [List.map_toArray, List.map_cons, List.map_nil]); first | done | rfl | (simp only [List.length_drop, List.length_take]; rfl)) ?_
                         with_reducible refine (raw_Reader_Left.calls g526 t517 t518 t519 t520 t521 t522 t523 t524 t525 t530 t531 t532 t533 t534 t535 t536 t537 t538 t539 w _ ?side1 ?side2 A26.out).mono ?_
                         (case side1 => repeat (first | (with_reducible first | exact HI526.out | apply IsS71.alloc | apply IsS71.drewN | apply IsS71.drew | apply IsS71.set_0 | apply IsS71.set_1 | apply IsS71.set_2 | apply IsS71.set_3 | apply IsS71.set_4 | apply IsS71.set_5 | apply IsS71.set_6 | apply IsS71.set_7 | apply IsS71.set_8) | exact HI526.out))
                         (case side2 => repeat (first | (with_reducible first | exact HB.out | apply below_alloc | apply pw_below_drewN | apply below_drew1 | refine below_set ?_ (IsS71.ge HI526.out)) | exact HB.out))
                         rintro e w41 ⟨rfl, hi, hb, hk⟩
                         have HS0_ := keep_cell_r hk (hHeld.1) (by first | (rw [add_block]; exact Kd.own_blk (IsS71.own_ne HI526.out HO_4.out (by decide))) | (show (Addr.add _ _).block ≠ _; rw [add_block]; exact Kd.own_blk (IsS71.own_ne HI526.out HO_4.out (by decide))) | exact Kd.own_blk (IsS71.own_ne HI526.out HO_4.out (by decide))) (by first | (rw [add_block]; exact Kd.own_blk (raw_row_ne HI526.out HO_4.out (by decide))) | (show (Addr.add _ _).block ≠ _; rw [add_block]; exact Kd.own_blk (raw_row_ne HI526.out HO_4.out (by decide))) | exact Kd.own_blk (raw_row_ne HI526.out HO_4.out (by decide)))
                         have HS1_ := keep_cell_r hk (hHeld.2.1) (by first | (rw [add_block]; exact Kd.own_blk (IsS71.own_ne HI526.out HO_4.out (by decide))) | (show (Addr.add _ _).block ≠ _; rw [add_block]; exact Kd.own_blk (IsS71.own_ne HI526.out HO_4.out (by decide))) | exact Kd.own_blk (IsS71.own_ne HI526.out HO_4.out (by decide))) (by first | (rw [add_block]; exact Kd.own_blk (raw_row_ne HI526.out HO_4.out (by decide))) | (show (Addr.add _ _).block ≠ _; rw [add_block]; exact Kd.own_blk (raw_row_ne HI526.out HO_4.out (by decide))) | exact Kd.own_blk (raw_row_ne HI526.out HO_4.out (by decide)))
                         have HS2_ := keep_cell_r hk (hHeld.2.2.1) (by first | (rw [add_block]; exact Kd.own_blk (IsS71.own_ne HI526.out HO_4.out (by decide))) | (show (Addr.add _ _).block ≠ _; rw [add_block]; exact Kd.own_blk (IsS71.own_ne HI526.out HO_4.out (by decide))) | exact Kd.own_blk (IsS71.own_ne HI526.out HO_4.out (by decide))) (by first | (rw [add_block]; exact Kd.own_blk (raw_row_ne HI526.out HO_4.out (by decide))) | (show (Addr.add _ _).block ≠ _; rw [add_block]; exact Kd.own_blk (raw_row_ne HI526.out HO_4.out (by decide))) | exact Kd.own_blk (raw_row_ne HI526.out HO_4.out (by decide)))
                         have HS3_ := keep_cell_r hk (hHeld.2.2.2) (by first | (rw [add_block]; exact Kd.own_blk (IsS71.own_ne HI526.out HO_4.out (by decide))) | (show (Addr.add _ _).block ≠ _; rw [add_block]; exact Kd.own_blk (IsS71.own_ne HI526.out HO_4.out (by decide))) | exact Kd.own_blk (IsS71.own_ne HI526.out HO_4.out (by decide))) (by first | (rw [add_block]; exact Kd.own_blk (raw_row_ne HI526.out HO_4.out (by decide))) | (show (Addr.add _ _).block ≠ _; rw [add_block]; exact Kd.own_blk (raw_row_ne HI526.out HO_4.out (by decide))) | exact Kd.own_blk (raw_row_ne HI526.out HO_4.out (by decide)))
                         refine ⟨_, rfl, ?_⟩
                         replace HO_4 := Aside0.mk (raw_row_keep (show IsS71 w _ g526 t517 t518 t519 t520 t521 t522 t523 t524 t525 from by repeat (first | (with_reducible first | exact HI526.out | apply IsS71.alloc | apply IsS71.drewN | apply IsS71.drew | apply IsS71.set_0 | apply IsS71.set_1 | apply IsS71.set_2 | apply IsS71.set_3 | apply IsS71.set_4 | apply IsS71.set_5 | apply IsS71.set_6 | apply IsS71.set_7 | apply IsS71.set_8) | exact HI526.out)) (rp_ HO_4.out) hk (by decide))
                         replace HB := Aside0.mk (hb)
                         replace HI526 := Aside0.mk (hi)
                         (try clear hb)
                         (try clear hb2)
                         (try clear hk)
                         (try clear hi)
                         refine hK.out _ _ ⟨HS0_, HS1_, HS2_, HS3_⟩ (fun hHeld => ?_)
                         clear hK K
                         refine norm_ (a' := ?_) ?_ ?_
                         rotate_left
                         · show Act.put _ (some 53) _ = _
                           simp only [Act.put, List.setIfInBounds_toArray, List.set_cons_zero, List.set_cons_succ, i64_w, i32_w]
                           rfl
                         refine one_ (i := 9) (N := some 58) Fl124 rfl rfl (one_of HT_.out (by kernel_rfl)) (by decide) (fun K hK => ?_)
                         refine goes_ Try.func12 (by kernel_rfl) rfl #[.agg #[.int .i64 ((rd_T23 y513 x5_1).f0), .int .i64 ((rd_T23 y513 x5_1).f1), .int .i64 ((rd_T23 y513 x5_1).f2), .int .i64 ((rd_T23 y513 x5_1).f3)]] (by rfl) rfl rfl (by (try simp only [List.map_toArray, List.map_cons, List.map_nil]); first | done | rfl | (simp only [List.length_drop, List.length_take]; rfl)) ?_
                         with_reducible refine (chequerref06_Size.calls ((rd_T23 y513 x5_1).f0) ((rd_T23 y513 x5_1).f1) ((rd_T23 y513 x5_1).f2) ((rd_T23 y513 x5_1).f3) t541 _ A29.out).mono ?_
                         rintro e w42 ⟨rfl, hb⟩
                         have HS0_ := (hb.cell (World.block_lt_of_cell? _ _ (hHeld.1))).trans (hHeld.1)
                         have HS1_ := (hb.cell (World.block_lt_of_cell? _ _ (hHeld.2.1))).trans (hHeld.2.1)
                         have HS2_ := (hb.cell (World.block_lt_of_cell? _ _ (hHeld.2.2.1))).trans (hHeld.2.2.1)
                         have HS3_ := (hb.cell (World.block_lt_of_cell? _ _ (hHeld.2.2.2))).trans (hHeld.2.2.2)
                         refine ⟨_, rfl, ?_⟩
                         replace HO_4 := Aside0.mk (Kd.R_below (rp_ HO_4.out) hb)
                         replace HB := Aside0.mk (below_step (by repeat (first | (with_reducible first | exact HB.out | apply below_alloc | apply pw_below_drewN | apply below_drew1 | refine below_set ?_ (IsS71.ge HI526.out)) | exact HB.out)) hb)
                         replace HI526 := Aside0.mk (IsS71.below (by repeat (first | (with_reducible first | exact HI526.out | apply IsS71.alloc | apply IsS71.drewN | apply IsS71.drew | apply IsS71.set_0 | apply IsS71.set_1 | apply IsS71.set_2 | apply IsS71.set_3 | apply IsS71.set_4 | apply IsS71.set_5 | apply IsS71.set_6 | apply IsS71.set_7 | apply IsS71.set_8) | exact HI526.out)) hb)
                         (try clear hb)
                         (try clear hb2)
                         (try clear hk)
                         (try clear hi)
                         refine hK.out _ _ ⟨HS0_, HS1_, HS2_, HS3_⟩ (fun hHeld => ?_)
                         clear hK K
                         refine norm_ (a' := ?_) ?_ ?_
                         rotate_left
                         · show Act.put _ (some 58) _ = _
                           simp only [Act.put, List.setIfInBounds_toArray, List.set_cons_zero, List.set_cons_succ, i64_w, i32_w]
                           rfl
                         refine pur_ (i := 10) (N := some 59) Fl125 (any_of HT_.out (by kernel_rfl)) ?_
                         refine pur_ (i := 11) (N := some 60) Fl126 (any_of HT_.out (by kernel_rfl)) ?_
                         refine pur_ (i := 12) (N := some 61) Fl127 (any_of HT_.out (by kernel_rfl)) ?_
                         refine one_ (i := 13) (N := some 62) Fl128 rfl rfl (one_of HT_.out (by kernel_rfl)) (by decide) (fun K hK => ?_)
                         refine goes_ Try.func21 (by kernel_rfl) rfl #[.pointer (some ⟨g526, 0, none⟩)] (by rfl) rfl rfl (by (try simp only [List.map_toArray, List.map_cons, List.map_nil]); first | done | rfl | (simp only [List.length_drop, List.length_take]; rfl)) ?_
                         with_reducible refine (raw_Reader_Rows.calls g526 t531 t532 t533 t534 t535 t536 t537 t538 t539 t542 t543 t544 t545 t546 t547 t548 t549 t550 t551 w _ ?side1 ?side2 A31.out).mono ?_
                         (case side1 => repeat (first | (with_reducible first | exact HI526.out | apply IsS71.alloc | apply IsS71.drewN | apply IsS71.drew | apply IsS71.set_0 | apply IsS71.set_1 | apply IsS71.set_2 | apply IsS71.set_3 | apply IsS71.set_4 | apply IsS71.set_5 | apply IsS71.set_6 | apply IsS71.set_7 | apply IsS71.set_8) | exact HI526.out))
                         (case side2 => repeat (first | (with_reducible first | exact HB.out | apply below_alloc | apply pw_below_drewN | apply below_drew1 | refine below_set ?_ (IsS71.ge HI526.out)) | exact HB.out))
                         rintro e w43 ⟨rfl, hi, hb, hk⟩
                         have HS0_ := keep_cell_r hk (hHeld.1) (by first | (rw [add_block]; exact Kd.own_blk (IsS71.own_ne HI526.out HO_4.out (by decide))) | (show (Addr.add _ _).block ≠ _; rw [add_block]; exact Kd.own_blk (IsS71.own_ne HI526.out HO_4.out (by decide))) | exact Kd.own_blk (IsS71.own_ne HI526.out HO_4.out (by decide))) (by first | (rw [add_block]; exact Kd.own_blk (raw_row_ne HI526.out HO_4.out (by decide))) | (show (Addr.add _ _).block ≠ _; rw [add_block]; exact Kd.own_blk (raw_row_ne HI526.out HO_4.out (by decide))) | exact Kd.own_blk (raw_row_ne HI526.out HO_4.out (by decide)))
                         have HS1_ := keep_cell_r hk (hHeld.2.1) (by first | (rw [add_block]; exact Kd.own_blk (IsS71.own_ne HI526.out HO_4.out (by decide))) | (show (Addr.add _ _).block ≠ _; rw [add_block]; exact Kd.own_blk (IsS71.own_ne HI526.out HO_4.out (by decide))) | exact Kd.own_blk (IsS71.own_ne HI526.out HO_4.out (by decide))) (by first | (rw [add_block]; exact Kd.own_blk (raw_row_ne HI526.out HO_4.out (by decide))) | (show (Addr.add _ _).block ≠ _; rw [add_block]; exact Kd.own_blk (raw_row_ne HI526.out HO_4.out (by decide))) | exact Kd.own_blk (raw_row_ne HI526.out HO_4.out (by decide)))
                         have HS2_ := keep_cell_r hk (hHeld.2.2.1) (by first | (rw [add_block]; exact Kd.own_blk (IsS71.own_ne HI526.out HO_4.out (by decide))) | (show (Addr.add _ _).block ≠ _; rw [add_block]; exact Kd.own_blk (IsS71.own_ne HI526.out HO_4.out (by decide))) | exact Kd.own_blk (IsS71.own_ne HI526.out HO_4.out (by decide))) (by first | (rw [add_block]; exact Kd.own_blk (raw_row_ne HI526.out HO_4.out (by decide))) | (show (Addr.add _ _).block ≠ _; rw [add_block]; exact Kd.own_blk (raw_row_ne HI526.out HO_4.out (by decide))) | exact Kd.own_blk (raw_row_ne HI526.out HO_4.out (by decide)))
                         have HS3_ := keep_cell_r hk (hHeld.2.2.2) (by first | (rw [add_block]; exact Kd.own_blk (IsS71.own_ne HI526.out HO_4.out (by decide))) | (show (Addr.add _ _).block ≠ _; rw [add_block]; exact Kd.own_blk (IsS71.own_ne HI526.out HO_4.out (by decide))) | exact Kd.own_blk (IsS71.own_ne HI526.out HO_4.out (by decide))) (by first | (rw [add_block]; exact Kd.own_blk (raw_row_ne HI526.out HO_4.out (by decide))) | (show (Addr.add _ _).block ≠ _; rw [add_block]; exact Kd.own_blk (raw_row_ne HI526.out HO_4.out (by decide))) | exact Kd.own_blk (raw_row_ne HI526.out HO_4.out (by decide)))
                         refine ⟨_, rfl, ?_⟩
                         replace HO_4 := Aside0.mk (raw_row_keep (show IsS71 w _ g526 t531 t532 t533 t534 t535 t536 t537 t538 t539 from by repeat (first | (with_reducible first | exact HI526.out | apply IsS71.alloc | apply IsS71.drewN | apply IsS71.drew | apply IsS71.set_0 | apply IsS71.set_1 | apply IsS71.set_2 | apply IsS71.set_3 | apply IsS71.set_4 | apply IsS71.set_5 | apply IsS71.set_6 | apply IsS71.set_7 | apply IsS71.set_8) | exact HI526.out)) (rp_ HO_4.out) hk (by decide))
                         replace HB := Aside0.mk (hb)
                         replace HI526 := Aside0.mk (hi)
                         (try clear hb)
                         (try clear hb2)
                         (try clear hk)
                         (try clear hi)
                         refine hK.out _ _ ⟨HS0_, HS1_, HS2_, HS3_⟩ (fun hHeld => ?_)
                         clear hK K
                         refine norm_ (a' := ?_) ?_ ?_
                         rotate_left
                         · show Act.put _ (some 62) _ = _
                           simp only [Act.put, List.setIfInBounds_toArray, List.set_cons_zero, List.set_cons_succ, i64_w, i32_w]
                           rfl
                         refine pur_ (i := 14) (N := some 63) Fl129 (any_of HT_.out (by kernel_rfl)) ?_
                         refine pur_ (i := 15) (N := some 64) Fl130 (any_of HT_.out (by kernel_rfl)) ?_
                         refine pur_ (i := 16) (N := some 65) Fl131 (any_of HT_.out (by kernel_rfl)) ?_
                         refine pur_ (i := 17) (N := some 66) Fl132 (any_of HT_.out (by kernel_rfl)) ?_
                         refine one_ (i := 18) (N := some 67) Fl133 rfl rfl (one_of HT_.out (by kernel_rfl)) (by decide) (fun K hK => ?_)
                         refine goes_ Try.func25 (by kernel_rfl) rfl #[.pointer (some ⟨g526, 0, none⟩)] (by rfl) rfl rfl (by (try simp only [List.map_toArray, List.map_cons, List.map_nil]); first | done | rfl | (simp only [List.length_drop, List.length_take]; rfl)) ?_
                         with_reducible refine (raw_Reader_Error.calls g526 t543 t544 t545 t546 t547 t548 t549 t550 t551 t552 t553 t554 t555 t556 t557 t558 t559 t560 t561 w _ ?side1 ?side2 A33.out).mono ?_
                         (case side1 => repeat (first | (with_reducible first | exact HI526.out | apply IsS71.alloc | apply IsS71.drewN | apply IsS71.drew | apply IsS71.set_0 | apply IsS71.set_1 | apply IsS71.set_2 | apply IsS71.set_3 | apply IsS71.set_4 | apply IsS71.set_5 | apply IsS71.set_6 | apply IsS71.set_7 | apply IsS71.set_8) | exact HI526.out))
                         (case side2 => repeat (first | (with_reducible first | exact HB.out | apply below_alloc | apply pw_below_drewN | apply below_drew1 | refine below_set ?_ (IsS71.ge HI526.out)) | exact HB.out))
                         rintro e w44 ⟨rfl, hi, hb, hk⟩
                         have HS0_ := keep_cell_r hk (hHeld.1) (by first | (rw [add_block]; exact Kd.own_blk (IsS71.own_ne HI526.out HO_4.out (by decide))) | (show (Addr.add _ _).block ≠ _; rw [add_block]; exact Kd.own_blk (IsS71.own_ne HI526.out HO_4.out (by decide))) | exact Kd.own_blk (IsS71.own_ne HI526.out HO_4.out (by decide))) (by first | (rw [add_block]; exact Kd.own_blk (raw_row_ne HI526.out HO_4.out (by decide))) | (show (Addr.add _ _).block ≠ _; rw [add_block]; exact Kd.own_blk (raw_row_ne HI526.out HO_4.out (by decide))) | exact Kd.own_blk (raw_row_ne HI526.out HO_4.out (by decide)))
                         have HS1_ := keep_cell_r hk (hHeld.2.1) (by first | (rw [add_block]; exact Kd.own_blk (IsS71.own_ne HI526.out HO_4.out (by decide))) | (show (Addr.add _ _).block ≠ _; rw [add_block]; exact Kd.own_blk (IsS71.own_ne HI526.out HO_4.out (by decide))) | exact Kd.own_blk (IsS71.own_ne HI526.out HO_4.out (by decide))) (by first | (rw [add_block]; exact Kd.own_blk (raw_row_ne HI526.out HO_4.out (by decide))) | (show (Addr.add _ _).block ≠ _; rw [add_block]; exact Kd.own_blk (raw_row_ne HI526.out HO_4.out (by decide))) | exact Kd.own_blk (raw_row_ne HI526.out HO_4.out (by decide)))
                         have HS2_ := keep_cell_r hk (hHeld.2.2.1) (by first | (rw [add_block]; exact Kd.own_blk (IsS71.own_ne HI526.out HO_4.out (by decide))) | (show (Addr.add _ _).block ≠ _; rw [add_block]; exact Kd.own_blk (IsS71.own_ne HI526.out HO_4.out (by decide))) | exact Kd.own_blk (IsS71.own_ne HI526.out HO_4.out (by decide))) (by first | (rw [add_block]; exact Kd.own_blk (raw_row_ne HI526.out HO_4.out (by decide))) | (show (Addr.add _ _).block ≠ _; rw [add_block]; exact Kd.own_blk (raw_row_ne HI526.out HO_4.out (by decide))) | exact Kd.own_blk (raw_row_ne HI526.out HO_4.out (by decide)))
                         have HS3_ := keep_cell_r hk (hHeld.2.2.2) (by first | (rw [add_block]; exact Kd.own_blk (IsS71.own_ne HI526.out HO_4.out (by decide))) | (show (Addr.add _ _).block ≠ _; rw [add_block]; exact Kd.own_blk (IsS71.own_ne HI526.out HO_4.out (by decide))) | exact Kd.own_blk (IsS71.own_ne HI526.out HO_4.out (by decide))) (by first | (rw [add_block]; exact Kd.own_blk (raw_row_ne HI526.out HO_4.out (by decide))) | (show (Addr.add _ _).block ≠ _; rw [add_block]; exact Kd.own_blk (raw_row_ne HI526.out HO_4.out (by decide))) | exact Kd.own_blk (raw_row_ne HI526.out HO_4.out (by decide)))
                         refine ⟨_, rfl, ?_⟩
                         replace HO_4 := Aside0.mk (raw_row_keep (show IsS71 w _ g526 t543 t544 t545 t546 t547 t548 t549 t550 t551 from by repeat (first | (with_reducible first | exact HI526.out | apply IsS71.alloc | apply IsS71.drewN | apply IsS71.drew | apply IsS71.set_0 | apply IsS71.set_1 | apply IsS71.set_2 | apply IsS71.set_3 | apply IsS71.set_4 | apply IsS71.set_5 | apply IsS71.set_6 | apply IsS71.set_7 | apply IsS71.set_8) | exact HI526.out)) (rp_ HO_4.out) hk (by decide))
                         replace HB := Aside0.mk (hb)
                         replace HI526 := Aside0.mk (hi)
                         (try clear hb)
                         (try clear hb2)
                         (try clear hk)
                         (try clear hi)
                         refine hK.out _ _ ⟨HS0_, HS1_, HS2_, HS3_⟩ (fun hHeld => ?_)
                         clear hK K
                         refine norm_ (a' := ?_) ?_ ?_
                         rotate_left
                         · show Act.put _ (some 67) _ = _
                           simp only [Act.put, List.setIfInBounds_toArray, List.set_cons_zero, List.set_cons_succ, i64_w, i32_w]
                           rfl
                         refine pur_ (i := 19) (N := some 68) Fl134 (any_of HT_.out (by kernel_rfl)) ?_
                         refine pur_ (i := 20) (N := some 69) Fl135 (any_of HT_.out (by kernel_rfl)) ?_
                         refine pur_ (i := 21) (N := some 70) Fl136 (any_of HT_.out (by kernel_rfl)) ?_
                         refine done_ (done_of HT_.out (by kernel_rfl)) ?_
                         try go_wp2
                         go_ret
                         exact ⟨by first | rfl | (simp [errW_none, errW_some] <;> rfl) | (simp [*, errW_none, errW_some] <;> rfl), by repeat (first | (with_reducible first | exact HB.out | apply below_alloc | apply pw_below_drewN | apply below_drew1 | refine below_set ?_ (IsS71.ge HI526.out)) | exact HB.out)⟩
                     · rw [if_neg c32] at H
                       have c32b0 : (t542 == 0) = false := beq_eq_false_iff_ne.mpr c32
                       have c32b1 : (t542 != 0) = true := bne_iff_ne.mpr c32
                       obtain rfl := Option.some.inj H
                       try go_wp2
                       (try (rw [drewN_self wc]; generalize hq_ : World.drewN wc _ = wc; have n0_ := Aside0.mk (qrp_ hq_ HO_4.out); have n1_ : Aside0 (IsS71 w wc g526 t517 t518 t519 t520 t521 t522 t523 t524 t525) := ⟨by rw [← hq_]; exact (by repeat (first | (with_reducible first | exact HI526.out | apply IsS71.alloc | apply IsS71.drewN | apply IsS71.drew | apply IsS71.set_0 | apply IsS71.set_1 | apply IsS71.set_2 | apply IsS71.set_3 | apply IsS71.set_4 | apply IsS71.set_5 | apply IsS71.set_6 | apply IsS71.set_7 | apply IsS71.set_8) | exact HI526.out))⟩; have n2_ : Aside0 (Below w.heap.size w wc) := ⟨by rw [← hq_]; exact (by repeat (first | (with_reducible first | exact HB.out | apply below_alloc | apply pw_below_drewN | apply below_drew1 | refine below_set ?_ (IsS71.ge HI526.out)) | exact HB.out))⟩; clear HO_4 HI526 HB hq_; have HO_4 := n0_; have HI526 := n1_; have HB := n2_; clear n0_ n1_ n2_))
                       replace HO_4 := Aside0.mk (Kd.R_drew HO_4.out)
                       replace HI526 := Aside0.mk (IsS71.drew HI526.out)
                       replace HB := Aside0.mk (below_drew1 HB.out)
                       have p540 : 0 ≤ (x5_1 : Int) := of_decide_eq_true (by first | (with_reducible assumption) | assumption)
                       have q540 : x5_1 < (y513.length : Int) := of_decide_eq_true (by first | (with_reducible assumption) | assumption)
                       obtain ⟨ad540, e540, hx540_0, hx540_1, hx540_2, hx540_3⟩ := at_T23 (Kd.R_reads' HO_4.out).2.2 x5_1 p540 q540
                       obtain rfl : ad516 = ad540 := (by injection e540)
                       replace p540 := eq_true p540
                       replace q540 := eq_true q540
                       refine start_ (n := 22) (S := fun w' => w'.cell? (ad516.add ((x5_1).toNat * 4)) = some (.int .i64 ((rd_T23 y513 x5_1).f0)) ∧ w'.cell? ⟨(ad516.add ((x5_1).toNat * 4)).block, (ad516.add ((x5_1).toNat * 4)).off + 1, none⟩ = some (.int .i64 ((rd_T23 y513 x5_1).f1)) ∧ w'.cell? ⟨(ad516.add ((x5_1).toNat * 4)).block, (ad516.add ((x5_1).toNat * 4)).off + 2, none⟩ = some (.int .i64 ((rd_T23 y513 x5_1).f2)) ∧ w'.cell? ⟨(ad516.add ((x5_1).toNat * 4)).block, (ad516.add ((x5_1).toNat * 4)).off + 3, none⟩ = some (.int .i64 ((rd_T23 y513 x5_1).f3))) (ds := []) Fl118 (by kernel_rfl) rfl rfl ⟨hx540_0, hx540_1, hx540_2, hx540_3⟩ (fun hHeld => ?_); refine with_tabW chequerlaw09_RawNew.tab10 chequerlaw09_RawNew.bits10 (fun HT_ HW_ => ?_)
                       generalize wc.drew = w45 at HO_4 HI526 HB hx540_0 hx540_1 hx540_2 hx540_3 hHeld ⊢
                       refine pur_ (i := 0) (N := some 49) Fl119 (any_of HT_.out (by kernel_rfl)) ?_
                       refine pur_ (i := 1) (N := some 50) Fl120 (any_of HT_.out (by kernel_rfl)) ?_
                       refine pur_ (i := 2) (N := some 51) Fl121 (any_of HT_.out (by kernel_rfl)) ?_
                       refine pur_ (i := 3) (N := some 52) Fl122 (any_of HT_.out (by kernel_rfl)) ?_
                       refine pur_ (i := 5) (N := some 54) Fl137 (any_of HT_.out (by kernel_rfl)) ?_
                       refine pur_ (i := 6) (N := some 55) Fl138 (any_of HT_.out (by kernel_rfl)) ?_
                       refine pur_ (i := 7) (N := some 56) Fl139 (any_of HT_.out (by kernel_rfl)) ?_
                       refine take_ (i := 8) (N := some 57) (v := ?_) (a' := ?_) Fl140 rfl rfl (take_ofW HT_.out HW_.out (by kernel_rfl)) (fun _ _ _ h => h) (Or.inl ⟨by rfl, ?_⟩) hHeld ?_ ?_
                       rotate_left
                       · rintro w' ⟨s0, s1, s2, s3⟩
                         go_simp
                         with_reducible rfl
                       rotate_left
                       · simp only [Act.put, List.setIfInBounds_toArray, List.set_cons_zero, List.set_cons_succ, i64_w, i32_w]
                         rfl
                       refine one_ (i := 4) (N := some 53) Fl123 rfl rfl (one_of HT_.out (by kernel_rfl)) (by decide) (fun K hK => ?_)
                       refine goes_ Try.func20 (by kernel_rfl) rfl #[.pointer (some ⟨g526, 0, none⟩)] (by rfl) rfl rfl (by (try simp only [List.map_toArray, List.map_cons, List.map_nil]); first | done | rfl | (simp only [List.length_drop, List.length_take]; rfl)) ?_
                       with_reducible refine (raw_Reader_Left.calls g526 t517 t518 t519 t520 t521 t522 t523 t524 t525 t530 t531 t532 t533 t534 t535 t536 t537 t538 t539 w _ ?side1 ?side2 A26.out).mono ?_
                       (case side1 => repeat (first | (with_reducible first | exact HI526.out | apply IsS71.alloc | apply IsS71.drewN | apply IsS71.drew | apply IsS71.set_0 | apply IsS71.set_1 | apply IsS71.set_2 | apply IsS71.set_3 | apply IsS71.set_4 | apply IsS71.set_5 | apply IsS71.set_6 | apply IsS71.set_7 | apply IsS71.set_8) | exact HI526.out))
                       (case side2 => repeat (first | (with_reducible first | exact HB.out | apply below_alloc | apply pw_below_drewN | apply below_drew1 | refine below_set ?_ (IsS71.ge HI526.out)) | exact HB.out))
                       rintro e w46 ⟨rfl, hi, hb, hk⟩
                       have HS0_ := keep_cell_r hk (hHeld.1) (by first | (rw [add_block]; exact Kd.own_blk (IsS71.own_ne HI526.out HO_4.out (by decide))) | (show (Addr.add _ _).block ≠ _; rw [add_block]; exact Kd.own_blk (IsS71.own_ne HI526.out HO_4.out (by decide))) | exact Kd.own_blk (IsS71.own_ne HI526.out HO_4.out (by decide))) (by first | (rw [add_block]; exact Kd.own_blk (raw_row_ne HI526.out HO_4.out (by decide))) | (show (Addr.add _ _).block ≠ _; rw [add_block]; exact Kd.own_blk (raw_row_ne HI526.out HO_4.out (by decide))) | exact Kd.own_blk (raw_row_ne HI526.out HO_4.out (by decide)))
                       have HS1_ := keep_cell_r hk (hHeld.2.1) (by first | (rw [add_block]; exact Kd.own_blk (IsS71.own_ne HI526.out HO_4.out (by decide))) | (show (Addr.add _ _).block ≠ _; rw [add_block]; exact Kd.own_blk (IsS71.own_ne HI526.out HO_4.out (by decide))) | exact Kd.own_blk (IsS71.own_ne HI526.out HO_4.out (by decide))) (by first | (rw [add_block]; exact Kd.own_blk (raw_row_ne HI526.out HO_4.out (by decide))) | (show (Addr.add _ _).block ≠ _; rw [add_block]; exact Kd.own_blk (raw_row_ne HI526.out HO_4.out (by decide))) | exact Kd.own_blk (raw_row_ne HI526.out HO_4.out (by decide)))
                       have HS2_ := keep_cell_r hk (hHeld.2.2.1) (by first | (rw [add_block]; exact Kd.own_blk (IsS71.own_ne HI526.out HO_4.out (by decide))) | (show (Addr.add _ _).block ≠ _; rw [add_block]; exact Kd.own_blk (IsS71.own_ne HI526.out HO_4.out (by decide))) | exact Kd.own_blk (IsS71.own_ne HI526.out HO_4.out (by decide))) (by first | (rw [add_block]; exact Kd.own_blk (raw_row_ne HI526.out HO_4.out (by decide))) | (show (Addr.add _ _).block ≠ _; rw [add_block]; exact Kd.own_blk (raw_row_ne HI526.out HO_4.out (by decide))) | exact Kd.own_blk (raw_row_ne HI526.out HO_4.out (by decide)))
                       have HS3_ := keep_cell_r hk (hHeld.2.2.2) (by first | (rw [add_block]; exact Kd.own_blk (IsS71.own_ne HI526.out HO_4.out (by decide))) | (show (Addr.add _ _).block ≠ _; rw [add_block]; exact Kd.own_blk (IsS71.own_ne HI526.out HO_4.out (by decide))) | exact Kd.own_blk (IsS71.own_ne HI526.out HO_4.out (by decide))) (by first | (rw [add_block]; exact Kd.own_blk (raw_row_ne HI526.out HO_4.out (by decide))) | (show (Addr.add _ _).block ≠ _; rw [add_block]; exact Kd.own_blk (raw_row_ne HI526.out HO_4.out (by decide))) | exact Kd.own_blk (raw_row_ne HI526.out HO_4.out (by decide)))
                       refine ⟨_, rfl, ?_⟩
                       replace HO_4 := Aside0.mk (raw_row_keep (show IsS71 w _ g526 t517 t518 t519 t520 t521 t522 t523 t524 t525 from by repeat (first | (with_reducible first | exact HI526.out | apply IsS71.alloc | apply IsS71.drewN | apply IsS71.drew | apply IsS71.set_0 | apply IsS71.set_1 | apply IsS71.set_2 | apply IsS71.set_3 | apply IsS71.set_4 | apply IsS71.set_5 | apply IsS71.set_6 | apply IsS71.set_7 | apply IsS71.set_8) | exact HI526.out)) (rp_ HO_4.out) hk (by decide))
                       replace HB := Aside0.mk (hb)
                       replace HI526 := Aside0.mk (hi)
                       (try clear hb)
                       (try clear hb2)
                       (try clear hk)
                       (try clear hi)
                       refine hK.out _ _ ⟨HS0_, HS1_, HS2_, HS3_⟩ (fun hHeld => ?_)
                       clear hK K
                       refine norm_ (a' := ?_) ?_ ?_
                       rotate_left
                       · show Act.put _ (some 53) _ = _
                         simp only [Act.put, List.setIfInBounds_toArray, List.set_cons_zero, List.set_cons_succ, i64_w, i32_w]
                         rfl
                       refine one_ (i := 9) (N := some 58) Fl124 rfl rfl (one_of HT_.out (by kernel_rfl)) (by decide) (fun K hK => ?_)
                       refine goes_ Try.func12 (by kernel_rfl) rfl #[.agg #[.int .i64 ((rd_T23 y513 x5_1).f0), .int .i64 ((rd_T23 y513 x5_1).f1), .int .i64 ((rd_T23 y513 x5_1).f2), .int .i64 ((rd_T23 y513 x5_1).f3)]] (by rfl) rfl rfl (by (try simp only [List.map_toArray, List.map_cons, List.map_nil]); first | done | rfl | (simp only [List.length_drop, List.length_take]; rfl)) ?_
                       with_reducible refine (chequerref06_Size.calls ((rd_T23 y513 x5_1).f0) ((rd_T23 y513 x5_1).f1) ((rd_T23 y513 x5_1).f2) ((rd_T23 y513 x5_1).f3) t541 _ A29.out).mono ?_
                       rintro e w47 ⟨rfl, hb⟩
                       have HS0_ := (hb.cell (World.block_lt_of_cell? _ _ (hHeld.1))).trans (hHeld.1)
                       have HS1_ := (hb.cell (World.block_lt_of_cell? _ _ (hHeld.2.1))).trans (hHeld.2.1)
                       have HS2_ := (hb.cell (World.block_lt_of_cell? _ _ (hHeld.2.2.1))).trans (hHeld.2.2.1)
                       have HS3_ := (hb.cell (World.block_lt_of_cell? _ _ (hHeld.2.2.2))).trans (hHeld.2.2.2)
                       refine ⟨_, rfl, ?_⟩
                       replace HO_4 := Aside0.mk (Kd.R_below (rp_ HO_4.out) hb)
                       replace HB := Aside0.mk (below_step (by repeat (first | (with_reducible first | exact HB.out | apply below_alloc | apply pw_below_drewN | apply below_drew1 | refine below_set ?_ (IsS71.ge HI526.out)) | exact HB.out)) hb)
                       replace HI526 := Aside0.mk (IsS71.below (by repeat (first | (with_reducible first | exact HI526.out | apply IsS71.alloc | apply IsS71.drewN | apply IsS71.drew | apply IsS71.set_0 | apply IsS71.set_1 | apply IsS71.set_2 | apply IsS71.set_3 | apply IsS71.set_4 | apply IsS71.set_5 | apply IsS71.set_6 | apply IsS71.set_7 | apply IsS71.set_8) | exact HI526.out)) hb)
                       (try clear hb)
                       (try clear hb2)
                       (try clear hk)
                       (try clear hi)
                       refine hK.out _ _ ⟨HS0_, HS1_, HS2_, HS3_⟩ (fun hHeld => ?_)
                       clear hK K
                       refine norm_ (a' := ?_) ?_ ?_
                       rotate_left
                       · show Act.put _ (some 58) _ = _
                         simp only [Act.put, List.setIfInBounds_toArray, List.set_cons_zero, List.set_cons_succ, i64_w, i32_w]
                         rfl
                       refine pur_ (i := 10) (N := some 59) Fl125 (any_of HT_.out (by kernel_rfl)) ?_
                       refine pur_ (i := 11) (N := some 60) Fl126 (any_of HT_.out (by kernel_rfl)) ?_
                       refine pur_ (i := 12) (N := some 61) Fl127 (any_of HT_.out (by kernel_rfl)) ?_
                       refine one_ (i := 13) (N := some 62) Fl128 rfl rfl (one_of HT_.out (by kernel_rfl)) (by decide) (fun K hK => ?_)
                       refine goes_ Try.func21 (by kernel_rfl) rfl #[.pointer (some ⟨g526, 0, none⟩)] (by rfl) rfl rfl (by (try simp only [List.map_toArray, List.map_cons, List.map_nil]); first | done | rfl | (simp only [List.length_drop, List.length_take]; rfl)) ?_
                       with_reducible refine (raw_Reader_Rows.calls g526 t531 t532 t533 t534 t535 t536 t537 t538 t539 t542 t543 t544 t545 t546 t547 t548 t549 t550 t551 w _ ?side1 ?side2 A31.out).mono ?_
                       (case side1 => repeat (first | (with_reducible first | exact HI526.out | apply IsS71.alloc | apply IsS71.drewN | apply IsS71.drew | apply IsS71.set_0 | apply IsS71.set_1 | apply IsS71.set_2 | apply IsS71.set_3 | apply IsS71.set_4 | apply IsS71.set_5 | apply IsS71.set_6 | apply IsS71.set_7 | apply IsS71.set_8) | exact HI526.out))
                       (case side2 => repeat (first | (with_reducible first | exact HB.out | apply below_alloc | apply pw_below_drewN | apply below_drew1 | refine below_set ?_ (IsS71.ge HI526.out)) | exact HB.out))
                       rintro e w48 ⟨rfl, hi, hb, hk⟩
                       have HS0_ := keep_cell_r hk (hHeld.1) (by first | (rw [add_block]; exact Kd.own_blk (IsS71.own_ne HI526.out HO_4.out (by decide))) | (show (Addr.add _ _).block ≠ _; rw [add_block]; exact Kd.own_blk (IsS71.own_ne HI526.out HO_4.out (by decide))) | exact Kd.own_blk (IsS71.own_ne HI526.out HO_4.out (by decide))) (by first | (rw [add_block]; exact Kd.own_blk (raw_row_ne HI526.out HO_4.out (by decide))) | (show (Addr.add _ _).block ≠ _; rw [add_block]; exact Kd.own_blk (raw_row_ne HI526.out HO_4.out (by decide))) | exact Kd.own_blk (raw_row_ne HI526.out HO_4.out (by decide)))
                       have HS1_ := keep_cell_r hk (hHeld.2.1) (by first | (rw [add_block]; exact Kd.own_blk (IsS71.own_ne HI526.out HO_4.out (by decide))) | (show (Addr.add _ _).block ≠ _; rw [add_block]; exact Kd.own_blk (IsS71.own_ne HI526.out HO_4.out (by decide))) | exact Kd.own_blk (IsS71.own_ne HI526.out HO_4.out (by decide))) (by first | (rw [add_block]; exact Kd.own_blk (raw_row_ne HI526.out HO_4.out (by decide))) | (show (Addr.add _ _).block ≠ _; rw [add_block]; exact Kd.own_blk (raw_row_ne HI526.out HO_4.out (by decide))) | exact Kd.own_blk (raw_row_ne HI526.out HO_4.out (by decide)))
                       have HS2_ := keep_cell_r hk (hHeld.2.2.1) (by first | (rw [add_block]; exact Kd.own_blk (IsS71.own_ne HI526.out HO_4.out (by decide))) | (show (Addr.add _ _).block ≠ _; rw [add_block]; exact Kd.own_blk (IsS71.own_ne HI526.out HO_4.out (by decide))) | exact Kd.own_blk (IsS71.own_ne HI526.out HO_4.out (by decide))) (by first | (rw [add_block]; exact Kd.own_blk (raw_row_ne HI526.out HO_4.out (by decide))) | (show (Addr.add _ _).block ≠ _; rw [add_block]; exact Kd.own_blk (raw_row_ne HI526.out HO_4.out (by decide))) | exact Kd.own_blk (raw_row_ne HI526.out HO_4.out (by decide)))
                       have HS3_ := keep_cell_r hk (hHeld.2.2.2) (by first | (rw [add_block]; exact Kd.own_blk (IsS71.own_ne HI526.out HO_4.out (by decide))) | (show (Addr.add _ _).block ≠ _; rw [add_block]; exact Kd.own_blk (IsS71.own_ne HI526.out HO_4.out (by decide))) | exact Kd.own_blk (IsS71.own_ne HI526.out HO_4.out (by decide))) (by first | (rw [add_block]; exact Kd.own_blk (raw_row_ne HI526.out HO_4.out (by decide))) | (show (Addr.add _ _).block ≠ _; rw [add_block]; exact Kd.own_blk (raw_row_ne HI526.out HO_4.out (by decide))) | exact Kd.own_blk (raw_row_ne HI526.out HO_4.out (by decide)))
                       refine ⟨_, rfl, ?_⟩
                       replace HO_4 := Aside0.mk (raw_row_keep (show IsS71 w _ g526 t531 t532 t533 t534 t535 t536 t537 t538 t539 from by repeat (first | (with_reducible first | exact HI526.out | apply IsS71.alloc | apply IsS71.drewN | apply IsS71.drew | apply IsS71.set_0 | apply IsS71.set_1 | apply IsS71.set_2 | apply IsS71.set_3 | apply IsS71.set_4 | apply IsS71.set_5 | apply IsS71.set_6 | apply IsS71.set_7 | apply IsS71.set_8) | exact HI526.out)) (rp_ HO_4.out) hk (by decide))
                       replace HB := Aside0.mk (hb)
                       replace HI526 := Aside0.mk (hi)
                       (try clear hb)
                       (try clear hb2)
                       (try clear hk)
                       (try clear hi)
                       refine hK.out _ _ ⟨HS0_, HS1_, HS2_, HS3_⟩ (fun hHeld => ?_)
                       clear hK K
                       refine norm_ (a' := ?_) ?_ ?_
                       rotate_left
                       · show Act.put _ (some 62) _ = _
                         simp only [Act.put, List.setIfInBounds_toArray, List.set_cons_zero, List.set_cons_succ, i64_w, i32_w]
                         rfl
                       refine pur_ (i := 14) (N := some 63) Fl129 (any_of HT_.out (by kernel_rfl)) ?_
                       refine pur_ (i := 15) (N := some 64) Fl130 (any_of HT_.out (by kernel_rfl)) ?_
                       refine pur_ (i := 16) (N := some 65) Fl131 (any_of HT_.out (by kernel_rfl)) ?_
                       refine pun_ (i := 17) (N := some 66) Fl132 (any_of HT_.out (by kernel_rfl)) ?_
                       refine pun_ (i := 18) (N := some 67) Fl133 (any_of HT_.out (by kernel_rfl)) ?_
                       refine pun_ (i := 19) (N := some 68) Fl134 (any_of HT_.out (by kernel_rfl)) ?_
                       refine pur_ (i := 20) (N := some 69) Fl135 (any_of HT_.out (by kernel_rfl)) ?_
                       refine pur_ (i := 21) (N := some 70) Fl136 (any_of HT_.out (by kernel_rfl)) ?_
                       refine done_ (done_of HT_.out (by kernel_rfl)) ?_
                       try go_wp2
                       go_ret
                       exact ⟨by first | rfl | (simp [errW_none, errW_some] <;> rfl) | (simp [*, errW_none, errW_some] <;> rfl), by repeat (first | (with_reducible first | exact HB.out | apply below_alloc | apply pw_below_drewN | apply below_drew1 | refine below_set ?_ (IsS71.ge HI526.out)) | exact HB.out)⟩
                   · rw [if_neg c30] at H
                     have c30b0 : (t530 == t541) = false := beq_eq_false_iff_ne.mpr c30
                     have c30b1 : (t530 != t541) = true := bne_iff_ne.mpr c30
                     obtain rfl := Option.some.inj H
                     try go_wp2
                     (try (rw [drewN_self wc]; generalize hq_ : World.drewN wc _ = wc; have n0_ := Aside0.mk (qrp_ hq_ HO_4.out); have n1_ : Aside0 (IsS71 w wc g526 t517 t518 t519 t520 t521 t522 t523 t524 t525) := ⟨by rw [← hq_]; exact (by repeat (first | (with_reducible first | exact HI526.out | apply IsS71.alloc | apply IsS71.drewN | apply IsS71.drew | apply IsS71.set_0 | apply IsS71.set_1 | apply IsS71.set_2 | apply IsS71.set_3 | apply IsS71.set_4 | apply IsS71.set_5 | apply IsS71.set_6 | apply IsS71.set_7 | apply IsS71.set_8) | exact HI526.out))⟩; have n2_ : Aside0 (Below w.heap.size w wc) := ⟨by rw [← hq_]; exact (by repeat (first | (with_reducible first | exact HB.out | apply below_alloc | apply pw_below_drewN | apply below_drew1 | refine below_set ?_ (IsS71.ge HI526.out)) | exact HB.out))⟩; clear HO_4 HI526 HB hq_; have HO_4 := n0_; have HI526 := n1_; have HB := n2_; clear n0_ n1_ n2_))
                     replace HO_4 := Aside0.mk (Kd.R_drew HO_4.out)
                     replace HI526 := Aside0.mk (IsS71.drew HI526.out)
                     replace HB := Aside0.mk (below_drew1 HB.out)
                     have p540 : 0 ≤ (x5_1 : Int) := of_decide_eq_true (by first | (with_reducible assumption) | assumption)
                     have q540 : x5_1 < (y513.length : Int) := of_decide_eq_true (by first | (with_reducible assumption) | assumption)
                     obtain ⟨ad540, e540, hx540_0, hx540_1, hx540_2, hx540_3⟩ := at_T23 (Kd.R_reads' HO_4.out).2.2 x5_1 p540 q540
                     obtain rfl : ad516 = ad540 := (by injection e540)
                     replace p540 := eq_true p540
                     replace q540 := eq_true q540
                     refine start_ (n := 22) (S := fun w' => w'.cell? (ad516.add ((x5_1).toNat * 4)) = some (.int .i64 ((rd_T23 y513 x5_1).f0)) ∧ w'.cell? ⟨(ad516.add ((x5_1).toNat * 4)).block, (ad516.add ((x5_1).toNat * 4)).off + 1, none⟩ = some (.int .i64 ((rd_T23 y513 x5_1).f1)) ∧ w'.cell? ⟨(ad516.add ((x5_1).toNat * 4)).block, (ad516.add ((x5_1).toNat * 4)).off + 2, none⟩ = some (.int .i64 ((rd_T23 y513 x5_1).f2)) ∧ w'.cell? ⟨(ad516.add ((x5_1).toNat * 4)).block, (ad516.add ((x5_1).toNat * 4)).off + 3, none⟩ = some (.int .i64 ((rd_T23 y513 x5_1).f3))) (ds := []) Fl118 (by kernel_rfl) rfl rfl ⟨hx540_0, hx540_1, hx540_2, hx540_3⟩ (fun hHeld => ?_); refine with_tabW chequerlaw09_RawNew.tab10 chequerlaw09_RawNew.bits10 (fun HT_ HW_ => ?_)
                     generalize wc.drew = w49 at HO_4 HI526 HB hx540_0 hx540_1 hx540_2 hx540_3 hHeld ⊢
                     refine pur_ (i := 0) (N := some 49) Fl119 (any_of HT_.out (by kernel_rfl)) ?_
                     refine pur_ (i := 1) (N := some 50) Fl120 (any_of HT_.out (by kernel_rfl)) ?_
                     refine pur_ (i := 2) (N := some 51) Fl121 (any_of HT_.out (by kernel_rfl)) ?_
                     refine pur_ (i := 3) (N := some 52) Fl122 (any_of HT_.out (by kernel_rfl)) ?_
                     refine pur_ (i := 5) (N := some 54) Fl137 (any_of HT_.out (by kernel_rfl)) ?_
                     refine pur_ (i := 6) (N := some 55) Fl138 (any_of HT_.out (by kernel_rfl)) ?_
                     refine pur_ (i := 7) (N := some 56) Fl139 (any_of HT_.out (by kernel_rfl)) ?_
                     refine take_ (i := 8) (N := some 57) (v := ?_) (a' := ?_) Fl140 rfl rfl (take_ofW HT_.out HW_.out (by kernel_rfl)) (fun _ _ _ h => h) (Or.inl ⟨by rfl, ?_⟩) hHeld ?_ ?_
                     rotate_left
                     · rintro w' ⟨s0, s1, s2, s3⟩
                       go_simp
                       with_reducible rfl
                     rotate_left
                     · simp only [Act.put, List.setIfInBounds_toArray, List.set_cons_zero, List.set_cons_succ, i64_w, i32_w]
                       rfl
                     refine one_ (i := 4) (N := some 53) Fl123 rfl rfl (one_of HT_.out (by kernel_rfl)) (by decide) (fun K hK => ?_)
                     refine goes_ Try.func20 (by kernel_rfl) rfl #[.pointer (some ⟨g526, 0, none⟩)] (by rfl) rfl rfl (by (try simp only [List.map_toArray, List.map_cons, List.map_nil]); first | done | rfl | (simp only [List.length_drop, List.length_take]; rfl)) ?_
                     with_reducible refine (raw_Reader_Left.calls g526 t517 t518 t519 t520 t521 t522 t523 t524 t525 t530 t531 t532 t533 t534 t535 t536 t537 t538 t539 w _ ?side1 ?side2 A26.out).mono ?_
                     (case side1 => repeat (first | (with_reducible first | exact HI526.out | apply IsS71.alloc | apply IsS71.drewN | apply IsS71.drew | apply IsS71.set_0 | apply IsS71.set_1 | apply IsS71.set_2 | apply IsS71.set_3 | apply IsS71.set_4 | apply IsS71.set_5 | apply IsS71.set_6 | apply IsS71.set_7 | apply IsS71.set_8) | exact HI526.out))
                     (case side2 => repeat (first | (with_reducible first | exact HB.out | apply below_alloc | apply pw_below_drewN | apply below_drew1 | refine below_set ?_ (IsS71.ge HI526.out)) | exact HB.out))
                     rintro e w50 ⟨rfl, hi, hb, hk⟩
                     have HS0_ := keep_cell_r hk (hHeld.1) (by first | (rw [add_block]; exact Kd.own_blk (IsS71.own_ne HI526.out HO_4.out (by decide))) | (show (Addr.add _ _).block ≠ _; rw [add_block]; exact Kd.own_blk (IsS71.own_ne HI526.out HO_4.out (by decide))) | exact Kd.own_blk (IsS71.own_ne HI526.out HO_4.out (by decide))) (by first | (rw [add_block]; exact Kd.own_blk (raw_row_ne HI526.out HO_4.out (by decide))) | (show (Addr.add _ _).block ≠ _; rw [add_block]; exact Kd.own_blk (raw_row_ne HI526.out HO_4.out (by decide))) | exact Kd.own_blk (raw_row_ne HI526.out HO_4.out (by decide)))
                     have HS1_ := keep_cell_r hk (hHeld.2.1) (by first | (rw [add_block]; exact Kd.own_blk (IsS71.own_ne HI526.out HO_4.out (by decide))) | (show (Addr.add _ _).block ≠ _; rw [add_block]; exact Kd.own_blk (IsS71.own_ne HI526.out HO_4.out (by decide))) | exact Kd.own_blk (IsS71.own_ne HI526.out HO_4.out (by decide))) (by first | (rw [add_block]; exact Kd.own_blk (raw_row_ne HI526.out HO_4.out (by decide))) | (show (Addr.add _ _).block ≠ _; rw [add_block]; exact Kd.own_blk (raw_row_ne HI526.out HO_4.out (by decide))) | exact Kd.own_blk (raw_row_ne HI526.out HO_4.out (by decide)))
                     have HS2_ := keep_cell_r hk (hHeld.2.2.1) (by first | (rw [add_block]; exact Kd.own_blk (IsS71.own_ne HI526.out HO_4.out (by decide))) | (show (Addr.add _ _).block ≠ _; rw [add_block]; exact Kd.own_blk (IsS71.own_ne HI526.out HO_4.out (by decide))) | exact Kd.own_blk (IsS71.own_ne HI526.out HO_4.out (by decide))) (by first | (rw [add_block]; exact Kd.own_blk (raw_row_ne HI526.out HO_4.out (by decide))) | (show (Addr.add _ _).block ≠ _; rw [add_block]; exact Kd.own_blk (raw_row_ne HI526.out HO_4.out (by decide))) | exact Kd.own_blk (raw_row_ne HI526.out HO_4.out (by decide)))
                     have HS3_ := keep_cell_r hk (hHeld.2.2.2) (by first | (rw [add_block]; exact Kd.own_blk (IsS71.own_ne HI526.out HO_4.out (by decide))) | (show (Addr.add _ _).block ≠ _; rw [add_block]; exact Kd.own_blk (IsS71.own_ne HI526.out HO_4.out (by decide))) | exact Kd.own_blk (IsS71.own_ne HI526.out HO_4.out (by decide))) (by first | (rw [add_block]; exact Kd.own_blk (raw_row_ne HI526.out HO_4.out (by decide))) | (show (Addr.add _ _).block ≠ _; rw [add_block]; exact Kd.own_blk (raw_row_ne HI526.out HO_4.out (by decide))) | exact Kd.own_blk (raw_row_ne HI526.out HO_4.out (by decide)))
                     refine ⟨_, rfl, ?_⟩
                     replace HO_4 := Aside0.mk (raw_row_keep (show IsS71 w _ g526 t517 t518 t519 t520 t521 t522 t523 t524 t525 from by repeat (first | (with_reducible first | exact HI526.out | apply IsS71.alloc | apply IsS71.drewN | apply IsS71.drew | apply IsS71.set_0 | apply IsS71.set_1 | apply IsS71.set_2 | apply IsS71.set_3 | apply IsS71.set_4 | apply IsS71.set_5 | apply IsS71.set_6 | apply IsS71.set_7 | apply IsS71.set_8) | exact HI526.out)) (rp_ HO_4.out) hk (by decide))
                     replace HB := Aside0.mk (hb)
                     replace HI526 := Aside0.mk (hi)
                     (try clear hb)
                     (try clear hb2)
                     (try clear hk)
                     (try clear hi)
                     refine hK.out _ _ ⟨HS0_, HS1_, HS2_, HS3_⟩ (fun hHeld => ?_)
                     clear hK K
                     refine norm_ (a' := ?_) ?_ ?_
                     rotate_left
                     · show Act.put _ (some 53) _ = _
                       simp only [Act.put, List.setIfInBounds_toArray, List.set_cons_zero, List.set_cons_succ, i64_w, i32_w]
                       rfl
                     refine one_ (i := 9) (N := some 58) Fl124 rfl rfl (one_of HT_.out (by kernel_rfl)) (by decide) (fun K hK => ?_)
                     refine goes_ Try.func12 (by kernel_rfl) rfl #[.agg #[.int .i64 ((rd_T23 y513 x5_1).f0), .int .i64 ((rd_T23 y513 x5_1).f1), .int .i64 ((rd_T23 y513 x5_1).f2), .int .i64 ((rd_T23 y513 x5_1).f3)]] (by rfl) rfl rfl (by (try simp only [List.map_toArray, List.map_cons, List.map_nil]); first | done | rfl | (simp only [List.length_drop, List.length_take]; rfl)) ?_
                     with_reducible refine (chequerref06_Size.calls ((rd_T23 y513 x5_1).f0) ((rd_T23 y513 x5_1).f1) ((rd_T23 y513 x5_1).f2) ((rd_T23 y513 x5_1).f3) t541 _ A29.out).mono ?_
                     rintro e w51 ⟨rfl, hb⟩
                     have HS0_ := (hb.cell (World.block_lt_of_cell? _ _ (hHeld.1))).trans (hHeld.1)
                     have HS1_ := (hb.cell (World.block_lt_of_cell? _ _ (hHeld.2.1))).trans (hHeld.2.1)
                     have HS2_ := (hb.cell (World.block_lt_of_cell? _ _ (hHeld.2.2.1))).trans (hHeld.2.2.1)
                     have HS3_ := (hb.cell (World.block_lt_of_cell? _ _ (hHeld.2.2.2))).trans (hHeld.2.2.2)
                     refine ⟨_, rfl, ?_⟩
                     replace HO_4 := Aside0.mk (Kd.R_below (rp_ HO_4.out) hb)
                     replace HB := Aside0.mk (below_step (by repeat (first | (with_reducible first | exact HB.out | apply below_alloc | apply pw_below_drewN | apply below_drew1 | refine below_set ?_ (IsS71.ge HI526.out)) | exact HB.out)) hb)
                     replace HI526 := Aside0.mk (IsS71.below (by repeat (first | (with_reducible first | exact HI526.out | apply IsS71.alloc | apply IsS71.drewN | apply IsS71.drew | apply IsS71.set_0 | apply IsS71.set_1 | apply IsS71.set_2 | apply IsS71.set_3 | apply IsS71.set_4 | apply IsS71.set_5 | apply IsS71.set_6 | apply IsS71.set_7 | apply IsS71.set_8) | exact HI526.out)) hb)
                     (try clear hb)
                     (try clear hb2)
                     (try clear hk)
                     (try clear hi)
                     refine hK.out _ _ ⟨HS0_, HS1_, HS2_, HS3_⟩ (fun hHeld => ?_)
                     clear hK K
                     refine norm_ (a' := ?_) ?_ ?_
                     rotate_left
                     · show Act.put _ (some 58) _ = _
                       simp only [Act.put, List.setIfInBounds_toArray, List.set_cons_zero, List.set_cons_succ, i64_w, i32_w]
                       rfl
                     refine pur_ (i := 10) (N := some 59) Fl125 (any_of HT_.out (by kernel_rfl)) ?_
                     refine pur_ (i := 11) (N := some 60) Fl126 (any_of HT_.out (by kernel_rfl)) ?_
                     refine pun_ (i := 12) (N := some 61) Fl127 (any_of HT_.out (by kernel_rfl)) ?_
                     refine pun_ (i := 13) (N := some 62) Fl128 (any_of HT_.out (by kernel_rfl)) ?_
                     refine pun_ (i := 14) (N := some 63) Fl129 (any_of HT_.out (by kernel_rfl)) ?_
                     refine pur_ (i := 15) (N := some 64) Fl130 (any_of HT_.out (by kernel_rfl)) ?_
                     refine pur_ (i := 16) (N := some 65) Fl131 (any_of HT_.out (by kernel_rfl)) ?_
                     refine pun_ (i := 17) (N := some 66) Fl132 (any_of HT_.out (by kernel_rfl)) ?_
                     refine pun_ (i := 18) (N := some 67) Fl133 (any_of HT_.out (by kernel_rfl)) ?_
                     refine pun_ (i := 19) (N := some 68) Fl134 (any_of HT_.out (by kernel_rfl)) ?_
                     refine pur_ (i := 20) (N := some 69) Fl135 (any_of HT_.out (by kernel_rfl)) ?_
                     refine pur_ (i := 21) (N := some 70) Fl136 (any_of HT_.out (by kernel_rfl)) ?_
                     refine done_ (done_of HT_.out (by kernel_rfl)) ?_
                     try go_wp2
                     go_ret
                     exact ⟨by first | rfl | (simp [errW_none, errW_some] <;> rfl) | (simp [*, errW_none, errW_some] <;> rfl), by repeat (first | (with_reducible first | exact HB.out | apply below_alloc | apply pw_below_drewN | apply below_drew1 | refine below_set ?_ (IsS71.ge HI526.out)) | exact HB.out)⟩
                 · rw [if_neg c28] at H
                   exact absurd H (by simp)
               · rw [if_neg c27] at H
                 exact absurd H (by simp)
         · rw [if_neg c15] at H
           have c15b0 : (rawMayI ((rd_T23 y513 x5_1).f0) ((rd_T23 y513 x5_1).f1) ((rd_T23 y513 x5_1).f2) ((rd_T23 y513 x5_1).f3) == 1) = false := beq_eq_false_iff_ne.mpr c15
           have c15b1 : (rawMayI ((rd_T23 y513 x5_1).f0) ((rd_T23 y513 x5_1).f1) ((rd_T23 y513 x5_1).f2) ((rd_T23 y513 x5_1).f3) != 1) = true := bne_iff_ne.mpr c15
           replace H := Option.bind_eq_some_iff.mp H
           obtain ⟨t562, A520, H⟩ := H
           replace H : ((chequerref09_May.f ((rd_T23 y513 x5_1).f0) ((rd_T23 y513 x5_1).f1) ((rd_T23 y513 x5_1).f2) ((rd_T23 y513 x5_1).f3)).bind fun t564 => (if (false != t564) = true then (chequerlaw09_RawNew.j2 k1 y513 x5_1 true t508 t509 t510 t511) else (if ((t562 == 0) != t564) = true then (chequerlaw09_RawNew.j2 k1 y513 x5_1 true t508 t509 t510 t511) else (if t564 = true then (chequerlaw09_RawNew.j2 k1 y513 x5_1 false t508 t509 t510 t511) else (chequerlaw09_RawNew.j2 k1 y513 x5_1 (t562 != 1) t508 t509 t510 t511))))) = some r := H
           have A52 := Aside0.mk A520
           clear A520
           replace H := Option.bind_eq_some_iff.mp H
           obtain ⟨t564, A530, H⟩ := H
           replace H : (if (false != t564) = true then (chequerlaw09_RawNew.j2 k1 y513 x5_1 true t508 t509 t510 t511) else (if ((t562 == 0) != t564) = true then (chequerlaw09_RawNew.j2 k1 y513 x5_1 true t508 t509 t510 t511) else (if t564 = true then (chequerlaw09_RawNew.j2 k1 y513 x5_1 false t508 t509 t510 t511) else (chequerlaw09_RawNew.j2 k1 y513 x5_1 (t562 != 1) t508 t509 t510 t511)))) = some r := H
           have A53 := Aside0.mk A530
           clear A530
           have HC54 := Aside0.mk H
           clear H
           obtain ⟨Ao55, co55, eo55⟩ := Kd.R_slice HO_4.out
           subst eo55
           have p516 : 0 ≤ (x5_1 : Int) := of_decide_eq_true (by first | (with_reducible assumption) | assumption)
           have q516 : x5_1 < (y513.length : Int) := of_decide_eq_true (by first | (with_reducible assumption) | assumption)
           obtain ⟨ad516, e516, hx516_0, hx516_1, hx516_2, hx516_3⟩ := at_T23 (Kd.R_reads' HO_4.out).2.2 x5_1 p516 q516
           cases e516
           replace p516 := eq_true p516
           replace q516 := eq_true q516
           go_upto_region 8 with (first | ((with_reducible refine gate_callee (f := 18) rfl ?_); refine goQ_ (some 23) Try.func18 #[.agg #[.int .i64 ((rd_T23 y513 x5_1).f0), .int .i64 ((rd_T23 y513 x5_1).f1), .int .i64 ((rd_T23 y513 x5_1).f2), .int .i64 ((rd_T23 y513 x5_1).f3)]] ?_; (with_reducible refine (raw_NewNil.calls ((rd_T23 y513 x5_1).f0) ((rd_T23 y513 x5_1).f1) ((rd_T23 y513 x5_1).f2) ((rd_T23 y513 x5_1).f3) t562 _ A52.out).mono ?_); rintro e w56 ⟨rfl, hb⟩; refine ⟨_, rfl, ?_⟩; replace HO_4 := Aside0.mk (Kd.R_below (rp_ HO_4.out) hb); replace BK507 := Aside0.mk (blk_below (hp_ BK507.out) hb); replace BK512 := Aside0.mk (blk_below (hp_ BK512.out) hb); replace HB := Aside0.mk (below_step bp_ hb); (try clear hb); (try clear hb2); (try clear hk); (try clear hi); have p563 : 0 ≤ (x5_1 : Int) := of_decide_eq_true (by first | (with_reducible assumption) | assumption); have q563 : x5_1 < (y513.length : Int) := of_decide_eq_true (by first | (with_reducible assumption) | assumption); obtain ⟨ad563, e563, hx563_0, hx563_1, hx563_2, hx563_3⟩ := at_T23 (Kd.R_reads' HO_4.out).2.2 x5_1 p563 q563; obtain rfl : ad516 = ad563 := (by injection e563); replace p563 := eq_true p563; replace q563 := eq_true q563) | ((with_reducible refine gate_callee (f := 28) rfl ?_); refine goQ_ (some 30) Try.func28 #[.agg #[.int .i64 ((rd_T23 y513 x5_1).f0), .int .i64 ((rd_T23 y513 x5_1).f1), .int .i64 ((rd_T23 y513 x5_1).f2), .int .i64 ((rd_T23 y513 x5_1).f3)]] ?_; (with_reducible refine (chequerref09_May.calls ((rd_T23 y513 x5_1).f0) ((rd_T23 y513 x5_1).f1) ((rd_T23 y513 x5_1).f2) ((rd_T23 y513 x5_1).f3) t564 _ A53.out).mono ?_); rintro e w57 ⟨rfl, hb⟩; refine ⟨_, rfl, ?_⟩; replace HO_4 := Aside0.mk (Kd.R_below (rp_ HO_4.out) hb); replace BK507 := Aside0.mk (blk_below (hp_ BK507.out) hb); replace BK512 := Aside0.mk (blk_below (hp_ BK512.out) hb); replace HB := Aside0.mk (below_step bp_ hb); (try clear hb); (try clear hb2); (try clear hk); (try clear hi)))
           (try simp only [Act.put, List.setIfInBounds_toArray, List.set_cons_zero, List.set_cons_succ])
           go_cut [48] (fun v48 wc => ∃ (kq : Nat) (x48_53 : Bool), v48 = .bool x48_53 ∧ Aside0 (chequerlaw09_RawNew.j2 kq y513 x5_1 x48_53 t508 t509 t510 t511 = some r) ∧ Aside0 (kq ≤ k1) ∧ Aside0 (Kd.R k23 23 wc w.heap.size (fun k_ => k_ ≠ gb507 ∧ k_ ≠ gb512) (.slice (some ad516) y513.length co55) y513) ∧ Aside0 (wc.heap[gb507]? = some (.cells #[.int .i64 a0_0, .int .i64 a0_1, .int .i64 a0_2, .int .i64 a0_3] 23 (0, 0))) ∧ Aside0 (wc.heap[gb512]? = some (.cells #[.int .i64 t508, .int .i64 t509, .int .i64 t510, .int .i64 t511] 23 (0, 0))) ∧ Aside0 (Below w.heap.size w wc))
           case first =>
            have H := HC54.out
            clear HC54
            by_cases c58 : (false != t564) = true
            · rw [if_pos c58] at H
              have c58b0 : (false != t564) = true := c58
              (try (have c58b1 : decide (false = t564) = false := by simpa using c58))
              (try (have c58b2 : (false == t564) = false := by simpa using c58))
              (try (have c58b3 : ¬ (false = t564) := by simpa using c58))
              clear c58
              (first | rw [c58b0] | (simp only [i64_w, i32_w]; rw [c58b0]) | skip)
              have H' := Aside0.mk H
              clear H
              go_wp2
              go_meet
              case rel => exact ⟨_, (true), (by first | rfl | (simp; done) | (simp [*]; done)), H', ⟨by have := HK1.out; first | omega | exact Nat.le_refl _⟩, ⟨rp_ HO_4.out⟩, ⟨hp_ BK507.out⟩, ⟨hp_ BK512.out⟩, ⟨bp_⟩⟩
            · rw [if_neg c58] at H
              have c58b0 : (false != t564) = false := by simpa using c58
              (try (have c58b1 : decide (false = t564) = true := by simpa using c58))
              (try (have c58b2 : (false == t564) = true := by simpa using c58))
              clear c58
              (first | rw [c58b0] | (simp only [i64_w, i32_w]; rw [c58b0]) | skip)
              by_cases c59 : ((t562 == 0) != t564) = true
              · rw [if_pos c59] at H
                have c59b0 : ((t562 == 0) != t564) = true := c59
                (try (have c59b1 : decide ((t562 == 0) = t564) = false := by simpa using c59))
                (try (have c59b2 : ((t562 == 0) == t564) = false := by simpa using c59))
                (try (have c59b3 : ¬ ((t562 == 0) = t564) := by simpa using c59))
                clear c59
                have H' := Aside0.mk H
                clear H
                go_wp2
                go_meet
                case rel => exact ⟨_, (true), (by first | rfl | (simp; done) | (simp [*]; done)), H', ⟨by have := HK1.out; first | omega | exact Nat.le_refl _⟩, ⟨rp_ HO_4.out⟩, ⟨hp_ BK507.out⟩, ⟨hp_ BK512.out⟩, ⟨bp_⟩⟩
              · rw [if_neg c59] at H
                have c59b0 : ((t562 == 0) != t564) = false := by simpa using c59
                (try (have c59b1 : decide ((t562 == 0) = t564) = true := by simpa using c59))
                (try (have c59b2 : ((t562 == 0) == t564) = true := by simpa using c59))
                clear c59
                by_cases c60 : t564 = true
                · subst c60
                  have H1 : (chequerlaw09_RawNew.j2 k1 y513 x5_1 false t508 t509 t510 t511) = some r := by rw [if_pos rfl] at H; exact H
                  clear H
                  have H := H1
                  clear H1
                  have H' := Aside0.mk H
                  clear H
                  go_wp2
                  go_meet
                  case rel => exact ⟨_, (false), (by first | rfl | (simp; done) | (simp [*]; done)), H', ⟨by have := HK1.out; first | omega | exact Nat.le_refl _⟩, ⟨rp_ HO_4.out⟩, ⟨hp_ BK507.out⟩, ⟨hp_ BK512.out⟩, ⟨bp_⟩⟩
                · replace c60 := Bool.eq_false_iff.mpr c60
                  subst c60
                  have H1 : (chequerlaw09_RawNew.j2 k1 y513 x5_1 (t562 != 1) t508 t509 t510 t511) = some r := by rw [if_neg (show ¬ (false = true) by decide)] at H; exact H
                  clear H
                  have H := H1
                  clear H1
                  have H' := Aside0.mk H
                  clear H
                  go_wp2
                  go_meet
                  case rel => exact ⟨_, ((t562 != 1)), (by first | rfl | (simp; done) | (simp [*]; done)), H', ⟨by have := HK1.out; first | omega | exact Nat.le_refl _⟩, ⟨rp_ HO_4.out⟩, ⟨hp_ BK507.out⟩, ⟨hp_ BK512.out⟩, ⟨bp_⟩⟩
           case rest =>
            clear HC54
            try clear c1
            try clear c2
            try clear p2
            try clear c3
            try clear c5
            try clear p5
            try clear q5
            try clear hx5
            try clear c6
            try clear c12
            try clear c15
            try clear c15b0
            try clear c15b1
            try clear c18
            try clear c20
            try clear c21
            try clear c27
            try clear c28
            try clear c30
            try clear c30b0
            try clear c30b1
            try clear c32
            try clear c32b0
            try clear c32b1
            try clear p51
            try clear q51
            try clear hx51
            try clear p54
            try clear q54
            try clear hx54
            try clear p56
            try clear q56
            try clear hx56
            try clear c58
            try clear c58b0
            try clear c58b1
            try clear c58b2
            try clear c59
            try clear c59b0
            try clear c59b1
            try clear c59b2
            try clear c60
            try clear hx516_0
            try clear hx516_1
            try clear hx516_2
            try clear hx516_3
            try clear hx540_0
            try clear hx540_1
            try clear hx540_2
            try clear hx540_3
            try clear hx563_0
            try clear hx563_1
            try clear hx563_2
            try clear hx563_3
            try clear p516
            try clear p540
            try clear p563
            try clear q516
            try clear q540
            try clear q563
            obtain ⟨kq, x48_53, rfl, HA, HJ53, HO_4, BK507, BK512, HB⟩ := hcut
            cases kq with
            | zero => exact absurd HA.out (by simp [chequerlaw09_RawNew.j2])
            | succ kj53 =>
             have H := HA.out
             clear HA
             simp only [chequerlaw09_RawNew.j2] at H
             by_cases c61 : x48_53 = true
             · subst c61
               have H1 : (some false) = some r := by rw [if_pos rfl] at H; exact H
               clear H
               have H := H1
               clear H1
               obtain rfl := Option.some.inj H
               go_wp2
               go_ret
               exact ⟨by first | rfl | (simp [errW_none, errW_some] <;> rfl) | (simp [*, errW_none, errW_some] <;> rfl), bp_⟩
             · replace c61 := Bool.eq_false_iff.mpr c61
               subst c61
               have H1 : (chequerlaw09_RawNew.l0 kj53 y513 (wrap64 (x5_1 + 1)) t508 t509 t510 t511) = some r := by rw [if_neg (show ¬ (false = true) by decide)] at H; exact H
               clear H
               have H := H1
               clear H1
               have H' := Aside0.mk H
               clear H
               try go_wp2
               (try (rw [drewN_self wc]; generalize hq_ : World.drewN wc _ = wc; have n0_ := Aside0.mk (qrp_ hq_ HO_4.out); have n1_ := Aside0.mk (qhp_ hq_ BK507.out); have n2_ := Aside0.mk (qhp_ hq_ BK512.out); have n3_ : Aside0 (Below w.heap.size w wc) := ⟨qbp_ hq_⟩; clear HO_4 BK507 BK512 HB hq_; have HO_4 := n0_; have BK507 := n1_; have BK512 := n2_; have HB := n3_; clear n0_ n1_ n2_ n3_))
               replace HO_4 := Aside0.mk (Kd.R_drew HO_4.out)
               replace BK507 := Aside0.mk (blk_drew BK507.out)
               replace BK512 := Aside0.mk (blk_drew BK512.out)
               replace HB := Aside0.mk (below_drew1 HB.out)
               refine start_ (n := 22) (S := fun w' => True) (ds := []) Fl118 (by kernel_rfl) rfl rfl trivial (fun hHeld => ?_); refine with_tabW chequerlaw09_RawNew.tab10 chequerlaw09_RawNew.bits10 (fun HT_ HW_ => ?_)
               generalize wc.drew = w62 at HO_4 BK507 BK512 HB hHeld ⊢
               refine pur_ (i := 0) (N := some 49) Fl119 (any_of HT_.out (by kernel_rfl)) ?_
               refine pur_ (i := 1) (N := some 50) Fl120 (any_of HT_.out (by kernel_rfl)) ?_
               refine pur_ (i := 2) (N := some 51) Fl121 (any_of HT_.out (by kernel_rfl)) ?_
               refine pun_ (i := 3) (N := some 52) Fl122 (any_of HT_.out (by kernel_rfl)) ?_
               refine pun_ (i := 4) (N := some 53) #[true, true, true, true, true, false, false, false, false, false, false, false, false, false, false, false, false, false, false, false, false, false] (any_of HT_.out (by kernel_rfl)) ?_
               refine pun_ (i := 5) (N := some 54) #[true, true, true, true, true, true, false, false, false, false, false, false, false, false, false, false, false, false, false, false, false, false] (any_of HT_.out (by kernel_rfl)) ?_
               refine pun_ (i := 6) (N := some 55) #[true, true, true, true, true, true, true, false, false, false, false, false, false, false, false, false, false, false, false, false, false, false] (any_of HT_.out (by kernel_rfl)) ?_
               refine pun_ (i := 7) (N := some 56) #[true, true, true, true, true, true, true, true, false, false, false, false, false, false, false, false, false, false, false, false, false, false] (any_of HT_.out (by kernel_rfl)) ?_
               refine pun_ (i := 8) (N := some 57) Fl123 (any_of HT_.out (by kernel_rfl)) ?_
               refine pun_ (i := 9) (N := some 58) Fl124 (any_of HT_.out (by kernel_rfl)) ?_
               refine pun_ (i := 10) (N := some 59) Fl125 (any_of HT_.out (by kernel_rfl)) ?_
               refine pun_ (i := 11) (N := some 60) Fl126 (any_of HT_.out (by kernel_rfl)) ?_
               refine pun_ (i := 12) (N := some 61) Fl127 (any_of HT_.out (by kernel_rfl)) ?_
               refine pun_ (i := 13) (N := some 62) Fl128 (any_of HT_.out (by kernel_rfl)) ?_
               refine pun_ (i := 14) (N := some 63) Fl129 (any_of HT_.out (by kernel_rfl)) ?_
               refine pun_ (i := 15) (N := some 64) Fl130 (any_of HT_.out (by kernel_rfl)) ?_
               refine pun_ (i := 16) (N := some 65) Fl131 (any_of HT_.out (by kernel_rfl)) ?_
               refine pun_ (i := 17) (N := some 66) Fl132 (any_of HT_.out (by kernel_rfl)) ?_
               refine pun_ (i := 18) (N := some 67) Fl133 (any_of HT_.out (by kernel_rfl)) ?_
               refine pun_ (i := 19) (N := some 68) Fl134 (any_of HT_.out (by kernel_rfl)) ?_
               refine pun_ (i := 20) (N := some 69) Fl135 (any_of HT_.out (by kernel_rfl)) ?_
               refine pur_ (i := 21) (N := some 70) Fl136 (any_of HT_.out (by kernel_rfl)) ?_
               refine done_ (done_of HT_.out (by kernel_rfl)) ?_
               try go_wp2
               go_roundg kj53
               case measure => have := HK1.out; have := HJ53.out; omega
               case rel => exact ⟨(wrap64 (x5_1 + 1)), (by first | rfl | (simp; done) | (simp [*]; done)), H', ⟨by have := HK1.out; have := HJ53.out; omega⟩, ⟨rp_ HO_4.out⟩, ⟨hp_ BK507.out⟩, ⟨hp_ BK512.out⟩, ⟨bp_⟩⟩
       · rw [if_neg c14] at H
         exact absurd H (by simp)
     · rw [if_neg c13] at H
       exact absurd H (by simp)
   · rw [if_neg c12] at H
     have c12b0 : decide (x5_1 < 2) = false := decide_eq_false c12
     clear c12
     replace H := Option.bind_eq_some_iff.mp H
     obtain ⟨t565, A630, H⟩ := H
     replace H : ((chequerref09_Stride.f t508 t509 t510 t511).bind fun t566 => (if t565 = t566 then ((raw_Stride.f t508 t509 t510 t511).bind fun t567 => ((chequerref06_Size.f t508 t509 t510 t511).bind fun t568 => (if (wrap64 (t567 * t510)) = t568 then ((chequerlaw09_lives.f k1).bind fun t569 => (some t569)) else (some false)))) else (some false))) = some r := H
     have A63 := Aside0.mk A630
     clear A630
     replace H := Option.bind_eq_some_iff.mp H
     obtain ⟨t566, A640, H⟩ := H
     replace H : (if t565 = t566 then ((raw_Stride.f t508 t509 t510 t511).bind fun t567 => ((chequerref06_Size.f t508 t509 t510 t511).bind fun t568 => (if (wrap64 (t567 * t510)) = t568 then ((chequerlaw09_lives.f k1).bind fun t569 => (some t569)) else (some false)))) else (some false)) = some r := H
     have A64 := Aside0.mk A640
     clear A640
     by_cases c65 : t565 = t566
     · rw [if_pos c65] at H
       have c65b0 : (t565 == t566) = true := beq_iff_eq.mpr c65
       have c65b1 : (t565 != t566) = false := bne_eq_false_iff_eq.mpr c65
       clear c65
       replace H := Option.bind_eq_some_iff.mp H
       obtain ⟨t567, A660, H⟩ := H
       replace H : ((chequerref06_Size.f t508 t509 t510 t511).bind fun t568 => (if (wrap64 (t567 * t510)) = t568 then ((chequerlaw09_lives.f k1).bind fun t569 => (some t569)) else (some false))) = some r := H
       have A66 := Aside0.mk A660
       clear A660
       replace H := Option.bind_eq_some_iff.mp H
       obtain ⟨t568, A670, H⟩ := H
       replace H : (if (wrap64 (t567 * t510)) = t568 then ((chequerlaw09_lives.f k1).bind fun t569 => (some t569)) else (some false)) = some r := H
       have A67 := Aside0.mk A670
       clear A670
       by_cases c68 : (wrap64 (t567 * t510)) = t568
       · rw [if_pos c68] at H
         have c68b0 : ((wrap64 (t567 * t510)) == t568) = true := beq_iff_eq.mpr c68
         have c68b1 : ((wrap64 (t567 * t510)) != t568) = false := bne_eq_false_iff_eq.mpr c68
         clear c68
         replace H := Option.bind_eq_some_iff.mp H
         obtain ⟨t569, A690, H⟩ := H
         replace H : (some t569) = some r := H
         have A69 := Aside0.mk A690
         clear A690
         obtain rfl := Option.some.inj H
         try go_wp2
         (try (rw [drewN_self wr]; generalize hq_ : World.drewN wr _ = wr; have n0_ := Aside0.mk (qrp_ hq_ HO_4.out); have n1_ := Aside0.mk (qhp_ hq_ BK512.out); have n2_ : Aside0 (Below w.heap.size w wr) := ⟨qbp_ hq_⟩; clear HO_4 BK512 HB hq_; have HO_4 := n0_; have BK512 := n1_; have HB := n2_; clear n0_ n1_ n2_))
         replace HO_4 := Aside0.mk (Kd.R_drew HO_4.out)
         replace BK512 := Aside0.mk (blk_drew BK512.out)
         replace HB := Aside0.mk (below_drew1 HB.out)
         refine start_ (n := 19) (S := fun w' => w'.cell? ⟨gb512, 0, none⟩ = some (.int .i64 t508) ∧ w'.cell? ⟨gb512, 1, none⟩ = some (.int .i64 t509) ∧ w'.cell? ⟨gb512, 2, none⟩ = some (.int .i64 t510) ∧ w'.cell? ⟨gb512, 3, none⟩ = some (.int .i64 t511)) (ds := []) Fl141 (by kernel_rfl) rfl rfl ⟨(blk_cell BK512.out 0).trans rfl, (blk_cell BK512.out 1).trans rfl, (blk_cell BK512.out 2).trans rfl, (blk_cell BK512.out 3).trans rfl⟩ (fun hHeld => ?_); refine with_tabW chequerlaw09_RawNew.tab12 chequerlaw09_RawNew.bits12 (fun HT_ HW_ => ?_)
         generalize wr.drew = w70 at HO_4 BK512 HB hHeld ⊢
         refine take_ (i := 0) (N := some 71) (v := ?_) (a' := ?_) Fl142 rfl rfl (take_ofW HT_.out HW_.out (by kernel_rfl)) (fun _ _ _ h => h) (Or.inl ⟨by rfl, ?_⟩) hHeld ?_ ?_
         rotate_left
         · rintro w' ⟨s0, s1, s2, s3⟩
           go_simp
           with_reducible rfl
         rotate_left
         · simp only [Act.put, List.setIfInBounds_toArray, List.set_cons_zero, List.set_cons_succ, i64_w, i32_w]
           rfl
         refine take_ (i := 2) (N := some 73) (v := ?_) (a' := ?_) Fl143 rfl rfl (take_ofW HT_.out HW_.out (by kernel_rfl)) (fun _ _ _ h => h) (Or.inl ⟨by rfl, ?_⟩) hHeld ?_ ?_
         rotate_left
         · rintro w' ⟨s0, s1, s2, s3⟩
           go_simp
           with_reducible rfl
         rotate_left
         · simp only [Act.put, List.setIfInBounds_toArray, List.set_cons_zero, List.set_cons_succ, i64_w, i32_w]
           rfl
         refine one_ (i := 1) (N := some 72) Fl144 rfl rfl (one_of HT_.out (by kernel_rfl)) (by decide) (fun K hK => ?_)
         refine goes_ Try.func26 (by kernel_rfl) rfl #[.agg #[.int .i64 t508, .int .i64 t509, .int .i64 t510, .int .i64 t511]] (by rfl) rfl rfl (by (try simp only [List.map_toArray, List.map_cons, List.map_nil]); first | done | rfl | (simp only [List.length_drop, List.length_take]; rfl)) ?_
         with_reducible refine (raw_Stride.calls t508 t509 t510 t511 t565 _ A63.out).mono ?_
         rintro e w71 ⟨rfl, hb⟩
         refine ⟨_, rfl, ?_⟩
         replace HO_4 := Aside0.mk (Kd.R_below (rp_ HO_4.out) hb)
         replace BK512 := Aside0.mk (blk_below (hp_ BK512.out) hb)
         replace HB := Aside0.mk (below_step bp_ hb)
         (try clear hb)
         (try clear hb2)
         (try clear hk)
         (try clear hi)
         refine hK.out _ _ ⟨(blk_cell BK512.out 0).trans rfl, (blk_cell BK512.out 1).trans rfl, (blk_cell BK512.out 2).trans rfl, (blk_cell BK512.out 3).trans rfl⟩ (fun hHeld => ?_)
         clear hK K
         refine norm_ (a' := ?_) ?_ ?_
         rotate_left
         · show Act.put _ (some 72) _ = _
           simp only [Act.put, List.setIfInBounds_toArray, List.set_cons_zero, List.set_cons_succ, i64_w, i32_w]
           rfl
         refine one_ (i := 3) (N := some 74) Fl145 rfl rfl (one_of HT_.out (by kernel_rfl)) (by decide) (fun K hK => ?_)
         refine goes_ Try.func22 (by kernel_rfl) rfl #[.agg #[.int .i64 t508, .int .i64 t509, .int .i64 t510, .int .i64 t511]] (by rfl) rfl rfl (by (try simp only [List.map_toArray, List.map_cons, List.map_nil]); first | done | rfl | (simp only [List.length_drop, List.length_take]; rfl)) ?_
         with_reducible refine (chequerref09_Stride.calls t508 t509 t510 t511 t566 _ A64.out).mono ?_
         rintro e w72 ⟨rfl, hb⟩
         refine ⟨_, rfl, ?_⟩
         replace HO_4 := Aside0.mk (Kd.R_below (rp_ HO_4.out) hb)
         replace BK512 := Aside0.mk (blk_below (hp_ BK512.out) hb)
         replace HB := Aside0.mk (below_step bp_ hb)
         (try clear hb)
         (try clear hb2)
         (try clear hk)
         (try clear hi)
         refine hK.out _ _ ⟨(blk_cell BK512.out 0).trans rfl, (blk_cell BK512.out 1).trans rfl, (blk_cell BK512.out 2).trans rfl, (blk_cell BK512.out 3).trans rfl⟩ (fun hHeld => ?_)
         clear hK K
         refine norm_ (a' := ?_) ?_ ?_
         rotate_left
         · show Act.put _ (some 74) _ = _
           simp only [Act.put, List.setIfInBounds_toArray, List.set_cons_zero, List.set_cons_succ, i64_w, i32_w]
           rfl
         refine pur_ (i := 4) (N := some 75) Fl146 (any_of HT_.out (by kernel_rfl)) ?_
         refine pur_ (i := 5) (N := some 76) Fl147 (any_of HT_.out (by kernel_rfl)) ?_
         refine pur_ (i := 8) (N := some 79) Fl156 (any_of HT_.out (by kernel_rfl)) ?_
         refine take_ (i := 6) (N := some 77) (v := ?_) (a' := ?_) Fl157 rfl rfl (take_ofW HT_.out HW_.out (by kernel_rfl)) (fun _ _ _ h => h) (Or.inl ⟨by rfl, ?_⟩) hHeld ?_ ?_
         rotate_left
         · rintro w' ⟨s0, s1, s2, s3⟩
           go_simp
           with_reducible rfl
         rotate_left
         · simp only [Act.put, List.setIfInBounds_toArray, List.set_cons_zero, List.set_cons_succ, i64_w, i32_w]
           rfl
         refine take_ (i := 9) (N := some 80) (v := ?_) (a' := ?_) Fl158 rfl rfl (take_ofW HT_.out HW_.out (by kernel_rfl)) (fun _ _ _ h => h) (Or.inl ⟨by rfl, ?_⟩) hHeld ?_ ?_
         rotate_left
         · rintro w' ⟨s0, s1, s2, s3⟩
           go_simp
           with_reducible rfl
         rotate_left
         · simp only [Act.put, List.setIfInBounds_toArray, List.set_cons_zero, List.set_cons_succ, i64_w, i32_w]
           rfl
         refine take_ (i := 11) (N := some 82) (v := ?_) (a' := ?_) Fl159 rfl rfl (take_ofW HT_.out HW_.out (by kernel_rfl)) (fun _ _ _ h => h) (Or.inl ⟨by rfl, ?_⟩) hHeld ?_ ?_
         rotate_left
         · rintro w' ⟨s0, s1, s2, s3⟩
           go_simp
           with_reducible rfl
         rotate_left
         · simp only [Act.put, List.setIfInBounds_toArray, List.set_cons_zero, List.set_cons_succ, i64_w, i32_w]
           rfl
         refine one_ (i := 7) (N := some 78) Fl160 rfl rfl (one_of HT_.out (by kernel_rfl)) (by decide) (fun K hK => ?_)
         refine goes_ Try.func26 (by kernel_rfl) rfl #[.agg #[.int .i64 t508, .int .i64 t509, .int .i64 t510, .int .i64 t511]] (by rfl) rfl rfl (by (try simp only [List.map_toArray, List.map_cons, List.map_nil]); first | done | rfl | (simp only [List.length_drop, List.length_take]; rfl)) ?_
         with_reducible refine (raw_Stride.calls t508 t509 t510 t511 t567 _ A66.out).mono ?_
         rintro e w73 ⟨rfl, hb⟩
         refine ⟨_, rfl, ?_⟩
         replace HO_4 := Aside0.mk (Kd.R_below (rp_ HO_4.out) hb)
         replace BK512 := Aside0.mk (blk_below (hp_ BK512.out) hb)
         replace HB := Aside0.mk (below_step bp_ hb)
         (try clear hb)
         (try clear hb2)
         (try clear hk)
         (try clear hi)
         refine hK.out _ _ ⟨(blk_cell BK512.out 0).trans rfl, (blk_cell BK512.out 1).trans rfl, (blk_cell BK512.out 2).trans rfl, (blk_cell BK512.out 3).trans rfl⟩ (fun hHeld => ?_)
         clear hK K
         refine norm_ (a' := ?_) ?_ ?_
         rotate_left
         · show Act.put _ (some 78) _ = _
           simp only [Act.put, List.setIfInBounds_toArray, List.set_cons_zero, List.set_cons_succ, i64_w, i32_w]
           rfl
         refine pur_ (i := 10) (N := some 81) Fl148 (any_of HT_.out (by kernel_rfl)) ?_
         refine one_ (i := 12) (N := some 83) Fl149 rfl rfl (one_of HT_.out (by kernel_rfl)) (by decide) (fun K hK => ?_)
         refine goes_ Try.func12 (by kernel_rfl) rfl #[.agg #[.int .i64 t508, .int .i64 t509, .int .i64 t510, .int .i64 t511]] (by rfl) rfl rfl (by (try simp only [List.map_toArray, List.map_cons, List.map_nil]); first | done | rfl | (simp only [List.length_drop, List.length_take]; rfl)) ?_
         with_reducible refine (chequerref06_Size.calls t508 t509 t510 t511 t568 _ A67.out).mono ?_
         rintro e w74 ⟨rfl, hb⟩
         refine ⟨_, rfl, ?_⟩
         replace HO_4 := Aside0.mk (Kd.R_below (rp_ HO_4.out) hb)
         replace BK512 := Aside0.mk (blk_below (hp_ BK512.out) hb)
         replace HB := Aside0.mk (below_step bp_ hb)
         (try clear hb)
         (try clear hb2)
         (try clear hk)
         (try clear hi)
         refine hK.out _ _ ⟨(blk_cell BK512.out 0).trans rfl, (blk_cell BK512.out 1).trans rfl, (blk_cell BK512.out 2).trans rfl, (blk_cell BK512.out 3).trans rfl⟩ (fun hHeld => ?_)
         clear hK K
         refine norm_ (a' := ?_) ?_ ?_
         rotate_left
         · show Act.put _ (some 83) _ = _
           simp only [Act.put, List.setIfInBounds_toArray, List.set_cons_zero, List.set_cons_succ, i64_w, i32_w]
           rfl
         refine pur_ (i := 13) (N := some 84) Fl150 (any_of HT_.out (by kernel_rfl)) ?_
         refine pur_ (i := 14) (N := some 85) Fl151 (any_of HT_.out (by kernel_rfl)) ?_
         refine pur_ (i := 15) (N := some 86) Fl152 (any_of HT_.out (by kernel_rfl)) ?_
         refine one_ (i := 16) (N := some 87) Fl153 rfl rfl (one_of HT_.out (by kernel_rfl)) (by decide) (fun K hK => ?_)
         refine goes_ Try.func16 (by kernel_rfl) rfl #[] (by rfl) rfl rfl (by (try simp only [List.map_toArray, List.map_cons, List.map_nil]); first | done | rfl | (simp only [List.length_drop, List.length_take]; rfl)) ?_
         with_reducible refine (chequerlaw09_lives.calls k1  t569 _ A69.out).mono ?_
         rintro e w75 ⟨rfl, hb⟩
         refine ⟨_, rfl, ?_⟩
         replace HO_4 := Aside0.mk (Kd.R_below (rp_ HO_4.out) hb)
         replace BK512 := Aside0.mk (blk_below (hp_ BK512.out) hb)
         replace HB := Aside0.mk (below_step bp_ hb)
         (try clear hb)
         (try clear hb2)
         (try clear hk)
         (try clear hi)
         refine hK.out _ _ ⟨(blk_cell BK512.out 0).trans rfl, (blk_cell BK512.out 1).trans rfl, (blk_cell BK512.out 2).trans rfl, (blk_cell BK512.out 3).trans rfl⟩ (fun hHeld => ?_)
         clear hK K
         refine norm_ (a' := ?_) ?_ ?_
         rotate_left
         · show Act.put _ (some 87) _ = _
           simp only [Act.put, List.setIfInBounds_toArray, List.set_cons_zero, List.set_cons_succ, i64_w, i32_w]
           rfl
         refine pur_ (i := 17) (N := some 88) Fl154 (any_of HT_.out (by kernel_rfl)) ?_
         refine pur_ (i := 18) (N := some 2) Fl155 (any_of HT_.out (by kernel_rfl)) ?_
         refine done_ (done_of HT_.out (by kernel_rfl)) ?_
         try go_wp2
         go_ret
         exact ⟨by first | rfl | (simp [errW_none, errW_some] <;> rfl) | (simp [*, errW_none, errW_some] <;> rfl), bp_⟩
       · rw [if_neg c68] at H
         have c68b0 : ((wrap64 (t567 * t510)) == t568) = false := beq_eq_false_iff_ne.mpr c68
         have c68b1 : ((wrap64 (t567 * t510)) != t568) = true := bne_iff_ne.mpr c68
         obtain rfl := Option.some.inj H
         try go_wp2
         (try (rw [drewN_self wr]; generalize hq_ : World.drewN wr _ = wr; have n0_ := Aside0.mk (qrp_ hq_ HO_4.out); have n1_ := Aside0.mk (qhp_ hq_ BK512.out); have n2_ : Aside0 (Below w.heap.size w wr) := ⟨qbp_ hq_⟩; clear HO_4 BK512 HB hq_; have HO_4 := n0_; have BK512 := n1_; have HB := n2_; clear n0_ n1_ n2_))
         replace HO_4 := Aside0.mk (Kd.R_drew HO_4.out)
         replace BK512 := Aside0.mk (blk_drew BK512.out)
         replace HB := Aside0.mk (below_drew1 HB.out)
         refine start_ (n := 19) (S := fun w' => w'.cell? ⟨gb512, 0, none⟩ = some (.int .i64 t508) ∧ w'.cell? ⟨gb512, 1, none⟩ = some (.int .i64 t509) ∧ w'.cell? ⟨gb512, 2, none⟩ = some (.int .i64 t510) ∧ w'.cell? ⟨gb512, 3, none⟩ = some (.int .i64 t511)) (ds := []) Fl141 (by kernel_rfl) rfl rfl ⟨(blk_cell BK512.out 0).trans rfl, (blk_cell BK512.out 1).trans rfl, (blk_cell BK512.out 2).trans rfl, (blk_cell BK512.out 3).trans rfl⟩ (fun hHeld => ?_); refine with_tabW chequerlaw09_RawNew.tab12 chequerlaw09_RawNew.bits12 (fun HT_ HW_ => ?_)
         generalize wr.drew = w76 at HO_4 BK512 HB hHeld ⊢
         refine take_ (i := 0) (N := some 71) (v := ?_) (a' := ?_) Fl142 rfl rfl (take_ofW HT_.out HW_.out (by kernel_rfl)) (fun _ _ _ h => h) (Or.inl ⟨by rfl, ?_⟩) hHeld ?_ ?_
         rotate_left
         · rintro w' ⟨s0, s1, s2, s3⟩
           go_simp
           with_reducible rfl
         rotate_left
         · simp only [Act.put, List.setIfInBounds_toArray, List.set_cons_zero, List.set_cons_succ, i64_w, i32_w]
           rfl
         refine take_ (i := 2) (N := some 73) (v := ?_) (a' := ?_) Fl143 rfl rfl (take_ofW HT_.out HW_.out (by kernel_rfl)) (fun _ _ _ h => h) (Or.inl ⟨by rfl, ?_⟩) hHeld ?_ ?_
         rotate_left
         · rintro w' ⟨s0, s1, s2, s3⟩
           go_simp
           with_reducible rfl
         rotate_left
         · simp only [Act.put, List.setIfInBounds_toArray, List.set_cons_zero, List.set_cons_succ, i64_w, i32_w]
           rfl
         refine one_ (i := 1) (N := some 72) Fl144 rfl rfl (one_of HT_.out (by kernel_rfl)) (by decide) (fun K hK => ?_)
         refine goes_ Try.func26 (by kernel_rfl) rfl #[.agg #[.int .i64 t508, .int .i64 t509, .int .i64 t510, .int .i64 t511]] (by rfl) rfl rfl (by (try simp only [List.map_toArray, List.map_cons, List.map_nil]); first | done | rfl | (simp only [List.length_drop, List.length_take]; rfl)) ?_
         with_reducible refine (raw_Stride.calls t508 t509 t510 t511 t565 _ A63.out).mono ?_
         rintro e w77 ⟨rfl, hb⟩
         refine ⟨_, rfl, ?_⟩
         replace HO_4 := Aside0.mk (Kd.R_below (rp_ HO_4.out) hb)
         replace BK512 := Aside0.mk (blk_below (hp_ BK512.out) hb)
         replace HB := Aside0.mk (below_step bp_ hb)
         (try clear hb)
         (try clear hb2)
         (try clear hk)
         (try clear hi)
         refine hK.out _ _ ⟨(blk_cell BK512.out 0).trans rfl, (blk_cell BK512.out 1).trans rfl, (blk_cell BK512.out 2).trans rfl, (blk_cell BK512.out 3).trans rfl⟩ (fun hHeld => ?_)
         clear hK K
         refine norm_ (a' := ?_) ?_ ?_
         rotate_left
         · show Act.put _ (some 72) _ = _
           simp only [Act.put, List.setIfInBounds_toArray, List.set_cons_zero, List.set_cons_succ, i64_w, i32_w]
           rfl
         refine one_ (i := 3) (N := some 74) Fl145 rfl rfl (one_of HT_.out (by kernel_rfl)) (by decide) (fun K hK => ?_)
         refine goes_ Try.func22 (by kernel_rfl) rfl #[.agg #[.int .i64 t508, .int .i64 t509, .int .i64 t510, .int .i64 t511]] (by rfl) rfl rfl (by (try simp only [List.map_toArray, List.map_cons, List.map_nil]); first | done | rfl | (simp only [List.length_drop, List.length_take]; rfl)) ?_
         with_reducible refine (chequerref09_Stride.calls t508 t509 t510 t511 t566 _ A64.out).mono ?_
         rintro e w78 ⟨rfl, hb⟩
         refine ⟨_, rfl, ?_⟩
         replace HO_4 := Aside0.mk (Kd.R_below (rp_ HO_4.out) hb)
         replace BK512 := Aside0.mk (blk_below (hp_ BK512.out) hb)
         replace HB := Aside0.mk (below_step bp_ hb)
         (try clear hb)
         (try clear hb2)
         (try clear hk)
         (try clear hi)
         refine hK.out _ _ ⟨(blk_cell BK512.out 0).trans rfl, (blk_cell BK512.out 1).trans rfl, (blk_cell BK512.out 2).trans rfl, (blk_cell BK512.out 3).trans rfl⟩ (fun hHeld => ?_)
         clear hK K
         refine norm_ (a' := ?_) ?_ ?_
         rotate_left
         · show Act.put _ (some 74) _ = _
           simp only [Act.put, List.setIfInBounds_toArray, List.set_cons_zero, List.set_cons_succ, i64_w, i32_w]
           rfl
         refine pur_ (i := 4) (N := some 75) Fl146 (any_of HT_.out (by kernel_rfl)) ?_
         refine pur_ (i := 5) (N := some 76) Fl147 (any_of HT_.out (by kernel_rfl)) ?_
         refine pur_ (i := 8) (N := some 79) Fl156 (any_of HT_.out (by kernel_rfl)) ?_
         refine take_ (i := 6) (N := some 77) (v := ?_) (a' := ?_) Fl157 rfl rfl (take_ofW HT_.out HW_.out (by kernel_rfl)) (fun _ _ _ h => h) (Or.inl ⟨by rfl, ?_⟩) hHeld ?_ ?_
         rotate_left
         · rintro w' ⟨s0, s1, s2, s3⟩
           go_simp
           with_reducible rfl
         rotate_left
         · simp only [Act.put, List.setIfInBounds_toArray, List.set_cons_zero, List.set_cons_succ, i64_w, i32_w]
           rfl
         refine take_ (i := 9) (N := some 80) (v := ?_) (a' := ?_) Fl158 rfl rfl (take_ofW HT_.out HW_.out (by kernel_rfl)) (fun _ _ _ h => h) (Or.inl ⟨by rfl, ?_⟩) hHeld ?_ ?_
         rotate_left
         · rintro w' ⟨s0, s1, s2, s3⟩
           go_simp
           with_reducible rfl
         rotate_left
         · simp only [Act.put, List.setIfInBounds_toArray, List.set_cons_zero, List.set_cons_succ, i64_w, i32_w]
           rfl
         refine take_ (i := 11) (N := some 82) (v := ?_) (a' := ?_) Fl159 rfl rfl (take_ofW HT_.out HW_.out (by kernel_rfl)) (fun _ _ _ h => h) (Or.inl ⟨by rfl, ?_⟩) hHeld ?_ ?_
         rotate_left
         · rintro w' ⟨s0, s1, s2, s3⟩
           go_simp
           with_reducible rfl
         rotate_left
         · simp only [Act.put, List.setIfInBounds_toArray, List.set_cons_zero, List.set_cons_succ, i64_w, i32_w]
           rfl
         refine one_ (i := 7) (N := some 78) Fl160 rfl rfl (one_of HT_.out (by kernel_rfl)) (by decide) (fun K hK => ?_)
         refine goes_ Try.func26 (by kernel_rfl) rfl #[.agg #[.int .i64 t508, .int .i64 t509, .int .i64 t510, .int .i64 t511]] (by rfl) rfl rfl (by (try simp only [List.map_toArray, List.map_cons, List.map_nil]); first | done | rfl | (simp only [List.length_drop, List.length_take]; rfl)) ?_
         with_reducible refine (raw_Stride.calls t508 t509 t510 t511 t567 _ A66.out).mono ?_
         rintro e w79 ⟨rfl, hb⟩
         refine ⟨_, rfl, ?_⟩
         replace HO_4 := Aside0.mk (Kd.R_below (rp_ HO_4.out) hb)
         replace BK512 := Aside0.mk (blk_below (hp_ BK512.out) hb)
         replace HB := Aside0.mk (below_step bp_ hb)
         (try clear hb)
         (try clear hb2)
         (try clear hk)
         (try clear hi)
         refine hK.out _ _ ⟨(blk_cell BK512.out 0).trans rfl, (blk_cell BK512.out 1).trans rfl, (blk_cell BK512.out 2).trans rfl, (blk_cell BK512.out 3).trans rfl⟩ (fun hHeld => ?_)
         clear hK K
         refine norm_ (a' := ?_) ?_ ?_
         rotate_left
         · show Act.put _ (some 78) _ = _
           simp only [Act.put, List.setIfInBounds_toArray, List.set_cons_zero, List.set_cons_succ, i64_w, i32_w]
           rfl
         refine pur_ (i := 10) (N := some 81) Fl148 (any_of HT_.out (by kernel_rfl)) ?_
         refine one_ (i := 12) (N := some 83) Fl149 rfl rfl (one_of HT_.out (by kernel_rfl)) (by decide) (fun K hK => ?_)
         refine goes_ Try.func12 (by kernel_rfl) rfl #[.agg #[.int .i64 t508, .int .i64 t509, .int .i64 t510, .int .i64 t511]] (by rfl) rfl rfl (by (try simp only [List.map_toArray, List.map_cons, List.map_nil]); first | done | rfl | (simp only [List.length_drop, List.length_take]; rfl)) ?_
         with_reducible refine (chequerref06_Size.calls t508 t509 t510 t511 t568 _ A67.out).mono ?_
         rintro e w80 ⟨rfl, hb⟩
         refine ⟨_, rfl, ?_⟩
         replace HO_4 := Aside0.mk (Kd.R_below (rp_ HO_4.out) hb)
         replace BK512 := Aside0.mk (blk_below (hp_ BK512.out) hb)
         replace HB := Aside0.mk (below_step bp_ hb)
         (try clear hb)
         (try clear hb2)
         (try clear hk)
         (try clear hi)
         refine hK.out _ _ ⟨(blk_cell BK512.out 0).trans rfl, (blk_cell BK512.out 1).trans rfl, (blk_cell BK512.out 2).trans rfl, (blk_cell BK512.out 3).trans rfl⟩ (fun hHeld => ?_)
         clear hK K
         refine norm_ (a' := ?_) ?_ ?_
         rotate_left
         · show Act.put _ (some 83) _ = _
           simp only [Act.put, List.setIfInBounds_toArray, List.set_cons_zero, List.set_cons_succ, i64_w, i32_w]
           rfl
         refine pur_ (i := 13) (N := some 84) Fl150 (any_of HT_.out (by kernel_rfl)) ?_
         refine pur_ (i := 14) (N := some 85) Fl151 (any_of HT_.out (by kernel_rfl)) ?_
         refine pur_ (i := 15) (N := some 86) Fl152 (any_of HT_.out (by kernel_rfl)) ?_
         refine pun_ (i := 16) (N := some 87) Fl153 (any_of HT_.out (by kernel_rfl)) ?_
         refine pur_ (i := 17) (N := some 88) Fl154 (any_of HT_.out (by kernel_rfl)) ?_
         refine pur_ (i := 18) (N := some 2) Fl155 (any_of HT_.out (by kernel_rfl)) ?_
         refine done_ (done_of HT_.out (by kernel_rfl)) ?_
         try go_wp2
         go_ret
         exact ⟨by first | rfl | (simp [errW_none, errW_some] <;> rfl) | (simp [*, errW_none, errW_some] <;> rfl), bp_⟩
     · rw [if_neg c65] at H
       have c65b0 : (t565 == t566) = false := beq_eq_false_iff_ne.mpr c65
       have c65b1 : (t565 != t566) = true := bne_iff_ne.mpr c65
       obtain rfl := Option.some.inj H
       try go_wp2
       (try (rw [drewN_self wr]; generalize hq_ : World.drewN wr _ = wr; have n0_ := Aside0.mk (qrp_ hq_ HO_4.out); have n1_ := Aside0.mk (qhp_ hq_ BK512.out); have n2_ : Aside0 (Below w.heap.size w wr) := ⟨qbp_ hq_⟩; clear HO_4 BK512 HB hq_; have HO_4 := n0_; have BK512 := n1_; have HB := n2_; clear n0_ n1_ n2_))
       replace HO_4 := Aside0.mk (Kd.R_drew HO_4.out)
       replace BK512 := Aside0.mk (blk_drew BK512.out)
       replace HB := Aside0.mk (below_drew1 HB.out)
       refine start_ (n := 19) (S := fun w' => w'.cell? ⟨gb512, 0, none⟩ = some (.int .i64 t508) ∧ w'.cell? ⟨gb512, 1, none⟩ = some (.int .i64 t509) ∧ w'.cell? ⟨gb512, 2, none⟩ = some (.int .i64 t510) ∧ w'.cell? ⟨gb512, 3, none⟩ = some (.int .i64 t511)) (ds := []) Fl141 (by kernel_rfl) rfl rfl ⟨(blk_cell BK512.out 0).trans rfl, (blk_cell BK512.out 1).trans rfl, (blk_cell BK512.out 2).trans rfl, (blk_cell BK512.out 3).trans rfl⟩ (fun hHeld => ?_); refine with_tabW chequerlaw09_RawNew.tab12 chequerlaw09_RawNew.bits12 (fun HT_ HW_ => ?_)
       generalize wr.drew = w81 at HO_4 BK512 HB hHeld ⊢
       refine take_ (i := 0) (N := some 71) (v := ?_) (a' := ?_) Fl142 rfl rfl (take_ofW HT_.out HW_.out (by kernel_rfl)) (fun _ _ _ h => h) (Or.inl ⟨by rfl, ?_⟩) hHeld ?_ ?_
       rotate_left
       · rintro w' ⟨s0, s1, s2, s3⟩
         go_simp
         with_reducible rfl
       rotate_left
       · simp only [Act.put, List.setIfInBounds_toArray, List.set_cons_zero, List.set_cons_succ, i64_w, i32_w]
         rfl
       refine take_ (i := 2) (N := some 73) (v := ?_) (a' := ?_) Fl143 rfl rfl (take_ofW HT_.out HW_.out (by kernel_rfl)) (fun _ _ _ h => h) (Or.inl ⟨by rfl, ?_⟩) hHeld ?_ ?_
       rotate_left
       · rintro w' ⟨s0, s1, s2, s3⟩
         go_simp
         with_reducible rfl
       rotate_left
       · simp only [Act.put, List.setIfInBounds_toArray, List.set_cons_zero, List.set_cons_succ, i64_w, i32_w]
         rfl
       refine one_ (i := 1) (N := some 72) Fl144 rfl rfl (one_of HT_.out (by kernel_rfl)) (by decide) (fun K hK => ?_)
       refine goes_ Try.func26 (by kernel_rfl) rfl #[.agg #[.int .i64 t508, .int .i64 t509, .int .i64 t510, .int .i64 t511]] (by rfl) rfl rfl (by (try simp only [List.map_toArray, List.map_cons, List.map_nil]); first | done | rfl | (simp only [List.length_drop, List.length_take]; rfl)) ?_
       with_reducible refine (raw_Stride.calls t508 t509 t510 t511 t565 _ A63.out).mono ?_
       rintro e w82 ⟨rfl, hb⟩
       refine ⟨_, rfl, ?_⟩
       replace HO_4 := Aside0.mk (Kd.R_below (rp_ HO_4.out) hb)
       replace BK512 := Aside0.mk (blk_below (hp_ BK512.out) hb)
       replace HB := Aside0.mk (below_step bp_ hb)
       (try clear hb)
       (try clear hb2)
       (try clear hk)
       (try clear hi)
       refine hK.out _ _ ⟨(blk_cell BK512.out 0).trans rfl, (blk_cell BK512.out 1).trans rfl, (blk_cell BK512.out 2).trans rfl, (blk_cell BK512.out 3).trans rfl⟩ (fun hHeld => ?_)
       clear hK K
       refine norm_ (a' := ?_) ?_ ?_
       rotate_left
       · show Act.put _ (some 72) _ = _
         simp only [Act.put, List.setIfInBounds_toArray, List.set_cons_zero, List.set_cons_succ, i64_w, i32_w]
         rfl
       refine one_ (i := 3) (N := some 74) Fl145 rfl rfl (one_of HT_.out (by kernel_rfl)) (by decide) (fun K hK => ?_)
       refine goes_ Try.func22 (by kernel_rfl) rfl #[.agg #[.int .i64 t508, .int .i64 t509, .int .i64 t510, .int .i64 t511]] (by rfl) rfl rfl (by (try simp only [List.map_toArray, List.map_cons, List.map_nil]); first | done | rfl | (simp only [List.length_drop, List.length_take]; rfl)) ?_
       with_reducible refine (chequerref09_Stride.calls t508 t509 t510 t511 t566 _ A64.out).mono ?_
       rintro e w83 ⟨rfl, hb⟩
       refine ⟨_, rfl, ?_⟩
       replace HO_4 := Aside0.mk (Kd.R_below (rp_ HO_4.out) hb)
       replace BK512 := Aside0.mk (blk_below (hp_ BK512.out) hb)
       replace HB := Aside0.mk (below_step bp_ hb)
       (try clear hb)
       (try clear hb2)
       (try clear hk)
       (try clear hi)
       refine hK.out _ _ ⟨(blk_cell BK512.out 0).trans rfl, (blk_cell BK512.out 1).trans rfl, (blk_cell BK512.out 2).trans rfl, (blk_cell BK512.out 3).trans rfl⟩ (fun hHeld => ?_)
       clear hK K
       refine norm_ (a' := ?_) ?_ ?_
       rotate_left
       · show Act.put _ (some 74) _ = _
         simp only [Act.put, List.setIfInBounds_toArray, List.set_cons_zero, List.set_cons_succ, i64_w, i32_w]
         rfl
       refine pur_ (i := 4) (N := some 75) Fl146 (any_of HT_.out (by kernel_rfl)) ?_
       refine pur_ (i := 5) (N := some 76) Fl147 (any_of HT_.out (by kernel_rfl)) ?_
       refine pun_ (i := 6) (N := some 77) #[true, true, true, true, true, true, true, false, false, false, false, false, false, false, false, false, false, false, false] (any_of HT_.out (by kernel_rfl)) ?_
       refine pun_ (i := 7) (N := some 78) #[true, true, true, true, true, true, true, true, false, false, false, false, false, false, false, false, false, false, false] (any_of HT_.out (by kernel_rfl)) ?_
       refine pun_ (i := 8) (N := some 79) #[true, true, true, true, true, true, true, true, true, false, false, false, false, false, false, false, false, false, false] (any_of HT_.out (by kernel_rfl)) ?_
       refine pun_ (i := 9) (N := some 80) #[true, true, true, true, true, true, true, true, true, true, false, false, false, false, false, false, false, false, false] (any_of HT_.out (by kernel_rfl)) ?_
       refine pun_ (i := 10) (N := some 81) #[true, true, true, true, true, true, true, true, true, true, true, false, false, false, false, false, false, false, false] (any_of HT_.out (by kernel_rfl)) ?_
       refine pun_ (i := 11) (N := some 82) Fl148 (any_of HT_.out (by kernel_rfl)) ?_
       refine pun_ (i := 12) (N := some 83) Fl149 (any_of HT_.out (by kernel_rfl)) ?_
       refine pun_ (i := 13) (N := some 84) Fl150 (any_of HT_.out (by kernel_rfl)) ?_
       refine pur_ (i := 14) (N := some 85) Fl151 (any_of HT_.out (by kernel_rfl)) ?_
       refine pur_ (i := 15) (N := some 86) Fl152 (any_of HT_.out (by kernel_rfl)) ?_
       refine pun_ (i := 16) (N := some 87) Fl153 (any_of HT_.out (by kernel_rfl)) ?_
       refine pur_ (i := 17) (N := some 88) Fl154 (any_of HT_.out (by kernel_rfl)) ?_
       refine pur_ (i := 18) (N := some 2) Fl155 (any_of HT_.out (by kernel_rfl)) ?_
       refine done_ (done_of HT_.out (by kernel_rfl)) ?_
       try go_wp2
       go_ret
       exact ⟨by first | rfl | (simp [errW_none, errW_some] <;> rfl) | (simp [*, errW_none, errW_some] <;> rfl), bp_⟩

/-- THE ONE PURE STATEMENT of chequerlaw09_RawNew. -/
def chequerlaw09_RawNew.Pure : Prop := ∀ (a0_0 : Int) (a0_1 : Int) (a0_2 : Int) (a0_3 : Int), (Lit.int .i64 a0_0).wf = true → (Lit.int .i64 a0_1).wf = true → (Lit.int .i64 a0_2).wf = true → (Lit.int .i64 a0_3).wf = true → ∃ k, chequerlaw09_RawNew.f k a0_0 a0_1 a0_2 a0_3 = some true
theorem chequerlaw09_RawNew.walk (P : chequerlaw09_RawNew.Pure) (a0_0 : Int) (a0_1 : Int) (a0_2 : Int) (a0_3 : Int) (w : World) (w0_0 : (Lit.int .i64 a0_0).wf = true) (w0_1 : (Lit.int .i64 a0_1).wf = true) (w0_2 : (Lit.int .i64 a0_2).wf = true) (w0_3 : (Lit.int .i64 a0_3).wf = true) :
 Calls Try.prog 7 #[.agg #[.int .i64 a0_0, .int .i64 a0_1, .int .i64 a0_2, .int .i64 a0_3]] w fun e w' => e = .returned (.bool true) ∧ Below w.heap.size w w' := by
 obtain ⟨k, h⟩ := P a0_0 a0_1 a0_2 a0_3 w0_0 w0_1 w0_2 w0_3
 refine (chequerlaw09_RawNew.calls k a0_0 a0_1 a0_2 a0_3 true w h).mono ?_
 rintro e w' ⟨rfl, hd⟩
 exact ⟨rfl, hd⟩

end Go.Proofs.Ytdjonaajfhbfhaa.Q
