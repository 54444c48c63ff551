-- written by our own program (wip/tools/myprint.py) out of the translation, by the kit's print; Lean checks it
import Derived.Test.YtdjonaajfhbfhaaQ0
import Derived.Test.YtdjonaajfhbfhaaQ3
import Derived.Test.YtdjonaajfhbfhaaQ4
import Derived.Test.YtdjonaajfhbfhaaIraw_New
import Derived.Test.YtdjonaajfhbfhaaIraw_Reader_Put
import Derived.Test.YtdjonaajfhbfhaaQ20
import Derived.Test.YtdjonaajfhbfhaaQ21
import Derived.Test.YtdjonaajfhbfhaaIraw_Reader_Left
import Derived.Test.YtdjonaajfhbfhaaIraw_Reader_Rows
import Derived.Test.YtdjonaajfhbfhaaIraw_Reader_Error
namespace Go.Proofs.Ytdjonaajfhbfhaa.Q
open Go.RowKit Go.Proofs.YtdjonaajfhbfhaaW.PrintWords Go.Proofs.YtdjonaajfhbfhaaW.PrintLast Go.Proofs.YtdjonaajfhbfhaaW.PrintMore
attribute [local go_sem] max2_int min2_int max_two min_two max_three min_three max_four min_four   -- for this text's walks alone
set_option linter.unusedVariables false
set_option linter.unusedSimpArgs false

abbrev Fl106 : Array Bool := #[false, false, false, false, false, false, false, false, false, false, false]
abbrev Fl107 : Array Bool := #[true, false, false, false, false, false, false, false, false, false, false]
abbrev Fl108 : Array Bool := #[true, true, false, false, false, false, false, false, false, false, false]
abbrev Fl109 : Array Bool := #[true, true, true, false, false, false, false, false, false, false, false]
abbrev Fl110 : Array Bool := #[true, true, true, true, false, false, false, false, false, false, false]
abbrev Fl111 : Array Bool := #[true, true, true, true, true, false, false, false, false, false, false]
abbrev Fl112 : Array Bool := #[true, true, true, true, true, true, false, false, false, false, false]
abbrev Fl113 : Array Bool := #[true, true, true, true, true, true, true, false, false, false, false]
abbrev Fl114 : Array Bool := #[true, true, true, true, true, true, true, true, false, false, false]
abbrev Fl115 : Array Bool := #[true, true, true, true, true, true, true, true, true, false, false]
abbrev Fl116 : Array Bool := #[true, true, true, true, true, true, true, true, true, true, false]
abbrev Fl117 : Array Bool := #[true, true, true, true, true, true, true, true, true, true, true]
/-! ### chequerlaw09_RawSteps: function 6 -/
mutual
def chequerlaw09_RawSteps.l0 : Nat → List Int → Int → Int → Int → Int → Int → Int → Int → Int → Int → Int → Int → Int → Int → Int → Int → Int → Int → Option (Bool)
 | 0, _, _, _, _, _, _, _, _, _, _, _, _, _, _, _, _, _, _ => none
 | k + 1, x0, x8, x9, x10, x11, x443000, x443001, x443002, x443003, x453000, x453001, x453002, x453003, x453004, x453005, x453006, x453007, x453008 => if x11 < (x0.length : Int) then (if 0 ≤ x11 then ((raw_Reader_Put.f x453000 x453001 x453002 x453003 x453004 x453005 x453006 x453007 x453008 (rd x0 x11)).bind fun bt459 => (if x9 > 0 then (chequerlaw09_RawSteps.j1 k x0 x8 x9 x10 x11 bt459.1 bt459.2.1 ([] : List Int) 0 (decide ((wrap64 (x11 + 1)) ≥ x9)) x443000 x443001 x443002 x443003 bt459.2.2.1 bt459.2.2.2.1 bt459.2.2.2.2.1 bt459.2.2.2.2.2.1 bt459.2.2.2.2.2.2.1 bt459.2.2.2.2.2.2.2.1 bt459.2.2.2.2.2.2.2.2.1 bt459.2.2.2.2.2.2.2.2.2.1 bt459.2.2.2.2.2.2.2.2.2.2) else (chequerlaw09_RawSteps.j1 k x0 x8 x9 x10 x11 bt459.1 bt459.2.1 ([] : List Int) 0 false x443000 x443001 x443002 x443003 bt459.2.2.1 bt459.2.2.2.1 bt459.2.2.2.2.1 bt459.2.2.2.2.2.1 bt459.2.2.2.2.2.2.1 bt459.2.2.2.2.2.2.2.1 bt459.2.2.2.2.2.2.2.2.1 bt459.2.2.2.2.2.2.2.2.2.1 bt459.2.2.2.2.2.2.2.2.2.2))) else (none)) else ((raw_Stride.f x443000 x443001 x443002 x443003).bind fun t456 => (if t456 = x8 then ((chequerlaw09_lives.f k).bind fun t457 => (some t457)) else (some false)))
def chequerlaw09_RawSteps.j1 : Nat → List Int → Int → Int → Int → Int → List Int → Int → List Int → Int → Bool → Int → Int → Int → Int → Int → Int → Int → Int → Int → Int → Int → Int → Int → Option (Bool)
 | 0, _, _, _, _, _, _, _, _, _, _, _, _, _, _, _, _, _, _, _, _, _, _, _ => none
 | k + 1, x0, x8, x9, x10, x11, x12, x13, x14, x15, x63, x443000, x443001, x443002, x443003, x453000, x453001, x453002, x453003, x453004, x453005, x453006, x453007, x453008 => if x63 = true then (chequerlaw09_RawSteps.j2 k x0 x8 x9 x10 x11 x12 x13 x14 2 x443000 x443001 x443002 x443003 x453000 x453001 x453002 x453003 x453004 x453005 x453006 x453007 x453008) else (if (wrap64 (x11 + 1)) > (wrap64 (x8 * x443002)) then (chequerlaw09_RawSteps.j2 k x0 x8 x9 x10 x11 x12 x13 x14 1 x443000 x443001 x443002 x443003 x453000 x453001 x453002 x453003 x453004 x453005 x453006 x453007 x453008) else (if x8 = 0 then (none) else (if (Int.tmod (wrap64 (x11 + 1)) x8) = 0 then (if 0 ≤ (wrap64 ((wrap64 (x11 + 1)) - x8)) then (if (wrap64 ((wrap64 (x11 + 1)) - x8)) ≤ (wrap64 (x11 + 1)) then (if (wrap64 (x11 + 1)) ≤ (x0.length : Int) then ((chequerref09_Row.f k ((x0.take ((wrap64 (x11 + 1)) : Int).toNat).drop ((wrap64 ((wrap64 (x11 + 1)) - x8)) : Int).toNat) x443000 x443001 x443002 x443003).bind fun t473 => (if (wrap64 (x10 + 1)) = x443002 then (chequerlaw09_RawSteps.j2 k x0 x8 x9 (wrap64 (x10 + 1)) x11 x12 x13 t473 1 x443000 x443001 x443002 x443003 x453000 x453001 x453002 x453003 x453004 x453005 x453006 x453007 x453008) else (chequerlaw09_RawSteps.j2 k x0 x8 x9 (wrap64 (x10 + 1)) x11 x12 x13 t473 x15 x443000 x443001 x443002 x443003 x453000 x453001 x453002 x453003 x453004 x453005 x453006 x453007 x453008))) else (none)) else (none)) else (none)) else (chequerlaw09_RawSteps.j2 k x0 x8 x9 x10 x11 x12 x13 x14 x15 x443000 x443001 x443002 x443003 x453000 x453001 x453002 x453003 x453004 x453005 x453006 x453007 x453008))))
def chequerlaw09_RawSteps.j2 : Nat → List Int → Int → Int → Int → Int → List Int → Int → List Int → Int → Int → Int → Int → Int → Int → Int → Int → Int → Int → Int → Int → Int → Int → Option (Bool)
 | 0, _, _, _, _, _, _, _, _, _, _, _, _, _, _, _, _, _, _, _, _, _, _ => none
 | k + 1, x0, x8, x9, x10, x11, x12, x13, x14, x15, x443000, x443001, x443002, x443003, x453000, x453001, x453002, x453003, x453004, x453005, x453006, x453007, x453008 => if x15 = 0 then (chequerlaw09_RawSteps.j3 k x0 x8 x9 x10 x11 x12 x13 x14 x15 (wrap64 ((wrap64 ((wrap64 (x8 * x443002)) - x11)) - 1)) x443000 x443001 x443002 x443003 x453000 x453001 x453002 x453003 x453004 x453005 x453006 x453007 x453008) else (chequerlaw09_RawSteps.j3 k x0 x8 x9 x10 x11 x12 x13 x14 x15 0 x443000 x443001 x443002 x443003 x453000 x453001 x453002 x453003 x453004 x453005 x453006 x453007 x453008)
def chequerlaw09_RawSteps.j3 : Nat → List Int → Int → Int → Int → Int → List Int → Int → List Int → Int → Int → Int → Int → Int → Int → Int → Int → Int → Int → Int → Int → Int → Int → Int → Option (Bool)
 | 0, _, _, _, _, _, _, _, _, _, _, _, _, _, _, _, _, _, _, _, _, _, _, _ => none
 | k + 1, x0, x8, x9, x10, x11, x12, x13, x14, x15, x16, x443000, x443001, x443002, x443003, x453000, x453001, x453002, x453003, x453004, x453005, x453006, x453007, x453008 => if x15 = 2 then (chequerlaw09_RawSteps.j4 k x0 x8 x9 x10 x11 x12 x13 x14 x15 x16 5 x443000 x443001 x443002 x443003 x453000 x453001 x453002 x453003 x453004 x453005 x453006 x453007 x453008) else (chequerlaw09_RawSteps.j4 k x0 x8 x9 x10 x11 x12 x13 x14 x15 x16 0 x443000 x443001 x443002 x443003 x453000 x453001 x453002 x453003 x453004 x453005 x453006 x453007 x453008)
def chequerlaw09_RawSteps.j4 : Nat → List Int → Int → Int → Int → Int → List Int → Int → List Int → Int → Int → Int → Int → Int → Int → Int → Int → Int → Int → Int → Int → Int → Int → Int → Int → Option (Bool)
 | 0, _, _, _, _, _, _, _, _, _, _, _, _, _, _, _, _, _, _, _, _, _, _, _, _ => none
 | k + 1, x0, x8, x9, x10, x11, x12, x13, x14, x15, x16, x17, x443000, x443001, x443002, x443003, x453000, x453001, x453002, x453003, x453004, x453005, x453006, x453007, x453008 => (chequerref03_SameRow.f k x12 x14).bind fun t476 => (if t476 = true then (if x13 = x15 then ((raw_Reader_Rows.f x453000 x453001 x453002 x453003 x453004 x453005 x453006 x453007 x453008).bind fun bt477 => (if bt477.1 = x10 then ((raw_Reader_Left.f bt477.2.1 bt477.2.2.1 bt477.2.2.2.1 bt477.2.2.2.2.1 bt477.2.2.2.2.2.1 bt477.2.2.2.2.2.2.1 bt477.2.2.2.2.2.2.2.1 bt477.2.2.2.2.2.2.2.2.1 bt477.2.2.2.2.2.2.2.2.2).bind fun bt487 => (if bt487.1 = x16 then ((raw_Reader_Error.f bt487.2.1 bt487.2.2.1 bt487.2.2.2.1 bt487.2.2.2.2.1 bt487.2.2.2.2.2.1 bt487.2.2.2.2.2.2.1 bt487.2.2.2.2.2.2.2.1 bt487.2.2.2.2.2.2.2.2.1 bt487.2.2.2.2.2.2.2.2.2).bind fun bt497 => (if bt497.1 = x17 then (chequerlaw09_RawSteps.l0 k x0 x8 x9 x10 (wrap64 (x11 + 1)) x443000 x443001 x443002 x443003 bt497.2.1 bt497.2.2.1 bt497.2.2.2.1 bt497.2.2.2.2.1 bt497.2.2.2.2.2.1 bt497.2.2.2.2.2.2.1 bt497.2.2.2.2.2.2.2.1 bt497.2.2.2.2.2.2.2.2.1 bt497.2.2.2.2.2.2.2.2.2) else (some false))) else (some false))) else (some false))) else (some false)) else (some false))
end
def chequerlaw09_RawSteps.f (k : Nat) (l0 : List Int) (a1_0 : Int) (a1_1 : Int) (a1_2 : Int) (a1_3 : Int) : Option (Bool) := if 0 ≤ (mn (l0.length : Int) 80) then (if (mn (l0.length : Int) 80) ≤ (l0.length : Int) then ((chequerref09_Head.f a1_0 a1_1 a1_2 a1_3 4).bind fun bt438 => ((raw_New.f bt438.1 bt438.2.1 bt438.2.2.1 bt438.2.2.2).bind fun bt443 => (if bt443.2.2.2.2.2.2.2.2.2 = 0 then ((chequerref09_Stride.f bt438.1 bt438.2.1 bt438.2.2.1 bt438.2.2.2).bind fun t454 => ((chequerref09_Bad.f k (l0.take ((mn (l0.length : Int) 80) : Int).toNat) bt438.1 bt438.2.1 bt438.2.2.1 bt438.2.2.2).bind fun t455 => (chequerlaw09_RawSteps.l0 k (l0.take ((mn (l0.length : Int) 80) : Int).toNat) t454 t455 0 0 bt438.1 bt438.2.1 bt438.2.2.1 bt438.2.2.2 bt443.1 bt443.2.1 bt443.2.2.1 bt443.2.2.2.1 bt443.2.2.2.2.1 bt443.2.2.2.2.2.1 bt443.2.2.2.2.2.2.1 bt443.2.2.2.2.2.2.2.1 bt443.2.2.2.2.2.2.2.2.1))) else (some false)))) else (none)) else (none)
theorem chequerlaw09_RawSteps.mono_l : ∀ k, (∀ y0 y1 y2 y3 y4 y5 y6 y7 y8 y9 y10 y11 y12 y13 y14 y15 y16 y17, LeO (chequerlaw09_RawSteps.l0 k y0 y1 y2 y3 y4 y5 y6 y7 y8 y9 y10 y11 y12 y13 y14 y15 y16 y17) (chequerlaw09_RawSteps.l0 (k + 1) y0 y1 y2 y3 y4 y5 y6 y7 y8 y9 y10 y11 y12 y13 y14 y15 y16 y17)) ∧ (∀ y0 y1 y2 y3 y4 y5 y6 y7 y8 y9 y10 y11 y12 y13 y14 y15 y16 y17 y18 y19 y20 y21 y22, LeO (chequerlaw09_RawSteps.j1 k y0 y1 y2 y3 y4 y5 y6 y7 y8 y9 y10 y11 y12 y13 y14 y15 y16 y17 y18 y19 y20 y21 y22) (chequerlaw09_RawSteps.j1 (k + 1) y0 y1 y2 y3 y4 y5 y6 y7 y8 y9 y10 y11 y12 y13 y14 y15 y16 y17 y18 y19 y20 y21 y22)) ∧ (∀ y0 y1 y2 y3 y4 y5 y6 y7 y8 y9 y10 y11 y12 y13 y14 y15 y16 y17 y18 y19 y20 y21, LeO (chequerlaw09_RawSteps.j2 k y0 y1 y2 y3 y4 y5 y6 y7 y8 y9 y10 y11 y12 y13 y14 y15 y16 y17 y18 y19 y20 y21) (chequerlaw09_RawSteps.j2 (k + 1) y0 y1 y2 y3 y4 y5 y6 y7 y8 y9 y10 y11 y12 y13 y14 y15 y16 y17 y18 y19 y20 y21)) ∧ (∀ y0 y1 y2 y3 y4 y5 y6 y7 y8 y9 y10 y11 y12 y13 y14 y15 y16 y17 y18 y19 y20 y21 y22, LeO (chequerlaw09_RawSteps.j3 k y0 y1 y2 y3 y4 y5 y6 y7 y8 y9 y10 y11 y12 y13 y14 y15 y16 y17 y18 y19 y20 y21 y22) (chequerlaw09_RawSteps.j3 (k + 1) y0 y1 y2 y3 y4 y5 y6 y7 y8 y9 y10 y11 y12 y13 y14 y15 y16 y17 y18 y19 y20 y21 y22)) ∧ (∀ y0 y1 y2 y3 y4 y5 y6 y7 y8 y9 y10 y11 y12 y13 y14 y15 y16 y17 y18 y19 y20 y21 y22 y23, LeO (chequerlaw09_RawSteps.j4 k y0 y1 y2 y3 y4 y5 y6 y7 y8 y9 y10 y11 y12 y13 y14 y15 y16 y17 y18 y19 y20 y21 y22 y23) (chequerlaw09_RawSteps.j4 (k + 1) y0 y1 y2 y3 y4 y5 y6 y7 y8 y9 y10 y11 y12 y13 y14 y15 y16 y17 y18 y19 y20 y21 y22 y23))
 | 0 => ⟨fun _ _ _ _ _ _ _ _ _ _ _ _ _ _ _ _ _ _ r h => by simp [chequerlaw09_RawSteps.l0] at h, fun _ _ _ _ _ _ _ _ _ _ _ _ _ _ _ _ _ _ _ _ _ _ _ r h => by simp [chequerlaw09_RawSteps.j1] at h, fun _ _ _ _ _ _ _ _ _ _ _ _ _ _ _ _ _ _ _ _ _ _ r h => by simp [chequerlaw09_RawSteps.j2] at h, fun _ _ _ _ _ _ _ _ _ _ _ _ _ _ _ _ _ _ _ _ _ _ _ r h => by simp [chequerlaw09_RawSteps.j3] at h, fun _ _ _ _ _ _ _ _ _ _ _ _ _ _ _ _ _ _ _ _ _ _ _ _ r h => by simp [chequerlaw09_RawSteps.j4] at h⟩
 | k + 1 => by
  obtain ⟨ih0, ih1, ih2, ih3, ih4⟩ := chequerlaw09_RawSteps.mono_l k
  refine ⟨?_, ?_, ?_, ?_, ?_⟩
  · intro y0 y1 y2 y3 y4 y5 y6 y7 y8 y9 y10 y11 y12 y13 y14 y15 y16 y17
    unfold chequerlaw09_RawSteps.l0
    repeat' first
    | (with_reducible exact ih0 _ _ _ _ _ _ _ _ _ _ _ _ _ _ _ _ _ _)
    | (with_reducible exact ih1 _ _ _ _ _ _ _ _ _ _ _ _ _ _ _ _ _ _ _ _ _ _ _)
    | (with_reducible exact ih2 _ _ _ _ _ _ _ _ _ _ _ _ _ _ _ _ _ _ _ _ _ _)
    | (with_reducible exact ih3 _ _ _ _ _ _ _ _ _ _ _ _ _ _ _ _ _ _ _ _ _ _ _)
    | (with_reducible exact ih4 _ _ _ _ _ _ _ _ _ _ _ _ _ _ _ _ _ _ _ _ _ _ _ _)
    | (with_reducible exact chequerlaw09_lives.mono _)
    | (with_reducible exact chequerref03_SameRow.mono _ _ _)
    | (with_reducible exact chequerref09_Bad.mono _ _ _ _ _ _)
    | (with_reducible exact chequerref09_Row.mono _ _ _ _ _ _)
    | (with_reducible exact LeO.refl _)
    | (with_reducible exact LeO.none _)
    | (with_reducible refine LeO.ite ?_ ?_)
    | (with_reducible refine LeO.bind ?_ (fun _ => ?_))
    | exact ih0 _ _ _ _ _ _ _ _ _ _ _ _ _ _ _ _ _ _
    | exact ih1 _ _ _ _ _ _ _ _ _ _ _ _ _ _ _ _ _ _ _ _ _ _ _
    | exact ih2 _ _ _ _ _ _ _ _ _ _ _ _ _ _ _ _ _ _ _ _ _ _
    | exact ih3 _ _ _ _ _ _ _ _ _ _ _ _ _ _ _ _ _ _ _ _ _ _ _
    | exact ih4 _ _ _ _ _ _ _ _ _ _ _ _ _ _ _ _ _ _ _ _ _ _ _ _
    | exact chequerlaw09_lives.mono _
    | exact chequerref03_SameRow.mono _ _ _
    | exact chequerref09_Bad.mono _ _ _ _ _ _
    | exact chequerref09_Row.mono _ _ _ _ _ _
    | exact LeO.none _
    | refine LeO.ite ?_ ?_
    | refine LeO.bind ?_ (fun _ => ?_)
  · intro y0 y1 y2 y3 y4 y5 y6 y7 y8 y9 y10 y11 y12 y13 y14 y15 y16 y17 y18 y19 y20 y21 y22
    unfold chequerlaw09_RawSteps.j1
    repeat' first
    | (with_reducible exact ih0 _ _ _ _ _ _ _ _ _ _ _ _ _ _ _ _ _ _)
    | (with_reducible exact ih1 _ _ _ _ _ _ _ _ _ _ _ _ _ _ _ _ _ _ _ _ _ _ _)
    | (with_reducible exact ih2 _ _ _ _ _ _ _ _ _ _ _ _ _ _ _ _ _ _ _ _ _ _)
    | (with_reducible exact ih3 _ _ _ _ _ _ _ _ _ _ _ _ _ _ _ _ _ _ _ _ _ _ _)
    | (with_reducible exact ih4 _ _ _ _ _ _ _ _ _ _ _ _ _ _ _ _ _ _ _ _ _ _ _ _)
    | (with_reducible exact chequerlaw09_lives.mono _)
    | (with_reducible exact chequerref03_SameRow.mono _ _ _)
    | (with_reducible exact chequerref09_Bad.mono _ _ _ _ _ _)
    | (with_reducible exact chequerref09_Row.mono _ _ _ _ _ _)
    | (with_reducible exact LeO.refl _)
    | (with_reducible exact LeO.none _)
    | (with_reducible refine LeO.ite ?_ ?_)
    | (with_reducible refine LeO.bind ?_ (fun _ => ?_))
    | exact ih0 _ _ _ _ _ _ _ _ _ _ _ _ _ _ _ _ _ _
    | exact ih1 _ _ _ _ _ _ _ _ _ _ _ _ _ _ _ _ _ _ _ _ _ _ _
    | exact ih2 _ _ _ _ _ _ _ _ _ _ _ _ _ _ _ _ _ _ _ _ _ _
    | exact ih3 _ _ _ _ _ _ _ _ _ _ _ _ _ _ _ _ _ _ _ _ _ _ _
    | exact ih4 _ _ _ _ _ _ _ _ _ _ _ _ _ _ _ _ _ _ _ _ _ _ _ _
    | exact chequerlaw09_lives.mono _
    | exact chequerref03_SameRow.mono _ _ _
    | exact chequerref09_Bad.mono _ _ _ _ _ _
    | exact chequerref09_Row.mono _ _ _ _ _ _
    | exact LeO.none _
    | refine LeO.ite ?_ ?_
    | refine LeO.bind ?_ (fun _ => ?_)
  · intro y0 y1 y2 y3 y4 y5 y6 y7 y8 y9 y10 y11 y12 y13 y14 y15 y16 y17 y18 y19 y20 y21
    unfold chequerlaw09_RawSteps.j2
    repeat' first
    | (with_reducible exact ih0 _ _ _ _ _ _ _ _ _ _ _ _ _ _ _ _ _ _)
    | (with_reducible exact ih1 _ _ _ _ _ _ _ _ _ _ _ _ _ _ _ _ _ _ _ _ _ _ _)
    | (with_reducible exact ih2 _ _ _ _ _ _ _ _ _ _ _ _ _ _ _ _ _ _ _ _ _ _)
    | (with_reducible exact ih3 _ _ _ _ _ _ _ _ _ _ _ _ _ _ _ _ _ _ _ _ _ _ _)
    | (with_reducible exact ih4 _ _ _ _ _ _ _ _ _ _ _ _ _ _ _ _ _ _ _ _ _ _ _ _)
    | (with_reducible exact chequerlaw09_lives.mono _)
    | (with_reducible exact chequerref03_SameRow.mono _ _ _)
    | (with_reducible exact chequerref09_Bad.mono _ _ _ _ _ _)
    | (with_reducible exact chequerref09_Row.mono _ _ _ _ _ _)
    | (with_reducible exact LeO.refl _)
    | (with_reducible exact LeO.none _)
    | (with_reducible refine LeO.ite ?_ ?_)
    | (with_reducible refine LeO.bind ?_ (fun _ => ?_))
    | exact ih0 _ _ _ _ _ _ _ _ _ _ _ _ _ _ _ _ _ _
    | exact ih1 _ _ _ _ _ _ _ _ _ _ _ _ _ _ _ _ _ _ _ _ _ _ _
    | exact ih2 _ _ _ _ _ _ _ _ _ _ _ _ _ _ _ _ _ _ _ _ _ _
    | exact ih3 _ _ _ _ _ _ _ _ _ _ _ _ _ _ _ _ _ _ _ _ _ _ _
    | exact ih4 _ _ _ _ _ _ _ _ _ _ _ _ _ _ _ _ _ _ _ _ _ _ _ _
    | exact chequerlaw09_lives.mono _
    | exact chequerref03_SameRow.mono _ _ _
    | exact chequerref09_Bad.mono _ _ _ _ _ _
    | exact chequerref09_Row.mono _ _ _ _ _ _
    | exact LeO.none _
    | refine LeO.ite ?_ ?_
    | refine LeO.bind ?_ (fun _ => ?_)
  · intro y0 y1 y2 y3 y4 y5 y6 y7 y8 y9 y10 y11 y12 y13 y14 y15 y16 y17 y18 y19 y20 y21 y22
    unfold chequerlaw09_RawSteps.j3
    repeat' first
    | (with_reducible exact ih0 _ _ _ _ _ _ _ _ _ _ _ _ _ _ _ _ _ _)
    | (with_reducible exact ih1 _ _ _ _ _ _ _ _ _ _ _ _ _ _ _ _ _ _ _ _ _ _ _)
    | (with_reducible exact ih2 _ _ _ _ _ _ _ _ _ _ _ _ _ _ _ _ _ _ _ _ _ _)
    | (with_reducible exact ih3 _ _ _ _ _ _ _ _ _ _ _ _ _ _ _ _ _ _ _ _ _ _ _)
    | (with_reducible exact ih4 _ _ _ _ _ _ _ _ _ _ _ _ _ _ _ _ _ _ _ _ _ _ _ _)
    | (with_reducible exact chequerlaw09_lives.mono _)
    | (with_reducible exact chequerref03_SameRow.mono _ _ _)
    | (with_reducible exact chequerref09_Bad.mono _ _ _ _ _ _)
    | (with_reducible exact chequerref09_Row.mono _ _ _ _ _ _)
    | (with_reducible exact LeO.refl _)
    | (with_reducible exact LeO.none _)
    | (with_reducible refine LeO.ite ?_ ?_)
    | (with_reducible refine LeO.bind ?_ (fun _ => ?_))
    | exact ih0 _ _ _ _ _ _ _ _ _ _ _ _ _ _ _ _ _ _
    | exact ih1 _ _ _ _ _ _ _ _ _ _ _ _ _ _ _ _ _ _ _ _ _ _ _
    | exact ih2 _ _ _ _ _ _ _ _ _ _ _ _ _ _ _ _ _ _ _ _ _ _
    | exact ih3 _ _ _ _ _ _ _ _ _ _ _ _ _ _ _ _ _ _ _ _ _ _ _
    | exact ih4 _ _ _ _ _ _ _ _ _ _ _ _ _ _ _ _ _ _ _ _ _ _ _ _
    | exact chequerlaw09_lives.mono _
    | exact chequerref03_SameRow.mono _ _ _
    | exact chequerref09_Bad.mono _ _ _ _ _ _
    | exact chequerref09_Row.mono _ _ _ _ _ _
    | exact LeO.none _
    | refine LeO.ite ?_ ?_
    | refine LeO.bind ?_ (fun _ => ?_)
  · intro y0 y1 y2 y3 y4 y5 y6 y7 y8 y9 y10 y11 y12 y13 y14 y15 y16 y17 y18 y19 y20 y21 y22 y23
    unfold chequerlaw09_RawSteps.j4
    repeat' first
    | (with_reducible exact ih0 _ _ _ _ _ _ _ _ _ _ _ _ _ _ _ _ _ _)
    | (with_reducible exact ih1 _ _ _ _ _ _ _ _ _ _ _ _ _ _ _ _ _ _ _ _ _ _ _)
    | (with_reducible exact ih2 _ _ _ _ _ _ _ _ _ _ _ _ _ _ _ _ _ _ _ _ _ _)
    | (with_reducible exact ih3 _ _ _ _ _ _ _ _ _ _ _ _ _ _ _ _ _ _ _ _ _ _ _)
    | (with_reducible exact ih4 _ _ _ _ _ _ _ _ _ _ _ _ _ _ _ _ _ _ _ _ _ _ _ _)
    | (with_reducible exact chequerlaw09_lives.mono _)
    | (with_reducible exact chequerref03_SameRow.mono _ _ _)
    | (with_reducible exact chequerref09_Bad.mono _ _ _ _ _ _)
    | (with_reducible exact chequerref09_Row.mono _ _ _ _ _ _)
    | (with_reducible exact LeO.refl _)
    | (with_reducible exact LeO.none _)
    | (with_reducible refine LeO.ite ?_ ?_)
    | (with_reducible refine LeO.bind ?_ (fun _ => ?_))
    | exact ih0 _ _ _ _ _ _ _ _ _ _ _ _ _ _ _ _ _ _
    | exact ih1 _ _ _ _ _ _ _ _ _ _ _ _ _ _ _ _ _ _ _ _ _ _ _
    | exact ih2 _ _ _ _ _ _ _ _ _ _ _ _ _ _ _ _ _ _ _ _ _ _
    | exact ih3 _ _ _ _ _ _ _ _ _ _ _ _ _ _ _ _ _ _ _ _ _ _ _
    | exact ih4 _ _ _ _ _ _ _ _ _ _ _ _ _ _ _ _ _ _ _ _ _ _ _ _
    | exact chequerlaw09_lives.mono _
    | exact chequerref03_SameRow.mono _ _ _
    | exact chequerref09_Bad.mono _ _ _ _ _ _
    | exact chequerref09_Row.mono _ _ _ _ _ _
    | exact LeO.none _
    | refine LeO.ite ?_ ?_
    | refine LeO.bind ?_ (fun _ => ?_)
theorem chequerlaw09_RawSteps.mono : ∀ a0 a1 a2 a3 a4 k, LeO (chequerlaw09_RawSteps.f k a0 a1 a2 a3 a4) (chequerlaw09_RawSteps.f (k + 1) a0 a1 a2 a3 a4) := by
 intro a0 a1 a2 a3 a4 k
 obtain ⟨ih0, ih1, ih2, ih3, ih4⟩ := chequerlaw09_RawSteps.mono_l k
 unfold chequerlaw09_RawSteps.f
 repeat' first
  | (with_reducible exact ih0 _ _ _ _ _ _ _ _ _ _ _ _ _ _ _ _ _ _)
  | (with_reducible exact ih1 _ _ _ _ _ _ _ _ _ _ _ _ _ _ _ _ _ _ _ _ _ _ _)
  | (with_reducible exact ih2 _ _ _ _ _ _ _ _ _ _ _ _ _ _ _ _ _ _ _ _ _ _)
  | (with_reducible exact ih3 _ _ _ _ _ _ _ _ _ _ _ _ _ _ _ _ _ _ _ _ _ _ _)
  | (with_reducible exact ih4 _ _ _ _ _ _ _ _ _ _ _ _ _ _ _ _ _ _ _ _ _ _ _ _)
  | (with_reducible exact chequerlaw09_lives.mono _)
  | (with_reducible exact chequerref03_SameRow.mono _ _ _)
  | (with_reducible exact chequerref09_Bad.mono _ _ _ _ _ _)
  | (with_reducible exact chequerref09_Row.mono _ _ _ _ _ _)
  | (with_reducible exact LeO.refl _)
  | (with_reducible exact LeO.none _)
  | (with_reducible refine LeO.ite ?_ ?_)
  | (with_reducible refine LeO.bind ?_ (fun _ => ?_))
  | exact ih0 _ _ _ _ _ _ _ _ _ _ _ _ _ _ _ _ _ _
  | exact ih1 _ _ _ _ _ _ _ _ _ _ _ _ _ _ _ _ _ _ _ _ _ _ _
  | exact ih2 _ _ _ _ _ _ _ _ _ _ _ _ _ _ _ _ _ _ _ _ _ _
  | exact ih3 _ _ _ _ _ _ _ _ _ _ _ _ _ _ _ _ _ _ _ _ _ _ _
  | exact ih4 _ _ _ _ _ _ _ _ _ _ _ _ _ _ _ _ _ _ _ _ _ _ _ _
  | exact chequerlaw09_lives.mono _
  | exact chequerref03_SameRow.mono _ _ _
  | exact chequerref09_Bad.mono _ _ _ _ _ _
  | exact chequerref09_Row.mono _ _ _ _ _ _
  | exact LeO.none _
  | refine LeO.ite ?_ ?_
  | refine LeO.bind ?_ (fun _ => ?_)
def chequerlaw09_RawSteps.T20 : Bool × List (List Nat × List Nat) := (true, [([], []), ([], []), ([1], [1]), ([], []), ([2, 3], [2, 3]), ([], []), ([5], [5]), ([0, 4, 6], [0, 4, 6]), ([], []), ([7, 8], [7, 8]), ([9, 9, 0, 1, 2, 3, 4, 5, 6, 7, 8, 9], [9])])
def chequerlaw09_RawSteps.B20 : List Nat := [0, 0, 2, 0, 14, 0, 32, 127, 0, 511, 1023]
theorem chequerlaw09_RawSteps.tab20 : rtab .any (opsOf Try.f6 20) = chequerlaw09_RawSteps.T20 := by kernel_rfl
theorem chequerlaw09_RawSteps.bits20 : waitsOk chequerlaw09_RawSteps.T20.2 chequerlaw09_RawSteps.B20 = true := by kernel_rfl
set_option maxHeartbeats 8000000 in
set_option maxRecDepth 100000 in
theorem chequerlaw09_RawSteps.calls (k : Nat) (A0 : Option Addr) (c0 : Nat) (l0 : List Int) (a1_0 : Int) (a1_1 : Int) (a1_2 : Int) (a1_3 : Int) (r : Bool) (w : World) (hr0 : Kd.C (Kd.int .u8) w A0 l0.length l0) (hc0 : l0.length ≤ c0) (h : chequerlaw09_RawSteps.f k l0 a1_0 a1_1 a1_2 a1_3 = some r) :
 Calls Try.prog 6 #[.slice A0 l0.length c0, .agg #[.int .i64 a1_0, .int .i64 a1_1, .int .i64 a1_2, .int .i64 a1_3]] w fun e w' => e = .returned (.bool r) ∧ Below w.heap.size w w' := by
 have hu23 := Try.underlying23
 have HR0 := Aside0.mk hr0
 have HC0 := Aside0.mk hc0
 clear hr0 hc0
 have HB := Aside0.mk (Below.refl w.heap.size w)
 have H : (if 0 ≤ (mn (l0.length : Int) 80) then (if (mn (l0.length : Int) 80) ≤ (l0.length : Int) then ((chequerref09_Head.f a1_0 a1_1 a1_2 a1_3 4).bind fun bt438 => ((raw_New.f bt438.1 bt438.2.1 bt438.2.2.1 bt438.2.2.2).bind fun bt443 => (if bt443.2.2.2.2.2.2.2.2.2 = 0 then ((chequerref09_Stride.f bt438.1 bt438.2.1 bt438.2.2.1 bt438.2.2.2).bind fun t454 => ((chequerref09_Bad.f k (l0.take ((mn (l0.length : Int) 80) : Int).toNat) bt438.1 bt438.2.1 bt438.2.2.1 bt438.2.2.2).bind fun t455 => (chequerlaw09_RawSteps.l0 k (l0.take ((mn (l0.length : Int) 80) : Int).toNat) t454 t455 0 0 bt438.1 bt438.2.1 bt438.2.2.1 bt438.2.2.2 bt443.1 bt443.2.1 bt443.2.2.1 bt443.2.2.2.1 bt443.2.2.2.2.1 bt443.2.2.2.2.2.1 bt443.2.2.2.2.2.2.1 bt443.2.2.2.2.2.2.2.1 bt443.2.2.2.2.2.2.2.2.1))) else (some false)))) else (none)) else (none)) = some r := h
 clear h
 obtain ⟨ji3, hji3⟩ : ∃ j_ : Int, (mn (l0.length : Int) 80) = j_ := ⟨_, rfl⟩
 replace H : (if 0 ≤ (ji3) then (if (ji3) ≤ (l0.length : Int) then ((chequerref09_Head.f a1_0 a1_1 a1_2 a1_3 4).bind fun bt438 => ((raw_New.f bt438.1 bt438.2.1 bt438.2.2.1 bt438.2.2.2).bind fun bt443 => (if bt443.2.2.2.2.2.2.2.2.2 = 0 then ((chequerref09_Stride.f bt438.1 bt438.2.1 bt438.2.2.1 bt438.2.2.2).bind fun t454 => ((chequerref09_Bad.f k (l0.take ((ji3) : Int).toNat) bt438.1 bt438.2.1 bt438.2.2.1 bt438.2.2.2).bind fun t455 => (chequerlaw09_RawSteps.l0 k (l0.take ((ji3) : Int).toNat) t454 t455 0 0 bt438.1 bt438.2.1 bt438.2.2.1 bt438.2.2.2 bt443.1 bt443.2.1 bt443.2.2.1 bt443.2.2.2.1 bt443.2.2.2.2.1 bt443.2.2.2.2.2.1 bt443.2.2.2.2.2.2.1 bt443.2.2.2.2.2.2.2.1 bt443.2.2.2.2.2.2.2.2.1))) else (some false)))) else (none)) else (none)) = some r := by first | (rw [hji3] at H; exact H) | (simp only [hji3] at H ⊢; exact H)
 (try (have hji3h : ji3 ≤ 80 := by (rw [← hji3]; unfold mn; (repeat' split) <;> omega)))
 (try (have hji3g : ji3 ≤ 64 := by omega))
 (try (have hji3l : 0 ≤ ji3 := by (rw [← hji3]; unfold mn; (repeat' split) <;> omega)))
 (try (have hji3m : 0 ≤ ji3 := by omega))
 have hji3_ : (if 80 < (l0.length : Int) then 80 else (l0.length : Int)) = ji3 := hji3
 by_cases c4 : 0 ≤ (ji3)
 · rw [if_pos c4] at H
   have c4b0 := eq_true c4
   have c4b1 : decide (0 ≤ (ji3)) = true := decide_eq_true c4
   clear c4
   by_cases c5 : (ji3) ≤ (l0.length : Int)
   · rw [if_pos c5] at H
     have c5b0 := eq_true c5
     have c5b1 : decide ((ji3) ≤ (l0.length : Int)) = true := decide_eq_true c5
     clear c5
     replace H := Option.bind_eq_some_iff.mp H
     obtain ⟨⟨t438, t439, t440, t441⟩, A60, H⟩ := H
     replace H : ((raw_New.f t438 t439 t440 t441).bind fun bt443 => (if bt443.2.2.2.2.2.2.2.2.2 = 0 then ((chequerref09_Stride.f t438 t439 t440 t441).bind fun t454 => ((chequerref09_Bad.f k (l0.take ((ji3) : Int).toNat) t438 t439 t440 t441).bind fun t455 => (chequerlaw09_RawSteps.l0 k (l0.take ((ji3) : Int).toNat) t454 t455 0 0 t438 t439 t440 t441 bt443.1 bt443.2.1 bt443.2.2.1 bt443.2.2.2.1 bt443.2.2.2.2.1 bt443.2.2.2.2.2.1 bt443.2.2.2.2.2.2.1 bt443.2.2.2.2.2.2.2.1 bt443.2.2.2.2.2.2.2.2.1))) else (some false))) = some r := H
     have A6 := Aside0.mk A60
     clear A60
     replace H := Option.bind_eq_some_iff.mp H
     obtain ⟨⟨t443, t444, t445, t446, t447, t448, t449, t450, t451, t453⟩, A70, H⟩ := H
     replace H : (if t453 = 0 then ((chequerref09_Stride.f t438 t439 t440 t441).bind fun t454 => ((chequerref09_Bad.f k (l0.take ((ji3) : Int).toNat) t438 t439 t440 t441).bind fun t455 => (chequerlaw09_RawSteps.l0 k (l0.take ((ji3) : Int).toNat) t454 t455 0 0 t438 t439 t440 t441 t443 t444 t445 t446 t447 t448 t449 t450 t451))) else (some false)) = some r := H
     have A7 := Aside0.mk A70
     clear A70
     by_cases c8 : t453 = 0
     · rw [if_pos c8] at H
       have c8b0 : (t453 == 0) = true := beq_iff_eq.mpr c8
       have c8b1 : (t453 != 0) = false := bne_eq_false_iff_eq.mpr c8
       clear c8
       replace H := Option.bind_eq_some_iff.mp H
       obtain ⟨t454, A90, H⟩ := H
       replace H : ((chequerref09_Bad.f k (l0.take ((ji3) : Int).toNat) t438 t439 t440 t441).bind fun t455 => (chequerlaw09_RawSteps.l0 k (l0.take ((ji3) : Int).toNat) t454 t455 0 0 t438 t439 t440 t441 t443 t444 t445 t446 t447 t448 t449 t450 t451)) = some r := H
       have A9 := Aside0.mk A90
       clear A90
       replace H := Option.bind_eq_some_iff.mp H
       obtain ⟨t455, A100, H⟩ := H
       replace H : (chequerlaw09_RawSteps.l0 k (l0.take ((ji3) : Int).toNat) t454 t455 0 0 t438 t439 t440 t441 t443 t444 t445 t446 t447 t448 t449 t450 t451) = some r := H
       have A10 := Aside0.mk A100
       clear A100
       have H' := Aside0.mk H
       clear H
       go_enter Try.func6, Try.ntmps6
       go_wp2_with (first | ((with_reducible refine gate_dst (N := 3) rfl ?_); refine box_event ?hg (N := 3) ?hd (cs := #[.int .i64 a1_0, .int .i64 a1_1, .int .i64 a1_2, .int .i64 a1_3]) (t := 23) ?hr ?_; (case hd => rfl); (case hg => rfl); (case hr => first | (go_simp; done) | (go_simp; rfl)); intro gb436 hg w11 hbox hb; have BK436 := Aside0.mk (hbox); have GW436 := Aside0.mk ((by rw [hg]; exact (below_size bp_) : w.heap.size ≤ gb436)); have GE436 := Aside0.mk ((by rw [hg]; exact (below_size bp_) : w.heap.size ≤ gb436)); replace HB := Aside0.mk (below_step bp_ hb); clear hb hbox hg; obtain ⟨i012, hi012, _, hsz12, _⟩ := info_parts info5; obtain ⟨hcut12, hA12, hC12⟩ := print_take_of (P := Try.prog) (Value.int .u8) 0 27 5 .i64 Try.underlying27 hi012 hsz12 A0 c0 l0 (ji3) (of_decide_eq_true (by first | (with_reducible assumption) | assumption)) (of_decide_eq_true (by first | (with_reducible assumption) | assumption)) HC0.out; have HR437 := Aside0.mk (Kd.C_of_reads (h1 := fun _ => rfl) (hA12 _ (Kd.reads_of_C HR0.out))); have HC437 := Aside0.mk hC12; clear hA12 hC12 hi012 hsz12; have hcz13_0 : w11.cell? ⟨gb436, 0, none⟩ = some (.int .i64 a1_0) := (blk_cell BK436.out 0).trans rfl; have hcz13_1 : w11.cell? ⟨gb436, 1, none⟩ = some (.int .i64 a1_1) := (blk_cell BK436.out 1).trans rfl; have hcz13_2 : w11.cell? ⟨gb436, 2, none⟩ = some (.int .i64 a1_2) := (blk_cell BK436.out 2).trans rfl; have hcz13_3 : w11.cell? ⟨gb436, 3, none⟩ = some (.int .i64 a1_3) := (blk_cell BK436.out 3).trans rfl; have hfz13_0 := blk_frozen BK436.out 0; have hfz13_1 := blk_frozen BK436.out 1; have hfz13_2 := blk_frozen BK436.out 2; have hfz13_3 := blk_frozen BK436.out 3) | ((with_reducible refine gate_callee (f := 8) rfl ?_); refine goQ_ (some 24) Try.func8 #[.agg #[.int .i64 a1_0, .int .i64 a1_1, .int .i64 a1_2, .int .i64 a1_3], .int .i64 4] ?_; (with_reducible refine (chequerref09_Head.calls a1_0 a1_1 a1_2 a1_3 4 t438 t439 t440 t441 _ A6.out).mono ?_); rintro e w14 ⟨rfl, hb⟩; refine ⟨_, rfl, ?_⟩; replace HB := Aside0.mk (below_step bp_ hb); (try clear hb); (try clear hb2); (try clear hk); (try clear hi)) | ((with_reducible refine gate_dst (N := 5) rfl ?_); refine box_event ?hg (N := 5) ?hd (cs := #[.int .i64 0, .int .i64 0, .int .i64 0, .int .i64 0]) (t := 23) ?hr ?_; (case hd => rfl); (case hg => rfl); (case hr => first | (go_simp; done) | (go_simp; rfl)); intro gb442 hg w15 hbox hb; have BK442 := Aside0.mk (hbox); have GW442 := Aside0.mk ((by rw [hg]; exact (below_size bp_) : w.heap.size ≤ gb442)); have GE442 := Aside0.mk ((by rw [hg]; exact (below_size bp_) : w.heap.size ≤ gb442)); replace HB := Aside0.mk (below_step bp_ hb); clear hb hbox hg; have hcz16_0 : w15.cell? ⟨gb442, 0, none⟩ = some (.int .i64 0) := (blk_cell BK442.out 0).trans rfl; have hcz16_1 : w15.cell? ⟨gb442, 1, none⟩ = some (.int .i64 0) := (blk_cell BK442.out 1).trans rfl; have hcz16_2 : w15.cell? ⟨gb442, 2, none⟩ = some (.int .i64 0) := (blk_cell BK442.out 2).trans rfl; have hcz16_3 : w15.cell? ⟨gb442, 3, none⟩ = some (.int .i64 0) := (blk_cell BK442.out 3).trans rfl; have hfz16_0 := blk_frozen BK442.out 0; have hfz16_1 := blk_frozen BK442.out 1; have hfz16_2 := blk_frozen BK442.out 2; have hfz16_3 := blk_frozen BK442.out 3) | ((with_reducible refine gate_callee (f := 18) rfl ?_); refine goQ_ (some 27) Try.func18 #[.agg #[.int .i64 t438, .int .i64 t439, .int .i64 t440, .int .i64 t441]] ?_; (with_reducible refine (raw_New.calls t438 t439 t440 t441 t443 t444 t445 t446 t447 t448 t449 t450 t451 t453 w _ ?side1 A7.out).mono ?_); (case side1 => repeat (first | (with_reducible first | exact HB.out | apply below_alloc | apply pw_below_drewN | apply below_drew1 | refine below_set ?_ GE442.out) | exact HB.out)); rintro e w17 ⟨g452, rfl, hi, hb, hb2⟩; refine ⟨_, rfl, ?_⟩; replace HB := Aside0.mk (hb); have HI452 := Aside0.mk (hi); have NB452_442 := Aside0.mk (IsS71.ne_blk hi (blk_below (g := gb442) (o := .cells #[.int .i64 t438, .int .i64 t439, .int .i64 t440, .int .i64 t441] 23 (0, 0)) (by (with_reducible repeat (first | refine blk_drewN ?_ _ | refine blk_drew ?_ | refine blk_alloc ?_ _)); refine blk_put (cs := #[.int .i64 t438, .int .i64 t439, .int .i64 t440, .int .i64 0]) ?_ 3 _ rfl; (with_reducible repeat (first | refine blk_drewN ?_ _ | refine blk_drew ?_ | refine blk_alloc ?_ _)); refine blk_put (cs := #[.int .i64 t438, .int .i64 t439, .int .i64 0, .int .i64 0]) ?_ 2 _ rfl; (with_reducible repeat (first | refine blk_drewN ?_ _ | refine blk_drew ?_ | refine blk_alloc ?_ _)); refine blk_put (cs := #[.int .i64 t438, .int .i64 0, .int .i64 0, .int .i64 0]) ?_ 1 _ rfl; (with_reducible repeat (first | refine blk_drewN ?_ _ | refine blk_drew ?_ | refine blk_alloc ?_ _)); refine blk_put (cs := #[.int .i64 0, .int .i64 0, .int .i64 0, .int .i64 0]) ?_ 0 _ rfl; (with_reducible repeat (first | refine blk_drewN ?_ _ | refine blk_drew ?_ | refine blk_alloc ?_ _)); exact BK442.out) hb2) (by decide)); have NB442_452 := Aside0.mk (Ne.symm (IsS71.ne_blk hi (blk_below (g := gb442) (o := .cells #[.int .i64 t438, .int .i64 t439, .int .i64 t440, .int .i64 t441] 23 (0, 0)) (by (with_reducible repeat (first | refine blk_drewN ?_ _ | refine blk_drew ?_ | refine blk_alloc ?_ _)); refine blk_put (cs := #[.int .i64 t438, .int .i64 t439, .int .i64 t440, .int .i64 0]) ?_ 3 _ rfl; (with_reducible repeat (first | refine blk_drewN ?_ _ | refine blk_drew ?_ | refine blk_alloc ?_ _)); refine blk_put (cs := #[.int .i64 t438, .int .i64 t439, .int .i64 0, .int .i64 0]) ?_ 2 _ rfl; (with_reducible repeat (first | refine blk_drewN ?_ _ | refine blk_drew ?_ | refine blk_alloc ?_ _)); refine blk_put (cs := #[.int .i64 t438, .int .i64 0, .int .i64 0, .int .i64 0]) ?_ 1 _ rfl; (with_reducible repeat (first | refine blk_drewN ?_ _ | refine blk_drew ?_ | refine blk_alloc ?_ _)); refine blk_put (cs := #[.int .i64 0, .int .i64 0, .int .i64 0, .int .i64 0]) ?_ 0 _ rfl; (with_reducible repeat (first | refine blk_drewN ?_ _ | refine blk_drew ?_ | refine blk_alloc ?_ _)); exact BK442.out) hb2) (by decide))); replace BK442 := Aside0.mk (blk_below (g := gb442) (o := .cells #[.int .i64 t438, .int .i64 t439, .int .i64 t440, .int .i64 t441] 23 (0, 0)) (by (with_reducible repeat (first | refine blk_drewN ?_ _ | refine blk_drew ?_ | refine blk_alloc ?_ _)); refine blk_put (cs := #[.int .i64 t438, .int .i64 t439, .int .i64 t440, .int .i64 0]) ?_ 3 _ rfl; (with_reducible repeat (first | refine blk_drewN ?_ _ | refine blk_drew ?_ | refine blk_alloc ?_ _)); refine blk_put (cs := #[.int .i64 t438, .int .i64 t439, .int .i64 0, .int .i64 0]) ?_ 2 _ rfl; (with_reducible repeat (first | refine blk_drewN ?_ _ | refine blk_drew ?_ | refine blk_alloc ?_ _)); refine blk_put (cs := #[.int .i64 t438, .int .i64 0, .int .i64 0, .int .i64 0]) ?_ 1 _ rfl; (with_reducible repeat (first | refine blk_drewN ?_ _ | refine blk_drew ?_ | refine blk_alloc ?_ _)); refine blk_put (cs := #[.int .i64 0, .int .i64 0, .int .i64 0, .int .i64 0]) ?_ 0 _ rfl; (with_reducible repeat (first | refine blk_drewN ?_ _ | refine blk_drew ?_ | refine blk_alloc ?_ _)); exact BK442.out) hb2); (try clear hb); (try clear hb2); (try clear hk); (try clear hi); have hnb18 := NB442_452.out; have hnc18 := NB452_442.out; have hcz19_0 : w17.cell? ⟨gb442, 0, none⟩ = some (.int .i64 t438) := (blk_cell BK442.out 0).trans rfl; have hcz19_1 : w17.cell? ⟨gb442, 1, none⟩ = some (.int .i64 t439) := (blk_cell BK442.out 1).trans rfl; have hcz19_2 : w17.cell? ⟨gb442, 2, none⟩ = some (.int .i64 t440) := (blk_cell BK442.out 2).trans rfl; have hcz19_3 : w17.cell? ⟨gb442, 3, none⟩ = some (.int .i64 t441) := (blk_cell BK442.out 3).trans rfl; have hfz19_0 := blk_frozen BK442.out 0; have hfz19_1 := blk_frozen BK442.out 1; have hfz19_2 := blk_frozen BK442.out 2; have hfz19_3 := blk_frozen BK442.out 3) | ((with_reducible refine gate_callee (f := 22) rfl ?_); refine goQ_ (some 37) Try.func22 #[.agg #[.int .i64 t438, .int .i64 t439, .int .i64 t440, .int .i64 t441]] ?_; (with_reducible refine (chequerref09_Stride.calls t438 t439 t440 t441 t454 _ A9.out).mono ?_); rintro e w20 ⟨rfl, hb⟩; refine ⟨_, rfl, ?_⟩; replace BK442 := Aside0.mk (blk_below (hp_ BK442.out) hb); replace HB := Aside0.mk (below_step (by repeat (first | (with_reducible first | exact HB.out | apply below_alloc | apply pw_below_drewN | apply below_drew1 | refine below_set ?_ (IsS71.ge HI452.out) | refine below_set ?_ GE442.out) | exact HB.out)) hb); replace HI452 := Aside0.mk (IsS71.below (by repeat (first | (with_reducible first | exact HI452.out | apply IsS71.alloc | apply IsS71.drewN | apply IsS71.drew | apply IsS71.set_0 | apply IsS71.set_1 | apply IsS71.set_2 | apply IsS71.set_3 | apply IsS71.set_4 | apply IsS71.set_5 | apply IsS71.set_6 | apply IsS71.set_7 | apply IsS71.set_8 | refine IsS71.far ?_ NB452_442.out _) | exact HI452.out)) hb); (try clear hb); (try clear hb2); (try clear hk); (try clear hi); have hcz21_0 : w20.cell? ⟨gb442, 0, none⟩ = some (.int .i64 t438) := (blk_cell BK442.out 0).trans rfl; have hcz21_1 : w20.cell? ⟨gb442, 1, none⟩ = some (.int .i64 t439) := (blk_cell BK442.out 1).trans rfl; have hcz21_2 : w20.cell? ⟨gb442, 2, none⟩ = some (.int .i64 t440) := (blk_cell BK442.out 2).trans rfl; have hcz21_3 : w20.cell? ⟨gb442, 3, none⟩ = some (.int .i64 t441) := (blk_cell BK442.out 3).trans rfl; have hfz21_0 := blk_frozen BK442.out 0; have hfz21_1 := blk_frozen BK442.out 1; have hfz21_2 := blk_frozen BK442.out 2; have hfz21_3 := blk_frozen BK442.out 3) | ((with_reducible refine gate_callee (f := 23) rfl ?_); refine goesL_ (some 40) rfl rfl Try.func23 (by kernel_rfl) rfl #[.slice A0 (l0.take ((ji3) : Int).toNat).length c0, .agg #[.int .i64 t438, .int .i64 t439, .int .i64 t440, .int .i64 t441]] rfl (by (try simp only [List.map_toArray, List.map_cons, List.map_nil]); first | done | (rw [show (l0.take ((ji3) : Int).toNat).length = (ji3).toNat from (by rw [List.length_take]; have h_ : ((ji3) : Int) ≤ (l0.length : Int) := (by first | exact of_decide_eq_true (by first | (with_reducible assumption) | assumption) | (have h2_ := hji3_; (split at h2_ <;> omega))); omega)] <;> rfl) | (simp only [hji3]; rfl) | rfl | (simp only [List.length_drop, List.length_take]; rfl)) ?_; (with_reducible refine (chequerref09_Bad.calls k _ _ (l0.take ((ji3) : Int).toNat) t438 t439 t440 t441 t455 _ ?side1 ?side2 A10.out).mono ?_); (case side1 => repeat (first | exact (Kd.C_below HR437.out HB.out) | (with_reducible refine Kd.C_alloc ?_ _) | (with_reducible refine Kd.C_drewN ?_ _) | (with_reducible refine Kd.C_drew ?_))); (case side2 => exact HC437.out); rintro e w22 ⟨rfl, hb⟩; refine ⟨_, rfl, ?_⟩; replace BK442 := Aside0.mk (blk_below (hp_ BK442.out) hb); replace HB := Aside0.mk (below_step (by repeat (first | (with_reducible first | exact HB.out | apply below_alloc | apply pw_below_drewN | apply below_drew1 | refine below_set ?_ (IsS71.ge HI452.out) | refine below_set ?_ GE442.out) | exact HB.out)) hb); replace HI452 := Aside0.mk (IsS71.below (by repeat (first | (with_reducible first | exact HI452.out | apply IsS71.alloc | apply IsS71.drewN | apply IsS71.drew | apply IsS71.set_0 | apply IsS71.set_1 | apply IsS71.set_2 | apply IsS71.set_3 | apply IsS71.set_4 | apply IsS71.set_5 | apply IsS71.set_6 | apply IsS71.set_7 | apply IsS71.set_8 | refine IsS71.far ?_ NB452_442.out _) | exact HI452.out)) hb); (try clear hb); (try clear hb2); (try clear hk); (try clear hi)))
       go_loopg [10, 11] k (fun kq v10 v11 w' => ∃ (x10_1 : Int) (x11_1 : Int) (x453000_1 : Int) (x453001_1 : Int) (x453002_1 : Int) (x453003_1 : Int) (x453004_1 : Int) (x453005_1 : Int) (x453006_1 : Int) (x453007_1 : Int) (x453008_1 : Int), v10 = .int .i64 x10_1 ∧ v11 = .int .i64 x11_1 ∧ Aside0 (chequerlaw09_RawSteps.l0 kq (l0.take ((ji3) : Int).toNat) t454 t455 x10_1 x11_1 t438 t439 t440 t441 x453000_1 x453001_1 x453002_1 x453003_1 x453004_1 x453005_1 x453006_1 x453007_1 x453008_1 = some r) ∧ Aside0 (kq ≤ k) ∧ Aside0 (w'.heap[gb442]? = some (.cells #[.int .i64 t438, .int .i64 t439, .int .i64 t440, .int .i64 t441] 23 (0, 0))) ∧ Aside0 (IsS71 w w' g452 x453000_1 x453001_1 x453002_1 x453003_1 x453004_1 x453005_1 x453006_1 x453007_1 x453008_1) ∧ Aside0 (Below w.heap.size w w'))
       case atStart => exact ⟨(0), (0), (t443), (t444), (t445), (t446), (t447), (t448), (t449), (t450), (t451), (by first | rfl | (simp; done) | (simp [*]; done)), (by first | rfl | (simp; done) | (simp [*]; done)), H', ⟨Nat.le_refl _⟩, ⟨hp_ BK442.out⟩, ⟨by repeat (first | (with_reducible first | exact HI452.out | apply IsS71.alloc | apply IsS71.drewN | apply IsS71.drew | apply IsS71.set_0 | apply IsS71.set_1 | apply IsS71.set_2 | apply IsS71.set_3 | apply IsS71.set_4 | apply IsS71.set_5 | apply IsS71.set_6 | apply IsS71.set_7 | apply IsS71.set_8 | refine IsS71.far ?_ NB452_442.out _) | exact HI452.out)⟩, ⟨by repeat (first | (with_reducible first | exact HB.out | apply below_alloc | apply pw_below_drewN | apply below_drew1 | refine below_set ?_ (IsS71.ge HI452.out) | refine below_set ?_ GE442.out) | exact HB.out)⟩⟩
       case round =>
        clear H'
        try clear c1
        try clear c2
        try clear p2
        try clear c4
        try clear c4b0
        try clear c4b1
        try clear c5
        try clear c5b0
        try clear c5b1
        try clear c6
        try clear c8
        try clear c8b0
        try clear c8b1
        try clear c18
        try clear c22
        try clear hcz13_0
        try clear hcz13_1
        try clear hcz13_2
        try clear hcz13_3
        try clear hcz16_0
        try clear hcz16_1
        try clear hcz16_2
        try clear hcz16_3
        try clear hcz19_0
        try clear hcz19_1
        try clear hcz19_2
        try clear hcz19_3
        try clear hcz21_0
        try clear hcz21_1
        try clear hcz21_2
        try clear hcz21_3
        try clear hfz13_0
        try clear hfz13_1
        try clear hfz13_2
        try clear hfz13_3
        try clear hfz16_0
        try clear hfz16_1
        try clear hfz16_2
        try clear hfz16_3
        try clear hfz19_0
        try clear hfz19_1
        try clear hfz19_2
        try clear hfz19_3
        try clear hfz21_0
        try clear hfz21_1
        try clear hfz21_2
        try clear hfz21_3
        obtain ⟨x10_1, x11_1, x453000_1, x453001_1, x453002_1, x453003_1, x453004_1, x453005_1, x453006_1, x453007_1, x453008_1, rfl, rfl, HA, HK1, BK442, HI452, HB⟩ := hrel
        cases gk with
        | zero => exact absurd HA.out (by simp [chequerlaw09_RawSteps.l0])
        | succ k1 =>
         have H := HA.out
         clear HA
         simp only [chequerlaw09_RawSteps.l0] at H
         by_cases c23 : x11_1 < ((l0.take ((ji3) : Int).toNat).length : Int)
         · rw [if_pos c23] at H
           have c23b0 : decide (x11_1 < ((l0.take ((ji3) : Int).toNat).length : Int)) = true := decide_eq_true c23
           (try have c23b0mx : decide (x11_1 < max ji3 0) = true := by (have e_ : ((l0.take ((ji3) : Int).toNat).length : Int) = max ji3 0 := (by rw [List.length_take]; have h_ := hji3_; split at h_ <;> omega); rw [← e_]; exact c23b0))
           clear c23
           by_cases c24 : 0 ≤ x11_1
           · rw [if_pos c24] at H
             have c24b0 : decide (0 ≤ x11_1) = true := decide_eq_true c24
             clear c24
             replace H := Option.bind_eq_some_iff.mp H
             obtain ⟨⟨t459, t462, t463, t464, t465, t466, t467, t468, t469, t470, t471⟩, A250, H⟩ := H
             replace H : (if t455 > 0 then (chequerlaw09_RawSteps.j1 k1 (l0.take ((ji3) : Int).toNat) t454 t455 x10_1 x11_1 t459 t462 ([] : List Int) 0 (decide ((wrap64 (x11_1 + 1)) ≥ t455)) t438 t439 t440 t441 t463 t464 t465 t466 t467 t468 t469 t470 t471) else (chequerlaw09_RawSteps.j1 k1 (l0.take ((ji3) : Int).toNat) t454 t455 x10_1 x11_1 t459 t462 ([] : List Int) 0 false t438 t439 t440 t441 t463 t464 t465 t466 t467 t468 t469 t470 t471)) = some r := H
             have A25 := Aside0.mk A250
             clear A250
             have HC26 := Aside0.mk H
             clear H
             have p458 : 0 ≤ (x11_1 : Int) := of_decide_eq_true (by first | (with_reducible assumption) | assumption)
             have q458 : x11_1 < ((l0.take ((ji3) : Int).toNat).length : Int) := of_decide_eq_true (by first | (with_reducible assumption) | assumption)
             (try have q458mx : (x11_1 < max ji3 0) = True := eq_true (by (have e_ : ((l0.take ((ji3) : Int).toNat).length : Int) = max ji3 0 := (by rw [List.length_take]; have h_ := hji3_; split at h_ <;> omega); rw [← e_]; exact q458)))
             obtain ⟨ad458, e458, hx458_0⟩ := Kd.at_int HR437.out x11_1 p458 q458
             cases e458
             replace hx458_0 := (HB.out.cell (World.block_lt_of_cell? w _ hx458_0)).trans hx458_0
             replace p458 := eq_true p458
             replace q458 := eq_true q458
             go_upto_region 15 with (first | ((with_reducible refine gate_callee (f := 19) rfl ?_); refine goesL_ (some 53) rfl rfl Try.func19 (by kernel_rfl) rfl #[.pointer (some ⟨g452, 0, none⟩), .int .u8 (rd (l0.take ((ji3) : Int).toNat) x11_1)] rfl (by (try simp only [List.map_toArray, List.map_cons, List.map_nil]); first | done | (simp only [hji3]; rfl) | rfl | (simp only [List.length_drop, List.length_take]; rfl)) ?_; (with_reducible refine (raw_Reader_Put.calls g452 x453000_1 x453001_1 x453002_1 x453003_1 x453004_1 x453005_1 x453006_1 x453007_1 x453008_1 (rd (l0.take ((ji3) : Int).toNat) x11_1) t459 t462 t463 t464 t465 t466 t467 t468 t469 t470 t471 w _ ?side1 ?side2 A25.out).mono ?_); (case side1 => repeat (first | (with_reducible first | exact HI452.out | apply IsS71.alloc | apply IsS71.drewN | apply IsS71.drew | apply IsS71.set_0 | apply IsS71.set_1 | apply IsS71.set_2 | apply IsS71.set_3 | apply IsS71.set_4 | apply IsS71.set_5 | apply IsS71.set_6 | apply IsS71.set_7 | apply IsS71.set_8 | refine IsS71.far ?_ NB452_442.out _) | exact HI452.out)); (case side2 => repeat (first | (with_reducible first | exact HB.out | apply below_alloc | apply pw_below_drewN | apply below_drew1 | refine below_set ?_ (IsS71.ge HI452.out) | refine below_set ?_ GE442.out) | exact HB.out)); rintro e w27 ⟨v460, rfl, ho0, hi, hb, hk⟩; refine ⟨_, rfl, ?_⟩; replace BK442 := Aside0.mk (KeepBut.blk hk (g' := gb442) (o := .cells #[.int .i64 t438, .int .i64 t439, .int .i64 t440, .int .i64 t441] 23 (0, 0)) (hp_ BK442.out) NB442_452.out (raw_hr HI452.out BK442.out (by decide))); have HO461 := Aside0.mk (Kd.R_lower ho0 (below_size (by repeat (first | (with_reducible first | exact HB.out | apply below_alloc | apply pw_below_drewN | apply below_drew1 | refine below_set ?_ (IsS71.ge HI452.out) | refine below_set ?_ GE442.out) | exact HB.out)))); replace HB := Aside0.mk (hb); replace HI452 := Aside0.mk (hi); (try clear hb); (try clear hb2); (try clear hk); (try clear hi); (try clear ho0)))
             (try simp only [Act.put, List.setIfInBounds_toArray, List.set_cons_zero, List.set_cons_succ])
             go_cut [63] (fun v63 wc => ∃ (kq : Nat) (x63_25 : Bool), v63 = .bool x63_25 ∧ Aside0 (chequerlaw09_RawSteps.j1 kq (l0.take ((ji3) : Int).toNat) t454 t455 x10_1 x11_1 t459 t462 ([] : List Int) 0 x63_25 t438 t439 t440 t441 t463 t464 t465 t466 t467 t468 t469 t470 t471 = some r) ∧ Aside0 (kq ≤ k1) ∧ Aside0 (Kd.R (Kd.int .u64) 26 wc w.heap.size (fun k_ => some k_ ≠ ((.slice none 0 0) : Value).ownBlock) v460 t459) ∧ Aside0 (Kd.R (Kd.int .u64) 26 wc w.heap.size (fun k_ => some k_ ≠ (v460 : Value).ownBlock) (.slice none 0 0) ([] : List Int)) ∧ Aside0 (wc.heap[gb442]? = some (.cells #[.int .i64 t438, .int .i64 t439, .int .i64 t440, .int .i64 t441] 23 (0, 0))) ∧ Aside0 (IsS71 w wc g452 t463 t464 t465 t466 t467 t468 t469 t470 t471) ∧ Aside0 (Below w.heap.size w wc))
             case first =>
              have H := HC26.out
              clear HC26
              by_cases c28 : t455 > 0
              · rw [if_pos c28] at H
                have c28b0 : decide (0 < t455) = true := decide_eq_true c28
                clear c28
                (first | rw [c28b0] | (simp only [i64_w, i32_w]; rw [c28b0]) | skip)
                have H' := Aside0.mk H
                clear H
                go_wp2
                go_meet
                case rel => exact ⟨_, (decide ((wrap64 (x11_1 + 1)) ≥ t455)), (by first | rfl | (simp; done) | (simp [*]; done)), H', ⟨by have := HK1.out; first | omega | exact Nat.le_refl _⟩, ⟨by (with_reducible repeat (first | apply Kd.R_alloc | apply Kd.R_drewN | apply Kd.R_drew)); exact Kd.R_mono HO461.out (fun _ hk => (by simp [Value.ownBlock]))⟩, ⟨by first | exact Kd.R_nil _ _ _ _ _ | exact Kd.N_nil _ _ _ _ _ | exact Kd.V_nil _ _ _ _ _ | exact Kd.Q_nil _ _ _ _ _ | exact Kd.S_nil _ _ _ _ _⟩, ⟨hp_ BK442.out⟩, ⟨by repeat (first | (with_reducible first | exact HI452.out | apply IsS71.alloc | apply IsS71.drewN | apply IsS71.drew | apply IsS71.set_0 | apply IsS71.set_1 | apply IsS71.set_2 | apply IsS71.set_3 | apply IsS71.set_4 | apply IsS71.set_5 | apply IsS71.set_6 | apply IsS71.set_7 | apply IsS71.set_8 | refine IsS71.far ?_ NB452_442.out _) | exact HI452.out)⟩, ⟨by repeat (first | (with_reducible first | exact HB.out | apply below_alloc | apply pw_below_drewN | apply below_drew1 | refine below_set ?_ (IsS71.ge HI452.out) | refine below_set ?_ GE442.out) | exact HB.out)⟩⟩
              · rw [if_neg c28] at H
                have c28b0 : decide (0 < t455) = false := decide_eq_false c28
                clear c28
                (first | rw [c28b0] | (simp only [i64_w, i32_w]; rw [c28b0]) | skip)
                have H' := Aside0.mk H
                clear H
                go_wp2
                go_meet
                case rel => exact ⟨_, (false), (by first | rfl | (simp; done) | (simp [*]; done)), H', ⟨by have := HK1.out; first | omega | exact Nat.le_refl _⟩, ⟨by (with_reducible repeat (first | apply Kd.R_alloc | apply Kd.R_drewN | apply Kd.R_drew)); exact Kd.R_mono HO461.out (fun _ hk => (by simp [Value.ownBlock]))⟩, ⟨by first | exact Kd.R_nil _ _ _ _ _ | exact Kd.N_nil _ _ _ _ _ | exact Kd.V_nil _ _ _ _ _ | exact Kd.Q_nil _ _ _ _ _ | exact Kd.S_nil _ _ _ _ _⟩, ⟨hp_ BK442.out⟩, ⟨by repeat (first | (with_reducible first | exact HI452.out | apply IsS71.alloc | apply IsS71.drewN | apply IsS71.drew | apply IsS71.set_0 | apply IsS71.set_1 | apply IsS71.set_2 | apply IsS71.set_3 | apply IsS71.set_4 | apply IsS71.set_5 | apply IsS71.set_6 | apply IsS71.set_7 | apply IsS71.set_8 | refine IsS71.far ?_ NB452_442.out _) | exact HI452.out)⟩, ⟨by repeat (first | (with_reducible first | exact HB.out | apply below_alloc | apply pw_below_drewN | apply below_drew1 | refine below_set ?_ (IsS71.ge HI452.out) | refine below_set ?_ GE442.out) | exact HB.out)⟩⟩
             case rest =>
              clear HC26
              try clear c1
              try clear c2
              try clear p2
              try clear c4
              try clear c4b0
              try clear c4b1
              try clear p4
              try clear q4
              try clear hx4
              try clear c5
              try clear c5b0
              try clear c5b1
              try clear c6
              try clear p6
              try clear c8
              try clear c8b0
              try clear c8b1
              try clear c18
              try clear c19
              try clear c22
              try clear c23
              try clear c23b0
              try clear c24
              try clear c24b0
              try clear c28
              try clear c28b0
              try clear hcz13_0
              try clear hcz13_1
              try clear hcz13_2
              try clear hcz13_3
              try clear hcz16_0
              try clear hcz16_1
              try clear hcz16_2
              try clear hcz16_3
              try clear hcz19_0
              try clear hcz19_1
              try clear hcz19_2
              try clear hcz19_3
              try clear hcz21_0
              try clear hcz21_1
              try clear hcz21_2
              try clear hcz21_3
              try clear hfz13_0
              try clear hfz13_1
              try clear hfz13_2
              try clear hfz13_3
              try clear hfz16_0
              try clear hfz16_1
              try clear hfz16_2
              try clear hfz16_3
              try clear hfz19_0
              try clear hfz19_1
              try clear hfz19_2
              try clear hfz19_3
              try clear hfz21_0
              try clear hfz21_1
              try clear hfz21_2
              try clear hfz21_3
              try clear hx458_0
              try clear p2
              try clear p458
              try clear q458
              obtain ⟨kq, x63_25, rfl, HA, HJ25, HO_12, HO_14, BK442, HI452, HB⟩ := hcut
              cases kq with
              | zero => exact absurd HA.out (by simp [chequerlaw09_RawSteps.j1])
              | succ kj25 =>
               have H := HA.out
               clear HA
               simp only [chequerlaw09_RawSteps.j1] at H
               have HC29 := Aside0.mk H
               clear H
               go_upto_if 63 with (fail)
               go_cut [10, 14, 15] (fun v10 v14 v15 wc => ∃ (kq : Nat) (x10_28 : Int) (x14_28 : List Int) (x15_28 : Int), v10 = .int .i64 x10_28 ∧ v15 = .int .i64 x15_28 ∧ Aside0 (chequerlaw09_RawSteps.j2 kq (l0.take ((ji3) : Int).toNat) t454 t455 x10_28 x11_1 t459 t462 x14_28 x15_28 t438 t439 t440 t441 t463 t464 t465 t466 t467 t468 t469 t470 t471 = some r) ∧ Aside0 (kq ≤ kj25) ∧ Aside0 (Kd.R (Kd.int .u64) 26 wc w.heap.size (fun k_ => some k_ ≠ (v14 : Value).ownBlock) v460 t459) ∧ Aside0 (Kd.R (Kd.int .u64) 26 wc w.heap.size (fun k_ => some k_ ≠ (v460 : Value).ownBlock) v14 x14_28) ∧ Aside0 (wc.heap[gb442]? = some (.cells #[.int .i64 t438, .int .i64 t439, .int .i64 t440, .int .i64 t441] 23 (0, 0))) ∧ Aside0 (IsS71 w wc g452 t463 t464 t465 t466 t467 t468 t469 t470 t471) ∧ Aside0 (Below w.heap.size w wc))
               case first =>
                have H := HC29.out
                clear HC29
                by_cases c30 : x63_25 = true
                · subst c30
                  have H1 : (chequerlaw09_RawSteps.j2 kj25 (l0.take ((ji3) : Int).toNat) t454 t455 x10_1 x11_1 t459 t462 ([] : List Int) 2 t438 t439 t440 t441 t463 t464 t465 t466 t467 t468 t469 t470 t471) = some r := by rw [if_pos rfl] at H; exact H
                  clear H
                  have H := H1
                  clear H1
                  have H' := Aside0.mk H
                  clear H
                  go_wp2
                  go_meet
                  case rel => exact ⟨_, (x10_1), (([] : List Int)), (2), (by first | rfl | (simp; done) | (simp [*]; done)), (by first | rfl | (simp; done) | (simp [*]; done)), H', ⟨by have := HK1.out; have := HJ25.out; first | omega | exact Nat.le_refl _⟩, ⟨rp_ HO_12.out⟩, ⟨rp_ HO_14.out⟩, ⟨hp_ BK442.out⟩, ⟨by repeat (first | (with_reducible first | exact HI452.out | apply IsS71.alloc | apply IsS71.drewN | apply IsS71.drew | apply IsS71.set_0 | apply IsS71.set_1 | apply IsS71.set_2 | apply IsS71.set_3 | apply IsS71.set_4 | apply IsS71.set_5 | apply IsS71.set_6 | apply IsS71.set_7 | apply IsS71.set_8 | refine IsS71.far ?_ NB452_442.out _) | exact HI452.out)⟩, ⟨by repeat (first | (with_reducible first | exact HB.out | apply below_alloc | apply pw_below_drewN | apply below_drew1 | refine below_set ?_ (IsS71.ge HI452.out) | refine below_set ?_ GE442.out) | exact HB.out)⟩⟩
                · replace c30 := Bool.eq_false_iff.mpr c30
                  subst c30
                  have H1 : (if (wrap64 (x11_1 + 1)) > (wrap64 (t454 * t440)) then (chequerlaw09_RawSteps.j2 kj25 (l0.take ((ji3) : Int).toNat) t454 t455 x10_1 x11_1 t459 t462 ([] : List Int) 1 t438 t439 t440 t441 t463 t464 t465 t466 t467 t468 t469 t470 t471) else (if t454 = 0 then (none) else (if (Int.tmod (wrap64 (x11_1 + 1)) t454) = 0 then (if 0 ≤ (wrap64 ((wrap64 (x11_1 + 1)) - t454)) then (if (wrap64 ((wrap64 (x11_1 + 1)) - t454)) ≤ (wrap64 (x11_1 + 1)) then (if (wrap64 (x11_1 + 1)) ≤ ((l0.take ((ji3) : Int).toNat).length : Int) then ((chequerref09_Row.f kj25 (((l0.take ((ji3) : Int).toNat).take ((wrap64 (x11_1 + 1)) : Int).toNat).drop ((wrap64 ((wrap64 (x11_1 + 1)) - t454)) : Int).toNat) t438 t439 t440 t441).bind fun t473 => (if (wrap64 (x10_1 + 1)) = t440 then (chequerlaw09_RawSteps.j2 kj25 (l0.take ((ji3) : Int).toNat) t454 t455 (wrap64 (x10_1 + 1)) x11_1 t459 t462 t473 1 t438 t439 t440 t441 t463 t464 t465 t466 t467 t468 t469 t470 t471) else (chequerlaw09_RawSteps.j2 kj25 (l0.take ((ji3) : Int).toNat) t454 t455 (wrap64 (x10_1 + 1)) x11_1 t459 t462 t473 0 t438 t439 t440 t441 t463 t464 t465 t466 t467 t468 t469 t470 t471))) else (none)) else (none)) else (none)) else (chequerlaw09_RawSteps.j2 kj25 (l0.take ((ji3) : Int).toNat) t454 t455 x10_1 x11_1 t459 t462 ([] : List Int) 0 t438 t439 t440 t441 t463 t464 t465 t466 t467 t468 t469 t470 t471)))) = some r := by rw [if_neg (show ¬ (false = true) by decide)] at H; exact H
                  clear H
                  have H := H1
                  clear H1
                  by_cases c31 : (wrap64 (x11_1 + 1)) > (wrap64 (t454 * t440))
                  · rw [if_pos c31] at H
                    have c31b0 : decide ((wrap64 (t454 * t440)) < (wrap64 (x11_1 + 1))) = true := decide_eq_true c31
                    clear c31
                    (first | rw [c31b0] | (simp only [i64_w, i32_w]; rw [c31b0]) | skip)
                    have H' := Aside0.mk H
                    clear H
                    have hnb32 := NB442_452.out
                    have hnc32 := NB452_442.out
                    have hcz33_0 : wc.cell? ⟨gb442, 0, none⟩ = some (.int .i64 t438) := (blk_cell BK442.out 0).trans rfl
                    have hcz33_1 : wc.cell? ⟨gb442, 1, none⟩ = some (.int .i64 t439) := (blk_cell BK442.out 1).trans rfl
                    have hcz33_2 : wc.cell? ⟨gb442, 2, none⟩ = some (.int .i64 t440) := (blk_cell BK442.out 2).trans rfl
                    have hcz33_3 : wc.cell? ⟨gb442, 3, none⟩ = some (.int .i64 t441) := (blk_cell BK442.out 3).trans rfl
                    have hfz33_0 := blk_frozen BK442.out 0
                    have hfz33_1 := blk_frozen BK442.out 1
                    have hfz33_2 := blk_frozen BK442.out 2
                    have hfz33_3 := blk_frozen BK442.out 3
                    go_wp2
                    go_meet
                    case rel => exact ⟨_, (x10_1), (([] : List Int)), (1), (by first | rfl | (simp; done) | (simp [*]; done)), (by first | rfl | (simp; done) | (simp [*]; done)), H', ⟨by have := HK1.out; have := HJ25.out; first | omega | exact Nat.le_refl _⟩, ⟨rp_ HO_12.out⟩, ⟨rp_ HO_14.out⟩, ⟨hp_ BK442.out⟩, ⟨by repeat (first | (with_reducible first | exact HI452.out | apply IsS71.alloc | apply IsS71.drewN | apply IsS71.drew | apply IsS71.set_0 | apply IsS71.set_1 | apply IsS71.set_2 | apply IsS71.set_3 | apply IsS71.set_4 | apply IsS71.set_5 | apply IsS71.set_6 | apply IsS71.set_7 | apply IsS71.set_8 | refine IsS71.far ?_ NB452_442.out _) | exact HI452.out)⟩, ⟨by repeat (first | (with_reducible first | exact HB.out | apply below_alloc | apply pw_below_drewN | apply below_drew1 | refine below_set ?_ (IsS71.ge HI452.out) | refine below_set ?_ GE442.out) | exact HB.out)⟩⟩
                  · rw [if_neg c31] at H
                    have c31b0 : decide ((wrap64 (t454 * t440)) < (wrap64 (x11_1 + 1))) = false := decide_eq_false c31
                    clear c31
                    (first | rw [c31b0] | (simp only [i64_w, i32_w]; rw [c31b0]) | skip)
                    by_cases c34 : t454 = 0
                    · rw [if_pos c34] at H
                      exact absurd H (by simp)
                    · rw [if_neg c34] at H
                      have c34b0 : (t454 == 0) = false := beq_eq_false_iff_ne.mpr c34
                      have c34b1 : (t454 != 0) = true := bne_iff_ne.mpr c34
                      by_cases c35 : (Int.tmod (wrap64 (x11_1 + 1)) t454) = 0
                      · rw [if_pos c35] at H
                        have c35b0 : ((Int.tmod (wrap64 (x11_1 + 1)) t454) == 0) = true := beq_iff_eq.mpr c35
                        have c35b1 : ((Int.tmod (wrap64 (x11_1 + 1)) t454) != 0) = false := bne_eq_false_iff_eq.mpr c35
                        clear c35
                        obtain ⟨ji36, hji36⟩ : ∃ j_ : Int, (wrap64 ((wrap64 (x11_1 + 1)) - t454)) = j_ := ⟨_, rfl⟩
                        replace H : (if 0 ≤ (ji36) then (if (ji36) ≤ (wrap64 (x11_1 + 1)) then (if (wrap64 (x11_1 + 1)) ≤ ((l0.take ((ji3) : Int).toNat).length : Int) then ((chequerref09_Row.f kj25 (((l0.take ((ji3) : Int).toNat).take ((wrap64 (x11_1 + 1)) : Int).toNat).drop ((ji36) : Int).toNat) t438 t439 t440 t441).bind fun t473 => (if (wrap64 (x10_1 + 1)) = t440 then (chequerlaw09_RawSteps.j2 kj25 (l0.take ((ji3) : Int).toNat) t454 t455 (wrap64 (x10_1 + 1)) x11_1 t459 t462 t473 1 t438 t439 t440 t441 t463 t464 t465 t466 t467 t468 t469 t470 t471) else (chequerlaw09_RawSteps.j2 kj25 (l0.take ((ji3) : Int).toNat) t454 t455 (wrap64 (x10_1 + 1)) x11_1 t459 t462 t473 0 t438 t439 t440 t441 t463 t464 t465 t466 t467 t468 t469 t470 t471))) else (none)) else (none)) else (none)) = some r := by first | (rw [hji36] at H; exact H) | (simp only [hji36] at H ⊢; exact H)
                        have hji36w : (IntKind.i64.wrap ((wrap64 (x11_1 + 1)) - t454)) = ji36 := (i64_w _).trans hji36
                        by_cases c37 : 0 ≤ (ji36)
                        · rw [if_pos c37] at H
                          have c37b0 := eq_true c37
                          have c37b1 : decide (0 ≤ (ji36)) = true := decide_eq_true c37
                          clear c37
                          by_cases c38 : (ji36) ≤ (wrap64 (x11_1 + 1))
                          · rw [if_pos c38] at H
                            have c38b0 := eq_true c38
                            have c38b1 : decide ((ji36) ≤ (wrap64 (x11_1 + 1))) = true := decide_eq_true c38
                            by_cases c39 : (wrap64 (x11_1 + 1)) ≤ ((l0.take ((ji3) : Int).toNat).length : Int)
                            · rw [if_pos c39] at H
                              have c39b0 := eq_true c39
                              have c39b1 : decide ((wrap64 (x11_1 + 1)) ≤ ((l0.take ((ji3) : Int).toNat).length : Int)) = true := decide_eq_true c39
                              (try have c39b1mx : decide ((wrap64 (x11_1 + 1)) ≤ max ji3 0) = true := by (have e_ : ((l0.take ((ji3) : Int).toNat).length : Int) = max ji3 0 := (by rw [List.length_take]; have h_ := hji3_; split at h_ <;> omega); rw [← e_]; exact c39b1))
                              replace H := Option.bind_eq_some_iff.mp H
                              obtain ⟨t473, A400, H⟩ := H
                              replace H : (if (wrap64 (x10_1 + 1)) = t440 then (chequerlaw09_RawSteps.j2 kj25 (l0.take ((ji3) : Int).toNat) t454 t455 (wrap64 (x10_1 + 1)) x11_1 t459 t462 t473 1 t438 t439 t440 t441 t463 t464 t465 t466 t467 t468 t469 t470 t471) else (chequerlaw09_RawSteps.j2 kj25 (l0.take ((ji3) : Int).toNat) t454 t455 (wrap64 (x10_1 + 1)) x11_1 t459 t462 t473 0 t438 t439 t440 t441 t463 t464 t465 t466 t467 t468 t469 t470 t471)) = some r := H
                              have A40 := Aside0.mk A400
                              clear A400
                              by_cases c41 : (wrap64 (x10_1 + 1)) = t440
                              · rw [if_pos c41] at H
                                have c41b0 : ((wrap64 (x10_1 + 1)) == t440) = true := beq_iff_eq.mpr c41
                                have c41b1 : ((wrap64 (x10_1 + 1)) != t440) = false := bne_eq_false_iff_eq.mpr c41
                                clear c41
                                have H' := Aside0.mk H
                                clear H
                                have hnb42 := NB442_452.out
                                have hnc42 := NB452_442.out
                                have hcz43_0 : wc.cell? ⟨gb442, 0, none⟩ = some (.int .i64 t438) := (blk_cell BK442.out 0).trans rfl
                                have hcz43_1 : wc.cell? ⟨gb442, 1, none⟩ = some (.int .i64 t439) := (blk_cell BK442.out 1).trans rfl
                                have hcz43_2 : wc.cell? ⟨gb442, 2, none⟩ = some (.int .i64 t440) := (blk_cell BK442.out 2).trans rfl
                                have hcz43_3 : wc.cell? ⟨gb442, 3, none⟩ = some (.int .i64 t441) := (blk_cell BK442.out 3).trans rfl
                                have hfz43_0 := blk_frozen BK442.out 0
                                have hfz43_1 := blk_frozen BK442.out 1
                                have hfz43_2 := blk_frozen BK442.out 2
                                have hfz43_3 := blk_frozen BK442.out 3
                                try go_wp2
                                (try (rw [drewN_self wc]; generalize hq_ : World.drewN wc _ = wc; have n0_ := Aside0.mk (qrp_ hq_ HO_12.out); have n1_ := Aside0.mk (qrp_ hq_ HO_14.out); have n2_ := Aside0.mk (qhp_ hq_ BK442.out); have n3_ : Aside0 (IsS71 w wc g452 t463 t464 t465 t466 t467 t468 t469 t470 t471) := ⟨by rw [← hq_]; exact (by repeat (first | (with_reducible first | exact HI452.out | apply IsS71.alloc | apply IsS71.drewN | apply IsS71.drew | apply IsS71.set_0 | apply IsS71.set_1 | apply IsS71.set_2 | apply IsS71.set_3 | apply IsS71.set_4 | apply IsS71.set_5 | apply IsS71.set_6 | apply IsS71.set_7 | apply IsS71.set_8 | refine IsS71.far ?_ NB452_442.out _) | exact HI452.out))⟩; have n4_ : Aside0 (Below w.heap.size w wc) := ⟨by rw [← hq_]; exact (by repeat (first | (with_reducible first | exact HB.out | apply below_alloc | apply pw_below_drewN | apply below_drew1 | refine below_set ?_ (IsS71.ge HI452.out) | refine below_set ?_ GE442.out) | exact HB.out))⟩; clear HO_12 HO_14 BK442 HI452 HB hq_; have HO_12 := n0_; have HO_14 := n1_; have BK442 := n2_; have HI452 := n3_; have HB := n4_; clear n0_ n1_ n2_ n3_ n4_))
                                replace HO_12 := Aside0.mk (Kd.R_drew HO_12.out)
                                replace HO_14 := Aside0.mk (Kd.R_drew HO_14.out)
                                replace BK442 := Aside0.mk (blk_drew BK442.out)
                                replace HI452 := Aside0.mk (IsS71.drew HI452.out)
                                replace HB := Aside0.mk (below_drew1 HB.out)
                                obtain ⟨i045, hi045, _, hsz45, _⟩ := info_parts info5
                                obtain ⟨A45, hcut45, hA45, hC45⟩ := print_mid_of (P := Try.prog) (Value.int .u8) 0 27 5 .i64 .i64 Try.underlying27 hi045 hsz45 (some ad458) c0 (l0.take ((ji3) : Int).toNat) (ji36) (wrap64 (x11_1 + 1)) (of_decide_eq_true (by first | (with_reducible assumption) | assumption)) (by first | omega | exact of_decide_eq_true (by first | (with_reducible assumption) | assumption)) (of_decide_eq_true (by first | (with_reducible assumption) | assumption)) HC437.out
                                (try rw [show (l0.take ((ji3) : Int).toNat).length = ((ji3) : Int).toNat from by (rw [List.length_take]; have h_ := hji3_; split at h_ <;> omega)] at hcut45)
                                have HR472 := Aside0.mk (Kd.C_of_reads (h1 := fun _ => rfl) (hA45 _ (Kd.reads_of_C HR437.out)))
                                have HC472 := Aside0.mk hC45
                                clear hA45 hC45 hi045 hsz45
                                refine start_ (n := 11) (S := fun w' => w'.cell? ⟨gb442, 0, none⟩ = some (.int .i64 t438) ∧ w'.cell? ⟨gb442, 1, none⟩ = some (.int .i64 t439) ∧ w'.cell? ⟨gb442, 2, none⟩ = some (.int .i64 t440) ∧ w'.cell? ⟨gb442, 3, none⟩ = some (.int .i64 t441)) (ds := []) Fl106 (by kernel_rfl) rfl rfl ⟨(blk_cell BK442.out 0).trans rfl, (blk_cell BK442.out 1).trans rfl, (blk_cell BK442.out 2).trans rfl, (blk_cell BK442.out 3).trans rfl⟩ (fun hHeld => ?_); refine with_tabW chequerlaw09_RawSteps.tab20 chequerlaw09_RawSteps.bits20 (fun HT_ HW_ => ?_)
                                generalize wc.drew = w44 at HO_12 HO_14 BK442 HI452 HB HR472 hHeld ⊢
                                refine pur_ (i := 0) (N := some 76) Fl107 (any_of HT_.out (by kernel_rfl)) ?_
                                refine pur_ (i := 1) (N := some 77) Fl108 (any_of HT_.out (by kernel_rfl)) ?_
                                refine pur_ (i := 2) (N := some 78) Fl109 (any_of HT_.out (by kernel_rfl)) ?_
                                refine pur_ (i := 3) (N := some 79) Fl110 (any_of HT_.out (by kernel_rfl)) ?_
                                refine pur_ (i := 4) (N := some 80) Fl111 (any_of HT_.out (by kernel_rfl)) ?_
                                refine pur_ (i := 5) (N := some 81) Fl112 (any_of HT_.out (by kernel_rfl)) ?_
                                refine pur_ (i := 6) (N := some 82) Fl113 (any_of HT_.out (by kernel_rfl)) ?_
                                refine pur_ (i := 7) (N := some 83) Fl114 (any_of HT_.out (by kernel_rfl)) ?_
                                refine take_ (i := 8) (N := some 84) (v := ?_) (a' := ?_) Fl115 rfl rfl (take_ofW HT_.out HW_.out (by kernel_rfl)) (fun _ _ _ h => h) (Or.inl ⟨by rfl, ?_⟩) hHeld ?_ ?_
                                rotate_left
                                · rintro w' ⟨s0, s1, s2, s3⟩
                                  go_simp
                                  with_reducible rfl
                                rotate_left
                                · simp only [Act.put, List.setIfInBounds_toArray, List.set_cons_zero, List.set_cons_succ, i64_w, i32_w]
                                  rfl
                                refine one_ (i := 9) (N := some 85) Fl116 rfl rfl (one_of HT_.out (by kernel_rfl)) (by decide) (fun K hK => ?_)
                                refine goes_ Try.func24 (by kernel_rfl) rfl #[.slice A45 (((l0.take ((ji3) : Int).toNat).take ((wrap64 (x11_1 + 1)) : Int).toNat).drop ((ji36) : Int).toNat).length (c0 - (ji36).toNat), .agg #[.int .i64 t438, .int .i64 t439, .int .i64 t440, .int .i64 t441]] (by rfl) rfl rfl (by (try simp only [List.map_toArray, List.map_cons, List.map_nil]); first | done | (rw [show (((l0.take ((ji3) : Int).toNat).take ((wrap64 (x11_1 + 1)) : Int).toNat).drop ((ji36) : Int).toNat).length = ((wrap64 (x11_1 + 1)).toNat - (ji36).toNat) from (by rw [List.length_drop, List.length_take]; have h_ : ((wrap64 (x11_1 + 1)) : Int) ≤ ((l0.take ((ji3) : Int).toNat).length : Int) := of_decide_eq_true (by first | (with_reducible assumption) | assumption); omega)] <;> rfl) | (simp only [hji3, hji36]; rfl) | rfl | (simp only [List.length_drop, List.length_take]; rfl)) ?_
                                with_reducible refine (chequerref09_Row.calls kj25 _ _ (((l0.take ((ji3) : Int).toNat).take ((wrap64 (x11_1 + 1)) : Int).toNat).drop ((ji36) : Int).toNat) t438 t439 t440 t441 t473 _ ?side1 ?side2 A40.out).mono ?_
                                (case side1 => repeat (first | exact (Kd.C_below HR472.out HB.out) | (with_reducible refine Kd.C_alloc ?_ _) | (with_reducible refine Kd.C_drewN ?_ _) | (with_reducible refine Kd.C_drew ?_)))
                                (case side2 => exact HC472.out)
                                rintro e w46 ⟨v474, rfl, ho0, hb⟩
                                refine ⟨_, rfl, ?_⟩
                                have HO475 := Aside0.mk (Kd.R_lower (Kd.R_new' (Kd.R_new' ho0 (Kd.R_lt (rp_ HO_12.out))) (Kd.R_lt (rp_ HO_14.out))) (below_size (by repeat (first | (with_reducible first | exact HB.out | apply below_alloc | apply pw_below_drewN | apply below_drew1 | refine below_set ?_ (IsS71.ge HI452.out) | refine below_set ?_ GE442.out) | exact HB.out))))
                                replace HO_12 := Aside0.mk (Kd.R_elder' (rp_ HO_12.out) (Kd.R_base ho0) hb)
                                replace HO_14 := Aside0.mk (Kd.R_elder' (rp_ HO_14.out) (Kd.R_base ho0) hb)
                                replace BK442 := Aside0.mk (blk_below (hp_ BK442.out) hb)
                                replace HB := Aside0.mk (below_step (by repeat (first | (with_reducible first | exact HB.out | apply below_alloc | apply pw_below_drewN | apply below_drew1 | refine below_set ?_ (IsS71.ge HI452.out) | refine below_set ?_ GE442.out) | exact HB.out)) hb)
                                replace HI452 := Aside0.mk (IsS71.below (by repeat (first | (with_reducible first | exact HI452.out | apply IsS71.alloc | apply IsS71.drewN | apply IsS71.drew | apply IsS71.set_0 | apply IsS71.set_1 | apply IsS71.set_2 | apply IsS71.set_3 | apply IsS71.set_4 | apply IsS71.set_5 | apply IsS71.set_6 | apply IsS71.set_7 | apply IsS71.set_8 | refine IsS71.far ?_ NB452_442.out _) | exact HI452.out)) hb)
                                (try clear hb)
                                (try clear hb2)
                                (try clear hk)
                                (try clear hi)
                                (try clear ho0)
                                refine hK.out _ _ ⟨(blk_cell BK442.out 0).trans rfl, (blk_cell BK442.out 1).trans rfl, (blk_cell BK442.out 2).trans rfl, (blk_cell BK442.out 3).trans rfl⟩ (fun hHeld => ?_)
                                clear hK K
                                refine norm_ (a' := ?_) ?_ ?_
                                rotate_left
                                · show Act.put _ (some 85) _ = _
                                  simp only [Act.put, List.setIfInBounds_toArray, List.set_cons_zero, List.set_cons_succ, i64_w, i32_w]
                                  rfl
                                refine pur_ (i := 10) (N := some 14) Fl117 (any_of HT_.out (by kernel_rfl)) ?_
                                refine done_ (done_of HT_.out (by kernel_rfl)) ?_
                                have hcz47_0 : w46.cell? ⟨gb442, 0, none⟩ = some (.int .i64 t438) := (blk_cell BK442.out 0).trans rfl
                                have hcz47_1 : w46.cell? ⟨gb442, 1, none⟩ = some (.int .i64 t439) := (blk_cell BK442.out 1).trans rfl
                                have hcz47_2 : w46.cell? ⟨gb442, 2, none⟩ = some (.int .i64 t440) := (blk_cell BK442.out 2).trans rfl
                                have hcz47_3 : w46.cell? ⟨gb442, 3, none⟩ = some (.int .i64 t441) := (blk_cell BK442.out 3).trans rfl
                                have hfz47_0 := blk_frozen BK442.out 0
                                have hfz47_1 := blk_frozen BK442.out 1
                                have hfz47_2 := blk_frozen BK442.out 2
                                have hfz47_3 := blk_frozen BK442.out 3
                                try go_wp2
                                go_meet
                                case rel => exact ⟨_, (wrap64 (x10_1 + 1)), (t473), (1), (by first | rfl | (simp; done) | (simp [*]; done)), (by first | rfl | (simp; done) | (simp [*]; done)), H', ⟨by have := HK1.out; have := HJ25.out; first | omega | exact Nat.le_refl _⟩, ⟨by (with_reducible repeat (first | apply Kd.R_alloc | apply Kd.R_drewN | apply Kd.R_drew)); exact Kd.R_mono HO_12.out (fun _ hk => hk.2)⟩, ⟨by (with_reducible repeat (first | apply Kd.R_alloc | apply Kd.R_drewN | apply Kd.R_drew)); exact Kd.R_mono HO475.out (fun _ hk => hk.1.2)⟩, ⟨hp_ BK442.out⟩, ⟨by repeat (first | (with_reducible first | exact HI452.out | apply IsS71.alloc | apply IsS71.drewN | apply IsS71.drew | apply IsS71.set_0 | apply IsS71.set_1 | apply IsS71.set_2 | apply IsS71.set_3 | apply IsS71.set_4 | apply IsS71.set_5 | apply IsS71.set_6 | apply IsS71.set_7 | apply IsS71.set_8 | refine IsS71.far ?_ NB452_442.out _) | exact HI452.out)⟩, ⟨by repeat (first | (with_reducible first | exact HB.out | apply below_alloc | apply pw_below_drewN | apply below_drew1 | refine below_set ?_ (IsS71.ge HI452.out) | refine below_set ?_ GE442.out) | exact HB.out)⟩⟩
                              · rw [if_neg c41] at H
                                have c41b0 : ((wrap64 (x10_1 + 1)) == t440) = false := beq_eq_false_iff_ne.mpr c41
                                have c41b1 : ((wrap64 (x10_1 + 1)) != t440) = true := bne_iff_ne.mpr c41
                                have H' := Aside0.mk H
                                clear H
                                have hnb48 := NB442_452.out
                                have hnc48 := NB452_442.out
                                have hcz49_0 : wc.cell? ⟨gb442, 0, none⟩ = some (.int .i64 t438) := (blk_cell BK442.out 0).trans rfl
                                have hcz49_1 : wc.cell? ⟨gb442, 1, none⟩ = some (.int .i64 t439) := (blk_cell BK442.out 1).trans rfl
                                have hcz49_2 : wc.cell? ⟨gb442, 2, none⟩ = some (.int .i64 t440) := (blk_cell BK442.out 2).trans rfl
                                have hcz49_3 : wc.cell? ⟨gb442, 3, none⟩ = some (.int .i64 t441) := (blk_cell BK442.out 3).trans rfl
                                have hfz49_0 := blk_frozen BK442.out 0
                                have hfz49_1 := blk_frozen BK442.out 1
                                have hfz49_2 := blk_frozen BK442.out 2
                                have hfz49_3 := blk_frozen BK442.out 3
                                try go_wp2
                                (try (rw [drewN_self wc]; generalize hq_ : World.drewN wc _ = wc; have n0_ := Aside0.mk (qrp_ hq_ HO_12.out); have n1_ := Aside0.mk (qrp_ hq_ HO_14.out); have n2_ := Aside0.mk (qhp_ hq_ BK442.out); have n3_ : Aside0 (IsS71 w wc g452 t463 t464 t465 t466 t467 t468 t469 t470 t471) := ⟨by rw [← hq_]; exact (by repeat (first | (with_reducible first | exact HI452.out | apply IsS71.alloc | apply IsS71.drewN | apply IsS71.drew | apply IsS71.set_0 | apply IsS71.set_1 | apply IsS71.set_2 | apply IsS71.set_3 | apply IsS71.set_4 | apply IsS71.set_5 | apply IsS71.set_6 | apply IsS71.set_7 | apply IsS71.set_8 | refine IsS71.far ?_ NB452_442.out _) | exact HI452.out))⟩; have n4_ : Aside0 (Below w.heap.size w wc) := ⟨by rw [← hq_]; exact (by repeat (first | (with_reducible first | exact HB.out | apply below_alloc | apply pw_below_drewN | apply below_drew1 | refine below_set ?_ (IsS71.ge HI452.out) | refine below_set ?_ GE442.out) | exact HB.out))⟩; clear HO_12 HO_14 BK442 HI452 HB hq_; have HO_12 := n0_; have HO_14 := n1_; have BK442 := n2_; have HI452 := n3_; have HB := n4_; clear n0_ n1_ n2_ n3_ n4_))
                                replace HO_12 := Aside0.mk (Kd.R_drew HO_12.out)
                                replace HO_14 := Aside0.mk (Kd.R_drew HO_14.out)
                                replace BK442 := Aside0.mk (blk_drew BK442.out)
                                replace HI452 := Aside0.mk (IsS71.drew HI452.out)
                                replace HB := Aside0.mk (below_drew1 HB.out)
                                obtain ⟨i051, hi051, _, hsz51, _⟩ := info_parts info5
                                obtain ⟨A51, hcut51, hA51, hC51⟩ := print_mid_of (P := Try.prog) (Value.int .u8) 0 27 5 .i64 .i64 Try.underlying27 hi051 hsz51 (some ad458) c0 (l0.take ((ji3) : Int).toNat) (ji36) (wrap64 (x11_1 + 1)) (of_decide_eq_true (by first | (with_reducible assumption) | assumption)) (by first | omega | exact of_decide_eq_true (by first | (with_reducible assumption) | assumption)) (of_decide_eq_true (by first | (with_reducible assumption) | assumption)) HC437.out
                                (try rw [show (l0.take ((ji3) : Int).toNat).length = ((ji3) : Int).toNat from by (rw [List.length_take]; have h_ := hji3_; split at h_ <;> omega)] at hcut51)
                                have HR472 := Aside0.mk (Kd.C_of_reads (h1 := fun _ => rfl) (hA51 _ (Kd.reads_of_C HR437.out)))
                                have HC472 := Aside0.mk hC51
                                clear hA51 hC51 hi051 hsz51
                                refine start_ (n := 11) (S := fun w' => w'.cell? ⟨gb442, 0, none⟩ = some (.int .i64 t438) ∧ w'.cell? ⟨gb442, 1, none⟩ = some (.int .i64 t439) ∧ w'.cell? ⟨gb442, 2, none⟩ = some (.int .i64 t440) ∧ w'.cell? ⟨gb442, 3, none⟩ = some (.int .i64 t441)) (ds := []) Fl106 (by kernel_rfl) rfl rfl ⟨(blk_cell BK442.out 0).trans rfl, (blk_cell BK442.out 1).trans rfl, (blk_cell BK442.out 2).trans rfl, (blk_cell BK442.out 3).trans rfl⟩ (fun hHeld => ?_); refine with_tabW chequerlaw09_RawSteps.tab20 chequerlaw09_RawSteps.bits20 (fun HT_ HW_ => ?_)
                                generalize wc.drew = w50 at HO_12 HO_14 BK442 HI452 HB HR472 hHeld ⊢
                                refine pur_ (i := 0) (N := some 76) Fl107 (any_of HT_.out (by kernel_rfl)) ?_
                                refine pur_ (i := 1) (N := some 77) Fl108 (any_of HT_.out (by kernel_rfl)) ?_
                                refine pur_ (i := 2) (N := some 78) Fl109 (any_of HT_.out (by kernel_rfl)) ?_
                                refine pur_ (i := 3) (N := some 79) Fl110 (any_of HT_.out (by kernel_rfl)) ?_
                                refine pur_ (i := 4) (N := some 80) Fl111 (any_of HT_.out (by kernel_rfl)) ?_
                                refine pur_ (i := 5) (N := some 81) Fl112 (any_of HT_.out (by kernel_rfl)) ?_
                                refine pur_ (i := 6) (N := some 82) Fl113 (any_of HT_.out (by kernel_rfl)) ?_
                                refine pur_ (i := 7) (N := some 83) Fl114 (any_of HT_.out (by kernel_rfl)) ?_
                                refine take_ (i := 8) (N := some 84) (v := ?_) (a' := ?_) Fl115 rfl rfl (take_ofW HT_.out HW_.out (by kernel_rfl)) (fun _ _ _ h => h) (Or.inl ⟨by rfl, ?_⟩) hHeld ?_ ?_
                                rotate_left
                                · rintro w' ⟨s0, s1, s2, s3⟩
                                  go_simp
                                  with_reducible rfl
                                rotate_left
                                · simp only [Act.put, List.setIfInBounds_toArray, List.set_cons_zero, List.set_cons_succ, i64_w, i32_w]
                                  rfl
                                refine one_ (i := 9) (N := some 85) Fl116 rfl rfl (one_of HT_.out (by kernel_rfl)) (by decide) (fun K hK => ?_)
                                refine goes_ Try.func24 (by kernel_rfl) rfl #[.slice A51 (((l0.take ((ji3) : Int).toNat).take ((wrap64 (x11_1 + 1)) : Int).toNat).drop ((ji36) : Int).toNat).length (c0 - (ji36).toNat), .agg #[.int .i64 t438, .int .i64 t439, .int .i64 t440, .int .i64 t441]] (by rfl) rfl rfl (by (try simp only [List.map_toArray, List.map_cons, List.map_nil]); first | done | (rw [show (((l0.take ((ji3) : Int).toNat).take ((wrap64 (x11_1 + 1)) : Int).toNat).drop ((ji36) : Int).toNat).length = ((wrap64 (x11_1 + 1)).toNat - (ji36).toNat) from (by rw [List.length_drop, List.length_take]; have h_ : ((wrap64 (x11_1 + 1)) : Int) ≤ ((l0.take ((ji3) : Int).toNat).length : Int) := of_decide_eq_true (by first | (with_reducible assumption) | assumption); omega)] <;> rfl) | (simp only [hji3, hji36]; rfl) | rfl | (simp only [List.length_drop, List.length_take]; rfl)) ?_
                                with_reducible refine (chequerref09_Row.calls kj25 _ _ (((l0.take ((ji3) : Int).toNat).take ((wrap64 (x11_1 + 1)) : Int).toNat).drop ((ji36) : Int).toNat) t438 t439 t440 t441 t473 _ ?side1 ?side2 A40.out).mono ?_
                                (case side1 => repeat (first | exact (Kd.C_below HR472.out HB.out) | (with_reducible refine Kd.C_alloc ?_ _) | (with_reducible refine Kd.C_drewN ?_ _) | (with_reducible refine Kd.C_drew ?_)))
                                (case side2 => exact HC472.out)
                                rintro e w52 ⟨v474, rfl, ho0, hb⟩
                                refine ⟨_, rfl, ?_⟩
                                have HO475 := Aside0.mk (Kd.R_lower (Kd.R_new' (Kd.R_new' ho0 (Kd.R_lt (rp_ HO_12.out))) (Kd.R_lt (rp_ HO_14.out))) (below_size (by repeat (first | (with_reducible first | exact HB.out | apply below_alloc | apply pw_below_drewN | apply below_drew1 | refine below_set ?_ (IsS71.ge HI452.out) | refine below_set ?_ GE442.out) | exact HB.out))))
                                replace HO_12 := Aside0.mk (Kd.R_elder' (rp_ HO_12.out) (Kd.R_base ho0) hb)
                                replace HO_14 := Aside0.mk (Kd.R_elder' (rp_ HO_14.out) (Kd.R_base ho0) hb)
                                replace BK442 := Aside0.mk (blk_below (hp_ BK442.out) hb)
                                replace HB := Aside0.mk (below_step (by repeat (first | (with_reducible first | exact HB.out | apply below_alloc | apply pw_below_drewN | apply below_drew1 | refine below_set ?_ (IsS71.ge HI452.out) | refine below_set ?_ GE442.out) | exact HB.out)) hb)
                                replace HI452 := Aside0.mk (IsS71.below (by repeat (first | (with_reducible first | exact HI452.out | apply IsS71.alloc | apply IsS71.drewN | apply IsS71.drew | apply IsS71.set_0 | apply IsS71.set_1 | apply IsS71.set_2 | apply IsS71.set_3 | apply IsS71.set_4 | apply IsS71.set_5 | apply IsS71.set_6 | apply IsS71.set_7 | apply IsS71.set_8 | refine IsS71.far ?_ NB452_442.out _) | exact HI452.out)) hb)
                                (try clear hb)
                                (try clear hb2)
                                (try clear hk)
                                (try clear hi)
                                (try clear ho0)
                                refine hK.out _ _ ⟨(blk_cell BK442.out 0).trans rfl, (blk_cell BK442.out 1).trans rfl, (blk_cell BK442.out 2).trans rfl, (blk_cell BK442.out 3).trans rfl⟩ (fun hHeld => ?_)
                                clear hK K
                                refine norm_ (a' := ?_) ?_ ?_
                                rotate_left
                                · show Act.put _ (some 85) _ = _
                                  simp only [Act.put, List.setIfInBounds_toArray, List.set_cons_zero, List.set_cons_succ, i64_w, i32_w]
                                  rfl
                                refine pur_ (i := 10) (N := some 14) Fl117 (any_of HT_.out (by kernel_rfl)) ?_
                                refine done_ (done_of HT_.out (by kernel_rfl)) ?_
                                have hcz53_0 : w52.cell? ⟨gb442, 0, none⟩ = some (.int .i64 t438) := (blk_cell BK442.out 0).trans rfl
                                have hcz53_1 : w52.cell? ⟨gb442, 1, none⟩ = some (.int .i64 t439) := (blk_cell BK442.out 1).trans rfl
                                have hcz53_2 : w52.cell? ⟨gb442, 2, none⟩ = some (.int .i64 t440) := (blk_cell BK442.out 2).trans rfl
                                have hcz53_3 : w52.cell? ⟨gb442, 3, none⟩ = some (.int .i64 t441) := (blk_cell BK442.out 3).trans rfl
                                have hfz53_0 := blk_frozen BK442.out 0
                                have hfz53_1 := blk_frozen BK442.out 1
                                have hfz53_2 := blk_frozen BK442.out 2
                                have hfz53_3 := blk_frozen BK442.out 3
                                try go_wp2
                                go_meet
                                case rel => exact ⟨_, (wrap64 (x10_1 + 1)), (t473), (0), (by first | rfl | (simp; done) | (simp [*]; done)), (by first | rfl | (simp; done) | (simp [*]; done)), H', ⟨by have := HK1.out; have := HJ25.out; first | omega | exact Nat.le_refl _⟩, ⟨by (with_reducible repeat (first | apply Kd.R_alloc | apply Kd.R_drewN | apply Kd.R_drew)); exact Kd.R_mono HO_12.out (fun _ hk => hk.2)⟩, ⟨by (with_reducible repeat (first | apply Kd.R_alloc | apply Kd.R_drewN | apply Kd.R_drew)); exact Kd.R_mono HO475.out (fun _ hk => hk.1.2)⟩, ⟨hp_ BK442.out⟩, ⟨by repeat (first | (with_reducible first | exact HI452.out | apply IsS71.alloc | apply IsS71.drewN | apply IsS71.drew | apply IsS71.set_0 | apply IsS71.set_1 | apply IsS71.set_2 | apply IsS71.set_3 | apply IsS71.set_4 | apply IsS71.set_5 | apply IsS71.set_6 | apply IsS71.set_7 | apply IsS71.set_8 | refine IsS71.far ?_ NB452_442.out _) | exact HI452.out)⟩, ⟨by repeat (first | (with_reducible first | exact HB.out | apply below_alloc | apply pw_below_drewN | apply below_drew1 | refine below_set ?_ (IsS71.ge HI452.out) | refine below_set ?_ GE442.out) | exact HB.out)⟩⟩
                            · rw [if_neg c39] at H
                              exact absurd H (by simp)
                          · rw [if_neg c38] at H
                            exact absurd H (by simp)
                        · rw [if_neg c37] at H
                          exact absurd H (by simp)
                      · rw [if_neg c35] at H
                        have c35b0 : ((Int.tmod (wrap64 (x11_1 + 1)) t454) == 0) = false := beq_eq_false_iff_ne.mpr c35
                        have c35b1 : ((Int.tmod (wrap64 (x11_1 + 1)) t454) != 0) = true := bne_iff_ne.mpr c35
                        have H' := Aside0.mk H
                        clear H
                        have hnb54 := NB442_452.out
                        have hnc54 := NB452_442.out
                        have hcz55_0 : wc.cell? ⟨gb442, 0, none⟩ = some (.int .i64 t438) := (blk_cell BK442.out 0).trans rfl
                        have hcz55_1 : wc.cell? ⟨gb442, 1, none⟩ = some (.int .i64 t439) := (blk_cell BK442.out 1).trans rfl
                        have hcz55_2 : wc.cell? ⟨gb442, 2, none⟩ = some (.int .i64 t440) := (blk_cell BK442.out 2).trans rfl
                        have hcz55_3 : wc.cell? ⟨gb442, 3, none⟩ = some (.int .i64 t441) := (blk_cell BK442.out 3).trans rfl
                        have hfz55_0 := blk_frozen BK442.out 0
                        have hfz55_1 := blk_frozen BK442.out 1
                        have hfz55_2 := blk_frozen BK442.out 2
                        have hfz55_3 := blk_frozen BK442.out 3
                        go_wp2
                        go_meet
                        case rel => exact ⟨_, (x10_1), (([] : List Int)), (0), (by first | rfl | (simp; done) | (simp [*]; done)), (by first | rfl | (simp; done) | (simp [*]; done)), H', ⟨by have := HK1.out; have := HJ25.out; first | omega | exact Nat.le_refl _⟩, ⟨rp_ HO_12.out⟩, ⟨rp_ HO_14.out⟩, ⟨hp_ BK442.out⟩, ⟨by repeat (first | (with_reducible first | exact HI452.out | apply IsS71.alloc | apply IsS71.drewN | apply IsS71.drew | apply IsS71.set_0 | apply IsS71.set_1 | apply IsS71.set_2 | apply IsS71.set_3 | apply IsS71.set_4 | apply IsS71.set_5 | apply IsS71.set_6 | apply IsS71.set_7 | apply IsS71.set_8 | refine IsS71.far ?_ NB452_442.out _) | exact HI452.out)⟩, ⟨by repeat (first | (with_reducible first | exact HB.out | apply below_alloc | apply pw_below_drewN | apply below_drew1 | refine below_set ?_ (IsS71.ge HI452.out) | refine below_set ?_ GE442.out) | exact HB.out)⟩⟩
               case rest =>
                clear HC29
                try clear c1
                try clear c2
                try clear p2
                try clear c3
                try clear c4
                try clear c4b0
                try clear c4b1
                try clear p4
                try clear q4
                try clear hx4
                try clear c5
                try clear c5b0
                try clear c5b1
                try clear c6
                try clear p6
                try clear c8
                try clear c8b0
                try clear c8b1
                try clear c18
                try clear c19
                try clear c22
                try clear c23
                try clear c23b0
                try clear c24
                try clear c24b0
                try clear c28
                try clear c28b0
                try clear c30
                try clear c31
                try clear c31b0
                try clear c32
                try clear c34
                try clear c34b0
                try clear c34b1
                try clear c35
                try clear c35b0
                try clear c35b1
                try clear c37
                try clear c37b0
                try clear c37b1
                try clear c38
                try clear c38b0
                try clear c38b1
                try clear c39
                try clear c39b0
                try clear c39b1
                try clear c41
                try clear c41b0
                try clear c41b1
                try clear c42
                try clear p45
                try clear q45
                try clear hx45
                try clear c48
                try clear c54
                try clear hcz13_0
                try clear hcz13_1
                try clear hcz13_2
                try clear hcz13_3
                try clear hcz16_0
                try clear hcz16_1
                try clear hcz16_2
                try clear hcz16_3
                try clear hcz19_0
                try clear hcz19_1
                try clear hcz19_2
                try clear hcz19_3
                try clear hcz21_0
                try clear hcz21_1
                try clear hcz21_2
                try clear hcz21_3
                try clear hcz33_0
                try clear hcz33_1
                try clear hcz33_2
                try clear hcz33_3
                try clear hcz43_0
                try clear hcz43_1
                try clear hcz43_2
                try clear hcz43_3
                try clear hcz47_0
                try clear hcz47_1
                try clear hcz47_2
                try clear hcz47_3
                try clear hcz49_0
                try clear hcz49_1
                try clear hcz49_2
                try clear hcz49_3
                try clear hcz53_0
                try clear hcz53_1
                try clear hcz53_2
                try clear hcz53_3
                try clear hcz55_0
                try clear hcz55_1
                try clear hcz55_2
                try clear hcz55_3
                try clear hfz13_0
                try clear hfz13_1
                try clear hfz13_2
                try clear hfz13_3
                try clear hfz16_0
                try clear hfz16_1
                try clear hfz16_2
                try clear hfz16_3
                try clear hfz19_0
                try clear hfz19_1
                try clear hfz19_2
                try clear hfz19_3
                try clear hfz21_0
                try clear hfz21_1
                try clear hfz21_2
                try clear hfz21_3
                try clear hfz33_0
                try clear hfz33_1
                try clear hfz33_2
                try clear hfz33_3
                try clear hfz43_0
                try clear hfz43_1
                try clear hfz43_2
                try clear hfz43_3
                try clear hfz47_0
                try clear hfz47_1
                try clear hfz47_2
                try clear hfz47_3
                try clear hfz49_0
                try clear hfz49_1
                try clear hfz49_2
                try clear hfz49_3
                try clear hfz53_0
                try clear hfz53_1
                try clear hfz53_2
                try clear hfz53_3
                try clear hfz55_0
                try clear hfz55_1
                try clear hfz55_2
                try clear hfz55_3
                try clear hx458_0
                try clear p2
                try clear p4
                try clear p458
                try clear p6
                try clear q4
                try clear q458
                obtain ⟨kq, x10_28, x14_28, x15_28, rfl, rfl, HA, HJ28, HO_12, HO_14, BK442, HI452, HB⟩ := hcut
                cases kq with
                | zero => exact absurd HA.out (by simp [chequerlaw09_RawSteps.j2])
                | succ kj28 =>
                 have H := HA.out
                 clear HA
                 simp only [chequerlaw09_RawSteps.j2] at H
                 have HC56 := Aside0.mk H
                 clear H
                 have hnb57 := NB442_452.out
                 have hnc57 := NB452_442.out
                 have hcz58_0 : wc.cell? ⟨gb442, 0, none⟩ = some (.int .i64 t438) := (blk_cell BK442.out 0).trans rfl
                 have hcz58_1 : wc.cell? ⟨gb442, 1, none⟩ = some (.int .i64 t439) := (blk_cell BK442.out 1).trans rfl
                 have hcz58_2 : wc.cell? ⟨gb442, 2, none⟩ = some (.int .i64 t440) := (blk_cell BK442.out 2).trans rfl
                 have hcz58_3 : wc.cell? ⟨gb442, 3, none⟩ = some (.int .i64 t441) := (blk_cell BK442.out 3).trans rfl
                 have hfz58_0 := blk_frozen BK442.out 0
                 have hfz58_1 := blk_frozen BK442.out 1
                 have hfz58_2 := blk_frozen BK442.out 2
                 have hfz58_3 := blk_frozen BK442.out 3
                 go_upto_if 100 with (fail)
                 go_cut [16] (fun v16 wc => ∃ (kq : Nat) (x16_55 : Int), v16 = .int .i64 x16_55 ∧ Aside0 (chequerlaw09_RawSteps.j3 kq (l0.take ((ji3) : Int).toNat) t454 t455 x10_28 x11_1 t459 t462 x14_28 x15_28 x16_55 t438 t439 t440 t441 t463 t464 t465 t466 t467 t468 t469 t470 t471 = some r) ∧ Aside0 (kq ≤ kj28) ∧ Aside0 (Kd.R (Kd.int .u64) 26 wc w.heap.size (fun k_ => some k_ ≠ (u14 : Value).ownBlock) v460 t459) ∧ Aside0 (Kd.R (Kd.int .u64) 26 wc w.heap.size (fun k_ => some k_ ≠ (v460 : Value).ownBlock) u14 x14_28) ∧ Aside0 (wc.heap[gb442]? = some (.cells #[.int .i64 t438, .int .i64 t439, .int .i64 t440, .int .i64 t441] 23 (0, 0))) ∧ Aside0 (IsS71 w wc g452 t463 t464 t465 t466 t467 t468 t469 t470 t471) ∧ Aside0 (Below w.heap.size w wc))
                 case first =>
                  have H := HC56.out
                  clear HC56
                  by_cases c59 : x15_28 = 0
                  · rw [if_pos c59] at H
                    have c59b0 : (x15_28 == 0) = true := beq_iff_eq.mpr c59
                    have c59b1 : (x15_28 != 0) = false := bne_eq_false_iff_eq.mpr c59
                    clear c59
                    (first | rw [c59b0] | (simp only [i64_w, i32_w]; rw [c59b0]) | skip)
                    have H' := Aside0.mk H
                    clear H
                    go_wp2
                    go_meet
                    case rel => exact ⟨_, (wrap64 ((wrap64 ((wrap64 (t454 * t440)) - x11_1)) - 1)), (by first | rfl | (simp; done) | (simp [*]; done)), H', ⟨by have := HK1.out; have := HJ25.out; have := HJ28.out; first | omega | exact Nat.le_refl _⟩, ⟨rp_ HO_12.out⟩, ⟨rp_ HO_14.out⟩, ⟨hp_ BK442.out⟩, ⟨by repeat (first | (with_reducible first | exact HI452.out | apply IsS71.alloc | apply IsS71.drewN | apply IsS71.drew | apply IsS71.set_0 | apply IsS71.set_1 | apply IsS71.set_2 | apply IsS71.set_3 | apply IsS71.set_4 | apply IsS71.set_5 | apply IsS71.set_6 | apply IsS71.set_7 | apply IsS71.set_8 | refine IsS71.far ?_ NB452_442.out _) | exact HI452.out)⟩, ⟨by repeat (first | (with_reducible first | exact HB.out | apply below_alloc | apply pw_below_drewN | apply below_drew1 | refine below_set ?_ (IsS71.ge HI452.out) | refine below_set ?_ GE442.out) | exact HB.out)⟩⟩
                  · rw [if_neg c59] at H
                    have c59b0 : (x15_28 == 0) = false := beq_eq_false_iff_ne.mpr c59
                    have c59b1 : (x15_28 != 0) = true := bne_iff_ne.mpr c59
                    (first | rw [c59b0] | (simp only [i64_w, i32_w]; rw [c59b0]) | skip)
                    have H' := Aside0.mk H
                    clear H
                    go_wp2
                    go_meet
                    case rel => exact ⟨_, (0), (by first | rfl | (simp; done) | (simp [*]; done)), H', ⟨by have := HK1.out; have := HJ25.out; have := HJ28.out; first | omega | exact Nat.le_refl _⟩, ⟨rp_ HO_12.out⟩, ⟨rp_ HO_14.out⟩, ⟨hp_ BK442.out⟩, ⟨by repeat (first | (with_reducible first | exact HI452.out | apply IsS71.alloc | apply IsS71.drewN | apply IsS71.drew | apply IsS71.set_0 | apply IsS71.set_1 | apply IsS71.set_2 | apply IsS71.set_3 | apply IsS71.set_4 | apply IsS71.set_5 | apply IsS71.set_6 | apply IsS71.set_7 | apply IsS71.set_8 | refine IsS71.far ?_ NB452_442.out _) | exact HI452.out)⟩, ⟨by repeat (first | (with_reducible first | exact HB.out | apply below_alloc | apply pw_below_drewN | apply below_drew1 | refine below_set ?_ (IsS71.ge HI452.out) | refine below_set ?_ GE442.out) | exact HB.out)⟩⟩
                 case rest =>
                  clear HC56
                  try clear c1
                  try clear c2
                  try clear p2
                  try clear c3
                  try clear c4
                  try clear c4b0
                  try clear c4b1
                  try clear p4
                  try clear q4
                  try clear hx4
                  try clear c5
                  try clear c5b0
                  try clear c5b1
                  try clear c6
                  try clear p6
                  try clear c8
                  try clear c8b0
                  try clear c8b1
                  try clear c18
                  try clear c19
                  try clear c22
                  try clear c23
                  try clear c23b0
                  try clear c24
                  try clear c24b0
                  try clear c28
                  try clear c28b0
                  try clear c30
                  try clear c31
                  try clear c31b0
                  try clear c32
                  try clear c34
                  try clear c34b0
                  try clear c34b1
                  try clear c35
                  try clear c35b0
                  try clear c35b1
                  try clear c37
                  try clear c37b0
                  try clear c37b1
                  try clear c38
                  try clear c38b0
                  try clear c38b1
                  try clear c39
                  try clear c39b0
                  try clear c39b1
                  try clear c41
                  try clear c41b0
                  try clear c41b1
                  try clear c42
                  try clear p45
                  try clear q45
                  try clear hx45
                  try clear c48
                  try clear c54
                  try clear c57
                  try clear c59
                  try clear c59b0
                  try clear c59b1
                  try clear hcz13_0
                  try clear hcz13_1
                  try clear hcz13_2
                  try clear hcz13_3
                  try clear hcz16_0
                  try clear hcz16_1
                  try clear hcz16_2
                  try clear hcz16_3
                  try clear hcz19_0
                  try clear hcz19_1
                  try clear hcz19_2
                  try clear hcz19_3
                  try clear hcz21_0
                  try clear hcz21_1
                  try clear hcz21_2
                  try clear hcz21_3
                  try clear hcz33_0
                  try clear hcz33_1
                  try clear hcz33_2
                  try clear hcz33_3
                  try clear hcz43_0
                  try clear hcz43_1
                  try clear hcz43_2
                  try clear hcz43_3
                  try clear hcz47_0
                  try clear hcz47_1
                  try clear hcz47_2
                  try clear hcz47_3
                  try clear hcz49_0
                  try clear hcz49_1
                  try clear hcz49_2
                  try clear hcz49_3
                  try clear hcz53_0
                  try clear hcz53_1
                  try clear hcz53_2
                  try clear hcz53_3
                  try clear hcz55_0
                  try clear hcz55_1
                  try clear hcz55_2
                  try clear hcz55_3
                  try clear hcz58_0
                  try clear hcz58_1
                  try clear hcz58_2
                  try clear hcz58_3
                  try clear hfz13_0
                  try clear hfz13_1
                  try clear hfz13_2
                  try clear hfz13_3
                  try clear hfz16_0
                  try clear hfz16_1
                  try clear hfz16_2
                  try clear hfz16_3
                  try clear hfz19_0
                  try clear hfz19_1
                  try clear hfz19_2
                  try clear hfz19_3
                  try clear hfz21_0
                  try clear hfz21_1
                  try clear hfz21_2
                  try clear hfz21_3
                  try clear hfz33_0
                  try clear hfz33_1
                  try clear hfz33_2
                  try clear hfz33_3
                  try clear hfz43_0
                  try clear hfz43_1
                  try clear hfz43_2
                  try clear hfz43_3
                  try clear hfz47_0
                  try clear hfz47_1
                  try clear hfz47_2
                  try clear hfz47_3
                  try clear hfz49_0
                  try clear hfz49_1
                  try clear hfz49_2
                  try clear hfz49_3
                  try clear hfz53_0
                  try clear hfz53_1
                  try clear hfz53_2
                  try clear hfz53_3
                  try clear hfz55_0
                  try clear hfz55_1
                  try clear hfz55_2
                  try clear hfz55_3
                  try clear hfz58_0
                  try clear hfz58_1
                  try clear hfz58_2
                  try clear hfz58_3
                  try clear hx458_0
                  try clear p2
                  try clear p4
                  try clear p45
                  try clear p458
                  try clear p6
                  try clear q4
                  try clear q45
                  try clear q458
                  obtain ⟨kq, x16_55, rfl, HA, HJ55, HO_12, HO_14, BK442, HI452, HB⟩ := hcut
                  cases kq with
                  | zero => exact absurd HA.out (by simp [chequerlaw09_RawSteps.j3])
                  | succ kj55 =>
                   have H := HA.out
                   clear HA
                   simp only [chequerlaw09_RawSteps.j3] at H
                   have HC60 := Aside0.mk H
                   clear H
                   go_upto_if 102 with (fail)
                   go_cut [17] (fun v17 wc => ∃ (kq : Nat) (x17_59 : Int), v17 = .int .i64 x17_59 ∧ Aside0 (chequerlaw09_RawSteps.j4 kq (l0.take ((ji3) : Int).toNat) t454 t455 x10_28 x11_1 t459 t462 x14_28 x15_28 x16_55 x17_59 t438 t439 t440 t441 t463 t464 t465 t466 t467 t468 t469 t470 t471 = some r) ∧ Aside0 (kq ≤ kj55) ∧ Aside0 (Kd.R (Kd.int .u64) 26 wc w.heap.size (fun k_ => some k_ ≠ (u14 : Value).ownBlock) v460 t459) ∧ Aside0 (Kd.R (Kd.int .u64) 26 wc w.heap.size (fun k_ => some k_ ≠ (v460 : Value).ownBlock) u14 x14_28) ∧ Aside0 (wc.heap[gb442]? = some (.cells #[.int .i64 t438, .int .i64 t439, .int .i64 t440, .int .i64 t441] 23 (0, 0))) ∧ Aside0 (IsS71 w wc g452 t463 t464 t465 t466 t467 t468 t469 t470 t471) ∧ Aside0 (Below w.heap.size w wc))
                   case first =>
                    have H := HC60.out
                    clear HC60
                    by_cases c61 : x15_28 = 2
                    · rw [if_pos c61] at H
                      have c61b0 : (x15_28 == 2) = true := beq_iff_eq.mpr c61
                      have c61b1 : (x15_28 != 2) = false := bne_eq_false_iff_eq.mpr c61
                      clear c61
                      (first | rw [c61b0] | (simp only [i64_w, i32_w]; rw [c61b0]) | skip)
                      have H' := Aside0.mk H
                      clear H
                      go_wp2
                      go_meet
                      case rel => exact ⟨_, (5), (by first | rfl | (simp; done) | (simp [*]; done)), H', ⟨by have := HK1.out; have := HJ25.out; have := HJ28.out; have := HJ55.out; first | omega | exact Nat.le_refl _⟩, ⟨rp_ HO_12.out⟩, ⟨rp_ HO_14.out⟩, ⟨hp_ BK442.out⟩, ⟨by repeat (first | (with_reducible first | exact HI452.out | apply IsS71.alloc | apply IsS71.drewN | apply IsS71.drew | apply IsS71.set_0 | apply IsS71.set_1 | apply IsS71.set_2 | apply IsS71.set_3 | apply IsS71.set_4 | apply IsS71.set_5 | apply IsS71.set_6 | apply IsS71.set_7 | apply IsS71.set_8 | refine IsS71.far ?_ NB452_442.out _) | exact HI452.out)⟩, ⟨by repeat (first | (with_reducible first | exact HB.out | apply below_alloc | apply pw_below_drewN | apply below_drew1 | refine below_set ?_ (IsS71.ge HI452.out) | refine below_set ?_ GE442.out) | exact HB.out)⟩⟩
                    · rw [if_neg c61] at H
                      have c61b0 : (x15_28 == 2) = false := beq_eq_false_iff_ne.mpr c61
                      have c61b1 : (x15_28 != 2) = true := bne_iff_ne.mpr c61
                      (first | rw [c61b0] | (simp only [i64_w, i32_w]; rw [c61b0]) | skip)
                      have H' := Aside0.mk H
                      clear H
                      go_wp2
                      go_meet
                      case rel => exact ⟨_, (0), (by first | rfl | (simp; done) | (simp [*]; done)), H', ⟨by have := HK1.out; have := HJ25.out; have := HJ28.out; have := HJ55.out; first | omega | exact Nat.le_refl _⟩, ⟨rp_ HO_12.out⟩, ⟨rp_ HO_14.out⟩, ⟨hp_ BK442.out⟩, ⟨by repeat (first | (with_reducible first | exact HI452.out | apply IsS71.alloc | apply IsS71.drewN | apply IsS71.drew | apply IsS71.set_0 | apply IsS71.set_1 | apply IsS71.set_2 | apply IsS71.set_3 | apply IsS71.set_4 | apply IsS71.set_5 | apply IsS71.set_6 | apply IsS71.set_7 | apply IsS71.set_8 | refine IsS71.far ?_ NB452_442.out _) | exact HI452.out)⟩, ⟨by repeat (first | (with_reducible first | exact HB.out | apply below_alloc | apply pw_below_drewN | apply below_drew1 | refine below_set ?_ (IsS71.ge HI452.out) | refine below_set ?_ GE442.out) | exact HB.out)⟩⟩
                   case rest =>
                    clear HC60
                    try clear c1
                    try clear c2
                    try clear p2
                    try clear c3
                    try clear c4
                    try clear c4b0
                    try clear c4b1
                    try clear p4
                    try clear q4
                    try clear hx4
                    try clear c5
                    try clear c5b0
                    try clear c5b1
                    try clear c6
                    try clear p6
                    try clear c8
                    try clear c8b0
                    try clear c8b1
                    try clear c18
                    try clear c19
                    try clear c22
                    try clear c23
                    try clear c23b0
                    try clear c24
                    try clear c24b0
                    try clear c28
                    try clear c28b0
                    try clear c30
                    try clear c31
                    try clear c31b0
                    try clear c32
                    try clear c34
                    try clear c34b0
                    try clear c34b1
                    try clear c35
                    try clear c35b0
                    try clear c35b1
                    try clear c37
                    try clear c37b0
                    try clear c37b1
                    try clear c38
                    try clear c38b0
                    try clear c38b1
                    try clear c39
                    try clear c39b0
                    try clear c39b1
                    try clear c41
                    try clear c41b0
                    try clear c41b1
                    try clear c42
                    try clear p45
                    try clear q45
                    try clear hx45
                    try clear c48
                    try clear c54
                    try clear c57
                    try clear c59
                    try clear c59b0
                    try clear c59b1
                    try clear c61
                    try clear c61b0
                    try clear c61b1
                    try clear hcz13_0
                    try clear hcz13_1
                    try clear hcz13_2
                    try clear hcz13_3
                    try clear hcz16_0
                    try clear hcz16_1
                    try clear hcz16_2
                    try clear hcz16_3
                    try clear hcz19_0
                    try clear hcz19_1
                    try clear hcz19_2
                    try clear hcz19_3
                    try clear hcz21_0
                    try clear hcz21_1
                    try clear hcz21_2
                    try clear hcz21_3
                    try clear hcz33_0
                    try clear hcz33_1
                    try clear hcz33_2
                    try clear hcz33_3
                    try clear hcz43_0
                    try clear hcz43_1
                    try clear hcz43_2
                    try clear hcz43_3
                    try clear hcz47_0
                    try clear hcz47_1
                    try clear hcz47_2
                    try clear hcz47_3
                    try clear hcz49_0
                    try clear hcz49_1
                    try clear hcz49_2
                    try clear hcz49_3
                    try clear hcz53_0
                    try clear hcz53_1
                    try clear hcz53_2
                    try clear hcz53_3
                    try clear hcz55_0
                    try clear hcz55_1
                    try clear hcz55_2
                    try clear hcz55_3
                    try clear hcz58_0
                    try clear hcz58_1
                    try clear hcz58_2
                    try clear hcz58_3
                    try clear hfz13_0
                    try clear hfz13_1
                    try clear hfz13_2
                    try clear hfz13_3
                    try clear hfz16_0
                    try clear hfz16_1
                    try clear hfz16_2
                    try clear hfz16_3
                    try clear hfz19_0
                    try clear hfz19_1
                    try clear hfz19_2
                    try clear hfz19_3
                    try clear hfz21_0
                    try clear hfz21_1
                    try clear hfz21_2
                    try clear hfz21_3
                    try clear hfz33_0
                    try clear hfz33_1
                    try clear hfz33_2
                    try clear hfz33_3
                    try clear hfz43_0
                    try clear hfz43_1
                    try clear hfz43_2
                    try clear hfz43_3
                    try clear hfz47_0
                    try clear hfz47_1
                    try clear hfz47_2
                    try clear hfz47_3
                    try clear hfz49_0
                    try clear hfz49_1
                    try clear hfz49_2
                    try clear hfz49_3
                    try clear hfz53_0
                    try clear hfz53_1
                    try clear hfz53_2
                    try clear hfz53_3
                    try clear hfz55_0
                    try clear hfz55_1
                    try clear hfz55_2
                    try clear hfz55_3
                    try clear hfz58_0
                    try clear hfz58_1
                    try clear hfz58_2
                    try clear hfz58_3
                    try clear hx458_0
                    try clear p2
                    try clear p4
                    try clear p45
                    try clear p458
                    try clear p6
                    try clear q4
                    try clear q45
                    try clear q458
                    obtain ⟨kq, x17_59, rfl, HA, HJ59, HO_12, HO_14, BK442, HI452, HB⟩ := hcut
                    cases kq with
                    | zero => exact absurd HA.out (by simp [chequerlaw09_RawSteps.j4])
                    | succ kj59 =>
                     have H := HA.out
                     clear HA
                     simp only [chequerlaw09_RawSteps.j4] at H
                     replace H := Option.bind_eq_some_iff.mp H
                     obtain ⟨t476, A620, H⟩ := H
                     replace H : (if t476 = true then (if t462 = x15_28 then ((raw_Reader_Rows.f t463 t464 t465 t466 t467 t468 t469 t470 t471).bind fun bt477 => (if bt477.1 = x10_28 then ((raw_Reader_Left.f bt477.2.1 bt477.2.2.1 bt477.2.2.2.1 bt477.2.2.2.2.1 bt477.2.2.2.2.2.1 bt477.2.2.2.2.2.2.1 bt477.2.2.2.2.2.2.2.1 bt477.2.2.2.2.2.2.2.2.1 bt477.2.2.2.2.2.2.2.2.2).bind fun bt487 => (if bt487.1 = x16_55 then ((raw_Reader_Error.f bt487.2.1 bt487.2.2.1 bt487.2.2.2.1 bt487.2.2.2.2.1 bt487.2.2.2.2.2.1 bt487.2.2.2.2.2.2.1 bt487.2.2.2.2.2.2.2.1 bt487.2.2.2.2.2.2.2.2.1 bt487.2.2.2.2.2.2.2.2.2).bind fun bt497 => (if bt497.1 = x17_59 then (chequerlaw09_RawSteps.l0 kj59 (l0.take ((ji3) : Int).toNat) t454 t455 x10_28 (wrap64 (x11_1 + 1)) t438 t439 t440 t441 bt497.2.1 bt497.2.2.1 bt497.2.2.2.1 bt497.2.2.2.2.1 bt497.2.2.2.2.2.1 bt497.2.2.2.2.2.2.1 bt497.2.2.2.2.2.2.2.1 bt497.2.2.2.2.2.2.2.2.1 bt497.2.2.2.2.2.2.2.2.2) else (some false))) else (some false))) else (some false))) else (some false)) else (some false)) = some r := H
                     have A62 := Aside0.mk A620
                     clear A620
                     by_cases c63 : t476 = true
                     · subst c63
                       have H1 : (if t462 = x15_28 then ((raw_Reader_Rows.f t463 t464 t465 t466 t467 t468 t469 t470 t471).bind fun bt477 => (if bt477.1 = x10_28 then ((raw_Reader_Left.f bt477.2.1 bt477.2.2.1 bt477.2.2.2.1 bt477.2.2.2.2.1 bt477.2.2.2.2.2.1 bt477.2.2.2.2.2.2.1 bt477.2.2.2.2.2.2.2.1 bt477.2.2.2.2.2.2.2.2.1 bt477.2.2.2.2.2.2.2.2.2).bind fun bt487 => (if bt487.1 = x16_55 then ((raw_Reader_Error.f bt487.2.1 bt487.2.2.1 bt487.2.2.2.1 bt487.2.2.2.2.1 bt487.2.2.2.2.2.1 bt487.2.2.2.2.2.2.1 bt487.2.2.2.2.2.2.2.1 bt487.2.2.2.2.2.2.2.2.1 bt487.2.2.2.2.2.2.2.2.2).bind fun bt497 => (if bt497.1 = x17_59 then (chequerlaw09_RawSteps.l0 kj59 (l0.take ((ji3) : Int).toNat) t454 t455 x10_28 (wrap64 (x11_1 + 1)) t438 t439 t440 t441 bt497.2.1 bt497.2.2.1 bt497.2.2.2.1 bt497.2.2.2.2.1 bt497.2.2.2.2.2.1 bt497.2.2.2.2.2.2.1 bt497.2.2.2.2.2.2.2.1 bt497.2.2.2.2.2.2.2.2.1 bt497.2.2.2.2.2.2.2.2.2) else (some false))) else (some false))) else (some false))) else (some false)) = some r := by rw [if_pos rfl] at H; exact H
                       clear H
                       have H := H1
                       clear H1
                       by_cases c64 : t462 = x15_28
                       · rw [if_pos c64] at H
                         have c64b0 : (t462 == x15_28) = true := beq_iff_eq.mpr c64
                         have c64b1 : (t462 != x15_28) = false := bne_eq_false_iff_eq.mpr c64
                         clear c64
                         replace H := Option.bind_eq_some_iff.mp H
                         obtain ⟨⟨t477, t478, t479, t480, t481, t482, t483, t484, t485, t486⟩, A650, H⟩ := H
                         replace H : (if t477 = x10_28 then ((raw_Reader_Left.f t478 t479 t480 t481 t482 t483 t484 t485 t486).bind fun bt487 => (if bt487.1 = x16_55 then ((raw_Reader_Error.f bt487.2.1 bt487.2.2.1 bt487.2.2.2.1 bt487.2.2.2.2.1 bt487.2.2.2.2.2.1 bt487.2.2.2.2.2.2.1 bt487.2.2.2.2.2.2.2.1 bt487.2.2.2.2.2.2.2.2.1 bt487.2.2.2.2.2.2.2.2.2).bind fun bt497 => (if bt497.1 = x17_59 then (chequerlaw09_RawSteps.l0 kj59 (l0.take ((ji3) : Int).toNat) t454 t455 x10_28 (wrap64 (x11_1 + 1)) t438 t439 t440 t441 bt497.2.1 bt497.2.2.1 bt497.2.2.2.1 bt497.2.2.2.2.1 bt497.2.2.2.2.2.1 bt497.2.2.2.2.2.2.1 bt497.2.2.2.2.2.2.2.1 bt497.2.2.2.2.2.2.2.2.1 bt497.2.2.2.2.2.2.2.2.2) else (some false))) else (some false))) else (some false)) = some r := H
                         have A65 := Aside0.mk A650
                         clear A650
                         by_cases c66 : t477 = x10_28
                         · rw [if_pos c66] at H
                           have c66b0 : (t477 == x10_28) = true := beq_iff_eq.mpr c66
                           have c66b1 : (t477 != x10_28) = false := bne_eq_false_iff_eq.mpr c66
                           clear c66
                           replace H := Option.bind_eq_some_iff.mp H
                           obtain ⟨⟨t487, t488, t489, t490, t491, t492, t493, t494, t495, t496⟩, A670, H⟩ := H
                           replace H : (if t487 = x16_55 then ((raw_Reader_Error.f t488 t489 t490 t491 t492 t493 t494 t495 t496).bind fun bt497 => (if bt497.1 = x17_59 then (chequerlaw09_RawSteps.l0 kj59 (l0.take ((ji3) : Int).toNat) t454 t455 x10_28 (wrap64 (x11_1 + 1)) t438 t439 t440 t441 bt497.2.1 bt497.2.2.1 bt497.2.2.2.1 bt497.2.2.2.2.1 bt497.2.2.2.2.2.1 bt497.2.2.2.2.2.2.1 bt497.2.2.2.2.2.2.2.1 bt497.2.2.2.2.2.2.2.2.1 bt497.2.2.2.2.2.2.2.2.2) else (some false))) else (some false)) = some r := H
                           have A67 := Aside0.mk A670
                           clear A670
                           by_cases c68 : t487 = x16_55
                           · rw [if_pos c68] at H
                             have c68b0 : (t487 == x16_55) = true := beq_iff_eq.mpr c68
                             have c68b1 : (t487 != x16_55) = false := bne_eq_false_iff_eq.mpr c68
                             clear c68
                             replace H := Option.bind_eq_some_iff.mp H
                             obtain ⟨⟨t497, t498, t499, t500, t501, t502, t503, t504, t505, t506⟩, A690, H⟩ := H
                             replace H : (if t497 = x17_59 then (chequerlaw09_RawSteps.l0 kj59 (l0.take ((ji3) : Int).toNat) t454 t455 x10_28 (wrap64 (x11_1 + 1)) t438 t439 t440 t441 t498 t499 t500 t501 t502 t503 t504 t505 t506) else (some false)) = some r := H
                             have A69 := Aside0.mk A690
                             clear A690
                             by_cases c70 : t497 = x17_59
                             · rw [if_pos c70] at H
                               have c70b0 : (t497 == x17_59) = true := beq_iff_eq.mpr c70
                               have c70b1 : (t497 != x17_59) = false := bne_eq_false_iff_eq.mpr c70
                               clear c70
                               have H' := Aside0.mk H
                               clear H
                               obtain ⟨Ao71, co71, eo71⟩ := Kd.R_slice HO_12.out
                               subst eo71
                               obtain ⟨Ao72, co72, eo72⟩ := Kd.R_slice HO_14.out
                               subst eo72
                               go_wp2_with (first | ((with_reducible refine gate_callee (f := 14) rfl ?_); refine goQ_ (some 105) Try.func14 #[.slice Ao71 t459.length co71, .slice Ao72 x14_28.length co72] ?_; (with_reducible refine (chequerref03_SameRow.calls kj59 _ _ t459 _ _ x14_28 true _ ?side1 ?side2 ?side3 ?side4 A62.out).mono ?_); (case side1 => exact cp_ (Kd.R_reads' HO_12.out).2.2); (case side2 => exact (Kd.R_reads' HO_12.out).2.1); (case side3 => exact cp_ (Kd.R_reads' HO_14.out).2.2); (case side4 => exact (Kd.R_reads' HO_14.out).2.1); rintro e w' ⟨rfl, ⟨nd, rfl⟩⟩; refine ⟨_, rfl, ?_⟩) | (go_at_call 21; (with_reducible refine (raw_Reader_Rows.calls g452 t463 t464 t465 t466 t467 t468 t469 t470 t471 t477 t478 t479 t480 t481 t482 t483 t484 t485 t486 w _ ?side1 ?side2 A65.out).mono ?_); (case side1 => repeat (first | (with_reducible first | exact HI452.out | apply IsS71.alloc | apply IsS71.drewN | apply IsS71.drew | apply IsS71.set_0 | apply IsS71.set_1 | apply IsS71.set_2 | apply IsS71.set_3 | apply IsS71.set_4 | apply IsS71.set_5 | apply IsS71.set_6 | apply IsS71.set_7 | apply IsS71.set_8 | refine IsS71.far ?_ NB452_442.out _) | exact HI452.out)); (case side2 => repeat (first | (with_reducible first | exact HB.out | apply below_alloc | apply pw_below_drewN | apply below_drew1 | refine below_set ?_ (IsS71.ge HI452.out) | refine below_set ?_ GE442.out) | exact HB.out)); rintro e w73 ⟨rfl, hi, hb, hk⟩; replace HO_12 := Aside0.mk (raw_row_keep (show IsS71 w _ g452 t463 t464 t465 t466 t467 t468 t469 t470 t471 from by repeat (first | (with_reducible first | exact HI452.out | apply IsS71.alloc | apply IsS71.drewN | apply IsS71.drew | apply IsS71.set_0 | apply IsS71.set_1 | apply IsS71.set_2 | apply IsS71.set_3 | apply IsS71.set_4 | apply IsS71.set_5 | apply IsS71.set_6 | apply IsS71.set_7 | apply IsS71.set_8 | refine IsS71.far ?_ NB452_442.out _) | exact HI452.out)) (rp_ HO_12.out) hk (by decide)); replace HO_14 := Aside0.mk (raw_row_keep (show IsS71 w _ g452 t463 t464 t465 t466 t467 t468 t469 t470 t471 from by repeat (first | (with_reducible first | exact HI452.out | apply IsS71.alloc | apply IsS71.drewN | apply IsS71.drew | apply IsS71.set_0 | apply IsS71.set_1 | apply IsS71.set_2 | apply IsS71.set_3 | apply IsS71.set_4 | apply IsS71.set_5 | apply IsS71.set_6 | apply IsS71.set_7 | apply IsS71.set_8 | refine IsS71.far ?_ NB452_442.out _) | exact HI452.out)) (rp_ HO_14.out) hk (by decide)); replace BK442 := Aside0.mk (KeepBut.blk hk (g' := gb442) (o := .cells #[.int .i64 t438, .int .i64 t439, .int .i64 t440, .int .i64 t441] 23 (0, 0)) (hp_ BK442.out) NB442_452.out (raw_hr HI452.out BK442.out (by decide))); replace HB := Aside0.mk (hb); replace HI452 := Aside0.mk (hi); (try clear hb); (try clear hb2); (try clear hk); (try clear hi)) | (go_at_call 20; (with_reducible refine (raw_Reader_Left.calls g452 t478 t479 t480 t481 t482 t483 t484 t485 t486 t487 t488 t489 t490 t491 t492 t493 t494 t495 t496 w _ ?side1 ?side2 A67.out).mono ?_); (case side1 => repeat (first | (with_reducible first | exact HI452.out | apply IsS71.alloc | apply IsS71.drewN | apply IsS71.drew | apply IsS71.set_0 | apply IsS71.set_1 | apply IsS71.set_2 | apply IsS71.set_3 | apply IsS71.set_4 | apply IsS71.set_5 | apply IsS71.set_6 | apply IsS71.set_7 | apply IsS71.set_8 | refine IsS71.far ?_ NB452_442.out _) | exact HI452.out)); (case side2 => repeat (first | (with_reducible first | exact HB.out | apply below_alloc | apply pw_below_drewN | apply below_drew1 | refine below_set ?_ (IsS71.ge HI452.out) | refine below_set ?_ GE442.out) | exact HB.out)); rintro e w74 ⟨rfl, hi, hb, hk⟩; replace HO_12 := Aside0.mk (raw_row_keep (show IsS71 w _ g452 t478 t479 t480 t481 t482 t483 t484 t485 t486 from by repeat (first | (with_reducible first | exact HI452.out | apply IsS71.alloc | apply IsS71.drewN | apply IsS71.drew | apply IsS71.set_0 | apply IsS71.set_1 | apply IsS71.set_2 | apply IsS71.set_3 | apply IsS71.set_4 | apply IsS71.set_5 | apply IsS71.set_6 | apply IsS71.set_7 | apply IsS71.set_8 | refine IsS71.far ?_ NB452_442.out _) | exact HI452.out)) (rp_ HO_12.out) hk (by decide)); replace HO_14 := Aside0.mk (raw_row_keep (show IsS71 w _ g452 t478 t479 t480 t481 t482 t483 t484 t485 t486 from by repeat (first | (with_reducible first | exact HI452.out | apply IsS71.alloc | apply IsS71.drewN | apply IsS71.drew | apply IsS71.set_0 | apply IsS71.set_1 | apply IsS71.set_2 | apply IsS71.set_3 | apply IsS71.set_4 | apply IsS71.set_5 | apply IsS71.set_6 | apply IsS71.set_7 | apply IsS71.set_8 | refine IsS71.far ?_ NB452_442.out _) | exact HI452.out)) (rp_ HO_14.out) hk (by decide)); replace BK442 := Aside0.mk (KeepBut.blk hk (g' := gb442) (o := .cells #[.int .i64 t438, .int .i64 t439, .int .i64 t440, .int .i64 t441] 23 (0, 0)) (hp_ BK442.out) NB442_452.out (raw_hr HI452.out BK442.out (by decide))); replace HB := Aside0.mk (hb); replace HI452 := Aside0.mk (hi); (try clear hb); (try clear hb2); (try clear hk); (try clear hi)) | (go_at_call 25; (with_reducible refine (raw_Reader_Error.calls g452 t488 t489 t490 t491 t492 t493 t494 t495 t496 t497 t498 t499 t500 t501 t502 t503 t504 t505 t506 w _ ?side1 ?side2 A69.out).mono ?_); (case side1 => repeat (first | (with_reducible first | exact HI452.out | apply IsS71.alloc | apply IsS71.drewN | apply IsS71.drew | apply IsS71.set_0 | apply IsS71.set_1 | apply IsS71.set_2 | apply IsS71.set_3 | apply IsS71.set_4 | apply IsS71.set_5 | apply IsS71.set_6 | apply IsS71.set_7 | apply IsS71.set_8 | refine IsS71.far ?_ NB452_442.out _) | exact HI452.out)); (case side2 => repeat (first | (with_reducible first | exact HB.out | apply below_alloc | apply pw_below_drewN | apply below_drew1 | refine below_set ?_ (IsS71.ge HI452.out) | refine below_set ?_ GE442.out) | exact HB.out)); rintro e w75 ⟨rfl, hi, hb, hk⟩; replace HO_12 := Aside0.mk (raw_row_keep (show IsS71 w _ g452 t488 t489 t490 t491 t492 t493 t494 t495 t496 from by repeat (first | (with_reducible first | exact HI452.out | apply IsS71.alloc | apply IsS71.drewN | apply IsS71.drew | apply IsS71.set_0 | apply IsS71.set_1 | apply IsS71.set_2 | apply IsS71.set_3 | apply IsS71.set_4 | apply IsS71.set_5 | apply IsS71.set_6 | apply IsS71.set_7 | apply IsS71.set_8 | refine IsS71.far ?_ NB452_442.out _) | exact HI452.out)) (rp_ HO_12.out) hk (by decide)); replace HO_14 := Aside0.mk (raw_row_keep (show IsS71 w _ g452 t488 t489 t490 t491 t492 t493 t494 t495 t496 from by repeat (first | (with_reducible first | exact HI452.out | apply IsS71.alloc | apply IsS71.drewN | apply IsS71.drew | apply IsS71.set_0 | apply IsS71.set_1 | apply IsS71.set_2 | apply IsS71.set_3 | apply IsS71.set_4 | apply IsS71.set_5 | apply IsS71.set_6 | apply IsS71.set_7 | apply IsS71.set_8 | refine IsS71.far ?_ NB452_442.out _) | exact HI452.out)) (rp_ HO_14.out) hk (by decide)); replace BK442 := Aside0.mk (KeepBut.blk hk (g' := gb442) (o := .cells #[.int .i64 t438, .int .i64 t439, .int .i64 t440, .int .i64 t441] 23 (0, 0)) (hp_ BK442.out) NB442_452.out (raw_hr HI452.out BK442.out (by decide))); replace HB := Aside0.mk (hb); replace HI452 := Aside0.mk (hi); (try clear hb); (try clear hb2); (try clear hk); (try clear hi)))
                               go_roundg kj59
                               case measure => have := HK1.out; have := HJ25.out; have := HJ28.out; have := HJ55.out; have := HJ59.out; omega
                               case rel => exact ⟨(x10_28), (wrap64 (x11_1 + 1)), (t498), (t499), (t500), (t501), (t502), (t503), (t504), (t505), (t506), (by first | rfl | (simp; done) | (simp [*]; done)), (by first | rfl | (simp; done) | (simp [*]; done)), H', ⟨by have := HK1.out; have := HJ25.out; have := HJ28.out; have := HJ55.out; have := HJ59.out; omega⟩, ⟨hp_ BK442.out⟩, ⟨by repeat (first | (with_reducible first | exact HI452.out | apply IsS71.alloc | apply IsS71.drewN | apply IsS71.drew | apply IsS71.set_0 | apply IsS71.set_1 | apply IsS71.set_2 | apply IsS71.set_3 | apply IsS71.set_4 | apply IsS71.set_5 | apply IsS71.set_6 | apply IsS71.set_7 | apply IsS71.set_8 | refine IsS71.far ?_ NB452_442.out _) | exact HI452.out)⟩, ⟨by repeat (first | (with_reducible first | exact HB.out | apply below_alloc | apply pw_below_drewN | apply below_drew1 | refine below_set ?_ (IsS71.ge HI452.out) | refine below_set ?_ GE442.out) | exact HB.out)⟩⟩
                             · rw [if_neg c70] at H
                               have c70b0 : (t497 == x17_59) = false := beq_eq_false_iff_ne.mpr c70
                               have c70b1 : (t497 != x17_59) = true := bne_iff_ne.mpr c70
                               obtain rfl := Option.some.inj H
                               obtain ⟨Ao76, co76, eo76⟩ := Kd.R_slice HO_12.out
                               subst eo76
                               obtain ⟨Ao77, co77, eo77⟩ := Kd.R_slice HO_14.out
                               subst eo77
                               go_wp2_with (first | ((with_reducible refine gate_callee (f := 14) rfl ?_); refine goQ_ (some 105) Try.func14 #[.slice Ao76 t459.length co76, .slice Ao77 x14_28.length co77] ?_; (with_reducible refine (chequerref03_SameRow.calls kj59 _ _ t459 _ _ x14_28 true _ ?side1 ?side2 ?side3 ?side4 A62.out).mono ?_); (case side1 => exact cp_ (Kd.R_reads' HO_12.out).2.2); (case side2 => exact (Kd.R_reads' HO_12.out).2.1); (case side3 => exact cp_ (Kd.R_reads' HO_14.out).2.2); (case side4 => exact (Kd.R_reads' HO_14.out).2.1); rintro e w' ⟨rfl, ⟨nd, rfl⟩⟩; refine ⟨_, rfl, ?_⟩) | (go_at_call 21; (with_reducible refine (raw_Reader_Rows.calls g452 t463 t464 t465 t466 t467 t468 t469 t470 t471 t477 t478 t479 t480 t481 t482 t483 t484 t485 t486 w _ ?side1 ?side2 A65.out).mono ?_); (case side1 => repeat (first | (with_reducible first | exact HI452.out | apply IsS71.alloc | apply IsS71.drewN | apply IsS71.drew | apply IsS71.set_0 | apply IsS71.set_1 | apply IsS71.set_2 | apply IsS71.set_3 | apply IsS71.set_4 | apply IsS71.set_5 | apply IsS71.set_6 | apply IsS71.set_7 | apply IsS71.set_8) | exact HI452.out)); (case side2 => repeat (first | (with_reducible first | exact HB.out | apply below_alloc | apply pw_below_drewN | apply below_drew1 | refine below_set ?_ (IsS71.ge HI452.out)) | exact HB.out)); rintro e w78 ⟨rfl, hi, hb, hk⟩; replace HO_12 := Aside0.mk (raw_row_keep (show IsS71 w _ g452 t463 t464 t465 t466 t467 t468 t469 t470 t471 from by repeat (first | (with_reducible first | exact HI452.out | apply IsS71.alloc | apply IsS71.drewN | apply IsS71.drew | apply IsS71.set_0 | apply IsS71.set_1 | apply IsS71.set_2 | apply IsS71.set_3 | apply IsS71.set_4 | apply IsS71.set_5 | apply IsS71.set_6 | apply IsS71.set_7 | apply IsS71.set_8) | exact HI452.out)) (rp_ HO_12.out) hk (by decide)); replace HO_14 := Aside0.mk (raw_row_keep (show IsS71 w _ g452 t463 t464 t465 t466 t467 t468 t469 t470 t471 from by repeat (first | (with_reducible first | exact HI452.out | apply IsS71.alloc | apply IsS71.drewN | apply IsS71.drew | apply IsS71.set_0 | apply IsS71.set_1 | apply IsS71.set_2 | apply IsS71.set_3 | apply IsS71.set_4 | apply IsS71.set_5 | apply IsS71.set_6 | apply IsS71.set_7 | apply IsS71.set_8) | exact HI452.out)) (rp_ HO_14.out) hk (by decide)); replace HB := Aside0.mk (hb); replace HI452 := Aside0.mk (hi); (try clear hb); (try clear hb2); (try clear hk); (try clear hi)) | (go_at_call 20; (with_reducible refine (raw_Reader_Left.calls g452 t478 t479 t480 t481 t482 t483 t484 t485 t486 t487 t488 t489 t490 t491 t492 t493 t494 t495 t496 w _ ?side1 ?side2 A67.out).mono ?_); (case side1 => repeat (first | (with_reducible first | exact HI452.out | apply IsS71.alloc | apply IsS71.drewN | apply IsS71.drew | apply IsS71.set_0 | apply IsS71.set_1 | apply IsS71.set_2 | apply IsS71.set_3 | apply IsS71.set_4 | apply IsS71.set_5 | apply IsS71.set_6 | apply IsS71.set_7 | apply IsS71.set_8) | exact HI452.out)); (case side2 => repeat (first | (with_reducible first | exact HB.out | apply below_alloc | apply pw_below_drewN | apply below_drew1 | refine below_set ?_ (IsS71.ge HI452.out)) | exact HB.out)); rintro e w79 ⟨rfl, hi, hb, hk⟩; replace HO_12 := Aside0.mk (raw_row_keep (show IsS71 w _ g452 t478 t479 t480 t481 t482 t483 t484 t485 t486 from by repeat (first | (with_reducible first | exact HI452.out | apply IsS71.alloc | apply IsS71.drewN | apply IsS71.drew | apply IsS71.set_0 | apply IsS71.set_1 | apply IsS71.set_2 | apply IsS71.set_3 | apply IsS71.set_4 | apply IsS71.set_5 | apply IsS71.set_6 | apply IsS71.set_7 | apply IsS71.set_8) | exact HI452.out)) (rp_ HO_12.out) hk (by decide)); replace HO_14 := Aside0.mk (raw_row_keep (show IsS71 w _ g452 t478 t479 t480 t481 t482 t483 t484 t485 t486 from by repeat (first | (with_reducible first | exact HI452.out | apply IsS71.alloc | apply IsS71.drewN | apply IsS71.drew | apply IsS71.set_0 | apply IsS71.set_1 | apply IsS71.set_2 | apply IsS71.set_3 | apply IsS71.set_4 | apply IsS71.set_5 | apply IsS71.set_6 | apply IsS71.set_7 | apply IsS71.set_8) | exact HI452.out)) (rp_ HO_14.out) hk (by decide)); replace HB := Aside0.mk (hb); replace HI452 := Aside0.mk (hi); (try clear hb); (try clear hb2); (try clear hk); (try clear hi)) | (go_at_call 25; (with_reducible refine (raw_Reader_Error.calls g452 t488 t489 t490 t491 t492 t493 t494 t495 t496 t497 t498 t499 t500 t501 t502 t503 t504 t505 t506 w _ ?side1 ?side2 A69.out).mono ?_); (case side1 => repeat (first | (with_reducible first | exact HI452.out | apply IsS71.alloc | apply IsS71.drewN | apply IsS71.drew | apply IsS71.set_0 | apply IsS71.set_1 | apply IsS71.set_2 | apply IsS71.set_3 | apply IsS71.set_4 | apply IsS71.set_5 | apply IsS71.set_6 | apply IsS71.set_7 | apply IsS71.set_8) | exact HI452.out)); (case side2 => repeat (first | (with_reducible first | exact HB.out | apply below_alloc | apply pw_below_drewN | apply below_drew1 | refine below_set ?_ (IsS71.ge HI452.out)) | exact HB.out)); rintro e w80 ⟨rfl, hi, hb, hk⟩; replace HO_12 := Aside0.mk (raw_row_keep (show IsS71 w _ g452 t488 t489 t490 t491 t492 t493 t494 t495 t496 from by repeat (first | (with_reducible first | exact HI452.out | apply IsS71.alloc | apply IsS71.drewN | apply IsS71.drew | apply IsS71.set_0 | apply IsS71.set_1 | apply IsS71.set_2 | apply IsS71.set_3 | apply IsS71.set_4 | apply IsS71.set_5 | apply IsS71.set_6 | apply IsS71.set_7 | apply IsS71.set_8) | exact HI452.out)) (rp_ HO_12.out) hk (by decide)); replace HO_14 := Aside0.mk (raw_row_keep (show IsS71 w _ g452 t488 t489 t490 t491 t492 t493 t494 t495 t496 from by repeat (first | (with_reducible first | exact HI452.out | apply IsS71.alloc | apply IsS71.drewN | apply IsS71.drew | apply IsS71.set_0 | apply IsS71.set_1 | apply IsS71.set_2 | apply IsS71.set_3 | apply IsS71.set_4 | apply IsS71.set_5 | apply IsS71.set_6 | apply IsS71.set_7 | apply IsS71.set_8) | exact HI452.out)) (rp_ HO_14.out) hk (by decide)); replace HB := Aside0.mk (hb); replace HI452 := Aside0.mk (hi); (try clear hb); (try clear hb2); (try clear hk); (try clear hi)))
                               go_ret
                               exact ⟨by first | rfl | (simp [errW_none, errW_some] <;> rfl) | (simp only [← hji3]; first | rfl | (simp [errW_none, errW_some] <;> rfl)) | (simp [*, errW_none, errW_some] <;> rfl), by repeat (first | (with_reducible first | exact HB.out | apply below_alloc | apply pw_below_drewN | apply below_drew1 | refine below_set ?_ (IsS71.ge HI452.out)) | exact HB.out)⟩
                           · rw [if_neg c68] at H
                             have c68b0 : (t487 == x16_55) = false := beq_eq_false_iff_ne.mpr c68
                             have c68b1 : (t487 != x16_55) = true := bne_iff_ne.mpr c68
                             obtain rfl := Option.some.inj H
                             obtain ⟨Ao81, co81, eo81⟩ := Kd.R_slice HO_12.out
                             subst eo81
                             obtain ⟨Ao82, co82, eo82⟩ := Kd.R_slice HO_14.out
                             subst eo82
                             go_wp2_with (first | ((with_reducible refine gate_callee (f := 14) rfl ?_); refine goQ_ (some 105) Try.func14 #[.slice Ao81 t459.length co81, .slice Ao82 x14_28.length co82] ?_; (with_reducible refine (chequerref03_SameRow.calls kj59 _ _ t459 _ _ x14_28 true _ ?side1 ?side2 ?side3 ?side4 A62.out).mono ?_); (case side1 => exact cp_ (Kd.R_reads' HO_12.out).2.2); (case side2 => exact (Kd.R_reads' HO_12.out).2.1); (case side3 => exact cp_ (Kd.R_reads' HO_14.out).2.2); (case side4 => exact (Kd.R_reads' HO_14.out).2.1); rintro e w' ⟨rfl, ⟨nd, rfl⟩⟩; refine ⟨_, rfl, ?_⟩) | (go_at_call 21; (with_reducible refine (raw_Reader_Rows.calls g452 t463 t464 t465 t466 t467 t468 t469 t470 t471 t477 t478 t479 t480 t481 t482 t483 t484 t485 t486 w _ ?side1 ?side2 A65.out).mono ?_); (case side1 => repeat (first | (with_reducible first | exact HI452.out | apply IsS71.alloc | apply IsS71.drewN | apply IsS71.drew | apply IsS71.set_0 | apply IsS71.set_1 | apply IsS71.set_2 | apply IsS71.set_3 | apply IsS71.set_4 | apply IsS71.set_5 | apply IsS71.set_6 | apply IsS71.set_7 | apply IsS71.set_8) | exact HI452.out)); (case side2 => repeat (first | (with_reducible first | exact HB.out | apply below_alloc | apply pw_below_drewN | apply below_drew1 | refine below_set ?_ (IsS71.ge HI452.out)) | exact HB.out)); rintro e w83 ⟨rfl, hi, hb, hk⟩; replace HO_12 := Aside0.mk (raw_row_keep (show IsS71 w _ g452 t463 t464 t465 t466 t467 t468 t469 t470 t471 from by repeat (first | (with_reducible first | exact HI452.out | apply IsS71.alloc | apply IsS71.drewN | apply IsS71.drew | apply IsS71.set_0 | apply IsS71.set_1 | apply IsS71.set_2 | apply IsS71.set_3 | apply IsS71.set_4 | apply IsS71.set_5 | apply IsS71.set_6 | apply IsS71.set_7 | apply IsS71.set_8) | exact HI452.out)) (rp_ HO_12.out) hk (by decide)); replace HO_14 := Aside0.mk (raw_row_keep (show IsS71 w _ g452 t463 t464 t465 t466 t467 t468 t469 t470 t471 from by repeat (first | (with_reducible first | exact HI452.out | apply IsS71.alloc | apply IsS71.drewN | apply IsS71.drew | apply IsS71.set_0 | apply IsS71.set_1 | apply IsS71.set_2 | apply IsS71.set_3 | apply IsS71.set_4 | apply IsS71.set_5 | apply IsS71.set_6 | apply IsS71.set_7 | apply IsS71.set_8) | exact HI452.out)) (rp_ HO_14.out) hk (by decide)); replace HB := Aside0.mk (hb); replace HI452 := Aside0.mk (hi); (try clear hb); (try clear hb2); (try clear hk); (try clear hi)) | (go_at_call 20; (with_reducible refine (raw_Reader_Left.calls g452 t478 t479 t480 t481 t482 t483 t484 t485 t486 t487 t488 t489 t490 t491 t492 t493 t494 t495 t496 w _ ?side1 ?side2 A67.out).mono ?_); (case side1 => repeat (first | (with_reducible first | exact HI452.out | apply IsS71.alloc | apply IsS71.drewN | apply IsS71.drew | apply IsS71.set_0 | apply IsS71.set_1 | apply IsS71.set_2 | apply IsS71.set_3 | apply IsS71.set_4 | apply IsS71.set_5 | apply IsS71.set_6 | apply IsS71.set_7 | apply IsS71.set_8) | exact HI452.out)); (case side2 => repeat (first | (with_reducible first | exact HB.out | apply below_alloc | apply pw_below_drewN | apply below_drew1 | refine below_set ?_ (IsS71.ge HI452.out)) | exact HB.out)); rintro e w84 ⟨rfl, hi, hb, hk⟩; replace HO_12 := Aside0.mk (raw_row_keep (show IsS71 w _ g452 t478 t479 t480 t481 t482 t483 t484 t485 t486 from by repeat (first | (with_reducible first | exact HI452.out | apply IsS71.alloc | apply IsS71.drewN | apply IsS71.drew | apply IsS71.set_0 | apply IsS71.set_1 | apply IsS71.set_2 | apply IsS71.set_3 | apply IsS71.set_4 | apply IsS71.set_5 | apply IsS71.set_6 | apply IsS71.set_7 | apply IsS71.set_8) | exact HI452.out)) (rp_ HO_12.out) hk (by decide)); replace HO_14 := Aside0.mk (raw_row_keep (show IsS71 w _ g452 t478 t479 t480 t481 t482 t483 t484 t485 t486 from by repeat (first | (with_reducible first | exact HI452.out | apply IsS71.alloc | apply IsS71.drewN | apply IsS71.drew | apply IsS71.set_0 | apply IsS71.set_1 | apply IsS71.set_2 | apply IsS71.set_3 | apply IsS71.set_4 | apply IsS71.set_5 | apply IsS71.set_6 | apply IsS71.set_7 | apply IsS71.set_8) | exact HI452.out)) (rp_ HO_14.out) hk (by decide)); replace HB := Aside0.mk (hb); replace HI452 := Aside0.mk (hi); (try clear hb); (try clear hb2); (try clear hk); (try clear hi)))
                             go_ret
                             exact ⟨by first | rfl | (simp [errW_none, errW_some] <;> rfl) | (simp only [← hji3]; first | rfl | (simp [errW_none, errW_some] <;> rfl)) | (simp [*, errW_none, errW_some] <;> rfl), by repeat (first | (with_reducible first | exact HB.out | apply below_alloc | apply pw_below_drewN | apply below_drew1 | refine below_set ?_ (IsS71.ge HI452.out)) | exact HB.out)⟩
                         · rw [if_neg c66] at H
                           have c66b0 : (t477 == x10_28) = false := beq_eq_false_iff_ne.mpr c66
                           have c66b1 : (t477 != x10_28) = true := bne_iff_ne.mpr c66
                           obtain rfl := Option.some.inj H
                           obtain ⟨Ao85, co85, eo85⟩ := Kd.R_slice HO_12.out
                           subst eo85
                           obtain ⟨Ao86, co86, eo86⟩ := Kd.R_slice HO_14.out
                           subst eo86
                           go_wp2_with (first | ((with_reducible refine gate_callee (f := 14) rfl ?_); refine goQ_ (some 105) Try.func14 #[.slice Ao85 t459.length co85, .slice Ao86 x14_28.length co86] ?_; (with_reducible refine (chequerref03_SameRow.calls kj59 _ _ t459 _ _ x14_28 true _ ?side1 ?side2 ?side3 ?side4 A62.out).mono ?_); (case side1 => exact cp_ (Kd.R_reads' HO_12.out).2.2); (case side2 => exact (Kd.R_reads' HO_12.out).2.1); (case side3 => exact cp_ (Kd.R_reads' HO_14.out).2.2); (case side4 => exact (Kd.R_reads' HO_14.out).2.1); rintro e w' ⟨rfl, ⟨nd, rfl⟩⟩; refine ⟨_, rfl, ?_⟩) | (go_at_call 21; (with_reducible refine (raw_Reader_Rows.calls g452 t463 t464 t465 t466 t467 t468 t469 t470 t471 t477 t478 t479 t480 t481 t482 t483 t484 t485 t486 w _ ?side1 ?side2 A65.out).mono ?_); (case side1 => repeat (first | (with_reducible first | exact HI452.out | apply IsS71.alloc | apply IsS71.drewN | apply IsS71.drew | apply IsS71.set_0 | apply IsS71.set_1 | apply IsS71.set_2 | apply IsS71.set_3 | apply IsS71.set_4 | apply IsS71.set_5 | apply IsS71.set_6 | apply IsS71.set_7 | apply IsS71.set_8) | exact HI452.out)); (case side2 => repeat (first | (with_reducible first | exact HB.out | apply below_alloc | apply pw_below_drewN | apply below_drew1 | refine below_set ?_ (IsS71.ge HI452.out)) | exact HB.out)); rintro e w87 ⟨rfl, hi, hb, hk⟩; replace HO_12 := Aside0.mk (raw_row_keep (show IsS71 w _ g452 t463 t464 t465 t466 t467 t468 t469 t470 t471 from by repeat (first | (with_reducible first | exact HI452.out | apply IsS71.alloc | apply IsS71.drewN | apply IsS71.drew | apply IsS71.set_0 | apply IsS71.set_1 | apply IsS71.set_2 | apply IsS71.set_3 | apply IsS71.set_4 | apply IsS71.set_5 | apply IsS71.set_6 | apply IsS71.set_7 | apply IsS71.set_8) | exact HI452.out)) (rp_ HO_12.out) hk (by decide)); replace HO_14 := Aside0.mk (raw_row_keep (show IsS71 w _ g452 t463 t464 t465 t466 t467 t468 t469 t470 t471 from by repeat (first | (with_reducible first | exact HI452.out | apply IsS71.alloc | apply IsS71.drewN | apply IsS71.drew | apply IsS71.set_0 | apply IsS71.set_1 | apply IsS71.set_2 | apply IsS71.set_3 | apply IsS71.set_4 | apply IsS71.set_5 | apply IsS71.set_6 | apply IsS71.set_7 | apply IsS71.set_8) | exact HI452.out)) (rp_ HO_14.out) hk (by decide)); replace HB := Aside0.mk (hb); replace HI452 := Aside0.mk (hi); (try clear hb); (try clear hb2); (try clear hk); (try clear hi)))
                           go_ret
                           exact ⟨by first | rfl | (simp [errW_none, errW_some] <;> rfl) | (simp only [← hji3]; first | rfl | (simp [errW_none, errW_some] <;> rfl)) | (simp [*, errW_none, errW_some] <;> rfl), by repeat (first | (with_reducible first | exact HB.out | apply below_alloc | apply pw_below_drewN | apply below_drew1 | refine below_set ?_ (IsS71.ge HI452.out)) | exact HB.out)⟩
                       · rw [if_neg c64] at H
                         have c64b0 : (t462 == x15_28) = false := beq_eq_false_iff_ne.mpr c64
                         have c64b1 : (t462 != x15_28) = true := bne_iff_ne.mpr c64
                         obtain rfl := Option.some.inj H
                         obtain ⟨Ao88, co88, eo88⟩ := Kd.R_slice HO_12.out
                         subst eo88
                         obtain ⟨Ao89, co89, eo89⟩ := Kd.R_slice HO_14.out
                         subst eo89
                         go_wp2_with (first | ((with_reducible refine gate_callee (f := 14) rfl ?_); refine goQ_ (some 105) Try.func14 #[.slice Ao88 t459.length co88, .slice Ao89 x14_28.length co89] ?_; (with_reducible refine (chequerref03_SameRow.calls kj59 _ _ t459 _ _ x14_28 true _ ?side1 ?side2 ?side3 ?side4 A62.out).mono ?_); (case side1 => exact cp_ (Kd.R_reads' HO_12.out).2.2); (case side2 => exact (Kd.R_reads' HO_12.out).2.1); (case side3 => exact cp_ (Kd.R_reads' HO_14.out).2.2); (case side4 => exact (Kd.R_reads' HO_14.out).2.1); rintro e w' ⟨rfl, ⟨nd, rfl⟩⟩; refine ⟨_, rfl, ?_⟩))
                         go_ret
                         exact ⟨by first | rfl | (simp [errW_none, errW_some] <;> rfl) | (simp only [← hji3]; first | rfl | (simp [errW_none, errW_some] <;> rfl)) | (simp [*, errW_none, errW_some] <;> rfl), by repeat (first | (with_reducible first | exact HB.out | apply below_alloc | apply pw_below_drewN | apply below_drew1 | refine below_set ?_ (IsS71.ge HI452.out)) | exact HB.out)⟩
                     · replace c63 := Bool.eq_false_iff.mpr c63
                       subst c63
                       have H1 : (some false) = some r := by rw [if_neg (show ¬ (false = true) by decide)] at H; exact H
                       clear H
                       have H := H1
                       clear H1
                       obtain rfl := Option.some.inj H
                       obtain ⟨Ao90, co90, eo90⟩ := Kd.R_slice HO_12.out
                       subst eo90
                       obtain ⟨Ao91, co91, eo91⟩ := Kd.R_slice HO_14.out
                       subst eo91
                       go_wp2_with (first | ((with_reducible refine gate_callee (f := 14) rfl ?_); refine goQ_ (some 105) Try.func14 #[.slice Ao90 t459.length co90, .slice Ao91 x14_28.length co91] ?_; (with_reducible refine (chequerref03_SameRow.calls kj59 _ _ t459 _ _ x14_28 false _ ?side1 ?side2 ?side3 ?side4 A62.out).mono ?_); (case side1 => exact cp_ (Kd.R_reads' HO_12.out).2.2); (case side2 => exact (Kd.R_reads' HO_12.out).2.1); (case side3 => exact cp_ (Kd.R_reads' HO_14.out).2.2); (case side4 => exact (Kd.R_reads' HO_14.out).2.1); rintro e w' ⟨rfl, ⟨nd, rfl⟩⟩; refine ⟨_, rfl, ?_⟩))
                       go_ret
                       exact ⟨by first | rfl | (simp [errW_none, errW_some] <;> rfl) | (simp only [← hji3]; first | rfl | (simp [errW_none, errW_some] <;> rfl)) | (simp [*, errW_none, errW_some] <;> rfl), by repeat (first | (with_reducible first | exact HB.out | apply below_alloc | apply pw_below_drewN | apply below_drew1 | refine below_set ?_ (IsS71.ge HI452.out)) | exact HB.out)⟩
           · rw [if_neg c24] at H
             exact absurd H (by simp)
         · rw [if_neg c23] at H
           have c23b0 : decide (x11_1 < ((l0.take ((ji3) : Int).toNat).length : Int)) = false := decide_eq_false c23
           (try have c23b0mx : decide (x11_1 < max ji3 0) = false := by (have e_ : ((l0.take ((ji3) : Int).toNat).length : Int) = max ji3 0 := (by rw [List.length_take]; have h_ := hji3_; split at h_ <;> omega); rw [← e_]; exact c23b0))
           clear c23
           replace H := Option.bind_eq_some_iff.mp H
           obtain ⟨t456, A920, H⟩ := H
           replace H : (if t456 = t454 then ((chequerlaw09_lives.f k1).bind fun t457 => (some t457)) else (some false)) = some r := H
           have A92 := Aside0.mk A920
           clear A920
           by_cases c93 : t456 = t454
           · rw [if_pos c93] at H
             have c93b0 : (t456 == t454) = true := beq_iff_eq.mpr c93
             have c93b1 : (t456 != t454) = false := bne_eq_false_iff_eq.mpr c93
             clear c93
             replace H := Option.bind_eq_some_iff.mp H
             obtain ⟨t457, A940, H⟩ := H
             replace H : (some t457) = some r := H
             have A94 := Aside0.mk A940
             clear A940
             obtain rfl := Option.some.inj H
             have hnb95 := NB442_452.out
             have hnc95 := NB452_442.out
             have hcz96_0 : wr.cell? ⟨gb442, 0, none⟩ = some (.int .i64 t438) := (blk_cell BK442.out 0).trans rfl
             have hcz96_1 : wr.cell? ⟨gb442, 1, none⟩ = some (.int .i64 t439) := (blk_cell BK442.out 1).trans rfl
             have hcz96_2 : wr.cell? ⟨gb442, 2, none⟩ = some (.int .i64 t440) := (blk_cell BK442.out 2).trans rfl
             have hcz96_3 : wr.cell? ⟨gb442, 3, none⟩ = some (.int .i64 t441) := (blk_cell BK442.out 3).trans rfl
             have hfz96_0 := blk_frozen BK442.out 0
             have hfz96_1 := blk_frozen BK442.out 1
             have hfz96_2 := blk_frozen BK442.out 2
             have hfz96_3 := blk_frozen BK442.out 3
             go_wp2_with (first | ((with_reducible refine gate_callee (f := 26) rfl ?_); refine goQ_ (some 131) Try.func26 #[.agg #[.int .i64 t438, .int .i64 t439, .int .i64 t440, .int .i64 t441]] ?_; (with_reducible refine (raw_Stride.calls t438 t439 t440 t441 t456 _ A92.out).mono ?_); rintro e w97 ⟨rfl, hb⟩; refine ⟨_, rfl, ?_⟩; replace HB := Aside0.mk (below_step (by repeat (first | (with_reducible first | exact HB.out | apply below_alloc | apply pw_below_drewN | apply below_drew1 | refine below_set ?_ (IsS71.ge HI452.out)) | exact HB.out)) hb); replace HI452 := Aside0.mk (IsS71.below (by repeat (first | (with_reducible first | exact HI452.out | apply IsS71.alloc | apply IsS71.drewN | apply IsS71.drew | apply IsS71.set_0 | apply IsS71.set_1 | apply IsS71.set_2 | apply IsS71.set_3 | apply IsS71.set_4 | apply IsS71.set_5 | apply IsS71.set_6 | apply IsS71.set_7 | apply IsS71.set_8) | exact HI452.out)) hb); (try clear hb); (try clear hb2); (try clear hk); (try clear hi)) | (go_at_call 16; (with_reducible refine (chequerlaw09_lives.calls k1  t457 _ A94.out).mono ?_); rintro e w98 ⟨rfl, hb⟩; replace HB := Aside0.mk (below_step (by repeat (first | (with_reducible first | exact HB.out | apply below_alloc | apply pw_below_drewN | apply below_drew1 | refine below_set ?_ (IsS71.ge HI452.out)) | exact HB.out)) hb); replace HI452 := Aside0.mk (IsS71.below (by repeat (first | (with_reducible first | exact HI452.out | apply IsS71.alloc | apply IsS71.drewN | apply IsS71.drew | apply IsS71.set_0 | apply IsS71.set_1 | apply IsS71.set_2 | apply IsS71.set_3 | apply IsS71.set_4 | apply IsS71.set_5 | apply IsS71.set_6 | apply IsS71.set_7 | apply IsS71.set_8) | exact HI452.out)) hb); (try clear hb); (try clear hb2); (try clear hk); (try clear hi)))
             go_ret
             exact ⟨by first | rfl | (simp [errW_none, errW_some] <;> rfl) | (simp only [← hji3]; first | rfl | (simp [errW_none, errW_some] <;> rfl)) | (simp [*, errW_none, errW_some] <;> rfl), by repeat (first | (with_reducible first | exact HB.out | apply below_alloc | apply pw_below_drewN | apply below_drew1 | refine below_set ?_ (IsS71.ge HI452.out)) | exact HB.out)⟩
           · rw [if_neg c93] at H
             have c93b0 : (t456 == t454) = false := beq_eq_false_iff_ne.mpr c93
             have c93b1 : (t456 != t454) = true := bne_iff_ne.mpr c93
             obtain rfl := Option.some.inj H
             have hnb99 := NB442_452.out
             have hnc99 := NB452_442.out
             have hcz100_0 : wr.cell? ⟨gb442, 0, none⟩ = some (.int .i64 t438) := (blk_cell BK442.out 0).trans rfl
             have hcz100_1 : wr.cell? ⟨gb442, 1, none⟩ = some (.int .i64 t439) := (blk_cell BK442.out 1).trans rfl
             have hcz100_2 : wr.cell? ⟨gb442, 2, none⟩ = some (.int .i64 t440) := (blk_cell BK442.out 2).trans rfl
             have hcz100_3 : wr.cell? ⟨gb442, 3, none⟩ = some (.int .i64 t441) := (blk_cell BK442.out 3).trans rfl
             have hfz100_0 := blk_frozen BK442.out 0
             have hfz100_1 := blk_frozen BK442.out 1
             have hfz100_2 := blk_frozen BK442.out 2
             have hfz100_3 := blk_frozen BK442.out 3
             go_wp2_with (first | ((with_reducible refine gate_callee (f := 26) rfl ?_); refine goQ_ (some 131) Try.func26 #[.agg #[.int .i64 t438, .int .i64 t439, .int .i64 t440, .int .i64 t441]] ?_; (with_reducible refine (raw_Stride.calls t438 t439 t440 t441 t456 _ A92.out).mono ?_); rintro e w101 ⟨rfl, hb⟩; refine ⟨_, rfl, ?_⟩; replace HB := Aside0.mk (below_step (by repeat (first | (with_reducible first | exact HB.out | apply below_alloc | apply pw_below_drewN | apply below_drew1 | refine below_set ?_ (IsS71.ge HI452.out)) | exact HB.out)) hb); replace HI452 := Aside0.mk (IsS71.below (by repeat (first | (with_reducible first | exact HI452.out | apply IsS71.alloc | apply IsS71.drewN | apply IsS71.drew | apply IsS71.set_0 | apply IsS71.set_1 | apply IsS71.set_2 | apply IsS71.set_3 | apply IsS71.set_4 | apply IsS71.set_5 | apply IsS71.set_6 | apply IsS71.set_7 | apply IsS71.set_8) | exact HI452.out)) hb); (try clear hb); (try clear hb2); (try clear hk); (try clear hi)))
             go_ret
             exact ⟨by first | rfl | (simp [errW_none, errW_some] <;> rfl) | (simp only [← hji3]; first | rfl | (simp [errW_none, errW_some] <;> rfl)) | (simp [*, errW_none, errW_some] <;> rfl), by repeat (first | (with_reducible first | exact HB.out | apply below_alloc | apply pw_below_drewN | apply below_drew1 | refine below_set ?_ (IsS71.ge HI452.out)) | exact HB.out)⟩
     · rw [if_neg c8] at H
       have c8b0 : (t453 == 0) = false := beq_eq_false_iff_ne.mpr c8
       have c8b1 : (t453 != 0) = true := bne_iff_ne.mpr c8
       obtain rfl := Option.some.inj H
       go_enter Try.func6, Try.ntmps6
       go_wp2_with (first | ((with_reducible refine gate_dst (N := 3) rfl ?_); refine box_event ?hg (N := 3) ?hd (cs := #[.int .i64 a1_0, .int .i64 a1_1, .int .i64 a1_2, .int .i64 a1_3]) (t := 23) ?hr ?_; (case hd => rfl); (case hg => rfl); (case hr => first | (go_simp; done) | (go_simp; rfl)); intro gb436 hg w102 hbox hb; have BK436 := Aside0.mk (hbox); have GW436 := Aside0.mk ((by rw [hg]; exact (below_size bp_) : w.heap.size ≤ gb436)); have GE436 := Aside0.mk ((by rw [hg]; exact (below_size bp_) : w.heap.size ≤ gb436)); replace HB := Aside0.mk (below_step bp_ hb); clear hb hbox hg; obtain ⟨i0103, hi0103, _, hsz103, _⟩ := info_parts info5; obtain ⟨hcut103, hA103, hC103⟩ := print_take_of (P := Try.prog) (Value.int .u8) 0 27 5 .i64 Try.underlying27 hi0103 hsz103 A0 c0 l0 (ji3) (of_decide_eq_true (by first | (with_reducible assumption) | assumption)) (of_decide_eq_true (by first | (with_reducible assumption) | assumption)) HC0.out; have HR437 := Aside0.mk (Kd.C_of_reads (h1 := fun _ => rfl) (hA103 _ (Kd.reads_of_C HR0.out))); have HC437 := Aside0.mk hC103; clear hA103 hC103 hi0103 hsz103; have hcz104_0 : w102.cell? ⟨gb436, 0, none⟩ = some (.int .i64 a1_0) := (blk_cell BK436.out 0).trans rfl; have hcz104_1 : w102.cell? ⟨gb436, 1, none⟩ = some (.int .i64 a1_1) := (blk_cell BK436.out 1).trans rfl; have hcz104_2 : w102.cell? ⟨gb436, 2, none⟩ = some (.int .i64 a1_2) := (blk_cell BK436.out 2).trans rfl; have hcz104_3 : w102.cell? ⟨gb436, 3, none⟩ = some (.int .i64 a1_3) := (blk_cell BK436.out 3).trans rfl; have hfz104_0 := blk_frozen BK436.out 0; have hfz104_1 := blk_frozen BK436.out 1; have hfz104_2 := blk_frozen BK436.out 2; have hfz104_3 := blk_frozen BK436.out 3) | ((with_reducible refine gate_callee (f := 8) rfl ?_); refine goQ_ (some 24) Try.func8 #[.agg #[.int .i64 a1_0, .int .i64 a1_1, .int .i64 a1_2, .int .i64 a1_3], .int .i64 4] ?_; (with_reducible refine (chequerref09_Head.calls a1_0 a1_1 a1_2 a1_3 4 t438 t439 t440 t441 _ A6.out).mono ?_); rintro e w105 ⟨rfl, hb⟩; refine ⟨_, rfl, ?_⟩; replace HB := Aside0.mk (below_step bp_ hb); (try clear hb); (try clear hb2); (try clear hk); (try clear hi)) | ((with_reducible refine gate_dst (N := 5) rfl ?_); refine box_event ?hg (N := 5) ?hd (cs := #[.int .i64 0, .int .i64 0, .int .i64 0, .int .i64 0]) (t := 23) ?hr ?_; (case hd => rfl); (case hg => rfl); (case hr => first | (go_simp; done) | (go_simp; rfl)); intro gb442 hg w106 hbox hb; have BK442 := Aside0.mk (hbox); have GW442 := Aside0.mk ((by rw [hg]; exact (below_size bp_) : w.heap.size ≤ gb442)); have GE442 := Aside0.mk ((by rw [hg]; exact (below_size bp_) : w.heap.size ≤ gb442)); replace HB := Aside0.mk (below_step bp_ hb); clear hb hbox hg; have hcz107_0 : w106.cell? ⟨gb442, 0, none⟩ = some (.int .i64 0) := (blk_cell BK442.out 0).trans rfl; have hcz107_1 : w106.cell? ⟨gb442, 1, none⟩ = some (.int .i64 0) := (blk_cell BK442.out 1).trans rfl; have hcz107_2 : w106.cell? ⟨gb442, 2, none⟩ = some (.int .i64 0) := (blk_cell BK442.out 2).trans rfl; have hcz107_3 : w106.cell? ⟨gb442, 3, none⟩ = some (.int .i64 0) := (blk_cell BK442.out 3).trans rfl; have hfz107_0 := blk_frozen BK442.out 0; have hfz107_1 := blk_frozen BK442.out 1; have hfz107_2 := blk_frozen BK442.out 2; have hfz107_3 := blk_frozen BK442.out 3) | ((with_reducible refine gate_callee (f := 18) rfl ?_); refine goQ_ (some 27) Try.func18 #[.agg #[.int .i64 t438, .int .i64 t439, .int .i64 t440, .int .i64 t441]] ?_; (with_reducible refine (raw_New.calls t438 t439 t440 t441 t443 t444 t445 t446 t447 t448 t449 t450 t451 t453 w _ ?side1 A7.out).mono ?_); (case side1 => repeat (first | (with_reducible first | exact HB.out | apply below_alloc | apply pw_below_drewN | apply below_drew1 | refine below_set ?_ GE442.out) | exact HB.out)); rintro e w108 ⟨g452, rfl, hi, hb, hb2⟩; refine ⟨_, rfl, ?_⟩; replace HB := Aside0.mk (hb); have HI452 := Aside0.mk (hi); have NB452_442 := Aside0.mk (IsS71.ne_blk hi (blk_below (g := gb442) (o := .cells #[.int .i64 t438, .int .i64 t439, .int .i64 t440, .int .i64 t441] 23 (0, 0)) (by (with_reducible repeat (first | refine blk_drewN ?_ _ | refine blk_drew ?_ | refine blk_alloc ?_ _)); refine blk_put (cs := #[.int .i64 t438, .int .i64 t439, .int .i64 t440, .int .i64 0]) ?_ 3 _ rfl; (with_reducible repeat (first | refine blk_drewN ?_ _ | refine blk_drew ?_ | refine blk_alloc ?_ _)); refine blk_put (cs := #[.int .i64 t438, .int .i64 t439, .int .i64 0, .int .i64 0]) ?_ 2 _ rfl; (with_reducible repeat (first | refine blk_drewN ?_ _ | refine blk_drew ?_ | refine blk_alloc ?_ _)); refine blk_put (cs := #[.int .i64 t438, .int .i64 0, .int .i64 0, .int .i64 0]) ?_ 1 _ rfl; (with_reducible repeat (first | refine blk_drewN ?_ _ | refine blk_drew ?_ | refine blk_alloc ?_ _)); refine blk_put (cs := #[.int .i64 0, .int .i64 0, .int .i64 0, .int .i64 0]) ?_ 0 _ rfl; (with_reducible repeat (first | refine blk_drewN ?_ _ | refine blk_drew ?_ | refine blk_alloc ?_ _)); exact BK442.out) hb2) (by decide)); have NB442_452 := Aside0.mk (Ne.symm (IsS71.ne_blk hi (blk_below (g := gb442) (o := .cells #[.int .i64 t438, .int .i64 t439, .int .i64 t440, .int .i64 t441] 23 (0, 0)) (by (with_reducible repeat (first | refine blk_drewN ?_ _ | refine blk_drew ?_ | refine blk_alloc ?_ _)); refine blk_put (cs := #[.int .i64 t438, .int .i64 t439, .int .i64 t440, .int .i64 0]) ?_ 3 _ rfl; (with_reducible repeat (first | refine blk_drewN ?_ _ | refine blk_drew ?_ | refine blk_alloc ?_ _)); refine blk_put (cs := #[.int .i64 t438, .int .i64 t439, .int .i64 0, .int .i64 0]) ?_ 2 _ rfl; (with_reducible repeat (first | refine blk_drewN ?_ _ | refine blk_drew ?_ | refine blk_alloc ?_ _)); refine blk_put (cs := #[.int .i64 t438, .int .i64 0, .int .i64 0, .int .i64 0]) ?_ 1 _ rfl; (with_reducible repeat (first | refine blk_drewN ?_ _ | refine blk_drew ?_ | refine blk_alloc ?_ _)); refine blk_put (cs := #[.int .i64 0, .int .i64 0, .int .i64 0, .int .i64 0]) ?_ 0 _ rfl; (with_reducible repeat (first | refine blk_drewN ?_ _ | refine blk_drew ?_ | refine blk_alloc ?_ _)); exact BK442.out) hb2) (by decide))); replace BK442 := Aside0.mk (blk_below (g := gb442) (o := .cells #[.int .i64 t438, .int .i64 t439, .int .i64 t440, .int .i64 t441] 23 (0, 0)) (by (with_reducible repeat (first | refine blk_drewN ?_ _ | refine blk_drew ?_ | refine blk_alloc ?_ _)); refine blk_put (cs := #[.int .i64 t438, .int .i64 t439, .int .i64 t440, .int .i64 0]) ?_ 3 _ rfl; (with_reducible repeat (first | refine blk_drewN ?_ _ | refine blk_drew ?_ | refine blk_alloc ?_ _)); refine blk_put (cs := #[.int .i64 t438, .int .i64 t439, .int .i64 0, .int .i64 0]) ?_ 2 _ rfl; (with_reducible repeat (first | refine blk_drewN ?_ _ | refine blk_drew ?_ | refine blk_alloc ?_ _)); refine blk_put (cs := #[.int .i64 t438, .int .i64 0, .int .i64 0, .int .i64 0]) ?_ 1 _ rfl; (with_reducible repeat (first | refine blk_drewN ?_ _ | refine blk_drew ?_ | refine blk_alloc ?_ _)); refine blk_put (cs := #[.int .i64 0, .int .i64 0, .int .i64 0, .int .i64 0]) ?_ 0 _ rfl; (with_reducible repeat (first | refine blk_drewN ?_ _ | refine blk_drew ?_ | refine blk_alloc ?_ _)); exact BK442.out) hb2); (try clear hb); (try clear hb2); (try clear hk); (try clear hi)))
       go_ret
       exact ⟨by first | rfl | (simp [errW_none, errW_some] <;> rfl) | (simp only [← hji3]; first | rfl | (simp [errW_none, errW_some] <;> rfl)) | (simp [*, errW_none, errW_some] <;> rfl), by repeat (first | (with_reducible first | exact HB.out | apply below_alloc | apply pw_below_drewN | apply below_drew1 | refine below_set ?_ (IsS71.ge HI452.out) | refine below_set ?_ GE442.out) | exact HB.out)⟩
   · rw [if_neg c5] at H
     exact absurd H (by simp)
 · rw [if_neg c4] at H
   exact absurd H (by simp)

/-- THE ONE PURE STATEMENT of chequerlaw09_RawSteps. -/
def chequerlaw09_RawSteps.Pure : Prop := ∀ (l0 : List Int) (a1_0 : Int) (a1_1 : Int) (a1_2 : Int) (a1_3 : Int), l0.length ≤ maxLen → l0.length * 1 ≤ 140737488351232 → (∀ x ∈ l0, (Lit.int .u8 x).wf = true) → (Lit.int .i64 a1_0).wf = true → (Lit.int .i64 a1_1).wf = true → (Lit.int .i64 a1_2).wf = true → (Lit.int .i64 a1_3).wf = true → ∃ k, chequerlaw09_RawSteps.f k l0 a1_0 a1_1 a1_2 a1_3 = some true
theorem chequerlaw09_RawSteps.walk (P : chequerlaw09_RawSteps.Pure) (a0 : Option Addr) (len0 cap0 : Nat) (z0 : List Int) (a1_0 : Int) (a1_1 : Int) (a1_2 : Int) (a1_3 : Int) (w : World) (w0 : (a0 = none ∧ len0 = 0 ∧ cap0 = 0 ∧ z0 = []) ∨ ∃ x, a0 = some x ∧ len0 ≤ cap0 ∧ cap0 ≤ maxLen ∧ z0.length = cap0 ∧ (∀ i, i < z0.length → w.cell? (x.add i) = some (.int .u8 (z0.getD i 0))) ∧ ∀ n ∈ z0, (Lit.int .u8 n).wf = true) (y0 : len0 * 1 ≤ 140737488351232) (w1_0 : (Lit.int .i64 a1_0).wf = true) (w1_1 : (Lit.int .i64 a1_1).wf = true) (w1_2 : (Lit.int .i64 a1_2).wf = true) (w1_3 : (Lit.int .i64 a1_3).wf = true) :
 Calls Try.prog 6 #[.slice a0 len0 cap0, .agg #[.int .i64 a1_0, .int .i64 a1_1, .int .i64 a1_2, .int .i64 a1_3]] w fun e w' => e = .returned (.bool true) ∧ Below w.heap.size w w' := by
 obtain ⟨l0, rfl, hr0, hm0, hw0, hc0⟩ := ReadsInt.ofRowC w0
 obtain ⟨k, h⟩ := P l0 a1_0 a1_1 a1_2 a1_3 hm0 y0 hw0 w1_0 w1_1 w1_2 w1_3
 refine (chequerlaw09_RawSteps.calls k _ _ l0 a1_0 a1_1 a1_2 a1_3 true w (Kd.C_of_reads (d := (0 : Int)) (h1 := fun _ => rfl) hr0) hc0 h).mono ?_
 rintro e w' ⟨rfl, hd⟩
 exact ⟨rfl, hd⟩

end Go.Proofs.Ytdjonaajfhbfhaa.Q
