-- written by our own program (wip/tools/myprint.py) out of the translation, by the kit's print; Lean checks it
import Derived.Test.YtidpaaemfiopkaaQ0
import Derived.Test.YtidpaaemfiopkaaQ2
import Derived.Test.YtidpaaemfiopkaaQ3
import Derived.Test.YtidpaaemfiopkaaQ5
import Derived.Test.YtidpaaemfiopkaaQ6
import Derived.Test.YtidpaaemfiopkaaQ7
import Derived.Test.YtidpaaemfiopkaaQ11
import Derived.Test.YtidpaaemfiopkaaQ13
namespace Go.Proofs.Ytidpaaemfiopkaa.Q
open Go.RowKit Go.Proofs.YtidpaaemfiopkaaW.PrintWords Go.Proofs.YtidpaaemfiopkaaW.PrintLast Go.Proofs.YtidpaaemfiopkaaW.PrintMore
attribute [local go_sem] max2_int min2_int max_two min_two max_three min_three max_four min_four   -- for this text's walks alone
set_option linter.unusedVariables false
set_option linter.unusedSimpArgs false

abbrev Fl98 : Array Bool := #[false, false, false, false, false, false, false, false, false, false, false, false, false, false, false, false, false, false, false, false, false, false, false, false, false, false, false, false, false, false, false, false, false, false, false, false, false, false, false]
abbrev Fl99 : Array Bool := #[true, false, false, false, false, false, false, false, false, false, false, false, false, false, false, false, false, false, false, false, false, false, false, false, false, false, false, false, false, false, false, false, false, false, false, false, false, false, false]
abbrev Fl100 : Array Bool := #[true, true, false, false, false, false, false, false, false, false, false, false, false, false, false, false, false, false, false, false, false, false, false, false, false, false, false, false, false, false, false, false, false, false, false, false, false, false, false]
abbrev Fl101 : Array Bool := #[true, true, true, false, false, false, false, false, false, false, false, false, false, false, false, false, false, false, false, false, false, false, false, false, false, false, false, false, false, false, false, false, false, false, false, false, false, false, false]
abbrev Fl102 : Array Bool := #[true, true, true, true, false, false, false, false, false, false, false, false, false, false, false, false, false, false, false, false, false, false, false, false, false, false, false, false, false, false, false, false, false, false, false, false, false, false, false]
abbrev Fl103 : Array Bool := #[true, true, true, true, true, false, false, false, false, false, false, false, false, false, false, false, false, false, false, false, false, false, false, false, false, false, false, false, false, false, false, false, false, false, false, false, false, false, false]
abbrev Fl104 : Array Bool := #[true, true, true, true, true, true, false, false, false, false, false, false, false, false, false, false, false, false, false, false, false, false, false, false, false, false, false, false, false, false, false, false, false, false, false, false, false, false, false]
abbrev Fl105 : Array Bool := #[true, true, true, true, true, true, true, false, false, false, false, false, false, false, false, false, false, false, false, false, false, false, false, false, false, false, false, false, false, false, false, false, false, false, false, false, false, false, false]
abbrev Fl106 : Array Bool := #[true, true, true, true, true, true, true, true, false, false, false, false, false, false, false, false, false, false, false, false, false, false, false, false, false, false, false, false, false, false, false, false, false, false, false, false, false, false, false]
abbrev Fl107 : Array Bool := #[true, true, true, true, true, true, true, true, true, false, false, false, false, false, false, false, false, false, false, false, false, false, false, false, false, false, false, false, false, false, false, false, false, false, false, false, false, false, false]
abbrev Fl108 : Array Bool := #[true, true, true, true, true, true, true, true, true, true, false, false, false, false, false, false, false, false, false, false, false, false, false, false, false, false, false, false, false, false, false, false, false, false, false, false, false, false, false]
abbrev Fl109 : Array Bool := #[true, true, true, true, true, true, true, true, true, true, true, false, false, false, false, false, false, false, false, false, false, false, false, false, false, false, false, false, false, false, false, false, false, false, false, false, false, false, false]
abbrev Fl110 : Array Bool := #[true, true, true, true, true, true, true, true, true, true, true, true, false, false, false, false, false, false, false, false, false, false, false, false, false, false, false, false, false, false, false, false, false, false, false, false, false, false, false]
abbrev Fl111 : Array Bool := #[true, true, true, true, true, true, true, true, true, true, true, true, true, false, false, false, false, false, false, false, false, false, false, false, false, false, false, false, false, false, false, false, false, false, false, false, false, false, false]
abbrev Fl112 : Array Bool := #[true, true, true, true, true, true, true, true, true, true, true, true, true, true, false, false, false, false, false, false, false, false, false, false, false, false, false, false, false, false, false, false, false, false, false, false, false, false, false]
abbrev Fl113 : Array Bool := #[true, true, true, true, true, true, true, true, true, true, true, true, true, true, true, false, false, false, false, false, false, false, false, false, false, false, false, false, false, false, false, false, false, false, false, false, false, false, false]
abbrev Fl114 : Array Bool := #[true, true, true, true, true, true, true, true, true, true, true, true, true, true, true, true, true, false, false, false, false, false, false, false, false, false, false, false, false, false, false, false, false, false, false, false, false, false, false]
abbrev Fl115 : Array Bool := #[true, true, true, true, true, true, true, true, true, true, true, true, true, true, true, true, true, true, false, false, false, false, false, false, false, false, false, false, false, false, false, false, false, false, false, false, false, false, false]
abbrev Fl116 : Array Bool := #[true, true, true, true, true, true, true, true, true, true, true, true, true, true, true, true, true, true, true, false, false, false, false, false, false, false, false, false, false, false, false, false, false, false, false, false, false, false, false]
abbrev Fl117 : Array Bool := #[true, true, true, true, true, true, true, true, true, true, true, true, true, true, true, true, true, true, true, true, false, false, false, false, false, false, false, false, false, false, false, false, false, false, false, false, false, false, false]
abbrev Fl118 : Array Bool := #[true, true, true, true, true, true, true, true, true, true, true, true, true, true, true, true, true, true, true, true, true, false, false, false, false, false, false, false, false, false, false, false, false, false, false, false, false, false, false]
abbrev Fl119 : Array Bool := #[true, true, true, true, true, true, true, true, true, true, true, true, true, true, true, true, true, true, true, true, true, true, true, true, true, true, true, true, true, true, true, true, true, true, true, true, false, false, false]
abbrev Fl120 : Array Bool := #[true, true, true, true, true, true, true, true, true, true, true, true, true, true, true, true, true, true, true, true, true, true, true, true, true, true, true, true, true, true, true, true, true, true, true, true, true, false, false]
abbrev Fl121 : Array Bool := #[true, true, true, true, true, true, true, true, true, true, true, true, true, true, true, true, true, true, true, true, true, true, true, true, true, true, true, true, true, true, true, true, true, true, true, true, true, true, false]
abbrev Fl122 : Array Bool := #[true, true, true, true, true, true, true, true, true, true, true, true, true, true, true, true, true, true, true, true, true, true, true, true, true, true, true, true, true, true, true, true, true, true, true, true, true, true, true]
abbrev Fl123 : Array Bool := #[true, true, true, true, true, true, true, true, true, true, true, true, true, true, true, false, false]
abbrev Fl124 : Array Bool := #[true, true, true, true, true, true, true, true, true, true, true, true, true, true, true, true, true, true, true, true, true, true, false, false, false, false, false, false, false, false, false, false, false, false, false, false, false, false, false]
abbrev Fl125 : Array Bool := #[true, true, true, true, true, true, true, true, true, true, true, true, true, true, true, true, true, true, true, true, true, true, true, false, false, false, false, false, false, false, false, false, false, false, false, false, false, false, false]
abbrev Fl126 : Array Bool := #[true, true, true, true, true, true, true, true, true, true, true, true, true, true, true, true, true, true, true, true, true, true, true, true, false, false, false, false, false, false, false, false, false, false, false, false, false, false, false]
abbrev Fl127 : Array Bool := #[true, true, true, true, true, true, true, true, true, true, true, true, true, true, true, true, true, true, true, true, true, true, true, true, true, false, false, false, false, false, false, false, false, false, false, false, false, false, false]
abbrev Fl128 : Array Bool := #[true, true, true, true, true, true, true, true, true, true, true, true, true, true, true, true, true, true, true, true, true, true, true, true, true, true, false, false, false, false, false, false, false, false, false, false, false, false, false]
abbrev Fl129 : Array Bool := #[true, true, true, true, true, true, true, true, true, true, true, true, true, true, true, true, true, true, true, true, true, true, true, true, true, true, true, false, false, false, false, false, false, false, false, false, false, false, false]
abbrev Fl130 : Array Bool := #[true, true, true, true, true, true, true, true, true, true, true, true, true, true, true, true, true, true, true, true, true, true, true, true, true, true, true, true, false, false, false, false, false, false, false, false, false, false, false]
abbrev Fl131 : Array Bool := #[true, true, true, true, true, true, true, true, true, true, true, true, true, true, true, true, true, true, true, true, true, true, true, true, true, true, true, true, true, false, false, false, false, false, false, false, false, false, false]
abbrev Fl132 : Array Bool := #[true, true, true, true, true, true, true, true, true, true, true, true, true, true, true, true, true, true, true, true, true, true, true, true, true, true, true, true, true, true, false, false, false, false, false, false, false, false, false]
abbrev Fl133 : Array Bool := #[true, true, true, true, true, true, true, true, true, true, true, true, true, true, true, true, true, true, true, true, true, true, true, true, true, true, true, true, true, true, true, false, false, false, false, false, false, false, false]
abbrev Fl134 : Array Bool := #[true, true, true, true, true, true, true, true, true, true, true, true, true, true, true, true, true, true, true, true, true, true, true, true, true, true, true, true, true, true, true, true, false, false, false, false, false, false, false]
abbrev Fl135 : Array Bool := #[true, true, true, true, true, true, true, true, true, true, true, true, true, true, true, true, true, true, true, true, true, true, true, true, true, true, true, true, true, true, true, true, true, false, false, false, false, false, false]
abbrev Fl136 : Array Bool := #[true, true, true, true, true, true, true, true, true, true, true, true, true, true, true, true, true, true, true, true, true, true, true, true, true, true, true, true, true, true, true, true, true, true, false, false, false, false, false]
abbrev Fl137 : Array Bool := #[true, true, true, true, true, true, true, true, true, true, true, true, true, true, true, true, true, true, true, true, true, true, true, true, true, true, true, true, true, true, true, true, true, true, true, false, false, false, false]
abbrev Fl138 : Array Bool := #[false, false, false, false, false, false, false, false, false, false, false, false, false]
abbrev Fl139 : Array Bool := #[true, false, false, false, false, false, false, false, false, false, false, false, false]
abbrev Fl140 : Array Bool := #[true, true, false, false, false, false, false, false, false, false, false, false, false]
abbrev Fl141 : Array Bool := #[true, true, true, true, true, true, false, false, true, true, false, false, true, true, false, false, false, true, false]
abbrev Fl142 : Array Bool := #[true, true, true, true, true, true, true, true, true, true, false, false, false]
abbrev Fl143 : Array Bool := #[true, true, true, true, true, true, true, true, true, true, false, false, true, true, false, false, false, true, false]
abbrev Fl144 : Array Bool := #[true, true, true, true, true, true, true, true, true, true, true, false, false]
abbrev Fl145 : Array Bool := #[true, true, true, true, true, true, true, true, true, true, true, true, false]
abbrev Fl146 : Array Bool := #[true, true, true, true, true, true, true, true, true, true, true, true, true, true, false, false, false, true, false]
abbrev Fl147 : Array Bool := #[true, true, true, true, true, true, true, true, true, true, true, true, true, true, true, true, false, false, false, false, false, false, false, false, false, false, false, false, false, false, false, false, false, false, false, false, false, false, false]
abbrev Fl148 : Array Bool := #[true, true, true, true, true, true, true, true, true, true, true, true, true, true, true, true, true, true, false]
abbrev Fl149 : Array Bool := #[true, true, true, true, true, true, true, true, true, true, true, true, true]
abbrev Fl150 : Array Bool := #[true, true, false, false, false, false, true, false, false, false, false, false, false]
abbrev Fl151 : Array Bool := #[true, true, false, false, false, false, true, false, true, false, false, false, false]
abbrev Fl152 : Array Bool := #[true, true, false, false, true, true, false, false, true, true, false, false, true, true, false, false, false, true, false]
abbrev Fl153 : Array Bool := #[true, true, true, false, false, false, true, false, true, false, false, false, false]
abbrev Fl154 : Array Bool := #[true, true, true, false, true, false, true, false, true, false, false, false, false]
abbrev Fl155 : Array Bool := #[true, true, true, false, true, false, true, true, true, false, false, false, false]
abbrev Fl156 : Array Bool := #[true, true, true, false, true, false, true, true, true, true, false, false, false]
abbrev Fl157 : Array Bool := #[true, true, true, true, true, false, true, true, true, true, false, false, false]
abbrev Fl158 : Array Bool := #[true, true, true, true, true, true, false, false, true, true, false, false, true, true, false, false, false, false, false]
abbrev Fl159 : Array Bool := #[true, true, true, true, true, true, true, true, true, true, false, false, false, false, true, false, false]
abbrev Fl160 : Array Bool := #[true, true, true, true, true, true, true, true, true, true, false, false, true, true, false, false, false, false, false]
abbrev Fl161 : Array Bool := #[true, true, true, true, true, true, true, true, true, true, true, false, false, false, true, false, false]
abbrev Fl162 : Array Bool := #[true, true, true, true, true, true, true, true, true, true, true, true, false, false, true, false, false]
abbrev Fl163 : Array Bool := #[true, true, true, true, true, true, true, true, true, true, true, true, true, false, true, false, false]
abbrev Fl164 : Array Bool := #[true, true, true, true, true, true, true, true, true, true, true, true, true, true, false, false, false, false, false]
abbrev Fl165 : Array Bool := #[true, true, true, true, true, true, true, true, true, true, true, true, true, true, true, false, true, false, false, false, false, false, false, false, false, false, false, false, false, false, false, false, false, false, false, false, false, false, false]
abbrev Fl166 : Array Bool := #[true, true, true, true, true, true, true, true, true, true, true, true, true, true, true, true, true, false, false]
/-! ### chequerlaw03_RectParts: function 6 -/
mutual
def chequerlaw03_RectParts.l0 : Nat → List (S25) → Int → Int → Int → List Int → Int → Int → List Int → Option (Bool)
 | 0, _, _, _, _, _, _, _, _ => none
 | k + 1, x10, x11, x378000, x378001, x378002, x384000, x384001, x384002 => if x11 < 2 then (if 0 ≤ x11 then (if x11 < (x10.length : Int) then ((chequerlaw03_of.f x378000 x378001 x378002).bind fun bt395 => ((rect_Matrix_At.f bt395.1 bt395.2.1 bt395.2.2 ((rd_T25 x10 x11).f0) ((rd_T25 x10 x11).f1)).bind fun bt400 => ((chequerref03_At.f x378000 x378001 x378002 ((rd_T25 x10 x11).f0) ((rd_T25 x10 x11).f1)).bind fun bt402 => ((chequerlaw03_of.f x378000 x378001 x378002).bind fun bt404 => ((rect_Matrix_Sub.f k bt404.1 bt404.2.1 bt404.2.2 ((rd_T25 x10 x11).f0) ((rd_T25 x10 x11).f1) ((rd_T25 x10 x11).f2) ((rd_T25 x10 x11).f3)).bind fun bt409 => ((chequerref03_Sub.f k x378000 x378001 x378002 ((rd_T25 x10 x11).f0) ((rd_T25 x10 x11).f1) ((rd_T25 x10 x11).f2) ((rd_T25 x10 x11).f3)).bind fun bt416 => (if bt400.1 = bt402.1 then (if (bt400.2 != bt402.2) = true then (chequerlaw03_RectParts.j1 k x10 x11 bt416.2.2.2 true x378000 x378001 x378002 x384000 x384001 x384002 ((rd_T25 x10 x11).f0) ((rd_T25 x10 x11).f1) ((rd_T25 x10 x11).f2) ((rd_T25 x10 x11).f3) bt416.1 bt416.2.1 bt416.2.2.1) else (if (bt409.2.2.2 != bt416.2.2.2) = true then (chequerlaw03_RectParts.j1 k x10 x11 bt416.2.2.2 true x378000 x378001 x378002 x384000 x384001 x384002 ((rd_T25 x10 x11).f0) ((rd_T25 x10 x11).f1) ((rd_T25 x10 x11).f2) ((rd_T25 x10 x11).f3) bt416.1 bt416.2.1 bt416.2.2.1) else ((chequerlaw03_as.f bt409.1 bt409.2.1 bt409.2.2.1).bind fun bt423 => ((chequerref03_Same.f k bt423.1 bt423.2.1 bt423.2.2 bt416.1 bt416.2.1 bt416.2.2.1).bind fun t428 => (if t428 = true then ((chequerlaw03_of.f x378000 x378001 x378002).bind fun bt429 => ((chequerlaw03_of.f x384000 x384001 x384002).bind fun bt434 => ((rect_Matrix_Has.f k bt429.1 bt429.2.1 bt429.2.2 bt434.1 bt434.2.1 bt434.2.2 ((rd_T25 x10 x11).f0) ((rd_T25 x10 x11).f1)).bind fun t439 => ((chequerref03_Has.f k x378000 x378001 x378002 x384000 x384001 x384002 ((rd_T25 x10 x11).f0) ((rd_T25 x10 x11).f1)).bind fun t440 => (chequerlaw03_RectParts.j1 k x10 x11 bt416.2.2.2 (t439 != t440) x378000 x378001 x378002 x384000 x384001 x384002 ((rd_T25 x10 x11).f0) ((rd_T25 x10 x11).f1) ((rd_T25 x10 x11).f2) ((rd_T25 x10 x11).f3) bt416.1 bt416.2.1 bt416.2.2.1))))) else (chequerlaw03_RectParts.j1 k x10 x11 bt416.2.2.2 true x378000 x378001 x378002 x384000 x384001 x384002 ((rd_T25 x10 x11).f0) ((rd_T25 x10 x11).f1) ((rd_T25 x10 x11).f2) ((rd_T25 x10 x11).f3) bt416.1 bt416.2.1 bt416.2.2.1)))))) else (chequerlaw03_RectParts.j1 k x10 x11 bt416.2.2.2 true x378000 x378001 x378002 x384000 x384001 x384002 ((rd_T25 x10 x11).f0) ((rd_T25 x10 x11).f1) ((rd_T25 x10 x11).f2) ((rd_T25 x10 x11).f3) bt416.1 bt416.2.1 bt416.2.2.1)))))))) else (none)) else (none)) else ((chequerlaw03_lives.f k).bind fun t392 => (some t392))
def chequerlaw03_RectParts.j1 : Nat → List (S25) → Int → Bool → Bool → Int → Int → List Int → Int → Int → List Int → Int → Int → Int → Int → Int → Int → List Int → Option (Bool)
 | 0, _, _, _, _, _, _, _, _, _, _, _, _, _, _, _, _, _ => none
 | k + 1, x10, x11, x20, x137, x378000, x378001, x378002, x384000, x384001, x384002, x395000, x395001, x395002, x395003, x423000, x423001, x423002 => if x137 = true then (some false) else (if x20 = true then ((chequerlaw03_of.f x378000 x378001 x378002).bind fun bt441 => ((chequerlaw03_of.f x423000 x423001 x423002).bind fun bt446 => ((rect_Matrix_Has.f k bt441.1 bt441.2.1 bt441.2.2 bt446.1 bt446.2.1 bt446.2.2 x395000 x395001).bind fun t451 => (if t451 = true then (chequerlaw03_RectParts.l0 k x10 (wrap64 (x11 + 1)) x378000 x378001 x378002 x384000 x384001 x384002) else (some false))))) else (chequerlaw03_RectParts.l0 k x10 (wrap64 (x11 + 1)) x378000 x378001 x378002 x384000 x384001 x384002))
end
def chequerlaw03_RectParts.f (k : Nat) (a0_0 : Int) (a0_1 : Int) (l0_2 : List Int) (a1_0 : Int) (a1_1 : Int) (l1_2 : List Int) (a2_0 : Int) (a2_1 : Int) (a2_2 : Int) (a2_3 : Int) : Option (Bool) := (chequerref03_Good.f k a0_0 a0_1 l0_2 7).bind fun bt372 => ((chequerref03_Good.f k a1_0 a1_1 l1_2 3).bind fun bt378 => ((chequerref01_Around.f a2_0 9).bind fun t384 => ((chequerref01_Around.f a2_1 9).bind fun t385 => ((chequerref01_Around.f a2_2 9).bind fun t386 => ((chequerref01_Around.f a2_3 9).bind fun t387 => (chequerlaw03_RectParts.l0 k (([(⟨a2_0, a2_1, a2_2, a2_3⟩ : S25), (⟨wrap64 (t384 - 1), wrap64 (t385 - 1), wrap64 (t386 - 1), wrap64 (t387 - 1)⟩ : S25)] : List (S25))) 0 bt372.1 bt372.2.1 bt372.2.2 bt378.1 bt378.2.1 bt378.2.2))))))
theorem chequerlaw03_RectParts.mono_l : ∀ k, (∀ y0 y1 y2 y3 y4 y5 y6 y7, LeO (chequerlaw03_RectParts.l0 k y0 y1 y2 y3 y4 y5 y6 y7) (chequerlaw03_RectParts.l0 (k + 1) y0 y1 y2 y3 y4 y5 y6 y7)) ∧ (∀ y0 y1 y2 y3 y4 y5 y6 y7 y8 y9 y10 y11 y12 y13 y14 y15 y16, LeO (chequerlaw03_RectParts.j1 k y0 y1 y2 y3 y4 y5 y6 y7 y8 y9 y10 y11 y12 y13 y14 y15 y16) (chequerlaw03_RectParts.j1 (k + 1) y0 y1 y2 y3 y4 y5 y6 y7 y8 y9 y10 y11 y12 y13 y14 y15 y16))
 | 0 => ⟨fun _ _ _ _ _ _ _ _ r h => by simp [chequerlaw03_RectParts.l0] at h, fun _ _ _ _ _ _ _ _ _ _ _ _ _ _ _ _ _ r h => by simp [chequerlaw03_RectParts.j1] at h⟩
 | k + 1 => by
  obtain ⟨ih0, ih1⟩ := chequerlaw03_RectParts.mono_l k
  refine ⟨?_, ?_⟩
  · intro y0 y1 y2 y3 y4 y5 y6 y7
    unfold chequerlaw03_RectParts.l0
    repeat' first
    | (with_reducible exact ih0 _ _ _ _ _ _ _ _)
    | (with_reducible exact ih1 _ _ _ _ _ _ _ _ _ _ _ _ _ _ _ _ _)
    | (with_reducible exact chequerlaw03_lives.mono _)
    | (with_reducible exact chequerref03_Good.mono _ _ _ _ _)
    | (with_reducible exact chequerref03_Has.mono _ _ _ _ _ _ _ _ _)
    | (with_reducible exact chequerref03_Same.mono _ _ _ _ _ _ _)
    | (with_reducible exact chequerref03_Sub.mono _ _ _ _ _ _ _ _)
    | (with_reducible exact rect_Matrix_Has.mono _ _ _ _ _ _ _ _ _)
    | (with_reducible exact rect_Matrix_Sub.mono _ _ _ _ _ _ _ _)
    | (with_reducible exact LeO.refl _)
    | (with_reducible exact LeO.none _)
    | (with_reducible refine LeO.ite ?_ ?_)
    | (with_reducible refine LeO.bind ?_ (fun _ => ?_))
    | exact ih0 _ _ _ _ _ _ _ _
    | exact ih1 _ _ _ _ _ _ _ _ _ _ _ _ _ _ _ _ _
    | exact chequerlaw03_lives.mono _
    | exact chequerref03_Good.mono _ _ _ _ _
    | exact chequerref03_Has.mono _ _ _ _ _ _ _ _ _
    | exact chequerref03_Same.mono _ _ _ _ _ _ _
    | exact chequerref03_Sub.mono _ _ _ _ _ _ _ _
    | exact rect_Matrix_Has.mono _ _ _ _ _ _ _ _ _
    | exact rect_Matrix_Sub.mono _ _ _ _ _ _ _ _
    | exact LeO.none _
    | refine LeO.ite ?_ ?_
    | refine LeO.bind ?_ (fun _ => ?_)
  · intro y0 y1 y2 y3 y4 y5 y6 y7 y8 y9 y10 y11 y12 y13 y14 y15 y16
    unfold chequerlaw03_RectParts.j1
    repeat' first
    | (with_reducible exact ih0 _ _ _ _ _ _ _ _)
    | (with_reducible exact ih1 _ _ _ _ _ _ _ _ _ _ _ _ _ _ _ _ _)
    | (with_reducible exact chequerlaw03_lives.mono _)
    | (with_reducible exact chequerref03_Good.mono _ _ _ _ _)
    | (with_reducible exact chequerref03_Has.mono _ _ _ _ _ _ _ _ _)
    | (with_reducible exact chequerref03_Same.mono _ _ _ _ _ _ _)
    | (with_reducible exact chequerref03_Sub.mono _ _ _ _ _ _ _ _)
    | (with_reducible exact rect_Matrix_Has.mono _ _ _ _ _ _ _ _ _)
    | (with_reducible exact rect_Matrix_Sub.mono _ _ _ _ _ _ _ _)
    | (with_reducible exact LeO.refl _)
    | (with_reducible exact LeO.none _)
    | (with_reducible refine LeO.ite ?_ ?_)
    | (with_reducible refine LeO.bind ?_ (fun _ => ?_))
    | exact ih0 _ _ _ _ _ _ _ _
    | exact ih1 _ _ _ _ _ _ _ _ _ _ _ _ _ _ _ _ _
    | exact chequerlaw03_lives.mono _
    | exact chequerref03_Good.mono _ _ _ _ _
    | exact chequerref03_Has.mono _ _ _ _ _ _ _ _ _
    | exact chequerref03_Same.mono _ _ _ _ _ _ _
    | exact chequerref03_Sub.mono _ _ _ _ _ _ _ _
    | exact rect_Matrix_Has.mono _ _ _ _ _ _ _ _ _
    | exact rect_Matrix_Sub.mono _ _ _ _ _ _ _ _
    | exact LeO.none _
    | refine LeO.ite ?_ ?_
    | refine LeO.bind ?_ (fun _ => ?_)
theorem chequerlaw03_RectParts.mono : ∀ a0 a1 a2 a3 a4 a5 a6 a7 a8 a9 k, LeO (chequerlaw03_RectParts.f k a0 a1 a2 a3 a4 a5 a6 a7 a8 a9) (chequerlaw03_RectParts.f (k + 1) a0 a1 a2 a3 a4 a5 a6 a7 a8 a9) := by
 intro a0 a1 a2 a3 a4 a5 a6 a7 a8 a9 k
 obtain ⟨ih0, ih1⟩ := chequerlaw03_RectParts.mono_l k
 unfold chequerlaw03_RectParts.f
 repeat' first
  | (with_reducible exact ih0 _ _ _ _ _ _ _ _)
  | (with_reducible exact ih1 _ _ _ _ _ _ _ _ _ _ _ _ _ _ _ _ _)
  | (with_reducible exact chequerlaw03_lives.mono _)
  | (with_reducible exact chequerref03_Good.mono _ _ _ _ _)
  | (with_reducible exact chequerref03_Has.mono _ _ _ _ _ _ _ _ _)
  | (with_reducible exact chequerref03_Same.mono _ _ _ _ _ _ _)
  | (with_reducible exact chequerref03_Sub.mono _ _ _ _ _ _ _ _)
  | (with_reducible exact rect_Matrix_Has.mono _ _ _ _ _ _ _ _ _)
  | (with_reducible exact rect_Matrix_Sub.mono _ _ _ _ _ _ _ _)
  | (with_reducible exact LeO.refl _)
  | (with_reducible exact LeO.none _)
  | (with_reducible refine LeO.ite ?_ ?_)
  | (with_reducible refine LeO.bind ?_ (fun _ => ?_))
  | exact ih0 _ _ _ _ _ _ _ _
  | exact ih1 _ _ _ _ _ _ _ _ _ _ _ _ _ _ _ _ _
  | exact chequerlaw03_lives.mono _
  | exact chequerref03_Good.mono _ _ _ _ _
  | exact chequerref03_Has.mono _ _ _ _ _ _ _ _ _
  | exact chequerref03_Same.mono _ _ _ _ _ _ _
  | exact chequerref03_Sub.mono _ _ _ _ _ _ _ _
  | exact rect_Matrix_Has.mono _ _ _ _ _ _ _ _ _
  | exact rect_Matrix_Sub.mono _ _ _ _ _ _ _ _
  | exact LeO.none _
  | refine LeO.ite ?_ ?_
  | refine LeO.bind ?_ (fun _ => ?_)
def chequerlaw03_RectParts.T3 : Bool × List (List Nat × List Nat) := (true, [([], []), ([0], [0]), ([1], [1]), ([2], [2]), ([], []), ([4], [4]), ([5, 2], [5]), ([6], [6]), ([], []), ([8], [8]), ([9, 6], [9]), ([10], [10]), ([], []), ([12], [12]), ([13, 10], [13]), ([14], [14]), ([3, 7, 11, 15], [3, 7, 11, 15]), ([], []), ([17, 16, 14, 0, 1, 2, 3, 4, 5, 6, 7, 8, 9, 10, 11, 12, 13, 14, 15, 16, 17], [16, 17])])
def chequerlaw03_RectParts.B3 : List Nat := [0, 1, 3, 7, 0, 16, 55, 119, 0, 256, 887, 1911, 0, 4096, 14199, 30583, 65535, 0, 262143]
theorem chequerlaw03_RectParts.tab3 : rtab .any (opsOf Try.f6 3) = chequerlaw03_RectParts.T3 := by kernel_rfl
theorem chequerlaw03_RectParts.bits3 : waitsOk chequerlaw03_RectParts.T3.2 chequerlaw03_RectParts.B3 = true := by kernel_rfl
def chequerlaw03_RectParts.T9 : Bool × List (List Nat × List Nat) := (true, [([], []), ([0], [0]), ([], []), ([2], [2]), ([], []), ([4], [4]), ([1, 3, 5, 1], [1, 3, 5]), ([6], [6]), ([7], [7]), ([7], [7]), ([8, 6, 0, 1, 2, 3, 4, 5, 6, 7, 8], [8]), ([9, 10, 0, 1, 2, 3, 4, 5, 6, 7, 8, 9, 10], [9])])
def chequerlaw03_RectParts.B9 : List Nat := [0, 1, 0, 4, 0, 16, 63, 127, 255, 255, 511, 2047]
theorem chequerlaw03_RectParts.tab9 : rtab .any (opsOf Try.f6 9) = chequerlaw03_RectParts.T9 := by kernel_rfl
theorem chequerlaw03_RectParts.bits9 : waitsOk chequerlaw03_RectParts.T9.2 chequerlaw03_RectParts.B9 = true := by kernel_rfl
def chequerlaw03_RectParts.T11 : Bool × List (List Nat × List Nat) := (true, [([], []), ([0], [0]), ([], []), ([2], [2]), ([], []), ([4], [4]), ([], []), ([6], [6]), ([], []), ([8], [8]), ([1, 3, 5, 7, 9, 1], [1, 3, 5, 7, 9]), ([10], [10]), ([11], [11]), ([11], [11]), ([], []), ([14, 12, 10, 0, 1, 2, 3, 4, 5, 6, 7, 8, 9, 10, 11, 12, 14], [12, 14]), ([13, 15, 0, 1, 2, 3, 4, 5, 6, 7, 8, 9, 10, 11, 12, 13, 14, 15], [13])])
def chequerlaw03_RectParts.B11 : List Nat := [0, 1, 0, 4, 0, 16, 0, 64, 0, 256, 1023, 2047, 4095, 4095, 0, 24575, 65535]
theorem chequerlaw03_RectParts.tab11 : rtab .any (opsOf Try.f6 11) = chequerlaw03_RectParts.T11 := by kernel_rfl
theorem chequerlaw03_RectParts.bits11 : waitsOk chequerlaw03_RectParts.T11.2 chequerlaw03_RectParts.B11 = true := by kernel_rfl
def chequerlaw03_RectParts.T13 : Bool × List (List Nat × List Nat) := (true, [([], []), ([], []), ([0, 1], [0, 1]), ([2], [2]), ([3], [3]), ([3], [3]), ([4, 5, 3], [3, 4, 5]), ([3, 6], [3, 6]), ([7, 3], [7]), ([8], [8]), ([8], [8]), ([9, 10, 8], [8, 9, 10]), ([8, 11], [8, 11]), ([12, 8], [12]), ([13], [13]), ([14, 13, 13], [13, 14]), ([13], [13]), ([15, 16, 15, 13], [13, 15, 16]), ([17, 13], [13, 17]), ([13, 18], [13, 18]), ([19, 17], [19]), ([20], [20]), ([21, 20, 20], [20, 21]), ([20], [20]), ([23, 22, 20], [20, 23]), ([20], [20]), ([25, 20], [20, 25]), ([20], [20]), ([27, 20], [20, 27]), ([22, 24, 26, 28, 24, 20], [20, 22, 24, 26, 28]), ([20], [20]), ([20], [20]), ([20], [20]), ([32, 20], [20, 32]), ([20], [20]), ([34, 20], [20, 34]), ([30, 31, 33, 35, 29, 20], [20, 30, 31, 33, 35]), ([29, 36, 20], [20, 29, 36]), ([20, 37], [20, 37])])
def chequerlaw03_RectParts.B13 : List Nat := [0, 0, 3, 7, 15, 15, 63, 127, 255, 511, 511, 2047, 4095, 8191, 16383, 32767, 16383, 131071, 262143, 524287, 1048575, 2097151, 4194303, 2097151, 16777215, 2097151, 35651583, 2097151, 136314879, 536870911, 2097151, 2097151, 2097151, 4297064447, 2097151, 17181966335, 68719476735, 137438953471, 274877906943]
theorem chequerlaw03_RectParts.tab13 : rtab .any (opsOf Try.f6 13) = chequerlaw03_RectParts.T13 := by kernel_rfl
theorem chequerlaw03_RectParts.bits13 : waitsOk chequerlaw03_RectParts.T13.2 chequerlaw03_RectParts.B13 = true := by kernel_rfl
def chequerlaw03_RectParts.T15 : Bool × List (List Nat × List Nat) := (true, [([], []), ([0], [0]), ([1], [1]), ([2, 1, 1], [1, 2]), ([1], [1]), ([4, 3, 1], [1, 4]), ([1], [1]), ([6, 1], [1, 6]), ([1], [1]), ([8, 1], [1, 8]), ([3, 5, 7, 9, 5, 1], [1, 3, 5, 7, 9]), ([10, 1], [1, 10]), ([1, 11], [1, 11])])
def chequerlaw03_RectParts.B15 : List Nat := [0, 1, 3, 7, 3, 31, 3, 67, 3, 259, 1023, 2047, 4095]
theorem chequerlaw03_RectParts.tab15 : rtab .any (opsOf Try.f6 15) = chequerlaw03_RectParts.T15 := by kernel_rfl
theorem chequerlaw03_RectParts.bits15 : waitsOk chequerlaw03_RectParts.T15.2 chequerlaw03_RectParts.B15 = true := by kernel_rfl
set_option maxHeartbeats 16000000 in
set_option maxRecDepth 100000 in
noncomputable def chequerlaw03_RectParts.part1 : PSigma fun G_ : Prop => Aside0 G_ → ∀ (k : Nat) (a0_0 : Int) (a0_1 : Int) (A0_2 : Option Addr) (c0_2 : Nat) (l0_2 : List Int) (a1_0 : Int) (a1_1 : Int) (A1_2 : Option Addr) (c1_2 : Nat) (l1_2 : List Int) (a2_0 : Int) (a2_1 : Int) (a2_2 : Int) (a2_3 : Int) (r : Bool) (w : World) (hr0_2 : Kd.C (Kd.int .u64) w A0_2 l0_2.length l0_2) (hc0_2 : l0_2.length ≤ c0_2) (hr1_2 : Kd.C (Kd.int .u64) w A1_2 l1_2.length l1_2) (hc1_2 : l1_2.length ≤ c1_2) (h : chequerlaw03_RectParts.f k a0_0 a0_1 l0_2 a1_0 a1_1 l1_2 a2_0 a2_1 a2_2 a2_3 = some r), Calls Try.prog 6 #[.agg #[.int .i64 a0_0, .int .i64 a0_1, .slice A0_2 l0_2.length c0_2], .agg #[.int .i64 a1_0, .int .i64 a1_1, .slice A1_2 l1_2.length c1_2], .agg #[.int .i64 a2_0, .int .i64 a2_1, .int .i64 a2_2, .int .i64 a2_3]] w fun e w' => e = .returned (.bool r) ∧ Below w.heap.size w w' := PSigma.mk _ fun g_ k a0_0 a0_1 A0_2 c0_2 l0_2 a1_0 a1_1 A1_2 c1_2 l1_2 a2_0 a2_1 a2_2 a2_3 r w hr0_2 hc0_2 hr1_2 hc1_2 h => by
 have hu24 := Try.underlying24
 have hu25 := Try.underlying25
 have hu32 := Try.underlying32
 have HR0_2 := Aside0.mk hr0_2
 have HC0_2 := Aside0.mk hc0_2
 clear hr0_2 hc0_2
 have HR1_2 := Aside0.mk hr1_2
 have HC1_2 := Aside0.mk hc1_2
 clear hr1_2 hc1_2
 have HB := Aside0.mk (Below.refl w.heap.size w)
 have H : ((chequerref03_Good.f k a0_0 a0_1 l0_2 7).bind fun bt372 => ((chequerref03_Good.f k a1_0 a1_1 l1_2 3).bind fun bt378 => ((chequerref01_Around.f a2_0 9).bind fun t384 => ((chequerref01_Around.f a2_1 9).bind fun t385 => ((chequerref01_Around.f a2_2 9).bind fun t386 => ((chequerref01_Around.f a2_3 9).bind fun t387 => (chequerlaw03_RectParts.l0 k (([(⟨a2_0, a2_1, a2_2, a2_3⟩ : S25), (⟨wrap64 (t384 - 1), wrap64 (t385 - 1), wrap64 (t386 - 1), wrap64 (t387 - 1)⟩ : S25)] : List (S25))) 0 bt372.1 bt372.2.1 bt372.2.2 bt378.1 bt378.2.1 bt378.2.2))))))) = some r := h
 clear h
 replace H := Option.bind_eq_some_iff.mp H
 obtain ⟨⟨t372, t373, t374⟩, A40, H⟩ := H
 replace H : ((chequerref03_Good.f k a1_0 a1_1 l1_2 3).bind fun bt378 => ((chequerref01_Around.f a2_0 9).bind fun t384 => ((chequerref01_Around.f a2_1 9).bind fun t385 => ((chequerref01_Around.f a2_2 9).bind fun t386 => ((chequerref01_Around.f a2_3 9).bind fun t387 => (chequerlaw03_RectParts.l0 k (([(⟨a2_0, a2_1, a2_2, a2_3⟩ : S25), (⟨wrap64 (t384 - 1), wrap64 (t385 - 1), wrap64 (t386 - 1), wrap64 (t387 - 1)⟩ : S25)] : List (S25))) 0 t372 t373 t374 bt378.1 bt378.2.1 bt378.2.2)))))) = some r := H
 have A4 := Aside0.mk A40
 clear A40
 replace H := Option.bind_eq_some_iff.mp H
 obtain ⟨⟨t378, t379, t380⟩, A50, H⟩ := H
 replace H : ((chequerref01_Around.f a2_0 9).bind fun t384 => ((chequerref01_Around.f a2_1 9).bind fun t385 => ((chequerref01_Around.f a2_2 9).bind fun t386 => ((chequerref01_Around.f a2_3 9).bind fun t387 => (chequerlaw03_RectParts.l0 k (([(⟨a2_0, a2_1, a2_2, a2_3⟩ : S25), (⟨wrap64 (t384 - 1), wrap64 (t385 - 1), wrap64 (t386 - 1), wrap64 (t387 - 1)⟩ : S25)] : List (S25))) 0 t372 t373 t374 t378 t379 t380))))) = some r := H
 have A5 := Aside0.mk A50
 clear A50
 replace H := Option.bind_eq_some_iff.mp H
 obtain ⟨t384, A60, H⟩ := H
 replace H : ((chequerref01_Around.f a2_1 9).bind fun t385 => ((chequerref01_Around.f a2_2 9).bind fun t386 => ((chequerref01_Around.f a2_3 9).bind fun t387 => (chequerlaw03_RectParts.l0 k (([(⟨a2_0, a2_1, a2_2, a2_3⟩ : S25), (⟨wrap64 (t384 - 1), wrap64 (t385 - 1), wrap64 (t386 - 1), wrap64 (t387 - 1)⟩ : S25)] : List (S25))) 0 t372 t373 t374 t378 t379 t380)))) = some r := H
 have A6 := Aside0.mk A60
 clear A60
 replace H := Option.bind_eq_some_iff.mp H
 obtain ⟨t385, A70, H⟩ := H
 replace H : ((chequerref01_Around.f a2_2 9).bind fun t386 => ((chequerref01_Around.f a2_3 9).bind fun t387 => (chequerlaw03_RectParts.l0 k (([(⟨a2_0, a2_1, a2_2, a2_3⟩ : S25), (⟨wrap64 (t384 - 1), wrap64 (t385 - 1), wrap64 (t386 - 1), wrap64 (t387 - 1)⟩ : S25)] : List (S25))) 0 t372 t373 t374 t378 t379 t380))) = some r := H
 have A7 := Aside0.mk A70
 clear A70
 replace H := Option.bind_eq_some_iff.mp H
 obtain ⟨t386, A80, H⟩ := H
 replace H : ((chequerref01_Around.f a2_3 9).bind fun t387 => (chequerlaw03_RectParts.l0 k (([(⟨a2_0, a2_1, a2_2, a2_3⟩ : S25), (⟨wrap64 (t384 - 1), wrap64 (t385 - 1), wrap64 (t386 - 1), wrap64 (t387 - 1)⟩ : S25)] : List (S25))) 0 t372 t373 t374 t378 t379 t380)) = some r := H
 have A8 := Aside0.mk A80
 clear A80
 replace H := Option.bind_eq_some_iff.mp H
 obtain ⟨t387, A90, H⟩ := H
 replace H : (chequerlaw03_RectParts.l0 k (([(⟨a2_0, a2_1, a2_2, a2_3⟩ : S25), (⟨wrap64 (t384 - 1), wrap64 (t385 - 1), wrap64 (t386 - 1), wrap64 (t387 - 1)⟩ : S25)] : List (S25))) 0 t372 t373 t374 t378 t379 t380) = some r := H
 have A9 := Aside0.mk A90
 clear A90
 obtain ⟨y389, hy389⟩ : ∃ y_ : List (S25), y_ = (([(⟨a2_0, a2_1, a2_2, a2_3⟩ : S25), (⟨wrap64 (t384 - 1), wrap64 (t385 - 1), wrap64 (t386 - 1), wrap64 (t387 - 1)⟩ : S25)] : List (S25))) := ⟨_, rfl⟩
 replace H : (chequerlaw03_RectParts.l0 k y389 0 t372 t373 t374 t378 t379 t380) = some r := by first | (rw [hy389]; with_reducible exact H) | (have H2_ := (Option.bind_some _ _).symm.trans H; rw [hy389]; with_reducible exact H2_) | (have H2_ := (Option.bind_some _ _).symm.trans H; with_reducible exact H2_) | with_reducible exact H | (rw [hy389]; exact H) | exact H
 have Ny389 := Aside0.mk hy389
 clear hy389
 have H' := Aside0.mk H
 clear H
 go_enter Try.func6, Try.ntmps6
 try go_wp2_with (first | ((with_reducible refine gate_dst (N := 3) rfl ?_); refine box_event ?hg (N := 3) ?hd (cs := #[.int .i64 a0_0, .int .i64 a0_1, .slice A0_2 l0_2.length c0_2]) (t := 24) ?hr ?_; (case hd => rfl); (case hg => rfl); (case hr => first | (go_simp; done) | (go_simp; rfl)); intro gb369 hg w10 hbox hb; have BK369 := Aside0.mk (hbox); have GW369 := Aside0.mk ((by rw [hg]; exact (below_size bp_) : w.heap.size ≤ gb369)); have GE369 := Aside0.mk ((by rw [hg]; exact (below_size bp_) : w.heap.size ≤ gb369)); replace HB := Aside0.mk (below_step bp_ hb); clear hb hbox hg) | ((with_reducible refine gate_dst (N := 4) rfl ?_); refine box_event ?hg (N := 4) ?hd (cs := #[.int .i64 a1_0, .int .i64 a1_1, .slice A1_2 l1_2.length c1_2]) (t := 24) ?hr ?_; (case hd => rfl); (case hg => rfl); (case hr => first | (go_simp; done) | (go_simp; rfl)); intro gb370 hg w11 hbox hb; have BK370 := Aside0.mk (hbox); have GW370 := Aside0.mk ((by rw [hg]; exact (below_size bp_) : w.heap.size ≤ gb370)); have GE370 := Aside0.mk ((by rw [hg]; exact (below_size bp_) : w.heap.size ≤ gb370)); replace HB := Aside0.mk (below_step bp_ hb); have NB369_370 := Aside0.mk ((nlt_ hg (hp_ BK369.out))); have NB370_369 := Aside0.mk ((ngt_ hg (hp_ BK369.out))); replace BK369 := Aside0.mk (blk_below (hp_ BK369.out) hb); clear hb hbox hg) | ((with_reducible refine gate_dst (N := 5) rfl ?_); refine box_event ?hg (N := 5) ?hd (cs := #[.int .i64 a2_0, .int .i64 a2_1, .int .i64 a2_2, .int .i64 a2_3]) (t := 25) ?hr ?_; (case hd => rfl); (case hg => rfl); (case hr => first | (go_simp; done) | (go_simp; rfl)); intro gb371 hg w12 hbox hb; have BK371 := Aside0.mk (hbox); have GW371 := Aside0.mk ((by rw [hg]; exact (below_size bp_) : w.heap.size ≤ gb371)); have GE371 := Aside0.mk ((by rw [hg]; exact (below_size bp_) : w.heap.size ≤ gb371)); replace HB := Aside0.mk (below_step bp_ hb); have NB369_371 := Aside0.mk ((nlt_ hg (hp_ BK369.out))); have NB371_369 := Aside0.mk ((ngt_ hg (hp_ BK369.out))); replace BK369 := Aside0.mk (blk_below (hp_ BK369.out) hb); have NB370_371 := Aside0.mk ((nlt_ hg (hp_ BK370.out))); have NB371_370 := Aside0.mk ((ngt_ hg (hp_ BK370.out))); replace BK370 := Aside0.mk (blk_below (hp_ BK370.out) hb); clear hb hbox hg; have hnb13 := NB369_370.out; have hnc13 := NB370_369.out; have hnb14 := NB369_371.out; have hnc14 := NB371_369.out; have hcz15_0 : w12.cell? ⟨gb369, 0, none⟩ = some (.int .i64 a0_0) := (blk_cell BK369.out 0).trans rfl; have hcz15_1 : w12.cell? ⟨gb369, 1, none⟩ = some (.int .i64 a0_1) := (blk_cell BK369.out 1).trans rfl; have hcz15_2 : w12.cell? ⟨gb369, 2, none⟩ = some (.slice A0_2 l0_2.length c0_2) := (blk_cell BK369.out 2).trans rfl; have hfz15_0 := blk_frozen BK369.out 0; have hfz15_1 := blk_frozen BK369.out 1; have hfz15_2 := blk_frozen BK369.out 2) | ((with_reducible refine gate_callee (f := 10) rfl ?_); refine goQ_ (some 22) Try.func10 #[.agg #[.int .i64 a0_0, .int .i64 a0_1, .slice A0_2 l0_2.length c0_2], .int .i64 7] ?_; (with_reducible refine (chequerref03_Good.calls k a0_0 a0_1 _ _ l0_2 7 t372 t373 t374 _ ?side1 ?side2 A4.out).mono ?_); (case side1 => repeat (first | exact (Kd.C_below HR0_2.out HB.out) | (with_reducible refine Kd.C_alloc ?_ _) | (with_reducible refine Kd.C_drewN ?_ _) | (with_reducible refine Kd.C_drew ?_))); (case side2 => exact HC0_2.out); rintro e w16 ⟨v375, rfl, ho0, hb⟩; refine ⟨_, rfl, ?_⟩; have HO376 := Aside0.mk (Kd.V_lower (Kd.V_mono (ok' := fun k_ => k_ ≠ gb370 ∧ k_ ≠ gb371) ho0 (fun k_ hk_ => ⟨(Kd.freshB (g := gb370) (o := .cells #[.int .i64 a1_0, .int .i64 a1_1, .slice A1_2 l1_2.length c1_2] 24 (0, 0)) (hp_ BK370.out) k_ hk_), (Kd.freshB (g := gb371) (o := .cells #[.int .i64 a2_0, .int .i64 a2_1, .int .i64 a2_2, .int .i64 a2_3] 25 (0, 0)) (hp_ BK371.out) k_ hk_)⟩)) (below_size bp_)); replace BK370 := Aside0.mk (blk_below (hp_ BK370.out) hb); replace BK371 := Aside0.mk (blk_below (hp_ BK371.out) hb); replace HB := Aside0.mk (below_step bp_ hb); (try clear hb); (try clear hb2); (try clear hk); (try clear hi); (try clear ho0)) | ((with_reducible refine gate_dst (N := 7) rfl ?_); refine box_event ?hg (N := 7) ?hd (cs := #[.int .i64 0, .int .i64 0, .slice none 0 0]) (t := 24) ?hr ?_; (case hd => rfl); (case hg => rfl); (case hr => first | (go_simp; done) | (go_simp; rfl)); intro gb377 hg w17 hbox hb; replace HO376 := Aside0.mk (Kd.V_below (Kd.V_elderB (vp_ HO376.out) gb377 (Nat.le_of_eq hg.symm)) hb); have BK377 := Aside0.mk (hbox); have GW377 := Aside0.mk ((by rw [hg]; exact (below_size bp_) : w.heap.size ≤ gb377)); have GE377 := Aside0.mk ((by rw [hg]; exact (below_size bp_) : w.heap.size ≤ gb377)); replace HB := Aside0.mk (below_step bp_ hb); have NB370_377 := Aside0.mk ((nlt_ hg (hp_ BK370.out))); have NB377_370 := Aside0.mk ((ngt_ hg (hp_ BK370.out))); replace BK370 := Aside0.mk (blk_below (hp_ BK370.out) hb); have NB371_377 := Aside0.mk ((nlt_ hg (hp_ BK371.out))); have NB377_371 := Aside0.mk ((ngt_ hg (hp_ BK371.out))); replace BK371 := Aside0.mk (blk_below (hp_ BK371.out) hb); clear hb hbox hg; have hnb18 := NB377_370.out; have hnc18 := NB370_377.out; have hnb19 := NB377_371.out; have hnc19 := NB371_377.out; have hcz20_0 : w17.cell? ⟨gb377, 0, none⟩ = some (.int .i64 0) := (blk_cell BK377.out 0).trans rfl; have hcz20_1 : w17.cell? ⟨gb377, 1, none⟩ = some (.int .i64 0) := (blk_cell BK377.out 1).trans rfl; have hcz20_2 : w17.cell? ⟨gb377, 2, none⟩ = some (.slice none 0 0) := (blk_cell BK377.out 2).trans rfl; have hfz20_0 := blk_frozen BK377.out 0; have hfz20_1 := blk_frozen BK377.out 1; have hfz20_2 := blk_frozen BK377.out 2; obtain ⟨Ao21, co21, eo21⟩ := Kd.V_slice HO376.out; subst eo21; have hnb22 := NB370_371.out; have hnc22 := NB371_370.out; have hcz23_0 : w17.cell? ⟨gb370, 0, none⟩ = some (.int .i64 a1_0) := (blk_cell BK370.out 0).trans rfl; have hcz23_1 : w17.cell? ⟨gb370, 1, none⟩ = some (.int .i64 a1_1) := (blk_cell BK370.out 1).trans rfl; have hcz23_2 : w17.cell? ⟨gb370, 2, none⟩ = some (.slice A1_2 l1_2.length c1_2) := (blk_cell BK370.out 2).trans rfl; have hfz23_0 := blk_frozen BK370.out 0; have hfz23_1 := blk_frozen BK370.out 1; have hfz23_2 := blk_frozen BK370.out 2) | ((with_reducible refine gate_callee (f := 10) rfl ?_); refine goQ_ (some 24) Try.func10 #[.agg #[.int .i64 a1_0, .int .i64 a1_1, .slice A1_2 l1_2.length c1_2], .int .i64 3] ?_; (with_reducible refine (chequerref03_Good.calls k a1_0 a1_1 _ _ l1_2 3 t378 t379 t380 _ ?side1 ?side2 A5.out).mono ?_); (case side1 => exact Kd.C_below HR1_2.out bp_); (case side2 => exact HC1_2.out); rintro e w24 ⟨v381, rfl, ho0, hb⟩; refine ⟨_, rfl, ?_⟩; replace HO376 := Aside0.mk (Kd.V_below (by (with_reducible repeat (first | apply Kd.V_alloc | apply Kd.V_drewN | apply Kd.V_drew)); exact (Kd.V_mono (Kd.V_far (p := ⟨gb377, 2, none⟩) (Kd.V_far (p := ⟨gb377, 1, none⟩) (Kd.V_far (p := ⟨gb377, 0, none⟩) (Kd.V_mono HO376.out (fun k_ hk => (⟨hk, hk.2⟩ : _ ∧ k_ ≠ gb377))) (fun _ hk => hk.2) (.int .i64 t372)) (fun _ hk => hk.2) (.int .i64 t373)) (fun _ hk => hk.2) (.slice Ao21 t374.length co21)) (fun _ h_ => h_.1))) hb); have HO382 := Aside0.mk (Kd.V_lower (Kd.V_mono (ok' := fun k_ => k_ ≠ gb370 ∧ k_ ≠ gb371 ∧ k_ ≠ gb377) ho0 (fun k_ hk_ => ⟨(Kd.freshB (g := gb370) (o := .cells #[.int .i64 a1_0, .int .i64 a1_1, .slice A1_2 l1_2.length c1_2] 24 (0, 0)) (hf_ BK370.out NB370_377.out) k_ hk_), (Kd.freshB (g := gb371) (o := .cells #[.int .i64 a2_0, .int .i64 a2_1, .int .i64 a2_2, .int .i64 a2_3] 25 (0, 0)) (hf_ BK371.out NB371_377.out) k_ hk_), (Kd.freshB (g := gb377) (o := .cells #[.int .i64 t372, .int .i64 t373, .slice Ao21 t374.length co21] 24 (0, 0)) (by (with_reducible repeat (first | refine blk_drewN ?_ _ | refine blk_drew ?_ | refine blk_alloc ?_ _)); refine blk_put (cs := #[.int .i64 t372, .int .i64 t373, .slice none 0 0]) ?_ 2 _ rfl; (with_reducible repeat (first | refine blk_drewN ?_ _ | refine blk_drew ?_ | refine blk_alloc ?_ _)); refine blk_put (cs := #[.int .i64 t372, .int .i64 0, .slice none 0 0]) ?_ 1 _ rfl; (with_reducible repeat (first | refine blk_drewN ?_ _ | refine blk_drew ?_ | refine blk_alloc ?_ _)); refine blk_put (cs := #[.int .i64 0, .int .i64 0, .slice none 0 0]) ?_ 0 _ rfl; (with_reducible repeat (first | refine blk_drewN ?_ _ | refine blk_drew ?_ | refine blk_alloc ?_ _)); exact BK377.out) k_ hk_)⟩)) (below_size bp_)); replace BK370 := Aside0.mk (blk_below (hf_ BK370.out NB370_377.out) hb); replace BK371 := Aside0.mk (blk_below (hf_ BK371.out NB371_377.out) hb); replace BK377 := Aside0.mk (blk_below (g := gb377) (o := .cells #[.int .i64 t372, .int .i64 t373, .slice Ao21 t374.length co21] 24 (0, 0)) (by (with_reducible repeat (first | refine blk_drewN ?_ _ | refine blk_drew ?_ | refine blk_alloc ?_ _)); refine blk_put (cs := #[.int .i64 t372, .int .i64 t373, .slice none 0 0]) ?_ 2 _ rfl; (with_reducible repeat (first | refine blk_drewN ?_ _ | refine blk_drew ?_ | refine blk_alloc ?_ _)); refine blk_put (cs := #[.int .i64 t372, .int .i64 0, .slice none 0 0]) ?_ 1 _ rfl; (with_reducible repeat (first | refine blk_drewN ?_ _ | refine blk_drew ?_ | refine blk_alloc ?_ _)); refine blk_put (cs := #[.int .i64 0, .int .i64 0, .slice none 0 0]) ?_ 0 _ rfl; (with_reducible repeat (first | refine blk_drewN ?_ _ | refine blk_drew ?_ | refine blk_alloc ?_ _)); exact BK377.out) hb); replace HB := Aside0.mk (below_step bp_ hb); (try clear hb); (try clear hb2); (try clear hk); (try clear hi); (try clear ho0)) | ((with_reducible refine gate_dst (N := 8) rfl ?_); refine box_event ?hg (N := 8) ?hd (cs := #[.int .i64 0, .int .i64 0, .slice none 0 0]) (t := 24) ?hr ?_; (case hd => rfl); (case hg => rfl); (case hr => first | (go_simp; done) | (go_simp; rfl)); intro gb383 hg w25 hbox hb; replace HO376 := Aside0.mk (Kd.V_below (Kd.V_elderB (vp_ HO376.out) gb383 (Nat.le_of_eq hg.symm)) hb); replace HO382 := Aside0.mk (Kd.V_below (Kd.V_elderB (vp_ HO382.out) gb383 (Nat.le_of_eq hg.symm)) hb); have BK383 := Aside0.mk (hbox); have GW383 := Aside0.mk ((by rw [hg]; exact (below_size bp_) : w.heap.size ≤ gb383)); have GE383 := Aside0.mk ((by rw [hg]; exact (below_size bp_) : w.heap.size ≤ gb383)); replace HB := Aside0.mk (below_step bp_ hb); have NB371_383 := Aside0.mk ((nlt_ hg (hp_ BK371.out))); have NB383_371 := Aside0.mk ((ngt_ hg (hp_ BK371.out))); replace BK371 := Aside0.mk (blk_below (hp_ BK371.out) hb); have NB377_383 := Aside0.mk ((nlt_ hg (hp_ BK377.out))); have NB383_377 := Aside0.mk ((ngt_ hg (hp_ BK377.out))); replace BK377 := Aside0.mk (blk_below (hp_ BK377.out) hb); clear hb hbox hg; have hnb26 := NB383_371.out; have hnc26 := NB371_383.out; have hnb27 := NB383_377.out; have hnc27 := NB377_383.out; have hcz28_0 : w25.cell? ⟨gb383, 0, none⟩ = some (.int .i64 0) := (blk_cell BK383.out 0).trans rfl; have hcz28_1 : w25.cell? ⟨gb383, 1, none⟩ = some (.int .i64 0) := (blk_cell BK383.out 1).trans rfl; have hcz28_2 : w25.cell? ⟨gb383, 2, none⟩ = some (.slice none 0 0) := (blk_cell BK383.out 2).trans rfl; have hfz28_0 := blk_frozen BK383.out 0; have hfz28_1 := blk_frozen BK383.out 1; have hfz28_2 := blk_frozen BK383.out 2; obtain ⟨Ao29, co29, eo29⟩ := Kd.V_slice HO382.out; subst eo29))
 have n0_ : Aside0 (Kd.V (Kd.int .u64) 46 (((w25.setCell ⟨gb383, 0, none⟩ (.int .i64 t378)).setCell ⟨gb383, 1, none⟩ (.int .i64 t379)).setCell ⟨gb383, 2, none⟩ (.slice Ao29 t380.length co29)) w.heap.size (fun k_ => k_ ≠ gb370 ∧ k_ ≠ gb371 ∧ k_ ≠ gb377 ∧ k_ ≠ gb383) (.slice Ao21 t374.length co21) t374) := ⟨by (with_reducible repeat (first | apply Kd.V_alloc | apply Kd.V_drewN | apply Kd.V_drew)); exact Kd.V_mono (Kd.V_far (p := ⟨gb383, 2, none⟩) (Kd.V_far (p := ⟨gb383, 1, none⟩) (Kd.V_far (p := ⟨gb383, 0, none⟩) (Kd.V_mono HO376.out (fun k_ hk => (⟨hk, hk.2⟩ : _ ∧ k_ ≠ gb383))) (fun _ hk => hk.2) (.int .i64 t378)) (fun _ hk => hk.2) (.int .i64 t379)) (fun _ hk => hk.2) (.slice Ao29 t380.length co29)) (fun _ hk => ⟨hk.1.1.1.1, ⟨hk.1.1.1.2, ⟨hk.1.1.2, hk.1.2⟩⟩⟩)⟩
 have n1_ : Aside0 (Kd.V (Kd.int .u64) 46 (((w25.setCell ⟨gb383, 0, none⟩ (.int .i64 t378)).setCell ⟨gb383, 1, none⟩ (.int .i64 t379)).setCell ⟨gb383, 2, none⟩ (.slice Ao29 t380.length co29)) w.heap.size (fun k_ => k_ ≠ gb370 ∧ k_ ≠ gb371 ∧ k_ ≠ gb377 ∧ k_ ≠ gb383) (.slice Ao29 t380.length co29) t380) := ⟨by (with_reducible repeat (first | apply Kd.V_alloc | apply Kd.V_drewN | apply Kd.V_drew)); exact Kd.V_mono (Kd.V_far (p := ⟨gb383, 2, none⟩) (Kd.V_far (p := ⟨gb383, 1, none⟩) (Kd.V_far (p := ⟨gb383, 0, none⟩) (Kd.V_mono HO382.out (fun k_ hk => (⟨hk, hk.2⟩ : _ ∧ k_ ≠ gb383))) (fun _ hk => hk.2) (.int .i64 t378)) (fun _ hk => hk.2) (.int .i64 t379)) (fun _ hk => hk.2) (.slice Ao29 t380.length co29)) (fun _ hk => ⟨hk.1.1.1, ⟨hk.1.1.2.1, ⟨hk.1.1.2.2, hk.1.2⟩⟩⟩)⟩
 have n2_ : Aside0 ((((w25.setCell ⟨gb383, 0, none⟩ (.int .i64 t378)).setCell ⟨gb383, 1, none⟩ (.int .i64 t379)).setCell ⟨gb383, 2, none⟩ (.slice Ao29 t380.length co29)).heap[gb371]? = some (.cells #[.int .i64 a2_0, .int .i64 a2_1, .int .i64 a2_2, .int .i64 a2_3] 25 (0, 0))) := ⟨hf_ BK371.out NB371_383.out⟩
 have n3_ : Aside0 ((((w25.setCell ⟨gb383, 0, none⟩ (.int .i64 t378)).setCell ⟨gb383, 1, none⟩ (.int .i64 t379)).setCell ⟨gb383, 2, none⟩ (.slice Ao29 t380.length co29)).heap[gb377]? = some (.cells #[.int .i64 t372, .int .i64 t373, .slice Ao21 t374.length co21] 24 (0, 0))) := ⟨hf_ BK377.out NB377_383.out⟩
 have n4_ : Aside0 ((((w25.setCell ⟨gb383, 0, none⟩ (.int .i64 t378)).setCell ⟨gb383, 1, none⟩ (.int .i64 t379)).setCell ⟨gb383, 2, none⟩ (.slice Ao29 t380.length co29)).heap[gb383]? = some (.cells #[.int .i64 t378, .int .i64 t379, .slice Ao29 t380.length co29] 24 (0, 0))) := ⟨by (with_reducible repeat (first | refine blk_drewN ?_ _ | refine blk_drew ?_ | refine blk_alloc ?_ _)); refine blk_put (cs := #[.int .i64 t378, .int .i64 t379, .slice none 0 0]) ?_ 2 _ rfl; (with_reducible repeat (first | refine blk_drewN ?_ _ | refine blk_drew ?_ | refine blk_alloc ?_ _)); refine blk_put (cs := #[.int .i64 t378, .int .i64 0, .slice none 0 0]) ?_ 1 _ rfl; (with_reducible repeat (first | refine blk_drewN ?_ _ | refine blk_drew ?_ | refine blk_alloc ?_ _)); refine blk_put (cs := #[.int .i64 0, .int .i64 0, .slice none 0 0]) ?_ 0 _ rfl; (with_reducible repeat (first | refine blk_drewN ?_ _ | refine blk_drew ?_ | refine blk_alloc ?_ _)); exact BK383.out⟩
 have n5_ : Aside0 (Below w.heap.size w (((w25.setCell ⟨gb383, 0, none⟩ (.int .i64 t378)).setCell ⟨gb383, 1, none⟩ (.int .i64 t379)).setCell ⟨gb383, 2, none⟩ (.slice Ao29 t380.length co29))) := ⟨bp_⟩
 (try clear HO376)
 (try clear HO382)
 (try clear BK371)
 (try clear BK377)
 (try clear BK383)
 (try clear HB)
 generalize (((w25.setCell ⟨gb383, 0, none⟩ (.int .i64 t378)).setCell ⟨gb383, 1, none⟩ (.int .i64 t379)).setCell ⟨gb383, 2, none⟩ (.slice Ao29 t380.length co29)) = w30 at n0_ n1_ n2_ n3_ n4_ n5_ ⊢
 have HO376 := n0_
 have HO382 := n1_
 have BK371 := n2_
 have BK377 := n3_
 have BK383 := n4_
 have HB := n5_
 clear n0_ n1_ n2_ n3_ n4_ n5_
 replace HO376 := Aside0.mk (Kd.V_drew HO376.out)
 replace HO382 := Aside0.mk (Kd.V_drew HO382.out)
 replace BK371 := Aside0.mk (blk_drew BK371.out)
 replace BK377 := Aside0.mk (blk_drew BK377.out)
 replace BK383 := Aside0.mk (blk_drew BK383.out)
 replace HB := Aside0.mk (below_drew1 HB.out)
 refine start_ (n := 19) (S := fun w' => w'.cell? ⟨gb371, 0, none⟩ = some (.int .i64 a2_0) ∧ w'.cell? ⟨gb371, 1, none⟩ = some (.int .i64 a2_1) ∧ w'.cell? ⟨gb371, 2, none⟩ = some (.int .i64 a2_2) ∧ w'.cell? ⟨gb371, 3, none⟩ = some (.int .i64 a2_3)) (ds := []) #[false, false, false, false, false, false, false, false, false, false, false, false, false, false, false, false, false, false, false] (by kernel_rfl) rfl rfl ⟨(blk_cell BK371.out 0).trans rfl, (blk_cell BK371.out 1).trans rfl, (blk_cell BK371.out 2).trans rfl, (blk_cell BK371.out 3).trans rfl⟩ (fun hHeld => ?_); refine with_tabW chequerlaw03_RectParts.tab3 chequerlaw03_RectParts.bits3 (fun HT_ HW_ => ?_)
 generalize w30.drew = w31 at HO376 HO382 BK371 BK377 BK383 HB hHeld ⊢
 refine pur_ (i := 0) (N := some 25) #[true, false, false, false, false, false, false, false, false, false, false, false, false, false, false, false, false, false, false] (any_of HT_.out (by kernel_rfl)) ?_
 refine pur_ (i := 4) (N := some 29) #[true, false, false, false, true, false, false, false, false, false, false, false, false, false, false, false, false, false, false] (any_of HT_.out (by kernel_rfl)) ?_
 refine pur_ (i := 8) (N := some 33) #[true, false, false, false, true, false, false, false, true, false, false, false, false, false, false, false, false, false, false] (any_of HT_.out (by kernel_rfl)) ?_
 refine pur_ (i := 12) (N := some 37) #[true, false, false, false, true, false, false, false, true, false, false, false, true, false, false, false, false, false, false] (any_of HT_.out (by kernel_rfl)) ?_
 refine take_ (i := 1) (N := some 26) (v := ?_) (a' := ?_) #[true, true, false, false, true, false, false, false, true, false, false, false, true, false, false, false, false, false, false] rfl rfl (take_ofW HT_.out HW_.out (by kernel_rfl)) (fun _ _ _ h => h) (Or.inl ⟨by rfl, ?_⟩) hHeld ?_ ?_
 rotate_left
 · rintro w' ⟨s0, s1, s2, s3⟩
   go_simp
   with_reducible rfl
 rotate_left
 · simp only [Act.put, List.setIfInBounds_toArray, List.set_cons_zero, List.set_cons_succ, i64_w, i32_w]
   rfl
 refine take_ (i := 5) (N := some 30) (v := ?_) (a' := ?_) #[true, true, false, false, true, true, false, false, true, false, false, false, true, false, false, false, false, false, false] rfl rfl (take_ofW HT_.out HW_.out (by kernel_rfl)) (fun _ _ _ h => h) (Or.inl ⟨by rfl, ?_⟩) hHeld ?_ ?_
 rotate_left
 · rintro w' ⟨s0, s1, s2, s3⟩
   go_simp
   with_reducible rfl
 rotate_left
 · simp only [Act.put, List.setIfInBounds_toArray, List.set_cons_zero, List.set_cons_succ, i64_w, i32_w]
   rfl
 refine take_ (i := 9) (N := some 34) (v := ?_) (a' := ?_) #[true, true, false, false, true, true, false, false, true, true, false, false, true, false, false, false, false, false, false] rfl rfl (take_ofW HT_.out HW_.out (by kernel_rfl)) (fun _ _ _ h => h) (Or.inl ⟨by rfl, ?_⟩) hHeld ?_ ?_
 rotate_left
 · rintro w' ⟨s0, s1, s2, s3⟩
   go_simp
   with_reducible rfl
 rotate_left
 · simp only [Act.put, List.setIfInBounds_toArray, List.set_cons_zero, List.set_cons_succ, i64_w, i32_w]
   rfl
 refine take_ (i := 13) (N := some 38) (v := ?_) (a' := ?_) #[true, true, false, false, true, true, false, false, true, true, false, false, true, true, false, false, false, false, false] rfl rfl (take_ofW HT_.out HW_.out (by kernel_rfl)) (fun _ _ _ h => h) (Or.inl ⟨by rfl, ?_⟩) hHeld ?_ ?_
 rotate_left
 · rintro w' ⟨s0, s1, s2, s3⟩
   go_simp
   with_reducible rfl
 rotate_left
 · simp only [Act.put, List.setIfInBounds_toArray, List.set_cons_zero, List.set_cons_succ, i64_w, i32_w]
   rfl
 refine join_ (σ := Nat) 1 Fl148 (fun s_ => [(27, .int .i64 t384), (31, .int .i64 t385), (35, .int .i64 t386), (39, .int .i64 t387), (9, .pointer (some ⟨s_, 0, none⟩)), (28, .int .i64 (wrap64 (t384 - 1))), (32, .int .i64 (wrap64 (t385 - 1))), (36, .int .i64 (wrap64 (t386 - 1))), (40, .int .i64 (wrap64 (t387 - 1))), (41, .agg #[.int .i64 (wrap64 (t384 - 1)), .int .i64 (wrap64 (t385 - 1)), .int .i64 (wrap64 (t386 - 1)), .int .i64 (wrap64 (t387 - 1))])]) (fun s_ w' => (w'.cell? ⟨gb371, 0, none⟩ = some (.int .i64 a2_0) ∧ w'.cell? ⟨gb371, 1, none⟩ = some (.int .i64 a2_1) ∧ w'.cell? ⟨gb371, 2, none⟩ = some (.int .i64 a2_2) ∧ w'.cell? ⟨gb371, 3, none⟩ = some (.int .i64 a2_3)) ∧ (Kd.V (Kd.int .u64) 46 w' w.heap.size (fun k_ => k_ ≠ gb370 ∧ k_ ≠ gb371 ∧ k_ ≠ gb377 ∧ k_ ≠ gb383 ∧ k_ ≠ s_) (.slice Ao21 t374.length co21) t374) ∧ (Kd.V (Kd.int .u64) 46 w' w.heap.size (fun k_ => k_ ≠ gb370 ∧ k_ ≠ gb371 ∧ k_ ≠ gb377 ∧ k_ ≠ gb383 ∧ k_ ≠ s_) (.slice Ao29 t380.length co29) t380) ∧ (w'.heap[gb371]? = some (.cells #[.int .i64 a2_0, .int .i64 a2_1, .int .i64 a2_2, .int .i64 a2_3] 25 (0, 0))) ∧ (w'.heap[gb377]? = some (.cells #[.int .i64 t372, .int .i64 t373, .slice Ao21 t374.length co21] 24 (0, 0))) ∧ (w'.heap[gb383]? = some (.cells #[.int .i64 t378, .int .i64 t379, .slice Ao29 t380.length co29] 24 (0, 0))) ∧ (w'.heap[s_]? = some (.cells #[.int .i64 0, .int .i64 0, .int .i64 0, .int .i64 0] 25 (0, 0))) ∧ (w.heap.size ≤ s_) ∧ (w.heap.size ≤ s_) ∧ (gb371 ≠ s_) ∧ (s_ ≠ gb371) ∧ (gb377 ≠ s_) ∧ (s_ ≠ gb377) ∧ (gb383 ≠ s_) ∧ (s_ ≠ gb383) ∧ (Below w.heap.size w w')) ?_ ?_
 rotate_left
 · intro hJ2_6_10_14_17
   refine join_ (σ := Unit) 2 Fl166 (fun s_ => [(27, .int .i64 t384), (31, .int .i64 t385), (35, .int .i64 t386), (39, .int .i64 t387), (28, .int .i64 (wrap64 (t384 - 1))), (32, .int .i64 (wrap64 (t385 - 1))), (36, .int .i64 (wrap64 (t386 - 1))), (40, .int .i64 (wrap64 (t387 - 1))), (41, .agg #[.int .i64 (wrap64 (t384 - 1)), .int .i64 (wrap64 (t385 - 1)), .int .i64 (wrap64 (t386 - 1)), .int .i64 (wrap64 (t387 - 1))])]) (fun s_ w' => (w'.cell? ⟨gb371, 0, none⟩ = some (.int .i64 a2_0) ∧ w'.cell? ⟨gb371, 1, none⟩ = some (.int .i64 a2_1) ∧ w'.cell? ⟨gb371, 2, none⟩ = some (.int .i64 a2_2) ∧ w'.cell? ⟨gb371, 3, none⟩ = some (.int .i64 a2_3)) ∧ (Kd.V (Kd.int .u64) 46 w' w.heap.size (fun k_ => k_ ≠ gb370 ∧ k_ ≠ gb371 ∧ k_ ≠ gb377 ∧ k_ ≠ gb383) (.slice Ao21 t374.length co21) t374) ∧ (Kd.V (Kd.int .u64) 46 w' w.heap.size (fun k_ => k_ ≠ gb370 ∧ k_ ≠ gb371 ∧ k_ ≠ gb377 ∧ k_ ≠ gb383) (.slice Ao29 t380.length co29) t380) ∧ (w'.heap[gb371]? = some (.cells #[.int .i64 a2_0, .int .i64 a2_1, .int .i64 a2_2, .int .i64 a2_3] 25 (0, 0))) ∧ (w'.heap[gb377]? = some (.cells #[.int .i64 t372, .int .i64 t373, .slice Ao21 t374.length co21] 24 (0, 0))) ∧ (w'.heap[gb383]? = some (.cells #[.int .i64 t378, .int .i64 t379, .slice Ao29 t380.length co29] 24 (0, 0))) ∧ (Below w.heap.size w w')) ?_ ?_
   rotate_left
   · intro hJ2_6_10_14
     refine join_ (σ := Nat) 4 Fl146 (fun s_ => [(27, .int .i64 t384), (31, .int .i64 t385), (35, .int .i64 t386), (9, .pointer (some ⟨s_, 0, none⟩)), (28, .int .i64 (wrap64 (t384 - 1))), (32, .int .i64 (wrap64 (t385 - 1))), (36, .int .i64 (wrap64 (t386 - 1)))]) (fun s_ w' => (w'.cell? ⟨gb371, 0, none⟩ = some (.int .i64 a2_0) ∧ w'.cell? ⟨gb371, 1, none⟩ = some (.int .i64 a2_1) ∧ w'.cell? ⟨gb371, 2, none⟩ = some (.int .i64 a2_2) ∧ w'.cell? ⟨gb371, 3, none⟩ = some (.int .i64 a2_3)) ∧ (Kd.V (Kd.int .u64) 46 w' w.heap.size (fun k_ => k_ ≠ gb370 ∧ k_ ≠ gb371 ∧ k_ ≠ gb377 ∧ k_ ≠ gb383 ∧ k_ ≠ s_) (.slice Ao21 t374.length co21) t374) ∧ (Kd.V (Kd.int .u64) 46 w' w.heap.size (fun k_ => k_ ≠ gb370 ∧ k_ ≠ gb371 ∧ k_ ≠ gb377 ∧ k_ ≠ gb383 ∧ k_ ≠ s_) (.slice Ao29 t380.length co29) t380) ∧ (w'.heap[gb371]? = some (.cells #[.int .i64 a2_0, .int .i64 a2_1, .int .i64 a2_2, .int .i64 a2_3] 25 (0, 0))) ∧ (w'.heap[gb377]? = some (.cells #[.int .i64 t372, .int .i64 t373, .slice Ao21 t374.length co21] 24 (0, 0))) ∧ (w'.heap[gb383]? = some (.cells #[.int .i64 t378, .int .i64 t379, .slice Ao29 t380.length co29] 24 (0, 0))) ∧ (w'.heap[s_]? = some (.cells #[.int .i64 0, .int .i64 0, .int .i64 0, .int .i64 0] 25 (0, 0))) ∧ (w.heap.size ≤ s_) ∧ (w.heap.size ≤ s_) ∧ (gb371 ≠ s_) ∧ (s_ ≠ gb371) ∧ (gb377 ≠ s_) ∧ (s_ ≠ gb377) ∧ (gb383 ≠ s_) ∧ (s_ ≠ gb383) ∧ (Below w.heap.size w w')) ?_ ?_
     rotate_left
     · intro hJ2_6_10_17
       refine join_ (σ := Unit) 5 Fl164 (fun s_ => [(27, .int .i64 t384), (31, .int .i64 t385), (35, .int .i64 t386), (28, .int .i64 (wrap64 (t384 - 1))), (32, .int .i64 (wrap64 (t385 - 1))), (36, .int .i64 (wrap64 (t386 - 1)))]) (fun s_ w' => (w'.cell? ⟨gb371, 0, none⟩ = some (.int .i64 a2_0) ∧ w'.cell? ⟨gb371, 1, none⟩ = some (.int .i64 a2_1) ∧ w'.cell? ⟨gb371, 2, none⟩ = some (.int .i64 a2_2) ∧ w'.cell? ⟨gb371, 3, none⟩ = some (.int .i64 a2_3)) ∧ (Kd.V (Kd.int .u64) 46 w' w.heap.size (fun k_ => k_ ≠ gb370 ∧ k_ ≠ gb371 ∧ k_ ≠ gb377 ∧ k_ ≠ gb383) (.slice Ao21 t374.length co21) t374) ∧ (Kd.V (Kd.int .u64) 46 w' w.heap.size (fun k_ => k_ ≠ gb370 ∧ k_ ≠ gb371 ∧ k_ ≠ gb377 ∧ k_ ≠ gb383) (.slice Ao29 t380.length co29) t380) ∧ (w'.heap[gb371]? = some (.cells #[.int .i64 a2_0, .int .i64 a2_1, .int .i64 a2_2, .int .i64 a2_3] 25 (0, 0))) ∧ (w'.heap[gb377]? = some (.cells #[.int .i64 t372, .int .i64 t373, .slice Ao21 t374.length co21] 24 (0, 0))) ∧ (w'.heap[gb383]? = some (.cells #[.int .i64 t378, .int .i64 t379, .slice Ao29 t380.length co29] 24 (0, 0))) ∧ (Below w.heap.size w w')) ?_ ?_
       rotate_left
       · intro hJ2_6_10
         refine join_ (σ := Nat) 6 Fl143 (fun s_ => [(27, .int .i64 t384), (31, .int .i64 t385), (9, .pointer (some ⟨s_, 0, none⟩)), (28, .int .i64 (wrap64 (t384 - 1))), (32, .int .i64 (wrap64 (t385 - 1)))]) (fun s_ w' => (w'.cell? ⟨gb371, 0, none⟩ = some (.int .i64 a2_0) ∧ w'.cell? ⟨gb371, 1, none⟩ = some (.int .i64 a2_1) ∧ w'.cell? ⟨gb371, 2, none⟩ = some (.int .i64 a2_2) ∧ w'.cell? ⟨gb371, 3, none⟩ = some (.int .i64 a2_3)) ∧ (Kd.V (Kd.int .u64) 46 w' w.heap.size (fun k_ => k_ ≠ gb370 ∧ k_ ≠ gb371 ∧ k_ ≠ gb377 ∧ k_ ≠ gb383 ∧ k_ ≠ s_) (.slice Ao21 t374.length co21) t374) ∧ (Kd.V (Kd.int .u64) 46 w' w.heap.size (fun k_ => k_ ≠ gb370 ∧ k_ ≠ gb371 ∧ k_ ≠ gb377 ∧ k_ ≠ gb383 ∧ k_ ≠ s_) (.slice Ao29 t380.length co29) t380) ∧ (w'.heap[gb371]? = some (.cells #[.int .i64 a2_0, .int .i64 a2_1, .int .i64 a2_2, .int .i64 a2_3] 25 (0, 0))) ∧ (w'.heap[gb377]? = some (.cells #[.int .i64 t372, .int .i64 t373, .slice Ao21 t374.length co21] 24 (0, 0))) ∧ (w'.heap[gb383]? = some (.cells #[.int .i64 t378, .int .i64 t379, .slice Ao29 t380.length co29] 24 (0, 0))) ∧ (w'.heap[s_]? = some (.cells #[.int .i64 0, .int .i64 0, .int .i64 0, .int .i64 0] 25 (0, 0))) ∧ (w.heap.size ≤ s_) ∧ (w.heap.size ≤ s_) ∧ (gb371 ≠ s_) ∧ (s_ ≠ gb371) ∧ (gb377 ≠ s_) ∧ (s_ ≠ gb377) ∧ (gb383 ≠ s_) ∧ (s_ ≠ gb383) ∧ (Below w.heap.size w w')) ?_ ?_
         rotate_left
         · intro hJ2_6_17
           refine join_ (σ := Unit) 7 Fl160 (fun s_ => [(27, .int .i64 t384), (31, .int .i64 t385), (28, .int .i64 (wrap64 (t384 - 1))), (32, .int .i64 (wrap64 (t385 - 1)))]) (fun s_ w' => (w'.cell? ⟨gb371, 0, none⟩ = some (.int .i64 a2_0) ∧ w'.cell? ⟨gb371, 1, none⟩ = some (.int .i64 a2_1) ∧ w'.cell? ⟨gb371, 2, none⟩ = some (.int .i64 a2_2) ∧ w'.cell? ⟨gb371, 3, none⟩ = some (.int .i64 a2_3)) ∧ (Kd.V (Kd.int .u64) 46 w' w.heap.size (fun k_ => k_ ≠ gb370 ∧ k_ ≠ gb371 ∧ k_ ≠ gb377 ∧ k_ ≠ gb383) (.slice Ao21 t374.length co21) t374) ∧ (Kd.V (Kd.int .u64) 46 w' w.heap.size (fun k_ => k_ ≠ gb370 ∧ k_ ≠ gb371 ∧ k_ ≠ gb377 ∧ k_ ≠ gb383) (.slice Ao29 t380.length co29) t380) ∧ (w'.heap[gb371]? = some (.cells #[.int .i64 a2_0, .int .i64 a2_1, .int .i64 a2_2, .int .i64 a2_3] 25 (0, 0))) ∧ (w'.heap[gb377]? = some (.cells #[.int .i64 t372, .int .i64 t373, .slice Ao21 t374.length co21] 24 (0, 0))) ∧ (w'.heap[gb383]? = some (.cells #[.int .i64 t378, .int .i64 t379, .slice Ao29 t380.length co29] 24 (0, 0))) ∧ (Below w.heap.size w w')) ?_ ?_
           rotate_left
           · intro hJ2_6
             refine join_ (σ := Nat) 8 Fl141 (fun s_ => [(27, .int .i64 t384), (9, .pointer (some ⟨s_, 0, none⟩)), (28, .int .i64 (wrap64 (t384 - 1)))]) (fun s_ w' => (w'.cell? ⟨gb371, 0, none⟩ = some (.int .i64 a2_0) ∧ w'.cell? ⟨gb371, 1, none⟩ = some (.int .i64 a2_1) ∧ w'.cell? ⟨gb371, 2, none⟩ = some (.int .i64 a2_2) ∧ w'.cell? ⟨gb371, 3, none⟩ = some (.int .i64 a2_3)) ∧ (Kd.V (Kd.int .u64) 46 w' w.heap.size (fun k_ => k_ ≠ gb370 ∧ k_ ≠ gb371 ∧ k_ ≠ gb377 ∧ k_ ≠ gb383 ∧ k_ ≠ s_) (.slice Ao21 t374.length co21) t374) ∧ (Kd.V (Kd.int .u64) 46 w' w.heap.size (fun k_ => k_ ≠ gb370 ∧ k_ ≠ gb371 ∧ k_ ≠ gb377 ∧ k_ ≠ gb383 ∧ k_ ≠ s_) (.slice Ao29 t380.length co29) t380) ∧ (w'.heap[gb371]? = some (.cells #[.int .i64 a2_0, .int .i64 a2_1, .int .i64 a2_2, .int .i64 a2_3] 25 (0, 0))) ∧ (w'.heap[gb377]? = some (.cells #[.int .i64 t372, .int .i64 t373, .slice Ao21 t374.length co21] 24 (0, 0))) ∧ (w'.heap[gb383]? = some (.cells #[.int .i64 t378, .int .i64 t379, .slice Ao29 t380.length co29] 24 (0, 0))) ∧ (w'.heap[s_]? = some (.cells #[.int .i64 0, .int .i64 0, .int .i64 0, .int .i64 0] 25 (0, 0))) ∧ (w.heap.size ≤ s_) ∧ (w.heap.size ≤ s_) ∧ (gb371 ≠ s_) ∧ (s_ ≠ gb371) ∧ (gb377 ≠ s_) ∧ (s_ ≠ gb377) ∧ (gb383 ≠ s_) ∧ (s_ ≠ gb383) ∧ (Below w.heap.size w w')) ?_ ?_
             rotate_left
             · intro hJ2_17
               refine join_ (σ := Unit) 9 Fl158 (fun s_ => [(27, .int .i64 t384), (28, .int .i64 (wrap64 (t384 - 1)))]) (fun s_ w' => (w'.cell? ⟨gb371, 0, none⟩ = some (.int .i64 a2_0) ∧ w'.cell? ⟨gb371, 1, none⟩ = some (.int .i64 a2_1) ∧ w'.cell? ⟨gb371, 2, none⟩ = some (.int .i64 a2_2) ∧ w'.cell? ⟨gb371, 3, none⟩ = some (.int .i64 a2_3)) ∧ (Kd.V (Kd.int .u64) 46 w' w.heap.size (fun k_ => k_ ≠ gb370 ∧ k_ ≠ gb371 ∧ k_ ≠ gb377 ∧ k_ ≠ gb383) (.slice Ao21 t374.length co21) t374) ∧ (Kd.V (Kd.int .u64) 46 w' w.heap.size (fun k_ => k_ ≠ gb370 ∧ k_ ≠ gb371 ∧ k_ ≠ gb377 ∧ k_ ≠ gb383) (.slice Ao29 t380.length co29) t380) ∧ (w'.heap[gb371]? = some (.cells #[.int .i64 a2_0, .int .i64 a2_1, .int .i64 a2_2, .int .i64 a2_3] 25 (0, 0))) ∧ (w'.heap[gb377]? = some (.cells #[.int .i64 t372, .int .i64 t373, .slice Ao21 t374.length co21] 24 (0, 0))) ∧ (w'.heap[gb383]? = some (.cells #[.int .i64 t378, .int .i64 t379, .slice Ao29 t380.length co29] 24 (0, 0))) ∧ (Below w.heap.size w w')) ?_ ?_
               rotate_left
               · intro hJ2
                 refine join_ (σ := Nat) 10 Fl152 (fun s_ => [(9, .pointer (some ⟨s_, 0, none⟩))]) (fun s_ w' => (w'.cell? ⟨gb371, 0, none⟩ = some (.int .i64 a2_0) ∧ w'.cell? ⟨gb371, 1, none⟩ = some (.int .i64 a2_1) ∧ w'.cell? ⟨gb371, 2, none⟩ = some (.int .i64 a2_2) ∧ w'.cell? ⟨gb371, 3, none⟩ = some (.int .i64 a2_3)) ∧ (Kd.V (Kd.int .u64) 46 w' w.heap.size (fun k_ => k_ ≠ gb370 ∧ k_ ≠ gb371 ∧ k_ ≠ gb377 ∧ k_ ≠ gb383 ∧ k_ ≠ s_) (.slice Ao21 t374.length co21) t374) ∧ (Kd.V (Kd.int .u64) 46 w' w.heap.size (fun k_ => k_ ≠ gb370 ∧ k_ ≠ gb371 ∧ k_ ≠ gb377 ∧ k_ ≠ gb383 ∧ k_ ≠ s_) (.slice Ao29 t380.length co29) t380) ∧ (w'.heap[gb371]? = some (.cells #[.int .i64 a2_0, .int .i64 a2_1, .int .i64 a2_2, .int .i64 a2_3] 25 (0, 0))) ∧ (w'.heap[gb377]? = some (.cells #[.int .i64 t372, .int .i64 t373, .slice Ao21 t374.length co21] 24 (0, 0))) ∧ (w'.heap[gb383]? = some (.cells #[.int .i64 t378, .int .i64 t379, .slice Ao29 t380.length co29] 24 (0, 0))) ∧ (w'.heap[s_]? = some (.cells #[.int .i64 0, .int .i64 0, .int .i64 0, .int .i64 0] 25 (0, 0))) ∧ (w.heap.size ≤ s_) ∧ (w.heap.size ≤ s_) ∧ (gb371 ≠ s_) ∧ (s_ ≠ gb371) ∧ (gb377 ≠ s_) ∧ (s_ ≠ gb377) ∧ (gb383 ≠ s_) ∧ (s_ ≠ gb383) ∧ (Below w.heap.size w w')) ?_ ?_
                 rotate_left
                 · intro hJ17
                   refine two_ (i := 2) (j := 17) (Ni := some 27) (Nj := some 9) #[true, true, true, false, true, true, false, false, true, true, false, false, true, true, false, false, false, false, false] Fl152 rfl rfl rfl rfl (two_of HT_.out (by kernel_rfl)) (by decide) (by decide) (fun K hK => ?_) (fun K hK => ?_)
                   · skip
                     refine goes_ Try.func11 (by kernel_rfl) rfl #[.int .i64 a2_0, .int .i64 9] (by rfl) rfl rfl (by (try simp only [List.map_toArray, List.map_cons, List.map_nil]); first | done | rfl | (simp only [List.length_drop, List.length_take]; rfl)) ?_
                     with_reducible refine (chequerref01_Around.calls a2_0 9 t384 _ A6.out).mono ?_
                     rintro e w' ⟨rfl, ⟨nd, rfl⟩⟩
                     refine ⟨_, rfl, ?_⟩
                     refine hK.out _ _ ⟨(blk_cell BK371.out 0).trans rfl, (blk_cell BK371.out 1).trans rfl, (blk_cell BK371.out 2).trans rfl, (blk_cell BK371.out 3).trans rfl⟩ (fun hHeld => ?_)
                     clear hK K
                     refine norm_ (a' := ?_) ?_ ?_
                     rotate_left
                     · show Act.put _ (some 27) _ = _
                       simp only [Act.put, List.setIfInBounds_toArray, List.set_cons_zero, List.set_cons_succ, i64_w, i32_w]
                       rfl
                     refine pur_ (i := 3) (N := some 28) Fl158 (any_of HT_.out (by kernel_rfl)) ?_
                     exact norm_ (by first | (simp only [putAll, Act.put, List.setIfInBounds_toArray, List.set_cons_zero, List.set_cons_succ]; done) | (simp only [putAll, Act.put, List.setIfInBounds_toArray, List.set_cons_zero, List.set_cons_succ]; rfl)) (hJ2 () _ ⟨hHeld, (vp_ HO376.out), (vp_ HO382.out), (hp_ BK371.out), (hp_ BK377.out), (hp_ BK383.out), bp_⟩)
                   · skip
                     refine box_step ?hg (N := 9) ?hd (cs := #[.int .i64 0, .int .i64 0, .int .i64 0, .int .i64 0]) (t := 25) ?hr ?_; (case hd => rfl); (case hg => rfl); (case hr => first | (go_simp; done) | (go_simp; rfl))
                     intro gb388 hg w32 hbox hb
                     replace HO376 := Aside0.mk (Kd.V_below (Kd.V_elderB (vp_ HO376.out) gb388 (Nat.le_of_eq hg.symm)) hb)
                     replace HO382 := Aside0.mk (Kd.V_below (Kd.V_elderB (vp_ HO382.out) gb388 (Nat.le_of_eq hg.symm)) hb)
                     have BK388 := Aside0.mk (hbox)
                     have GW388 := Aside0.mk ((by rw [hg]; exact (below_size bp_) : w.heap.size ≤ gb388))
                     have GE388 := Aside0.mk ((by rw [hg]; exact (below_size bp_) : w.heap.size ≤ gb388))
                     replace HB := Aside0.mk (below_step bp_ hb)
                     have NB371_388 := Aside0.mk ((nlt_ hg (hp_ BK371.out)))
                     have NB388_371 := Aside0.mk ((ngt_ hg (hp_ BK371.out)))
                     replace BK371 := Aside0.mk (blk_below (hp_ BK371.out) hb)
                     have NB377_388 := Aside0.mk ((nlt_ hg (hp_ BK377.out)))
                     have NB388_377 := Aside0.mk ((ngt_ hg (hp_ BK377.out)))
                     replace BK377 := Aside0.mk (blk_below (hp_ BK377.out) hb)
                     have NB383_388 := Aside0.mk ((nlt_ hg (hp_ BK383.out)))
                     have NB388_383 := Aside0.mk ((ngt_ hg (hp_ BK383.out)))
                     replace BK383 := Aside0.mk (blk_below (hp_ BK383.out) hb)
                     clear hb hbox hg
                     refine hK.out _ _ ⟨(blk_cell BK371.out 0).trans rfl, (blk_cell BK371.out 1).trans rfl, (blk_cell BK371.out 2).trans rfl, (blk_cell BK371.out 3).trans rfl⟩ (fun hHeld => ?_)
                     clear hK K
                     refine norm_ (a' := ?_) ?_ ?_
                     rotate_left
                     · show Act.put _ (some 9) _ = _
                       simp only [Act.put, List.setIfInBounds_toArray, List.set_cons_zero, List.set_cons_succ, i64_w, i32_w]
                       rfl
                     exact norm_ (by first | (simp only [putAll, Act.put, List.setIfInBounds_toArray, List.set_cons_zero, List.set_cons_succ]; done) | (simp only [putAll, Act.put, List.setIfInBounds_toArray, List.set_cons_zero, List.set_cons_succ]; rfl)) (hJ17 (gb388) _ ⟨hHeld, (by (with_reducible repeat (first | apply Kd.V_alloc | apply Kd.V_drewN | apply Kd.V_drew)); exact Kd.V_mono HO376.out (fun _ hk => ⟨hk.1.1, ⟨hk.1.2.1, ⟨hk.1.2.2.1, ⟨hk.1.2.2.2, hk.2⟩⟩⟩⟩)), (by (with_reducible repeat (first | apply Kd.V_alloc | apply Kd.V_drewN | apply Kd.V_drew)); exact Kd.V_mono HO382.out (fun _ hk => ⟨hk.1.1, ⟨hk.1.2.1, ⟨hk.1.2.2.1, ⟨hk.1.2.2.2, hk.2⟩⟩⟩⟩)), (hp_ BK371.out), (hp_ BK377.out), (hp_ BK383.out), (hp_ BK388.out), GW388.out, GE388.out, NB371_388.out, NB388_371.out, NB377_388.out, NB388_377.out, NB383_388.out, NB388_383.out, bp_⟩)
                 · skip
                   rintro gb388 w33 ⟨hS_, h0_, h1_, h2_, h3_, h4_, h5_, h6_, h7_, h8_, h9_, h10_, h11_, h12_, h13_, h14_⟩
                   replace HO376 : Aside0 (Kd.V (Kd.int .u64) 46 w33 w.heap.size (fun k_ => k_ ≠ gb370 ∧ k_ ≠ gb371 ∧ k_ ≠ gb377 ∧ k_ ≠ gb383 ∧ k_ ≠ gb388) (.slice Ao21 t374.length co21) t374) := ⟨h0_⟩
                   replace HO382 : Aside0 (Kd.V (Kd.int .u64) 46 w33 w.heap.size (fun k_ => k_ ≠ gb370 ∧ k_ ≠ gb371 ∧ k_ ≠ gb377 ∧ k_ ≠ gb383 ∧ k_ ≠ gb388) (.slice Ao29 t380.length co29) t380) := ⟨h1_⟩
                   replace BK371 : Aside0 (w33.heap[gb371]? = some (.cells #[.int .i64 a2_0, .int .i64 a2_1, .int .i64 a2_2, .int .i64 a2_3] 25 (0, 0))) := ⟨h2_⟩
                   replace BK377 : Aside0 (w33.heap[gb377]? = some (.cells #[.int .i64 t372, .int .i64 t373, .slice Ao21 t374.length co21] 24 (0, 0))) := ⟨h3_⟩
                   replace BK383 : Aside0 (w33.heap[gb383]? = some (.cells #[.int .i64 t378, .int .i64 t379, .slice Ao29 t380.length co29] 24 (0, 0))) := ⟨h4_⟩
                   have BK388 : Aside0 (w33.heap[gb388]? = some (.cells #[.int .i64 0, .int .i64 0, .int .i64 0, .int .i64 0] 25 (0, 0))) := ⟨h5_⟩
                   have GW388 : Aside0 (w.heap.size ≤ gb388) := ⟨h6_⟩
                   have GE388 : Aside0 (w.heap.size ≤ gb388) := ⟨h7_⟩
                   have NB371_388 : Aside0 (gb371 ≠ gb388) := ⟨h8_⟩
                   have NB388_371 : Aside0 (gb388 ≠ gb371) := ⟨h9_⟩
                   have NB377_388 : Aside0 (gb377 ≠ gb388) := ⟨h10_⟩
                   have NB388_377 : Aside0 (gb388 ≠ gb377) := ⟨h11_⟩
                   have NB383_388 : Aside0 (gb383 ≠ gb388) := ⟨h12_⟩
                   have NB388_383 : Aside0 (gb388 ≠ gb383) := ⟨h13_⟩
                   replace HB : Aside0 (Below w.heap.size w w33) := ⟨h14_⟩
                   clear h0_ h1_ h2_ h3_ h4_ h5_ h6_ h7_ h8_ h9_ h10_ h11_ h12_ h13_ h14_
                   have hHeld : w33.cell? ⟨gb371, 0, none⟩ = some (.int .i64 a2_0) ∧ w33.cell? ⟨gb371, 1, none⟩ = some (.int .i64 a2_1) ∧ w33.cell? ⟨gb371, 2, none⟩ = some (.int .i64 a2_2) ∧ w33.cell? ⟨gb371, 3, none⟩ = some (.int .i64 a2_3) := hS_
                   refine norm_ (a' := ?_) ?_ ?_
                   rotate_left
                   · simp only [putAll, Act.put, List.setIfInBounds_toArray, List.set_cons_zero, List.set_cons_succ]
                     rfl
                   refine one_ (i := 2) (N := some 27) #[true, true, true, false, true, true, false, false, true, true, false, false, true, true, false, false, false, true, false] rfl rfl (one_of HT_.out (by kernel_rfl)) (by decide) (fun K hK => ?_)
                   refine goes_ Try.func11 (by kernel_rfl) rfl #[.int .i64 a2_0, .int .i64 9] (by rfl) rfl rfl (by (try simp only [List.map_toArray, List.map_cons, List.map_nil]); first | done | rfl | (simp only [List.length_drop, List.length_take]; rfl)) ?_
                   with_reducible refine (chequerref01_Around.calls a2_0 9 t384 _ A6.out).mono ?_
                   rintro e w' ⟨rfl, ⟨nd, rfl⟩⟩
                   refine ⟨_, rfl, ?_⟩
                   refine hK.out _ _ ⟨(blk_cell BK371.out 0).trans rfl, (blk_cell BK371.out 1).trans rfl, (blk_cell BK371.out 2).trans rfl, (blk_cell BK371.out 3).trans rfl⟩ (fun hHeld => ?_)
                   clear hK K
                   refine norm_ (a' := ?_) ?_ ?_
                   rotate_left
                   · show Act.put _ (some 27) _ = _
                     simp only [Act.put, List.setIfInBounds_toArray, List.set_cons_zero, List.set_cons_succ, i64_w, i32_w]
                     rfl
                   refine pur_ (i := 3) (N := some 28) Fl141 (any_of HT_.out (by kernel_rfl)) ?_
                   exact norm_ (by first | (simp only [putAll, Act.put, List.setIfInBounds_toArray, List.set_cons_zero, List.set_cons_succ]; done) | (simp only [putAll, Act.put, List.setIfInBounds_toArray, List.set_cons_zero, List.set_cons_succ]; rfl)) (hJ2_17 (gb388) _ ⟨hHeld, (vp_ HO376.out), (vp_ HO382.out), (hp_ BK371.out), (hp_ BK377.out), (hp_ BK383.out), (hp_ BK388.out), GW388.out, GE388.out, NB371_388.out, NB388_371.out, NB377_388.out, NB388_377.out, NB383_388.out, NB388_383.out, bp_⟩)
               · skip
                 rintro _ w32 ⟨hS_, h0_, h1_, h2_, h3_, h4_, h5_⟩
                 replace HO376 : Aside0 (Kd.V (Kd.int .u64) 46 w32 w.heap.size (fun k_ => k_ ≠ gb370 ∧ k_ ≠ gb371 ∧ k_ ≠ gb377 ∧ k_ ≠ gb383) (.slice Ao21 t374.length co21) t374) := ⟨h0_⟩
                 replace HO382 : Aside0 (Kd.V (Kd.int .u64) 46 w32 w.heap.size (fun k_ => k_ ≠ gb370 ∧ k_ ≠ gb371 ∧ k_ ≠ gb377 ∧ k_ ≠ gb383) (.slice Ao29 t380.length co29) t380) := ⟨h1_⟩
                 replace BK371 : Aside0 (w32.heap[gb371]? = some (.cells #[.int .i64 a2_0, .int .i64 a2_1, .int .i64 a2_2, .int .i64 a2_3] 25 (0, 0))) := ⟨h2_⟩
                 replace BK377 : Aside0 (w32.heap[gb377]? = some (.cells #[.int .i64 t372, .int .i64 t373, .slice Ao21 t374.length co21] 24 (0, 0))) := ⟨h3_⟩
                 replace BK383 : Aside0 (w32.heap[gb383]? = some (.cells #[.int .i64 t378, .int .i64 t379, .slice Ao29 t380.length co29] 24 (0, 0))) := ⟨h4_⟩
                 replace HB : Aside0 (Below w.heap.size w w32) := ⟨h5_⟩
                 clear h0_ h1_ h2_ h3_ h4_ h5_
                 have hHeld : w32.cell? ⟨gb371, 0, none⟩ = some (.int .i64 a2_0) ∧ w32.cell? ⟨gb371, 1, none⟩ = some (.int .i64 a2_1) ∧ w32.cell? ⟨gb371, 2, none⟩ = some (.int .i64 a2_2) ∧ w32.cell? ⟨gb371, 3, none⟩ = some (.int .i64 a2_3) := hS_
                 refine norm_ (a' := ?_) ?_ ?_
                 rotate_left
                 · simp only [putAll, Act.put, List.setIfInBounds_toArray, List.set_cons_zero, List.set_cons_succ]
                   rfl
                 refine two_ (i := 6) (j := 17) (Ni := some 31) (Nj := some 9) #[true, true, true, true, true, true, true, false, true, true, false, false, true, true, false, false, false, false, false] Fl141 rfl rfl rfl rfl (two_of HT_.out (by kernel_rfl)) (by decide) (by decide) (fun K hK => ?_) (fun K hK => ?_)
                 · skip
                   refine goes_ Try.func11 (by kernel_rfl) rfl #[.int .i64 a2_1, .int .i64 9] (by rfl) rfl rfl (by (try simp only [List.map_toArray, List.map_cons, List.map_nil]); first | done | rfl | (simp only [List.length_drop, List.length_take]; rfl)) ?_
                   with_reducible refine (chequerref01_Around.calls a2_1 9 t385 _ A7.out).mono ?_
                   rintro e w' ⟨rfl, ⟨nd, rfl⟩⟩
                   refine ⟨_, rfl, ?_⟩
                   refine hK.out _ _ ⟨(blk_cell BK371.out 0).trans rfl, (blk_cell BK371.out 1).trans rfl, (blk_cell BK371.out 2).trans rfl, (blk_cell BK371.out 3).trans rfl⟩ (fun hHeld => ?_)
                   clear hK K
                   refine norm_ (a' := ?_) ?_ ?_
                   rotate_left
                   · show Act.put _ (some 31) _ = _
                     simp only [Act.put, List.setIfInBounds_toArray, List.set_cons_zero, List.set_cons_succ, i64_w, i32_w]
                     rfl
                   refine pur_ (i := 7) (N := some 32) Fl160 (any_of HT_.out (by kernel_rfl)) ?_
                   exact norm_ (by first | (simp only [putAll, Act.put, List.setIfInBounds_toArray, List.set_cons_zero, List.set_cons_succ]; done) | (simp only [putAll, Act.put, List.setIfInBounds_toArray, List.set_cons_zero, List.set_cons_succ]; rfl)) (hJ2_6 () _ ⟨hHeld, (vp_ HO376.out), (vp_ HO382.out), (hp_ BK371.out), (hp_ BK377.out), (hp_ BK383.out), bp_⟩)
                 · skip
                   refine box_step ?hg (N := 9) ?hd (cs := #[.int .i64 0, .int .i64 0, .int .i64 0, .int .i64 0]) (t := 25) ?hr ?_; (case hd => rfl); (case hg => rfl); (case hr => first | (go_simp; done) | (go_simp; rfl))
                   intro gb388 hg w33 hbox hb
                   replace HO376 := Aside0.mk (Kd.V_below (Kd.V_elderB (vp_ HO376.out) gb388 (Nat.le_of_eq hg.symm)) hb)
                   replace HO382 := Aside0.mk (Kd.V_below (Kd.V_elderB (vp_ HO382.out) gb388 (Nat.le_of_eq hg.symm)) hb)
                   have BK388 := Aside0.mk (hbox)
                   have GW388 := Aside0.mk ((by rw [hg]; exact (below_size bp_) : w.heap.size ≤ gb388))
                   have GE388 := Aside0.mk ((by rw [hg]; exact (below_size bp_) : w.heap.size ≤ gb388))
                   replace HB := Aside0.mk (below_step bp_ hb)
                   have NB371_388 := Aside0.mk ((nlt_ hg (hp_ BK371.out)))
                   have NB388_371 := Aside0.mk ((ngt_ hg (hp_ BK371.out)))
                   replace BK371 := Aside0.mk (blk_below (hp_ BK371.out) hb)
                   have NB377_388 := Aside0.mk ((nlt_ hg (hp_ BK377.out)))
                   have NB388_377 := Aside0.mk ((ngt_ hg (hp_ BK377.out)))
                   replace BK377 := Aside0.mk (blk_below (hp_ BK377.out) hb)
                   have NB383_388 := Aside0.mk ((nlt_ hg (hp_ BK383.out)))
                   have NB388_383 := Aside0.mk ((ngt_ hg (hp_ BK383.out)))
                   replace BK383 := Aside0.mk (blk_below (hp_ BK383.out) hb)
                   clear hb hbox hg
                   refine hK.out _ _ ⟨(blk_cell BK371.out 0).trans rfl, (blk_cell BK371.out 1).trans rfl, (blk_cell BK371.out 2).trans rfl, (blk_cell BK371.out 3).trans rfl⟩ (fun hHeld => ?_)
                   clear hK K
                   refine norm_ (a' := ?_) ?_ ?_
                   rotate_left
                   · show Act.put _ (some 9) _ = _
                     simp only [Act.put, List.setIfInBounds_toArray, List.set_cons_zero, List.set_cons_succ, i64_w, i32_w]
                     rfl
                   exact norm_ (by first | (simp only [putAll, Act.put, List.setIfInBounds_toArray, List.set_cons_zero, List.set_cons_succ]; done) | (simp only [putAll, Act.put, List.setIfInBounds_toArray, List.set_cons_zero, List.set_cons_succ]; rfl)) (hJ2_17 (gb388) _ ⟨hHeld, (by (with_reducible repeat (first | apply Kd.V_alloc | apply Kd.V_drewN | apply Kd.V_drew)); exact Kd.V_mono HO376.out (fun _ hk => ⟨hk.1.1, ⟨hk.1.2.1, ⟨hk.1.2.2.1, ⟨hk.1.2.2.2, hk.2⟩⟩⟩⟩)), (by (with_reducible repeat (first | apply Kd.V_alloc | apply Kd.V_drewN | apply Kd.V_drew)); exact Kd.V_mono HO382.out (fun _ hk => ⟨hk.1.1, ⟨hk.1.2.1, ⟨hk.1.2.2.1, ⟨hk.1.2.2.2, hk.2⟩⟩⟩⟩)), (hp_ BK371.out), (hp_ BK377.out), (hp_ BK383.out), (hp_ BK388.out), GW388.out, GE388.out, NB371_388.out, NB388_371.out, NB377_388.out, NB388_377.out, NB383_388.out, NB388_383.out, bp_⟩)
             · skip
               rintro gb388 w33 ⟨hS_, h0_, h1_, h2_, h3_, h4_, h5_, h6_, h7_, h8_, h9_, h10_, h11_, h12_, h13_, h14_⟩
               replace HO376 : Aside0 (Kd.V (Kd.int .u64) 46 w33 w.heap.size (fun k_ => k_ ≠ gb370 ∧ k_ ≠ gb371 ∧ k_ ≠ gb377 ∧ k_ ≠ gb383 ∧ k_ ≠ gb388) (.slice Ao21 t374.length co21) t374) := ⟨h0_⟩
               replace HO382 : Aside0 (Kd.V (Kd.int .u64) 46 w33 w.heap.size (fun k_ => k_ ≠ gb370 ∧ k_ ≠ gb371 ∧ k_ ≠ gb377 ∧ k_ ≠ gb383 ∧ k_ ≠ gb388) (.slice Ao29 t380.length co29) t380) := ⟨h1_⟩
               replace BK371 : Aside0 (w33.heap[gb371]? = some (.cells #[.int .i64 a2_0, .int .i64 a2_1, .int .i64 a2_2, .int .i64 a2_3] 25 (0, 0))) := ⟨h2_⟩
               replace BK377 : Aside0 (w33.heap[gb377]? = some (.cells #[.int .i64 t372, .int .i64 t373, .slice Ao21 t374.length co21] 24 (0, 0))) := ⟨h3_⟩
               replace BK383 : Aside0 (w33.heap[gb383]? = some (.cells #[.int .i64 t378, .int .i64 t379, .slice Ao29 t380.length co29] 24 (0, 0))) := ⟨h4_⟩
               have BK388 : Aside0 (w33.heap[gb388]? = some (.cells #[.int .i64 0, .int .i64 0, .int .i64 0, .int .i64 0] 25 (0, 0))) := ⟨h5_⟩
               have GW388 : Aside0 (w.heap.size ≤ gb388) := ⟨h6_⟩
               have GE388 : Aside0 (w.heap.size ≤ gb388) := ⟨h7_⟩
               have NB371_388 : Aside0 (gb371 ≠ gb388) := ⟨h8_⟩
               have NB388_371 : Aside0 (gb388 ≠ gb371) := ⟨h9_⟩
               have NB377_388 : Aside0 (gb377 ≠ gb388) := ⟨h10_⟩
               have NB388_377 : Aside0 (gb388 ≠ gb377) := ⟨h11_⟩
               have NB383_388 : Aside0 (gb383 ≠ gb388) := ⟨h12_⟩
               have NB388_383 : Aside0 (gb388 ≠ gb383) := ⟨h13_⟩
               replace HB : Aside0 (Below w.heap.size w w33) := ⟨h14_⟩
               clear h0_ h1_ h2_ h3_ h4_ h5_ h6_ h7_ h8_ h9_ h10_ h11_ h12_ h13_ h14_
               have hHeld : w33.cell? ⟨gb371, 0, none⟩ = some (.int .i64 a2_0) ∧ w33.cell? ⟨gb371, 1, none⟩ = some (.int .i64 a2_1) ∧ w33.cell? ⟨gb371, 2, none⟩ = some (.int .i64 a2_2) ∧ w33.cell? ⟨gb371, 3, none⟩ = some (.int .i64 a2_3) := hS_
               refine norm_ (a' := ?_) ?_ ?_
               rotate_left
               · simp only [putAll, Act.put, List.setIfInBounds_toArray, List.set_cons_zero, List.set_cons_succ]
                 rfl
               refine one_ (i := 6) (N := some 31) #[true, true, true, true, true, true, true, false, true, true, false, false, true, true, false, false, false, true, false] rfl rfl (one_of HT_.out (by kernel_rfl)) (by decide) (fun K hK => ?_)
               refine goes_ Try.func11 (by kernel_rfl) rfl #[.int .i64 a2_1, .int .i64 9] (by rfl) rfl rfl (by (try simp only [List.map_toArray, List.map_cons, List.map_nil]); first | done | rfl | (simp only [List.length_drop, List.length_take]; rfl)) ?_
               with_reducible refine (chequerref01_Around.calls a2_1 9 t385 _ A7.out).mono ?_
               rintro e w' ⟨rfl, ⟨nd, rfl⟩⟩
               refine ⟨_, rfl, ?_⟩
               refine hK.out _ _ ⟨(blk_cell BK371.out 0).trans rfl, (blk_cell BK371.out 1).trans rfl, (blk_cell BK371.out 2).trans rfl, (blk_cell BK371.out 3).trans rfl⟩ (fun hHeld => ?_)
               clear hK K
               refine norm_ (a' := ?_) ?_ ?_
               rotate_left
               · show Act.put _ (some 31) _ = _
                 simp only [Act.put, List.setIfInBounds_toArray, List.set_cons_zero, List.set_cons_succ, i64_w, i32_w]
                 rfl
               refine pur_ (i := 7) (N := some 32) Fl143 (any_of HT_.out (by kernel_rfl)) ?_
               exact norm_ (by first | (simp only [putAll, Act.put, List.setIfInBounds_toArray, List.set_cons_zero, List.set_cons_succ]; done) | (simp only [putAll, Act.put, List.setIfInBounds_toArray, List.set_cons_zero, List.set_cons_succ]; rfl)) (hJ2_6_17 (gb388) _ ⟨hHeld, (vp_ HO376.out), (vp_ HO382.out), (hp_ BK371.out), (hp_ BK377.out), (hp_ BK383.out), (hp_ BK388.out), GW388.out, GE388.out, NB371_388.out, NB388_371.out, NB377_388.out, NB388_377.out, NB383_388.out, NB388_383.out, bp_⟩)
           · skip
             rintro _ w32 ⟨hS_, h0_, h1_, h2_, h3_, h4_, h5_⟩
             replace HO376 : Aside0 (Kd.V (Kd.int .u64) 46 w32 w.heap.size (fun k_ => k_ ≠ gb370 ∧ k_ ≠ gb371 ∧ k_ ≠ gb377 ∧ k_ ≠ gb383) (.slice Ao21 t374.length co21) t374) := ⟨h0_⟩
             replace HO382 : Aside0 (Kd.V (Kd.int .u64) 46 w32 w.heap.size (fun k_ => k_ ≠ gb370 ∧ k_ ≠ gb371 ∧ k_ ≠ gb377 ∧ k_ ≠ gb383) (.slice Ao29 t380.length co29) t380) := ⟨h1_⟩
             replace BK371 : Aside0 (w32.heap[gb371]? = some (.cells #[.int .i64 a2_0, .int .i64 a2_1, .int .i64 a2_2, .int .i64 a2_3] 25 (0, 0))) := ⟨h2_⟩
             replace BK377 : Aside0 (w32.heap[gb377]? = some (.cells #[.int .i64 t372, .int .i64 t373, .slice Ao21 t374.length co21] 24 (0, 0))) := ⟨h3_⟩
             replace BK383 : Aside0 (w32.heap[gb383]? = some (.cells #[.int .i64 t378, .int .i64 t379, .slice Ao29 t380.length co29] 24 (0, 0))) := ⟨h4_⟩
             replace HB : Aside0 (Below w.heap.size w w32) := ⟨h5_⟩
             clear h0_ h1_ h2_ h3_ h4_ h5_
             have hHeld : w32.cell? ⟨gb371, 0, none⟩ = some (.int .i64 a2_0) ∧ w32.cell? ⟨gb371, 1, none⟩ = some (.int .i64 a2_1) ∧ w32.cell? ⟨gb371, 2, none⟩ = some (.int .i64 a2_2) ∧ w32.cell? ⟨gb371, 3, none⟩ = some (.int .i64 a2_3) := hS_
             refine norm_ (a' := ?_) ?_ ?_
             rotate_left
             · simp only [putAll, Act.put, List.setIfInBounds_toArray, List.set_cons_zero, List.set_cons_succ]
               rfl
             refine two_ (i := 10) (j := 17) (Ni := some 35) (Nj := some 9) #[true, true, true, true, true, true, true, true, true, true, true, false, true, true, false, false, false, false, false] Fl143 rfl rfl rfl rfl (two_of HT_.out (by kernel_rfl)) (by decide) (by decide) (fun K hK => ?_) (fun K hK => ?_)
             · skip
               refine goes_ Try.func11 (by kernel_rfl) rfl #[.int .i64 a2_2, .int .i64 9] (by rfl) rfl rfl (by (try simp only [List.map_toArray, List.map_cons, List.map_nil]); first | done | rfl | (simp only [List.length_drop, List.length_take]; rfl)) ?_
               with_reducible refine (chequerref01_Around.calls a2_2 9 t386 _ A8.out).mono ?_
               rintro e w' ⟨rfl, ⟨nd, rfl⟩⟩
               refine ⟨_, rfl, ?_⟩
               refine hK.out _ _ ⟨(blk_cell BK371.out 0).trans rfl, (blk_cell BK371.out 1).trans rfl, (blk_cell BK371.out 2).trans rfl, (blk_cell BK371.out 3).trans rfl⟩ (fun hHeld => ?_)
               clear hK K
               refine norm_ (a' := ?_) ?_ ?_
               rotate_left
               · show Act.put _ (some 35) _ = _
                 simp only [Act.put, List.setIfInBounds_toArray, List.set_cons_zero, List.set_cons_succ, i64_w, i32_w]
                 rfl
               refine pur_ (i := 11) (N := some 36) Fl164 (any_of HT_.out (by kernel_rfl)) ?_
               exact norm_ (by first | (simp only [putAll, Act.put, List.setIfInBounds_toArray, List.set_cons_zero, List.set_cons_succ]; done) | (simp only [putAll, Act.put, List.setIfInBounds_toArray, List.set_cons_zero, List.set_cons_succ]; rfl)) (hJ2_6_10 () _ ⟨hHeld, (vp_ HO376.out), (vp_ HO382.out), (hp_ BK371.out), (hp_ BK377.out), (hp_ BK383.out), bp_⟩)
             · skip
               refine box_step ?hg (N := 9) ?hd (cs := #[.int .i64 0, .int .i64 0, .int .i64 0, .int .i64 0]) (t := 25) ?hr ?_; (case hd => rfl); (case hg => rfl); (case hr => first | (go_simp; done) | (go_simp; rfl))
               intro gb388 hg w33 hbox hb
               replace HO376 := Aside0.mk (Kd.V_below (Kd.V_elderB (vp_ HO376.out) gb388 (Nat.le_of_eq hg.symm)) hb)
               replace HO382 := Aside0.mk (Kd.V_below (Kd.V_elderB (vp_ HO382.out) gb388 (Nat.le_of_eq hg.symm)) hb)
               have BK388 := Aside0.mk (hbox)
               have GW388 := Aside0.mk ((by rw [hg]; exact (below_size bp_) : w.heap.size ≤ gb388))
               have GE388 := Aside0.mk ((by rw [hg]; exact (below_size bp_) : w.heap.size ≤ gb388))
               replace HB := Aside0.mk (below_step bp_ hb)
               have NB371_388 := Aside0.mk ((nlt_ hg (hp_ BK371.out)))
               have NB388_371 := Aside0.mk ((ngt_ hg (hp_ BK371.out)))
               replace BK371 := Aside0.mk (blk_below (hp_ BK371.out) hb)
               have NB377_388 := Aside0.mk ((nlt_ hg (hp_ BK377.out)))
               have NB388_377 := Aside0.mk ((ngt_ hg (hp_ BK377.out)))
               replace BK377 := Aside0.mk (blk_below (hp_ BK377.out) hb)
               have NB383_388 := Aside0.mk ((nlt_ hg (hp_ BK383.out)))
               have NB388_383 := Aside0.mk ((ngt_ hg (hp_ BK383.out)))
               replace BK383 := Aside0.mk (blk_below (hp_ BK383.out) hb)
               clear hb hbox hg
               refine hK.out _ _ ⟨(blk_cell BK371.out 0).trans rfl, (blk_cell BK371.out 1).trans rfl, (blk_cell BK371.out 2).trans rfl, (blk_cell BK371.out 3).trans rfl⟩ (fun hHeld => ?_)
               clear hK K
               refine norm_ (a' := ?_) ?_ ?_
               rotate_left
               · show Act.put _ (some 9) _ = _
                 simp only [Act.put, List.setIfInBounds_toArray, List.set_cons_zero, List.set_cons_succ, i64_w, i32_w]
                 rfl
               exact norm_ (by first | (simp only [putAll, Act.put, List.setIfInBounds_toArray, List.set_cons_zero, List.set_cons_succ]; done) | (simp only [putAll, Act.put, List.setIfInBounds_toArray, List.set_cons_zero, List.set_cons_succ]; rfl)) (hJ2_6_17 (gb388) _ ⟨hHeld, (by (with_reducible repeat (first | apply Kd.V_alloc | apply Kd.V_drewN | apply Kd.V_drew)); exact Kd.V_mono HO376.out (fun _ hk => ⟨hk.1.1, ⟨hk.1.2.1, ⟨hk.1.2.2.1, ⟨hk.1.2.2.2, hk.2⟩⟩⟩⟩)), (by (with_reducible repeat (first | apply Kd.V_alloc | apply Kd.V_drewN | apply Kd.V_drew)); exact Kd.V_mono HO382.out (fun _ hk => ⟨hk.1.1, ⟨hk.1.2.1, ⟨hk.1.2.2.1, ⟨hk.1.2.2.2, hk.2⟩⟩⟩⟩)), (hp_ BK371.out), (hp_ BK377.out), (hp_ BK383.out), (hp_ BK388.out), GW388.out, GE388.out, NB371_388.out, NB388_371.out, NB377_388.out, NB388_377.out, NB383_388.out, NB388_383.out, bp_⟩)
         · skip
           rintro gb388 w33 ⟨hS_, h0_, h1_, h2_, h3_, h4_, h5_, h6_, h7_, h8_, h9_, h10_, h11_, h12_, h13_, h14_⟩
           replace HO376 : Aside0 (Kd.V (Kd.int .u64) 46 w33 w.heap.size (fun k_ => k_ ≠ gb370 ∧ k_ ≠ gb371 ∧ k_ ≠ gb377 ∧ k_ ≠ gb383 ∧ k_ ≠ gb388) (.slice Ao21 t374.length co21) t374) := ⟨h0_⟩
           replace HO382 : Aside0 (Kd.V (Kd.int .u64) 46 w33 w.heap.size (fun k_ => k_ ≠ gb370 ∧ k_ ≠ gb371 ∧ k_ ≠ gb377 ∧ k_ ≠ gb383 ∧ k_ ≠ gb388) (.slice Ao29 t380.length co29) t380) := ⟨h1_⟩
           replace BK371 : Aside0 (w33.heap[gb371]? = some (.cells #[.int .i64 a2_0, .int .i64 a2_1, .int .i64 a2_2, .int .i64 a2_3] 25 (0, 0))) := ⟨h2_⟩
           replace BK377 : Aside0 (w33.heap[gb377]? = some (.cells #[.int .i64 t372, .int .i64 t373, .slice Ao21 t374.length co21] 24 (0, 0))) := ⟨h3_⟩
           replace BK383 : Aside0 (w33.heap[gb383]? = some (.cells #[.int .i64 t378, .int .i64 t379, .slice Ao29 t380.length co29] 24 (0, 0))) := ⟨h4_⟩
           have BK388 : Aside0 (w33.heap[gb388]? = some (.cells #[.int .i64 0, .int .i64 0, .int .i64 0, .int .i64 0] 25 (0, 0))) := ⟨h5_⟩
           have GW388 : Aside0 (w.heap.size ≤ gb388) := ⟨h6_⟩
           have GE388 : Aside0 (w.heap.size ≤ gb388) := ⟨h7_⟩
           have NB371_388 : Aside0 (gb371 ≠ gb388) := ⟨h8_⟩
           have NB388_371 : Aside0 (gb388 ≠ gb371) := ⟨h9_⟩
           have NB377_388 : Aside0 (gb377 ≠ gb388) := ⟨h10_⟩
           have NB388_377 : Aside0 (gb388 ≠ gb377) := ⟨h11_⟩
           have NB383_388 : Aside0 (gb383 ≠ gb388) := ⟨h12_⟩
           have NB388_383 : Aside0 (gb388 ≠ gb383) := ⟨h13_⟩
           replace HB : Aside0 (Below w.heap.size w w33) := ⟨h14_⟩
           clear h0_ h1_ h2_ h3_ h4_ h5_ h6_ h7_ h8_ h9_ h10_ h11_ h12_ h13_ h14_
           have hHeld : w33.cell? ⟨gb371, 0, none⟩ = some (.int .i64 a2_0) ∧ w33.cell? ⟨gb371, 1, none⟩ = some (.int .i64 a2_1) ∧ w33.cell? ⟨gb371, 2, none⟩ = some (.int .i64 a2_2) ∧ w33.cell? ⟨gb371, 3, none⟩ = some (.int .i64 a2_3) := hS_
           refine norm_ (a' := ?_) ?_ ?_
           rotate_left
           · simp only [putAll, Act.put, List.setIfInBounds_toArray, List.set_cons_zero, List.set_cons_succ]
             rfl
           refine one_ (i := 10) (N := some 35) #[true, true, true, true, true, true, true, true, true, true, true, false, true, true, false, false, false, true, false] rfl rfl (one_of HT_.out (by kernel_rfl)) (by decide) (fun K hK => ?_)
           refine goes_ Try.func11 (by kernel_rfl) rfl #[.int .i64 a2_2, .int .i64 9] (by rfl) rfl rfl (by (try simp only [List.map_toArray, List.map_cons, List.map_nil]); first | done | rfl | (simp only [List.length_drop, List.length_take]; rfl)) ?_
           with_reducible refine (chequerref01_Around.calls a2_2 9 t386 _ A8.out).mono ?_
           rintro e w' ⟨rfl, ⟨nd, rfl⟩⟩
           refine ⟨_, rfl, ?_⟩
           refine hK.out _ _ ⟨(blk_cell BK371.out 0).trans rfl, (blk_cell BK371.out 1).trans rfl, (blk_cell BK371.out 2).trans rfl, (blk_cell BK371.out 3).trans rfl⟩ (fun hHeld => ?_)
           clear hK K
           refine norm_ (a' := ?_) ?_ ?_
           rotate_left
           · show Act.put _ (some 35) _ = _
             simp only [Act.put, List.setIfInBounds_toArray, List.set_cons_zero, List.set_cons_succ, i64_w, i32_w]
             rfl
           refine pur_ (i := 11) (N := some 36) Fl146 (any_of HT_.out (by kernel_rfl)) ?_
           exact norm_ (by first | (simp only [putAll, Act.put, List.setIfInBounds_toArray, List.set_cons_zero, List.set_cons_succ]; done) | (simp only [putAll, Act.put, List.setIfInBounds_toArray, List.set_cons_zero, List.set_cons_succ]; rfl)) (hJ2_6_10_17 (gb388) _ ⟨hHeld, (vp_ HO376.out), (vp_ HO382.out), (hp_ BK371.out), (hp_ BK377.out), (hp_ BK383.out), (hp_ BK388.out), GW388.out, GE388.out, NB371_388.out, NB388_371.out, NB377_388.out, NB388_377.out, NB383_388.out, NB388_383.out, bp_⟩)
       · skip
         rintro _ w32 ⟨hS_, h0_, h1_, h2_, h3_, h4_, h5_⟩
         replace HO376 : Aside0 (Kd.V (Kd.int .u64) 46 w32 w.heap.size (fun k_ => k_ ≠ gb370 ∧ k_ ≠ gb371 ∧ k_ ≠ gb377 ∧ k_ ≠ gb383) (.slice Ao21 t374.length co21) t374) := ⟨h0_⟩
         replace HO382 : Aside0 (Kd.V (Kd.int .u64) 46 w32 w.heap.size (fun k_ => k_ ≠ gb370 ∧ k_ ≠ gb371 ∧ k_ ≠ gb377 ∧ k_ ≠ gb383) (.slice Ao29 t380.length co29) t380) := ⟨h1_⟩
         replace BK371 : Aside0 (w32.heap[gb371]? = some (.cells #[.int .i64 a2_0, .int .i64 a2_1, .int .i64 a2_2, .int .i64 a2_3] 25 (0, 0))) := ⟨h2_⟩
         replace BK377 : Aside0 (w32.heap[gb377]? = some (.cells #[.int .i64 t372, .int .i64 t373, .slice Ao21 t374.length co21] 24 (0, 0))) := ⟨h3_⟩
         replace BK383 : Aside0 (w32.heap[gb383]? = some (.cells #[.int .i64 t378, .int .i64 t379, .slice Ao29 t380.length co29] 24 (0, 0))) := ⟨h4_⟩
         replace HB : Aside0 (Below w.heap.size w w32) := ⟨h5_⟩
         clear h0_ h1_ h2_ h3_ h4_ h5_
         have hHeld : w32.cell? ⟨gb371, 0, none⟩ = some (.int .i64 a2_0) ∧ w32.cell? ⟨gb371, 1, none⟩ = some (.int .i64 a2_1) ∧ w32.cell? ⟨gb371, 2, none⟩ = some (.int .i64 a2_2) ∧ w32.cell? ⟨gb371, 3, none⟩ = some (.int .i64 a2_3) := hS_
         refine norm_ (a' := ?_) ?_ ?_
         rotate_left
         · simp only [putAll, Act.put, List.setIfInBounds_toArray, List.set_cons_zero, List.set_cons_succ]
           rfl
         refine two_ (i := 14) (j := 17) (Ni := some 39) (Nj := some 9) #[true, true, true, true, true, true, true, true, true, true, true, true, true, true, true, false, false, false, false] Fl146 rfl rfl rfl rfl (two_of HT_.out (by kernel_rfl)) (by decide) (by decide) (fun K hK => ?_) (fun K hK => ?_)
         · skip
           refine goes_ Try.func11 (by kernel_rfl) rfl #[.int .i64 a2_3, .int .i64 9] (by rfl) rfl rfl (by (try simp only [List.map_toArray, List.map_cons, List.map_nil]); first | done | rfl | (simp only [List.length_drop, List.length_take]; rfl)) ?_
           with_reducible refine (chequerref01_Around.calls a2_3 9 t387 _ A9.out).mono ?_
           rintro e w' ⟨rfl, ⟨nd, rfl⟩⟩
           refine ⟨_, rfl, ?_⟩
           refine hK.out _ _ ⟨(blk_cell BK371.out 0).trans rfl, (blk_cell BK371.out 1).trans rfl, (blk_cell BK371.out 2).trans rfl, (blk_cell BK371.out 3).trans rfl⟩ (fun hHeld => ?_)
           clear hK K
           refine norm_ (a' := ?_) ?_ ?_
           rotate_left
           · show Act.put _ (some 39) _ = _
             simp only [Act.put, List.setIfInBounds_toArray, List.set_cons_zero, List.set_cons_succ, i64_w, i32_w]
             rfl
           refine pur_ (i := 15) (N := some 40) #[true, true, true, true, true, true, true, true, true, true, true, true, true, true, true, true, false, false, false] (any_of HT_.out (by kernel_rfl)) ?_
           refine pur_ (i := 16) (N := some 41) Fl166 (any_of HT_.out (by kernel_rfl)) ?_
           exact norm_ (by first | (simp only [putAll, Act.put, List.setIfInBounds_toArray, List.set_cons_zero, List.set_cons_succ]; done) | (simp only [putAll, Act.put, List.setIfInBounds_toArray, List.set_cons_zero, List.set_cons_succ]; rfl)) (hJ2_6_10_14 () _ ⟨hHeld, (vp_ HO376.out), (vp_ HO382.out), (hp_ BK371.out), (hp_ BK377.out), (hp_ BK383.out), bp_⟩)
         · skip
           refine box_step ?hg (N := 9) ?hd (cs := #[.int .i64 0, .int .i64 0, .int .i64 0, .int .i64 0]) (t := 25) ?hr ?_; (case hd => rfl); (case hg => rfl); (case hr => first | (go_simp; done) | (go_simp; rfl))
           intro gb388 hg w33 hbox hb
           replace HO376 := Aside0.mk (Kd.V_below (Kd.V_elderB (vp_ HO376.out) gb388 (Nat.le_of_eq hg.symm)) hb)
           replace HO382 := Aside0.mk (Kd.V_below (Kd.V_elderB (vp_ HO382.out) gb388 (Nat.le_of_eq hg.symm)) hb)
           have BK388 := Aside0.mk (hbox)
           have GW388 := Aside0.mk ((by rw [hg]; exact (below_size bp_) : w.heap.size ≤ gb388))
           have GE388 := Aside0.mk ((by rw [hg]; exact (below_size bp_) : w.heap.size ≤ gb388))
           replace HB := Aside0.mk (below_step bp_ hb)
           have NB371_388 := Aside0.mk ((nlt_ hg (hp_ BK371.out)))
           have NB388_371 := Aside0.mk ((ngt_ hg (hp_ BK371.out)))
           replace BK371 := Aside0.mk (blk_below (hp_ BK371.out) hb)
           have NB377_388 := Aside0.mk ((nlt_ hg (hp_ BK377.out)))
           have NB388_377 := Aside0.mk ((ngt_ hg (hp_ BK377.out)))
           replace BK377 := Aside0.mk (blk_below (hp_ BK377.out) hb)
           have NB383_388 := Aside0.mk ((nlt_ hg (hp_ BK383.out)))
           have NB388_383 := Aside0.mk ((ngt_ hg (hp_ BK383.out)))
           replace BK383 := Aside0.mk (blk_below (hp_ BK383.out) hb)
           clear hb hbox hg
           refine hK.out _ _ ⟨(blk_cell BK371.out 0).trans rfl, (blk_cell BK371.out 1).trans rfl, (blk_cell BK371.out 2).trans rfl, (blk_cell BK371.out 3).trans rfl⟩ (fun hHeld => ?_)
           clear hK K
           refine norm_ (a' := ?_) ?_ ?_
           rotate_left
           · show Act.put _ (some 9) _ = _
             simp only [Act.put, List.setIfInBounds_toArray, List.set_cons_zero, List.set_cons_succ, i64_w, i32_w]
             rfl
           exact norm_ (by first | (simp only [putAll, Act.put, List.setIfInBounds_toArray, List.set_cons_zero, List.set_cons_succ]; done) | (simp only [putAll, Act.put, List.setIfInBounds_toArray, List.set_cons_zero, List.set_cons_succ]; rfl)) (hJ2_6_10_17 (gb388) _ ⟨hHeld, (by (with_reducible repeat (first | apply Kd.V_alloc | apply Kd.V_drewN | apply Kd.V_drew)); exact Kd.V_mono HO376.out (fun _ hk => ⟨hk.1.1, ⟨hk.1.2.1, ⟨hk.1.2.2.1, ⟨hk.1.2.2.2, hk.2⟩⟩⟩⟩)), (by (with_reducible repeat (first | apply Kd.V_alloc | apply Kd.V_drewN | apply Kd.V_drew)); exact Kd.V_mono HO382.out (fun _ hk => ⟨hk.1.1, ⟨hk.1.2.1, ⟨hk.1.2.2.1, ⟨hk.1.2.2.2, hk.2⟩⟩⟩⟩)), (hp_ BK371.out), (hp_ BK377.out), (hp_ BK383.out), (hp_ BK388.out), GW388.out, GE388.out, NB371_388.out, NB388_371.out, NB377_388.out, NB388_377.out, NB383_388.out, NB388_383.out, bp_⟩)
     · skip
       rintro gb388 w33 ⟨hS_, h0_, h1_, h2_, h3_, h4_, h5_, h6_, h7_, h8_, h9_, h10_, h11_, h12_, h13_, h14_⟩
       replace HO376 : Aside0 (Kd.V (Kd.int .u64) 46 w33 w.heap.size (fun k_ => k_ ≠ gb370 ∧ k_ ≠ gb371 ∧ k_ ≠ gb377 ∧ k_ ≠ gb383 ∧ k_ ≠ gb388) (.slice Ao21 t374.length co21) t374) := ⟨h0_⟩
       replace HO382 : Aside0 (Kd.V (Kd.int .u64) 46 w33 w.heap.size (fun k_ => k_ ≠ gb370 ∧ k_ ≠ gb371 ∧ k_ ≠ gb377 ∧ k_ ≠ gb383 ∧ k_ ≠ gb388) (.slice Ao29 t380.length co29) t380) := ⟨h1_⟩
       replace BK371 : Aside0 (w33.heap[gb371]? = some (.cells #[.int .i64 a2_0, .int .i64 a2_1, .int .i64 a2_2, .int .i64 a2_3] 25 (0, 0))) := ⟨h2_⟩
       replace BK377 : Aside0 (w33.heap[gb377]? = some (.cells #[.int .i64 t372, .int .i64 t373, .slice Ao21 t374.length co21] 24 (0, 0))) := ⟨h3_⟩
       replace BK383 : Aside0 (w33.heap[gb383]? = some (.cells #[.int .i64 t378, .int .i64 t379, .slice Ao29 t380.length co29] 24 (0, 0))) := ⟨h4_⟩
       have BK388 : Aside0 (w33.heap[gb388]? = some (.cells #[.int .i64 0, .int .i64 0, .int .i64 0, .int .i64 0] 25 (0, 0))) := ⟨h5_⟩
       have GW388 : Aside0 (w.heap.size ≤ gb388) := ⟨h6_⟩
       have GE388 : Aside0 (w.heap.size ≤ gb388) := ⟨h7_⟩
       have NB371_388 : Aside0 (gb371 ≠ gb388) := ⟨h8_⟩
       have NB388_371 : Aside0 (gb388 ≠ gb371) := ⟨h9_⟩
       have NB377_388 : Aside0 (gb377 ≠ gb388) := ⟨h10_⟩
       have NB388_377 : Aside0 (gb388 ≠ gb377) := ⟨h11_⟩
       have NB383_388 : Aside0 (gb383 ≠ gb388) := ⟨h12_⟩
       have NB388_383 : Aside0 (gb388 ≠ gb383) := ⟨h13_⟩
       replace HB : Aside0 (Below w.heap.size w w33) := ⟨h14_⟩
       clear h0_ h1_ h2_ h3_ h4_ h5_ h6_ h7_ h8_ h9_ h10_ h11_ h12_ h13_ h14_
       have hHeld : w33.cell? ⟨gb371, 0, none⟩ = some (.int .i64 a2_0) ∧ w33.cell? ⟨gb371, 1, none⟩ = some (.int .i64 a2_1) ∧ w33.cell? ⟨gb371, 2, none⟩ = some (.int .i64 a2_2) ∧ w33.cell? ⟨gb371, 3, none⟩ = some (.int .i64 a2_3) := hS_
       refine norm_ (a' := ?_) ?_ ?_
       rotate_left
       · simp only [putAll, Act.put, List.setIfInBounds_toArray, List.set_cons_zero, List.set_cons_succ]
         rfl
       refine one_ (i := 14) (N := some 39) #[true, true, true, true, true, true, true, true, true, true, true, true, true, true, true, false, false, true, false] rfl rfl (one_of HT_.out (by kernel_rfl)) (by decide) (fun K hK => ?_)
       refine goes_ Try.func11 (by kernel_rfl) rfl #[.int .i64 a2_3, .int .i64 9] (by rfl) rfl rfl (by (try simp only [List.map_toArray, List.map_cons, List.map_nil]); first | done | rfl | (simp only [List.length_drop, List.length_take]; rfl)) ?_
       with_reducible refine (chequerref01_Around.calls a2_3 9 t387 _ A9.out).mono ?_
       rintro e w' ⟨rfl, ⟨nd, rfl⟩⟩
       refine ⟨_, rfl, ?_⟩
       refine hK.out _ _ ⟨(blk_cell BK371.out 0).trans rfl, (blk_cell BK371.out 1).trans rfl, (blk_cell BK371.out 2).trans rfl, (blk_cell BK371.out 3).trans rfl⟩ (fun hHeld => ?_)
       clear hK K
       refine norm_ (a' := ?_) ?_ ?_
       rotate_left
       · show Act.put _ (some 39) _ = _
         simp only [Act.put, List.setIfInBounds_toArray, List.set_cons_zero, List.set_cons_succ, i64_w, i32_w]
         rfl
       refine pur_ (i := 15) (N := some 40) #[true, true, true, true, true, true, true, true, true, true, true, true, true, true, true, true, false, true, false] (any_of HT_.out (by kernel_rfl)) ?_
       refine pur_ (i := 16) (N := some 41) Fl148 (any_of HT_.out (by kernel_rfl)) ?_
       exact norm_ (by first | (simp only [putAll, Act.put, List.setIfInBounds_toArray, List.set_cons_zero, List.set_cons_succ]; done) | (simp only [putAll, Act.put, List.setIfInBounds_toArray, List.set_cons_zero, List.set_cons_succ]; rfl)) (hJ2_6_10_14_17 (gb388) _ ⟨hHeld, (vp_ HO376.out), (vp_ HO382.out), (hp_ BK371.out), (hp_ BK377.out), (hp_ BK383.out), (hp_ BK388.out), GW388.out, GE388.out, NB371_388.out, NB388_371.out, NB377_388.out, NB388_377.out, NB383_388.out, NB388_383.out, bp_⟩)
   · skip
     rintro _ w32 ⟨hS_, h0_, h1_, h2_, h3_, h4_, h5_⟩
     replace HO376 : Aside0 (Kd.V (Kd.int .u64) 46 w32 w.heap.size (fun k_ => k_ ≠ gb370 ∧ k_ ≠ gb371 ∧ k_ ≠ gb377 ∧ k_ ≠ gb383) (.slice Ao21 t374.length co21) t374) := ⟨h0_⟩
     replace HO382 : Aside0 (Kd.V (Kd.int .u64) 46 w32 w.heap.size (fun k_ => k_ ≠ gb370 ∧ k_ ≠ gb371 ∧ k_ ≠ gb377 ∧ k_ ≠ gb383) (.slice Ao29 t380.length co29) t380) := ⟨h1_⟩
     replace BK371 : Aside0 (w32.heap[gb371]? = some (.cells #[.int .i64 a2_0, .int .i64 a2_1, .int .i64 a2_2, .int .i64 a2_3] 25 (0, 0))) := ⟨h2_⟩
     replace BK377 : Aside0 (w32.heap[gb377]? = some (.cells #[.int .i64 t372, .int .i64 t373, .slice Ao21 t374.length co21] 24 (0, 0))) := ⟨h3_⟩
     replace BK383 : Aside0 (w32.heap[gb383]? = some (.cells #[.int .i64 t378, .int .i64 t379, .slice Ao29 t380.length co29] 24 (0, 0))) := ⟨h4_⟩
     replace HB : Aside0 (Below w.heap.size w w32) := ⟨h5_⟩
     clear h0_ h1_ h2_ h3_ h4_ h5_
     have hHeld : w32.cell? ⟨gb371, 0, none⟩ = some (.int .i64 a2_0) ∧ w32.cell? ⟨gb371, 1, none⟩ = some (.int .i64 a2_1) ∧ w32.cell? ⟨gb371, 2, none⟩ = some (.int .i64 a2_2) ∧ w32.cell? ⟨gb371, 3, none⟩ = some (.int .i64 a2_3) := hS_
     refine norm_ (a' := ?_) ?_ ?_
     rotate_left
     · simp only [putAll, Act.put, List.setIfInBounds_toArray, List.set_cons_zero, List.set_cons_succ]
       rfl
     refine one_ (i := 17) (N := some 9) Fl148 rfl rfl (one_of HT_.out (by kernel_rfl)) (by decide) (fun K hK => ?_)
     refine box_step ?hg (N := 9) ?hd (cs := #[.int .i64 0, .int .i64 0, .int .i64 0, .int .i64 0]) (t := 25) ?hr ?_; (case hd => rfl); (case hg => rfl); (case hr => first | (go_simp; done) | (go_simp; rfl))
     intro gb388 hg w33 hbox hb
     replace HO376 := Aside0.mk (Kd.V_below (Kd.V_elderB (vp_ HO376.out) gb388 (Nat.le_of_eq hg.symm)) hb)
     replace HO382 := Aside0.mk (Kd.V_below (Kd.V_elderB (vp_ HO382.out) gb388 (Nat.le_of_eq hg.symm)) hb)
     have BK388 := Aside0.mk (hbox)
     have GW388 := Aside0.mk ((by rw [hg]; exact (below_size bp_) : w.heap.size ≤ gb388))
     have GE388 := Aside0.mk ((by rw [hg]; exact (below_size bp_) : w.heap.size ≤ gb388))
     replace HB := Aside0.mk (below_step bp_ hb)
     have NB371_388 := Aside0.mk ((nlt_ hg (hp_ BK371.out)))
     have NB388_371 := Aside0.mk ((ngt_ hg (hp_ BK371.out)))
     replace BK371 := Aside0.mk (blk_below (hp_ BK371.out) hb)
     have NB377_388 := Aside0.mk ((nlt_ hg (hp_ BK377.out)))
     have NB388_377 := Aside0.mk ((ngt_ hg (hp_ BK377.out)))
     replace BK377 := Aside0.mk (blk_below (hp_ BK377.out) hb)
     have NB383_388 := Aside0.mk ((nlt_ hg (hp_ BK383.out)))
     have NB388_383 := Aside0.mk ((ngt_ hg (hp_ BK383.out)))
     replace BK383 := Aside0.mk (blk_below (hp_ BK383.out) hb)
     clear hb hbox hg
     refine hK.out _ _ ⟨(blk_cell BK371.out 0).trans rfl, (blk_cell BK371.out 1).trans rfl, (blk_cell BK371.out 2).trans rfl, (blk_cell BK371.out 3).trans rfl⟩ (fun hHeld => ?_)
     clear hK K
     refine norm_ (a' := ?_) ?_ ?_
     rotate_left
     · show Act.put _ (some 9) _ = _
       simp only [Act.put, List.setIfInBounds_toArray, List.set_cons_zero, List.set_cons_succ, i64_w, i32_w]
       rfl
     exact norm_ (by first | (simp only [putAll, Act.put, List.setIfInBounds_toArray, List.set_cons_zero, List.set_cons_succ]; done) | (simp only [putAll, Act.put, List.setIfInBounds_toArray, List.set_cons_zero, List.set_cons_succ]; rfl)) (hJ2_6_10_14_17 (gb388) _ ⟨hHeld, (by (with_reducible repeat (first | apply Kd.V_alloc | apply Kd.V_drewN | apply Kd.V_drew)); exact Kd.V_mono HO376.out (fun _ hk => ⟨hk.1.1, ⟨hk.1.2.1, ⟨hk.1.2.2.1, ⟨hk.1.2.2.2, hk.2⟩⟩⟩⟩)), (by (with_reducible repeat (first | apply Kd.V_alloc | apply Kd.V_drewN | apply Kd.V_drew)); exact Kd.V_mono HO382.out (fun _ hk => ⟨hk.1.1, ⟨hk.1.2.1, ⟨hk.1.2.2.1, ⟨hk.1.2.2.2, hk.2⟩⟩⟩⟩)), (hp_ BK371.out), (hp_ BK377.out), (hp_ BK383.out), (hp_ BK388.out), GW388.out, GE388.out, NB371_388.out, NB388_371.out, NB377_388.out, NB388_377.out, NB383_388.out, NB388_383.out, bp_⟩)
 rintro gb388 w33 ⟨hS_, h0_, h1_, h2_, h3_, h4_, h5_, h6_, h7_, h8_, h9_, h10_, h11_, h12_, h13_, h14_⟩
 replace HO376 : Aside0 (Kd.V (Kd.int .u64) 46 w33 w.heap.size (fun k_ => k_ ≠ gb370 ∧ k_ ≠ gb371 ∧ k_ ≠ gb377 ∧ k_ ≠ gb383 ∧ k_ ≠ gb388) (.slice Ao21 t374.length co21) t374) := ⟨h0_⟩
 replace HO382 : Aside0 (Kd.V (Kd.int .u64) 46 w33 w.heap.size (fun k_ => k_ ≠ gb370 ∧ k_ ≠ gb371 ∧ k_ ≠ gb377 ∧ k_ ≠ gb383 ∧ k_ ≠ gb388) (.slice Ao29 t380.length co29) t380) := ⟨h1_⟩
 replace BK371 : Aside0 (w33.heap[gb371]? = some (.cells #[.int .i64 a2_0, .int .i64 a2_1, .int .i64 a2_2, .int .i64 a2_3] 25 (0, 0))) := ⟨h2_⟩
 replace BK377 : Aside0 (w33.heap[gb377]? = some (.cells #[.int .i64 t372, .int .i64 t373, .slice Ao21 t374.length co21] 24 (0, 0))) := ⟨h3_⟩
 replace BK383 : Aside0 (w33.heap[gb383]? = some (.cells #[.int .i64 t378, .int .i64 t379, .slice Ao29 t380.length co29] 24 (0, 0))) := ⟨h4_⟩
 have BK388 : Aside0 (w33.heap[gb388]? = some (.cells #[.int .i64 0, .int .i64 0, .int .i64 0, .int .i64 0] 25 (0, 0))) := ⟨h5_⟩
 have GW388 : Aside0 (w.heap.size ≤ gb388) := ⟨h6_⟩
 have GE388 : Aside0 (w.heap.size ≤ gb388) := ⟨h7_⟩
 have NB371_388 : Aside0 (gb371 ≠ gb388) := ⟨h8_⟩
 have NB388_371 : Aside0 (gb388 ≠ gb371) := ⟨h9_⟩
 have NB377_388 : Aside0 (gb377 ≠ gb388) := ⟨h10_⟩
 have NB388_377 : Aside0 (gb388 ≠ gb377) := ⟨h11_⟩
 have NB383_388 : Aside0 (gb383 ≠ gb388) := ⟨h12_⟩
 have NB388_383 : Aside0 (gb388 ≠ gb383) := ⟨h13_⟩
 replace HB : Aside0 (Below w.heap.size w w33) := ⟨h14_⟩
 clear h0_ h1_ h2_ h3_ h4_ h5_ h6_ h7_ h8_ h9_ h10_ h11_ h12_ h13_ h14_
 have hHeld : w33.cell? ⟨gb371, 0, none⟩ = some (.int .i64 a2_0) ∧ w33.cell? ⟨gb371, 1, none⟩ = some (.int .i64 a2_1) ∧ w33.cell? ⟨gb371, 2, none⟩ = some (.int .i64 a2_2) ∧ w33.cell? ⟨gb371, 3, none⟩ = some (.int .i64 a2_3) := hS_
 refine norm_ (a' := ?_) ?_ ?_
 rotate_left
 · simp only [putAll, Act.put, List.setIfInBounds_toArray, List.set_cons_zero, List.set_cons_succ]
   rfl
 refine one_ (i := 18) (N := none) #[true, true, true, true, true, true, true, true, true, true, true, true, true, true, true, true, true, true, true] rfl rfl (one_of HT_.out (by kernel_rfl)) (by decide) (fun K hK => ?_)
 have hs34 : w33.cell? ⟨gb388, 0, none⟩ = some (.int .i64 0) := (blk_cell BK388.out 0).trans rfl
 have hfs34 := blk_frozen BK388.out 0
 have hns34_0 := NB371_388.out
 have hns34_1 := NB377_388.out
 have hns34_2 := NB383_388.out
 have hms34_0 := NB388_371.out
 have hms34_1 := NB388_377.out
 have hms34_2 := NB388_383.out
 have hs35 : w33.cell? ⟨gb388, 1, none⟩ = some (.int .i64 0) := (blk_cell BK388.out 1).trans rfl
 have hfs35 := blk_frozen BK388.out 1
 have hns35_0 := NB371_388.out
 have hns35_1 := NB377_388.out
 have hns35_2 := NB383_388.out
 have hms35_0 := NB388_371.out
 have hms35_1 := NB388_377.out
 have hms35_2 := NB388_383.out
 have hs36 : w33.cell? ⟨gb388, 2, none⟩ = some (.int .i64 0) := (blk_cell BK388.out 2).trans rfl
 have hfs36 := blk_frozen BK388.out 2
 have hns36_0 := NB371_388.out
 have hns36_1 := NB377_388.out
 have hns36_2 := NB383_388.out
 have hms36_0 := NB388_371.out
 have hms36_1 := NB388_377.out
 have hms36_2 := NB388_383.out
 have hs37 : w33.cell? ⟨gb388, 3, none⟩ = some (.int .i64 0) := (blk_cell BK388.out 3).trans rfl
 have hfs37 := blk_frozen BK388.out 3
 have hns37_0 := NB371_388.out
 have hns37_1 := NB377_388.out
 have hns37_2 := NB383_388.out
 have hms37_0 := NB388_371.out
 have hms37_1 := NB388_377.out
 have hms37_2 := NB388_383.out
 refine skip_ (w1 := ?_) (by rfl) rfl ?_ ?_
 rotate_left
 · go_simp
   rfl
 refine hK.out _ _ ⟨((cell_far (p := ⟨gb388, _, none⟩) NB371_388.out _).trans (((cell_far (p := ⟨gb388, _, none⟩) NB371_388.out _).trans (((cell_far (p := ⟨gb388, _, none⟩) NB371_388.out _).trans (((cell_far (p := ⟨gb388, _, none⟩) NB371_388.out _).trans (hHeld.1)))))))), ((cell_far (p := ⟨gb388, _, none⟩) NB371_388.out _).trans (((cell_far (p := ⟨gb388, _, none⟩) NB371_388.out _).trans (((cell_far (p := ⟨gb388, _, none⟩) NB371_388.out _).trans (((cell_far (p := ⟨gb388, _, none⟩) NB371_388.out _).trans (hHeld.2.1)))))))), ((cell_far (p := ⟨gb388, _, none⟩) NB371_388.out _).trans (((cell_far (p := ⟨gb388, _, none⟩) NB371_388.out _).trans (((cell_far (p := ⟨gb388, _, none⟩) NB371_388.out _).trans (((cell_far (p := ⟨gb388, _, none⟩) NB371_388.out _).trans (hHeld.2.2.1)))))))), ((cell_far (p := ⟨gb388, _, none⟩) NB371_388.out _).trans (((cell_far (p := ⟨gb388, _, none⟩) NB371_388.out _).trans (((cell_far (p := ⟨gb388, _, none⟩) NB371_388.out _).trans (((cell_far (p := ⟨gb388, _, none⟩) NB371_388.out _).trans (hHeld.2.2.2))))))))⟩ (fun hHeld => ?_)
 clear hK K
 refine done_ (done_of HT_.out (by kernel_rfl)) ?_
 have hnb38 := NB371_388.out
 have hnc38 := NB388_371.out
 have hcz39_0 : w33.cell? ⟨gb371, 0, none⟩ = some (.int .i64 a2_0) := (blk_cell BK371.out 0).trans rfl
 have hcz39_1 : w33.cell? ⟨gb371, 1, none⟩ = some (.int .i64 a2_1) := (blk_cell BK371.out 1).trans rfl
 have hcz39_2 : w33.cell? ⟨gb371, 2, none⟩ = some (.int .i64 a2_2) := (blk_cell BK371.out 2).trans rfl
 have hcz39_3 : w33.cell? ⟨gb371, 3, none⟩ = some (.int .i64 a2_3) := (blk_cell BK371.out 3).trans rfl
 have hfz39_0 := blk_frozen BK371.out 0
 have hfz39_1 := blk_frozen BK371.out 1
 have hfz39_2 := blk_frozen BK371.out 2
 have hfz39_3 := blk_frozen BK371.out 3
 have hnb40 := NB388_377.out
 have hnc40 := NB377_388.out
 have hnb41 := NB388_383.out
 have hnc41 := NB383_388.out
 have hcz42_0 : w33.cell? ⟨gb388, 0, none⟩ = some (.int .i64 0) := (blk_cell BK388.out 0).trans rfl
 have hcz42_1 : w33.cell? ⟨gb388, 1, none⟩ = some (.int .i64 0) := (blk_cell BK388.out 1).trans rfl
 have hcz42_2 : w33.cell? ⟨gb388, 2, none⟩ = some (.int .i64 0) := (blk_cell BK388.out 2).trans rfl
 have hcz42_3 : w33.cell? ⟨gb388, 3, none⟩ = some (.int .i64 0) := (blk_cell BK388.out 3).trans rfl
 have hfz42_0 := blk_frozen BK388.out 0
 have hfz42_1 := blk_frozen BK388.out 1
 have hfz42_2 := blk_frozen BK388.out 2
 have hfz42_3 := blk_frozen BK388.out 3
 try go_wp2_with (first | ((with_reducible refine gate_dst (N := 44) rfl ?_); refine Kd.R_lit k25 _ 25 ?hg (N := 44) ?hd (xs := ([(⟨a2_0, a2_1, a2_2, a2_3⟩ : S25), (⟨wrap64 (t384 - 1), wrap64 (t385 - 1), wrap64 (t386 - 1), wrap64 (t387 - 1)⟩ : S25)] : List (S25))) (inner := [.int .i64 a2_0, .int .i64 a2_1, .int .i64 a2_2, .int .i64 a2_3, .int .i64 (wrap64 (t384 - 1)), .int .i64 (wrap64 (t385 - 1)), .int .i64 (wrap64 (t386 - 1)), .int .i64 (wrap64 (t387 - 1))]) (ok := fun _ => True) (okp := fun _ => True) ?hr ?hp (fun _ hk => hk) trivial (Below.refl _ _) (Nat.le_refl _) (by simp) ?_; (case hd => rfl); (case hg => rfl); (case hr => first | (go_simp; done) | (go_simp; rfl)); (case hp => exact (Reps.c4 (show Kd.M k25 _ _ _ (⟨a2_0, a2_1, a2_2, a2_3⟩ : S25) [.int .i64 a2_0, .int .i64 a2_1, .int .i64 a2_2, .int .i64 a2_3] from (k25_mkM _ _ _ (⟨a2_0, a2_1, a2_2, a2_3⟩ : S25) )) (Reps.c4 (show Kd.M k25 _ _ _ (⟨wrap64 (t384 - 1), wrap64 (t385 - 1), wrap64 (t386 - 1), wrap64 (t387 - 1)⟩ : S25) [.int .i64 (wrap64 (t384 - 1)), .int .i64 (wrap64 (t385 - 1)), .int .i64 (wrap64 (t386 - 1)), .int .i64 (wrap64 (t387 - 1))] from (k25_mkM _ _ _ (⟨wrap64 (t384 - 1), wrap64 (t385 - 1), wrap64 (t386 - 1), wrap64 (t387 - 1)⟩ : S25) )) (Reps.none _ _)))); intro v390 w43 ho44 hb hg_ hnew_; clear hg_ hnew_; (first | rw [← Ny389.out] at ho44 | (simp only [Int.reduceToNat] at ho44; rw [← Ny389.out] at ho44)); replace HO376 := Aside0.mk (Kd.V_elder' (by (with_reducible repeat (first | apply Kd.V_alloc | apply Kd.V_drewN | apply Kd.V_drew)); exact (Kd.V_mono (Kd.V_far (p := ⟨gb388, 3, none⟩) (Kd.V_far (p := ⟨gb388, 2, none⟩) (Kd.V_far (p := ⟨gb388, 1, none⟩) (Kd.V_far (p := ⟨gb388, 0, none⟩) (Kd.V_mono HO376.out (fun k_ hk => (⟨hk, hk.2.2.2.2⟩ : _ ∧ k_ ≠ gb388))) (fun _ hk => hk.2) (.int .i64 (wrap64 (t384 - 1)))) (fun _ hk => hk.2) (.int .i64 (wrap64 (t385 - 1)))) (fun _ hk => hk.2) (.int .i64 (wrap64 (t386 - 1)))) (fun _ hk => hk.2) (.int .i64 (wrap64 (t387 - 1)))) (fun _ h_ => h_.1))) (Kd.R_base ho44) hb); replace HO382 := Aside0.mk (Kd.V_elder' (by (with_reducible repeat (first | apply Kd.V_alloc | apply Kd.V_drewN | apply Kd.V_drew)); exact (Kd.V_mono (Kd.V_far (p := ⟨gb388, 3, none⟩) (Kd.V_far (p := ⟨gb388, 2, none⟩) (Kd.V_far (p := ⟨gb388, 1, none⟩) (Kd.V_far (p := ⟨gb388, 0, none⟩) (Kd.V_mono HO382.out (fun k_ hk => (⟨hk, hk.2.2.2.2⟩ : _ ∧ k_ ≠ gb388))) (fun _ hk => hk.2) (.int .i64 (wrap64 (t384 - 1)))) (fun _ hk => hk.2) (.int .i64 (wrap64 (t385 - 1)))) (fun _ hk => hk.2) (.int .i64 (wrap64 (t386 - 1)))) (fun _ hk => hk.2) (.int .i64 (wrap64 (t387 - 1)))) (fun _ h_ => h_.1))) (Kd.R_base ho44) hb); have HO391 := Aside0.mk (Kd.R_lower (Kd.R_newB (Kd.R_newB ho44 (g := gb371) (o := .cells #[.int .i64 a2_0, .int .i64 a2_1, .int .i64 a2_2, .int .i64 a2_3] 25 (0, 0)) (hf_ BK371.out NB371_388.out)) (g := gb388) (o := .cells #[.int .i64 (wrap64 (t384 - 1)), .int .i64 (wrap64 (t385 - 1)), .int .i64 (wrap64 (t386 - 1)), .int .i64 (wrap64 (t387 - 1))] 25 (0, 0)) (by (with_reducible repeat (first | refine blk_drewN ?_ _ | refine blk_drew ?_ | refine blk_alloc ?_ _)); refine blk_put (cs := #[.int .i64 (wrap64 (t384 - 1)), .int .i64 (wrap64 (t385 - 1)), .int .i64 (wrap64 (t386 - 1)), .int .i64 0]) ?_ 3 _ rfl; (with_reducible repeat (first | refine blk_drewN ?_ _ | refine blk_drew ?_ | refine blk_alloc ?_ _)); refine blk_put (cs := #[.int .i64 (wrap64 (t384 - 1)), .int .i64 (wrap64 (t385 - 1)), .int .i64 0, .int .i64 0]) ?_ 2 _ rfl; (with_reducible repeat (first | refine blk_drewN ?_ _ | refine blk_drew ?_ | refine blk_alloc ?_ _)); refine blk_put (cs := #[.int .i64 (wrap64 (t384 - 1)), .int .i64 0, .int .i64 0, .int .i64 0]) ?_ 1 _ rfl; (with_reducible repeat (first | refine blk_drewN ?_ _ | refine blk_drew ?_ | refine blk_alloc ?_ _)); refine blk_put (cs := #[.int .i64 0, .int .i64 0, .int .i64 0, .int .i64 0]) ?_ 0 _ rfl; (with_reducible repeat (first | refine blk_drewN ?_ _ | refine blk_drew ?_ | refine blk_alloc ?_ _)); exact BK388.out)) (below_size bp_)); replace BK371 := Aside0.mk (blk_below (hf_ BK371.out NB371_388.out) hb); replace BK377 := Aside0.mk (blk_below (hf_ BK377.out NB377_388.out) hb); replace BK383 := Aside0.mk (blk_below (hf_ BK383.out NB383_388.out) hb); replace BK388 := Aside0.mk (blk_below (g := gb388) (o := .cells #[.int .i64 (wrap64 (t384 - 1)), .int .i64 (wrap64 (t385 - 1)), .int .i64 (wrap64 (t386 - 1)), .int .i64 (wrap64 (t387 - 1))] 25 (0, 0)) (by (with_reducible repeat (first | refine blk_drewN ?_ _ | refine blk_drew ?_ | refine blk_alloc ?_ _)); refine blk_put (cs := #[.int .i64 (wrap64 (t384 - 1)), .int .i64 (wrap64 (t385 - 1)), .int .i64 (wrap64 (t386 - 1)), .int .i64 0]) ?_ 3 _ rfl; (with_reducible repeat (first | refine blk_drewN ?_ _ | refine blk_drew ?_ | refine blk_alloc ?_ _)); refine blk_put (cs := #[.int .i64 (wrap64 (t384 - 1)), .int .i64 (wrap64 (t385 - 1)), .int .i64 0, .int .i64 0]) ?_ 2 _ rfl; (with_reducible repeat (first | refine blk_drewN ?_ _ | refine blk_drew ?_ | refine blk_alloc ?_ _)); refine blk_put (cs := #[.int .i64 (wrap64 (t384 - 1)), .int .i64 0, .int .i64 0, .int .i64 0]) ?_ 1 _ rfl; (with_reducible repeat (first | refine blk_drewN ?_ _ | refine blk_drew ?_ | refine blk_alloc ?_ _)); refine blk_put (cs := #[.int .i64 0, .int .i64 0, .int .i64 0, .int .i64 0]) ?_ 0 _ rfl; (with_reducible repeat (first | refine blk_drewN ?_ _ | refine blk_drew ?_ | refine blk_alloc ?_ _)); exact BK388.out) hb); replace HB := Aside0.mk (below_step bp_ hb); clear hb ho44))
 go_loopg [11] k (fun kq v11 w' => ∃ (x11_1 : Int), v11 = .int .i64 x11_1 ∧ Aside0 (chequerlaw03_RectParts.l0 kq y389 x11_1 t372 t373 t374 t378 t379 t380 = some r) ∧ Aside0 (kq ≤ k) ∧ Aside0 (Kd.R k25 25 w' w.heap.size (fun k_ => k_ ≠ gb371 ∧ k_ ≠ gb388) v390 y389) ∧ Aside0 (Kd.V (Kd.int .u64) 46 w' w.heap.size (fun k_ => some k_ ≠ (v390 : Value).ownBlock ∧ k_ ≠ gb371 ∧ k_ ≠ gb377 ∧ k_ ≠ gb383 ∧ k_ ≠ gb388) (.slice Ao21 t374.length co21) t374) ∧ Aside0 (Kd.V (Kd.int .u64) 46 w' w.heap.size (fun k_ => some k_ ≠ (v390 : Value).ownBlock ∧ k_ ≠ gb371 ∧ k_ ≠ gb377 ∧ k_ ≠ gb383 ∧ k_ ≠ gb388) (.slice Ao29 t380.length co29) t380) ∧ Aside0 (w'.heap[gb371]? = some (.cells #[.int .i64 a2_0, .int .i64 a2_1, .int .i64 a2_2, .int .i64 a2_3] 25 (0, 0))) ∧ Aside0 (w'.heap[gb377]? = some (.cells #[.int .i64 t372, .int .i64 t373, (.slice Ao21 t374.length co21)] 24 (0, 0))) ∧ Aside0 (w'.heap[gb383]? = some (.cells #[.int .i64 t378, .int .i64 t379, (.slice Ao29 t380.length co29)] 24 (0, 0))) ∧ Aside0 (w'.heap[gb388]? = some (.cells #[.int .i64 (wrap64 (t384 - 1)), .int .i64 (wrap64 (t385 - 1)), .int .i64 (wrap64 (t386 - 1)), .int .i64 (wrap64 (t387 - 1))] 25 (0, 0))) ∧ Aside0 (Below w.heap.size w w'))
 case atStart => exact ⟨(0), (by first | rfl | (simp; done) | (simp [*]; done)), H', ⟨Nat.le_refl _⟩, ⟨by (with_reducible repeat (first | apply Kd.R_alloc | apply Kd.R_drewN | apply Kd.R_drew)); exact Kd.R_mono HO391.out (fun _ hk => ⟨hk.1.2, hk.2⟩)⟩, ⟨by (with_reducible repeat (first | apply Kd.V_alloc | apply Kd.V_drewN | apply Kd.V_drew)); exact Kd.V_mono HO376.out (fun _ hk => ⟨hk.2, ⟨hk.1.2.1, ⟨hk.1.2.2.1, ⟨hk.1.2.2.2.1, hk.1.2.2.2.2⟩⟩⟩⟩)⟩, ⟨by (with_reducible repeat (first | apply Kd.V_alloc | apply Kd.V_drewN | apply Kd.V_drew)); exact Kd.V_mono HO382.out (fun _ hk => ⟨hk.2, ⟨hk.1.2.1, ⟨hk.1.2.2.1, ⟨hk.1.2.2.2.1, hk.1.2.2.2.2⟩⟩⟩⟩)⟩, ⟨hp_ BK371.out⟩, ⟨hp_ BK377.out⟩, ⟨hp_ BK383.out⟩, ⟨hp_ BK388.out⟩, ⟨bp_⟩⟩
 case round =>
  clear H'
  try clear c1
  try clear p2
  try clear c3
  try clear c4
  try clear p6
  try clear c11
  try clear c38
  try clear c40
  try clear c41
  try clear hcz39_0
  try clear hcz39_1
  try clear hcz39_2
  try clear hcz39_3
  try clear hcz42_0
  try clear hcz42_1
  try clear hcz42_2
  try clear hcz42_3
  try clear hfz39_0
  try clear hfz39_1
  try clear hfz39_2
  try clear hfz39_3
  try clear hfz42_0
  try clear hfz42_1
  try clear hfz42_2
  try clear hfz42_3
  obtain ⟨x11_1, rfl, HA, HK1, HO_10, HO_378002, HO_384002, BK371, BK377, BK383, BK388, HB⟩ := hrel
  cases gk with
  | zero => exact absurd HA.out (by simp [chequerlaw03_RectParts.l0])
  | succ k1 =>
   have H := HA.out
   clear HA
   simp only [chequerlaw03_RectParts.l0] at H
   by_cases c45 : x11_1 < 2
   · rw [if_pos c45] at H
     have c45b0 : decide (x11_1 < 2) = true := decide_eq_true c45
     clear c45
     by_cases c46 : 0 ≤ x11_1
     · rw [if_pos c46] at H
       have c46b0 : decide (0 ≤ x11_1) = true := decide_eq_true c46
       clear c46
       by_cases c47 : x11_1 < (y389.length : Int)
       · rw [if_pos c47] at H
         have c47b0 : decide (x11_1 < (y389.length : Int)) = true := decide_eq_true c47
         clear c47
         replace H := Option.bind_eq_some_iff.mp H
         obtain ⟨⟨t395, t396, t397⟩, A480, H⟩ := H
         replace H : ((rect_Matrix_At.f t395 t396 t397 ((rd_T25 y389 x11_1).f0) ((rd_T25 y389 x11_1).f1)).bind fun bt400 => ((chequerref03_At.f t372 t373 t374 ((rd_T25 y389 x11_1).f0) ((rd_T25 y389 x11_1).f1)).bind fun bt402 => ((chequerlaw03_of.f t372 t373 t374).bind fun bt404 => ((rect_Matrix_Sub.f k1 bt404.1 bt404.2.1 bt404.2.2 ((rd_T25 y389 x11_1).f0) ((rd_T25 y389 x11_1).f1) ((rd_T25 y389 x11_1).f2) ((rd_T25 y389 x11_1).f3)).bind fun bt409 => ((chequerref03_Sub.f k1 t372 t373 t374 ((rd_T25 y389 x11_1).f0) ((rd_T25 y389 x11_1).f1) ((rd_T25 y389 x11_1).f2) ((rd_T25 y389 x11_1).f3)).bind fun bt416 => (if bt400.1 = bt402.1 then (if (bt400.2 != bt402.2) = true then (chequerlaw03_RectParts.j1 k1 y389 x11_1 bt416.2.2.2 true t372 t373 t374 t378 t379 t380 ((rd_T25 y389 x11_1).f0) ((rd_T25 y389 x11_1).f1) ((rd_T25 y389 x11_1).f2) ((rd_T25 y389 x11_1).f3) bt416.1 bt416.2.1 bt416.2.2.1) else (if (bt409.2.2.2 != bt416.2.2.2) = true then (chequerlaw03_RectParts.j1 k1 y389 x11_1 bt416.2.2.2 true t372 t373 t374 t378 t379 t380 ((rd_T25 y389 x11_1).f0) ((rd_T25 y389 x11_1).f1) ((rd_T25 y389 x11_1).f2) ((rd_T25 y389 x11_1).f3) bt416.1 bt416.2.1 bt416.2.2.1) else ((chequerlaw03_as.f bt409.1 bt409.2.1 bt409.2.2.1).bind fun bt423 => ((chequerref03_Same.f k1 bt423.1 bt423.2.1 bt423.2.2 bt416.1 bt416.2.1 bt416.2.2.1).bind fun t428 => (if t428 = true then ((chequerlaw03_of.f t372 t373 t374).bind fun bt429 => ((chequerlaw03_of.f t378 t379 t380).bind fun bt434 => ((rect_Matrix_Has.f k1 bt429.1 bt429.2.1 bt429.2.2 bt434.1 bt434.2.1 bt434.2.2 ((rd_T25 y389 x11_1).f0) ((rd_T25 y389 x11_1).f1)).bind fun t439 => ((chequerref03_Has.f k1 t372 t373 t374 t378 t379 t380 ((rd_T25 y389 x11_1).f0) ((rd_T25 y389 x11_1).f1)).bind fun t440 => (chequerlaw03_RectParts.j1 k1 y389 x11_1 bt416.2.2.2 (t439 != t440) t372 t373 t374 t378 t379 t380 ((rd_T25 y389 x11_1).f0) ((rd_T25 y389 x11_1).f1) ((rd_T25 y389 x11_1).f2) ((rd_T25 y389 x11_1).f3) bt416.1 bt416.2.1 bt416.2.2.1))))) else (chequerlaw03_RectParts.j1 k1 y389 x11_1 bt416.2.2.2 true t372 t373 t374 t378 t379 t380 ((rd_T25 y389 x11_1).f0) ((rd_T25 y389 x11_1).f1) ((rd_T25 y389 x11_1).f2) ((rd_T25 y389 x11_1).f3) bt416.1 bt416.2.1 bt416.2.2.1)))))) else (chequerlaw03_RectParts.j1 k1 y389 x11_1 bt416.2.2.2 true t372 t373 t374 t378 t379 t380 ((rd_T25 y389 x11_1).f0) ((rd_T25 y389 x11_1).f1) ((rd_T25 y389 x11_1).f2) ((rd_T25 y389 x11_1).f3) bt416.1 bt416.2.1 bt416.2.2.1))))))) = some r := H
         have A48 := Aside0.mk A480
         clear A480
         replace H := Option.bind_eq_some_iff.mp H
         obtain ⟨⟨t400, t401⟩, A490, H⟩ := H
         replace H : ((chequerref03_At.f t372 t373 t374 ((rd_T25 y389 x11_1).f0) ((rd_T25 y389 x11_1).f1)).bind fun bt402 => ((chequerlaw03_of.f t372 t373 t374).bind fun bt404 => ((rect_Matrix_Sub.f k1 bt404.1 bt404.2.1 bt404.2.2 ((rd_T25 y389 x11_1).f0) ((rd_T25 y389 x11_1).f1) ((rd_T25 y389 x11_1).f2) ((rd_T25 y389 x11_1).f3)).bind fun bt409 => ((chequerref03_Sub.f k1 t372 t373 t374 ((rd_T25 y389 x11_1).f0) ((rd_T25 y389 x11_1).f1) ((rd_T25 y389 x11_1).f2) ((rd_T25 y389 x11_1).f3)).bind fun bt416 => (if t400 = bt402.1 then (if (t401 != bt402.2) = true then (chequerlaw03_RectParts.j1 k1 y389 x11_1 bt416.2.2.2 true t372 t373 t374 t378 t379 t380 ((rd_T25 y389 x11_1).f0) ((rd_T25 y389 x11_1).f1) ((rd_T25 y389 x11_1).f2) ((rd_T25 y389 x11_1).f3) bt416.1 bt416.2.1 bt416.2.2.1) else (if (bt409.2.2.2 != bt416.2.2.2) = true then (chequerlaw03_RectParts.j1 k1 y389 x11_1 bt416.2.2.2 true t372 t373 t374 t378 t379 t380 ((rd_T25 y389 x11_1).f0) ((rd_T25 y389 x11_1).f1) ((rd_T25 y389 x11_1).f2) ((rd_T25 y389 x11_1).f3) bt416.1 bt416.2.1 bt416.2.2.1) else ((chequerlaw03_as.f bt409.1 bt409.2.1 bt409.2.2.1).bind fun bt423 => ((chequerref03_Same.f k1 bt423.1 bt423.2.1 bt423.2.2 bt416.1 bt416.2.1 bt416.2.2.1).bind fun t428 => (if t428 = true then ((chequerlaw03_of.f t372 t373 t374).bind fun bt429 => ((chequerlaw03_of.f t378 t379 t380).bind fun bt434 => ((rect_Matrix_Has.f k1 bt429.1 bt429.2.1 bt429.2.2 bt434.1 bt434.2.1 bt434.2.2 ((rd_T25 y389 x11_1).f0) ((rd_T25 y389 x11_1).f1)).bind fun t439 => ((chequerref03_Has.f k1 t372 t373 t374 t378 t379 t380 ((rd_T25 y389 x11_1).f0) ((rd_T25 y389 x11_1).f1)).bind fun t440 => (chequerlaw03_RectParts.j1 k1 y389 x11_1 bt416.2.2.2 (t439 != t440) t372 t373 t374 t378 t379 t380 ((rd_T25 y389 x11_1).f0) ((rd_T25 y389 x11_1).f1) ((rd_T25 y389 x11_1).f2) ((rd_T25 y389 x11_1).f3) bt416.1 bt416.2.1 bt416.2.2.1))))) else (chequerlaw03_RectParts.j1 k1 y389 x11_1 bt416.2.2.2 true t372 t373 t374 t378 t379 t380 ((rd_T25 y389 x11_1).f0) ((rd_T25 y389 x11_1).f1) ((rd_T25 y389 x11_1).f2) ((rd_T25 y389 x11_1).f3) bt416.1 bt416.2.1 bt416.2.2.1)))))) else (chequerlaw03_RectParts.j1 k1 y389 x11_1 bt416.2.2.2 true t372 t373 t374 t378 t379 t380 ((rd_T25 y389 x11_1).f0) ((rd_T25 y389 x11_1).f1) ((rd_T25 y389 x11_1).f2) ((rd_T25 y389 x11_1).f3) bt416.1 bt416.2.1 bt416.2.2.1)))))) = some r := H
         have A49 := Aside0.mk A490
         clear A490
         replace H := Option.bind_eq_some_iff.mp H
         obtain ⟨⟨t402, t403⟩, A500, H⟩ := H
         replace H : ((chequerlaw03_of.f t372 t373 t374).bind fun bt404 => ((rect_Matrix_Sub.f k1 bt404.1 bt404.2.1 bt404.2.2 ((rd_T25 y389 x11_1).f0) ((rd_T25 y389 x11_1).f1) ((rd_T25 y389 x11_1).f2) ((rd_T25 y389 x11_1).f3)).bind fun bt409 => ((chequerref03_Sub.f k1 t372 t373 t374 ((rd_T25 y389 x11_1).f0) ((rd_T25 y389 x11_1).f1) ((rd_T25 y389 x11_1).f2) ((rd_T25 y389 x11_1).f3)).bind fun bt416 => (if t400 = t402 then (if (t401 != t403) = true then (chequerlaw03_RectParts.j1 k1 y389 x11_1 bt416.2.2.2 true t372 t373 t374 t378 t379 t380 ((rd_T25 y389 x11_1).f0) ((rd_T25 y389 x11_1).f1) ((rd_T25 y389 x11_1).f2) ((rd_T25 y389 x11_1).f3) bt416.1 bt416.2.1 bt416.2.2.1) else (if (bt409.2.2.2 != bt416.2.2.2) = true then (chequerlaw03_RectParts.j1 k1 y389 x11_1 bt416.2.2.2 true t372 t373 t374 t378 t379 t380 ((rd_T25 y389 x11_1).f0) ((rd_T25 y389 x11_1).f1) ((rd_T25 y389 x11_1).f2) ((rd_T25 y389 x11_1).f3) bt416.1 bt416.2.1 bt416.2.2.1) else ((chequerlaw03_as.f bt409.1 bt409.2.1 bt409.2.2.1).bind fun bt423 => ((chequerref03_Same.f k1 bt423.1 bt423.2.1 bt423.2.2 bt416.1 bt416.2.1 bt416.2.2.1).bind fun t428 => (if t428 = true then ((chequerlaw03_of.f t372 t373 t374).bind fun bt429 => ((chequerlaw03_of.f t378 t379 t380).bind fun bt434 => ((rect_Matrix_Has.f k1 bt429.1 bt429.2.1 bt429.2.2 bt434.1 bt434.2.1 bt434.2.2 ((rd_T25 y389 x11_1).f0) ((rd_T25 y389 x11_1).f1)).bind fun t439 => ((chequerref03_Has.f k1 t372 t373 t374 t378 t379 t380 ((rd_T25 y389 x11_1).f0) ((rd_T25 y389 x11_1).f1)).bind fun t440 => (chequerlaw03_RectParts.j1 k1 y389 x11_1 bt416.2.2.2 (t439 != t440) t372 t373 t374 t378 t379 t380 ((rd_T25 y389 x11_1).f0) ((rd_T25 y389 x11_1).f1) ((rd_T25 y389 x11_1).f2) ((rd_T25 y389 x11_1).f3) bt416.1 bt416.2.1 bt416.2.2.1))))) else (chequerlaw03_RectParts.j1 k1 y389 x11_1 bt416.2.2.2 true t372 t373 t374 t378 t379 t380 ((rd_T25 y389 x11_1).f0) ((rd_T25 y389 x11_1).f1) ((rd_T25 y389 x11_1).f2) ((rd_T25 y389 x11_1).f3) bt416.1 bt416.2.1 bt416.2.2.1)))))) else (chequerlaw03_RectParts.j1 k1 y389 x11_1 bt416.2.2.2 true t372 t373 t374 t378 t379 t380 ((rd_T25 y389 x11_1).f0) ((rd_T25 y389 x11_1).f1) ((rd_T25 y389 x11_1).f2) ((rd_T25 y389 x11_1).f3) bt416.1 bt416.2.1 bt416.2.2.1))))) = some r := H
         have A50 := Aside0.mk A500
         clear A500
         replace H := Option.bind_eq_some_iff.mp H
         obtain ⟨⟨t404, t405, t406⟩, A510, H⟩ := H
         replace H : ((rect_Matrix_Sub.f k1 t404 t405 t406 ((rd_T25 y389 x11_1).f0) ((rd_T25 y389 x11_1).f1) ((rd_T25 y389 x11_1).f2) ((rd_T25 y389 x11_1).f3)).bind fun bt409 => ((chequerref03_Sub.f k1 t372 t373 t374 ((rd_T25 y389 x11_1).f0) ((rd_T25 y389 x11_1).f1) ((rd_T25 y389 x11_1).f2) ((rd_T25 y389 x11_1).f3)).bind fun bt416 => (if t400 = t402 then (if (t401 != t403) = true then (chequerlaw03_RectParts.j1 k1 y389 x11_1 bt416.2.2.2 true t372 t373 t374 t378 t379 t380 ((rd_T25 y389 x11_1).f0) ((rd_T25 y389 x11_1).f1) ((rd_T25 y389 x11_1).f2) ((rd_T25 y389 x11_1).f3) bt416.1 bt416.2.1 bt416.2.2.1) else (if (bt409.2.2.2 != bt416.2.2.2) = true then (chequerlaw03_RectParts.j1 k1 y389 x11_1 bt416.2.2.2 true t372 t373 t374 t378 t379 t380 ((rd_T25 y389 x11_1).f0) ((rd_T25 y389 x11_1).f1) ((rd_T25 y389 x11_1).f2) ((rd_T25 y389 x11_1).f3) bt416.1 bt416.2.1 bt416.2.2.1) else ((chequerlaw03_as.f bt409.1 bt409.2.1 bt409.2.2.1).bind fun bt423 => ((chequerref03_Same.f k1 bt423.1 bt423.2.1 bt423.2.2 bt416.1 bt416.2.1 bt416.2.2.1).bind fun t428 => (if t428 = true then ((chequerlaw03_of.f t372 t373 t374).bind fun bt429 => ((chequerlaw03_of.f t378 t379 t380).bind fun bt434 => ((rect_Matrix_Has.f k1 bt429.1 bt429.2.1 bt429.2.2 bt434.1 bt434.2.1 bt434.2.2 ((rd_T25 y389 x11_1).f0) ((rd_T25 y389 x11_1).f1)).bind fun t439 => ((chequerref03_Has.f k1 t372 t373 t374 t378 t379 t380 ((rd_T25 y389 x11_1).f0) ((rd_T25 y389 x11_1).f1)).bind fun t440 => (chequerlaw03_RectParts.j1 k1 y389 x11_1 bt416.2.2.2 (t439 != t440) t372 t373 t374 t378 t379 t380 ((rd_T25 y389 x11_1).f0) ((rd_T25 y389 x11_1).f1) ((rd_T25 y389 x11_1).f2) ((rd_T25 y389 x11_1).f3) bt416.1 bt416.2.1 bt416.2.2.1))))) else (chequerlaw03_RectParts.j1 k1 y389 x11_1 bt416.2.2.2 true t372 t373 t374 t378 t379 t380 ((rd_T25 y389 x11_1).f0) ((rd_T25 y389 x11_1).f1) ((rd_T25 y389 x11_1).f2) ((rd_T25 y389 x11_1).f3) bt416.1 bt416.2.1 bt416.2.2.1)))))) else (chequerlaw03_RectParts.j1 k1 y389 x11_1 bt416.2.2.2 true t372 t373 t374 t378 t379 t380 ((rd_T25 y389 x11_1).f0) ((rd_T25 y389 x11_1).f1) ((rd_T25 y389 x11_1).f2) ((rd_T25 y389 x11_1).f3) bt416.1 bt416.2.1 bt416.2.2.1)))) = some r := H
         have A51 := Aside0.mk A510
         clear A510
         replace H := Option.bind_eq_some_iff.mp H
         obtain ⟨⟨t409, t410, t411, t414⟩, A520, H⟩ := H
         replace H : ((chequerref03_Sub.f k1 t372 t373 t374 ((rd_T25 y389 x11_1).f0) ((rd_T25 y389 x11_1).f1) ((rd_T25 y389 x11_1).f2) ((rd_T25 y389 x11_1).f3)).bind fun bt416 => (if t400 = t402 then (if (t401 != t403) = true then (chequerlaw03_RectParts.j1 k1 y389 x11_1 bt416.2.2.2 true t372 t373 t374 t378 t379 t380 ((rd_T25 y389 x11_1).f0) ((rd_T25 y389 x11_1).f1) ((rd_T25 y389 x11_1).f2) ((rd_T25 y389 x11_1).f3) bt416.1 bt416.2.1 bt416.2.2.1) else (if (t414 != bt416.2.2.2) = true then (chequerlaw03_RectParts.j1 k1 y389 x11_1 bt416.2.2.2 true t372 t373 t374 t378 t379 t380 ((rd_T25 y389 x11_1).f0) ((rd_T25 y389 x11_1).f1) ((rd_T25 y389 x11_1).f2) ((rd_T25 y389 x11_1).f3) bt416.1 bt416.2.1 bt416.2.2.1) else ((chequerlaw03_as.f t409 t410 t411).bind fun bt423 => ((chequerref03_Same.f k1 bt423.1 bt423.2.1 bt423.2.2 bt416.1 bt416.2.1 bt416.2.2.1).bind fun t428 => (if t428 = true then ((chequerlaw03_of.f t372 t373 t374).bind fun bt429 => ((chequerlaw03_of.f t378 t379 t380).bind fun bt434 => ((rect_Matrix_Has.f k1 bt429.1 bt429.2.1 bt429.2.2 bt434.1 bt434.2.1 bt434.2.2 ((rd_T25 y389 x11_1).f0) ((rd_T25 y389 x11_1).f1)).bind fun t439 => ((chequerref03_Has.f k1 t372 t373 t374 t378 t379 t380 ((rd_T25 y389 x11_1).f0) ((rd_T25 y389 x11_1).f1)).bind fun t440 => (chequerlaw03_RectParts.j1 k1 y389 x11_1 bt416.2.2.2 (t439 != t440) t372 t373 t374 t378 t379 t380 ((rd_T25 y389 x11_1).f0) ((rd_T25 y389 x11_1).f1) ((rd_T25 y389 x11_1).f2) ((rd_T25 y389 x11_1).f3) bt416.1 bt416.2.1 bt416.2.2.1))))) else (chequerlaw03_RectParts.j1 k1 y389 x11_1 bt416.2.2.2 true t372 t373 t374 t378 t379 t380 ((rd_T25 y389 x11_1).f0) ((rd_T25 y389 x11_1).f1) ((rd_T25 y389 x11_1).f2) ((rd_T25 y389 x11_1).f3) bt416.1 bt416.2.1 bt416.2.2.1)))))) else (chequerlaw03_RectParts.j1 k1 y389 x11_1 bt416.2.2.2 true t372 t373 t374 t378 t379 t380 ((rd_T25 y389 x11_1).f0) ((rd_T25 y389 x11_1).f1) ((rd_T25 y389 x11_1).f2) ((rd_T25 y389 x11_1).f3) bt416.1 bt416.2.1 bt416.2.2.1))) = some r := H
         have A52 := Aside0.mk A520
         clear A520
         replace H := Option.bind_eq_some_iff.mp H
         obtain ⟨⟨t416, t417, t418, t421⟩, A530, H⟩ := H
         replace H : (if t400 = t402 then (if (t401 != t403) = true then (chequerlaw03_RectParts.j1 k1 y389 x11_1 t421 true t372 t373 t374 t378 t379 t380 ((rd_T25 y389 x11_1).f0) ((rd_T25 y389 x11_1).f1) ((rd_T25 y389 x11_1).f2) ((rd_T25 y389 x11_1).f3) t416 t417 t418) else (if (t414 != t421) = true then (chequerlaw03_RectParts.j1 k1 y389 x11_1 t421 true t372 t373 t374 t378 t379 t380 ((rd_T25 y389 x11_1).f0) ((rd_T25 y389 x11_1).f1) ((rd_T25 y389 x11_1).f2) ((rd_T25 y389 x11_1).f3) t416 t417 t418) else ((chequerlaw03_as.f t409 t410 t411).bind fun bt423 => ((chequerref03_Same.f k1 bt423.1 bt423.2.1 bt423.2.2 t416 t417 t418).bind fun t428 => (if t428 = true then ((chequerlaw03_of.f t372 t373 t374).bind fun bt429 => ((chequerlaw03_of.f t378 t379 t380).bind fun bt434 => ((rect_Matrix_Has.f k1 bt429.1 bt429.2.1 bt429.2.2 bt434.1 bt434.2.1 bt434.2.2 ((rd_T25 y389 x11_1).f0) ((rd_T25 y389 x11_1).f1)).bind fun t439 => ((chequerref03_Has.f k1 t372 t373 t374 t378 t379 t380 ((rd_T25 y389 x11_1).f0) ((rd_T25 y389 x11_1).f1)).bind fun t440 => (chequerlaw03_RectParts.j1 k1 y389 x11_1 t421 (t439 != t440) t372 t373 t374 t378 t379 t380 ((rd_T25 y389 x11_1).f0) ((rd_T25 y389 x11_1).f1) ((rd_T25 y389 x11_1).f2) ((rd_T25 y389 x11_1).f3) t416 t417 t418))))) else (chequerlaw03_RectParts.j1 k1 y389 x11_1 t421 true t372 t373 t374 t378 t379 t380 ((rd_T25 y389 x11_1).f0) ((rd_T25 y389 x11_1).f1) ((rd_T25 y389 x11_1).f2) ((rd_T25 y389 x11_1).f3) t416 t417 t418)))))) else (chequerlaw03_RectParts.j1 k1 y389 x11_1 t421 true t372 t373 t374 t378 t379 t380 ((rd_T25 y389 x11_1).f0) ((rd_T25 y389 x11_1).f1) ((rd_T25 y389 x11_1).f2) ((rd_T25 y389 x11_1).f3) t416 t417 t418)) = some r := H
         have A53 := Aside0.mk A530
         clear A530
         have HC54 := Aside0.mk H
         clear H
         obtain ⟨Ao55, co55, eo55⟩ := Kd.R_slice HO_10.out
         subst eo55
         have p393 : 0 ≤ (x11_1 : Int) := of_decide_eq_true (by first | (with_reducible assumption) | assumption)
         have q393 : x11_1 < (y389.length : Int) := of_decide_eq_true (by first | (with_reducible assumption) | assumption)
         obtain ⟨ad393, e393, hx393_0, hx393_1, hx393_2, hx393_3⟩ := at_T25 (Kd.R_reads' HO_10.out).2.2 x11_1 p393 q393
         cases e393
         replace p393 := eq_true p393
         replace q393 := eq_true q393
         try go_wp2_with (first | ((with_reducible refine gate_dst (N := 12) rfl ?_); refine box_event ?hg (N := 12) ?hd (cs := #[.int .i64 0, .int .i64 0, .int .i64 0, .int .i64 0]) (t := 25) ?hr ?_; (case hd => rfl); (case hg => rfl); (case hr => first | (go_simp; done) | (go_simp; rfl)); intro gb394 hg w56 hbox hb; replace HO_10 := Aside0.mk (Kd.R_below (Kd.R_elderB (rp_ HO_10.out) gb394 (Nat.le_of_eq hg.symm)) hb); replace HO_378002 := Aside0.mk (Kd.V_below (Kd.V_elderB (vp_ HO_378002.out) gb394 (Nat.le_of_eq hg.symm)) hb); replace HO_384002 := Aside0.mk (Kd.V_below (Kd.V_elderB (vp_ HO_384002.out) gb394 (Nat.le_of_eq hg.symm)) hb); have BK394 := Aside0.mk (hbox); have GW394 := Aside0.mk ((by rw [hg]; exact (below_size bp_) : w.heap.size ≤ gb394)); have GE394 := Aside0.mk ((by rw [hg]; exact (below_size bp_) : w.heap.size ≤ gb394)); replace HB := Aside0.mk (below_step bp_ hb); have NB371_394 := Aside0.mk ((nlt_ hg (hp_ BK371.out))); have NB394_371 := Aside0.mk ((ngt_ hg (hp_ BK371.out))); replace BK371 := Aside0.mk (blk_below (hp_ BK371.out) hb); have NB377_394 := Aside0.mk ((nlt_ hg (hp_ BK377.out))); have NB394_377 := Aside0.mk ((ngt_ hg (hp_ BK377.out))); replace BK377 := Aside0.mk (blk_below (hp_ BK377.out) hb); have NB383_394 := Aside0.mk ((nlt_ hg (hp_ BK383.out))); have NB394_383 := Aside0.mk ((ngt_ hg (hp_ BK383.out))); replace BK383 := Aside0.mk (blk_below (hp_ BK383.out) hb); have NB388_394 := Aside0.mk ((nlt_ hg (hp_ BK388.out))); have NB394_388 := Aside0.mk ((ngt_ hg (hp_ BK388.out))); replace BK388 := Aside0.mk (blk_below (hp_ BK388.out) hb); clear hb hbox hg; have hnb57 := NB394_371.out; have hnc57 := NB371_394.out; have hnb58 := NB394_377.out; have hnc58 := NB377_394.out; have hnb59 := NB394_383.out; have hnc59 := NB383_394.out; have hnb60 := NB394_388.out; have hnc60 := NB388_394.out; have hcz61_0 : w56.cell? ⟨gb394, 0, none⟩ = some (.int .i64 0) := (blk_cell BK394.out 0).trans rfl; have hcz61_1 : w56.cell? ⟨gb394, 1, none⟩ = some (.int .i64 0) := (blk_cell BK394.out 1).trans rfl; have hcz61_2 : w56.cell? ⟨gb394, 2, none⟩ = some (.int .i64 0) := (blk_cell BK394.out 2).trans rfl; have hcz61_3 : w56.cell? ⟨gb394, 3, none⟩ = some (.int .i64 0) := (blk_cell BK394.out 3).trans rfl; have hfz61_0 := blk_frozen BK394.out 0; have hfz61_1 := blk_frozen BK394.out 1; have hfz61_2 := blk_frozen BK394.out 2; have hfz61_3 := blk_frozen BK394.out 3))
         have n0_ : Aside0 (Kd.R k25 25 ((((w56.setCell ⟨gb394, 0, none⟩ (.int .i64 ((rd_T25 y389 x11_1).f0))).setCell ⟨gb394, 1, none⟩ (.int .i64 ((rd_T25 y389 x11_1).f1))).setCell ⟨gb394, 2, none⟩ (.int .i64 ((rd_T25 y389 x11_1).f2))).setCell ⟨gb394, 3, none⟩ (.int .i64 ((rd_T25 y389 x11_1).f3))) w.heap.size (fun k_ => k_ ≠ gb371 ∧ k_ ≠ gb388 ∧ k_ ≠ gb394) (.slice (some ad393) y389.length co55) y389) := ⟨by (with_reducible repeat (first | apply Kd.R_alloc | apply Kd.R_drewN | apply Kd.R_drew)); exact Kd.R_mono (Kd.R_far (p := ⟨gb394, 3, none⟩) (Kd.R_far (p := ⟨gb394, 2, none⟩) (Kd.R_far (p := ⟨gb394, 1, none⟩) (Kd.R_far (p := ⟨gb394, 0, none⟩) (Kd.R_mono HO_10.out (fun k_ hk => (⟨hk, hk.2⟩ : _ ∧ k_ ≠ gb394))) (fun _ hk => hk.2) (.int .i64 ((rd_T25 y389 x11_1).f0))) (fun _ hk => hk.2) (.int .i64 ((rd_T25 y389 x11_1).f1))) (fun _ hk => hk.2) (.int .i64 ((rd_T25 y389 x11_1).f2))) (fun _ hk => hk.2) (.int .i64 ((rd_T25 y389 x11_1).f3))) (fun _ hk => ⟨hk.1.1.1, ⟨hk.1.1.2, hk.1.2⟩⟩)⟩
         have n1_ : Aside0 (Kd.V (Kd.int .u64) 46 ((((w56.setCell ⟨gb394, 0, none⟩ (.int .i64 ((rd_T25 y389 x11_1).f0))).setCell ⟨gb394, 1, none⟩ (.int .i64 ((rd_T25 y389 x11_1).f1))).setCell ⟨gb394, 2, none⟩ (.int .i64 ((rd_T25 y389 x11_1).f2))).setCell ⟨gb394, 3, none⟩ (.int .i64 ((rd_T25 y389 x11_1).f3))) w.heap.size (fun k_ => some k_ ≠ (.slice (some ad393) y389.length co55 : Value).ownBlock ∧ k_ ≠ gb371 ∧ k_ ≠ gb377 ∧ k_ ≠ gb383 ∧ k_ ≠ gb388 ∧ k_ ≠ gb394) (.slice Ao21 t374.length co21) t374) := ⟨by (with_reducible repeat (first | apply Kd.V_alloc | apply Kd.V_drewN | apply Kd.V_drew)); exact Kd.V_mono (Kd.V_far (p := ⟨gb394, 3, none⟩) (Kd.V_far (p := ⟨gb394, 2, none⟩) (Kd.V_far (p := ⟨gb394, 1, none⟩) (Kd.V_far (p := ⟨gb394, 0, none⟩) (Kd.V_mono HO_378002.out (fun k_ hk => (⟨hk, hk.2⟩ : _ ∧ k_ ≠ gb394))) (fun _ hk => hk.2) (.int .i64 ((rd_T25 y389 x11_1).f0))) (fun _ hk => hk.2) (.int .i64 ((rd_T25 y389 x11_1).f1))) (fun _ hk => hk.2) (.int .i64 ((rd_T25 y389 x11_1).f2))) (fun _ hk => hk.2) (.int .i64 ((rd_T25 y389 x11_1).f3))) (fun _ hk => ⟨hk.1.1.1, ⟨hk.1.1.2.1, ⟨hk.1.1.2.2.1, ⟨hk.1.1.2.2.2.1, ⟨hk.1.1.2.2.2.2, hk.1.2⟩⟩⟩⟩⟩)⟩
         have n2_ : Aside0 (Kd.V (Kd.int .u64) 46 ((((w56.setCell ⟨gb394, 0, none⟩ (.int .i64 ((rd_T25 y389 x11_1).f0))).setCell ⟨gb394, 1, none⟩ (.int .i64 ((rd_T25 y389 x11_1).f1))).setCell ⟨gb394, 2, none⟩ (.int .i64 ((rd_T25 y389 x11_1).f2))).setCell ⟨gb394, 3, none⟩ (.int .i64 ((rd_T25 y389 x11_1).f3))) w.heap.size (fun k_ => some k_ ≠ (.slice (some ad393) y389.length co55 : Value).ownBlock ∧ k_ ≠ gb371 ∧ k_ ≠ gb377 ∧ k_ ≠ gb383 ∧ k_ ≠ gb388 ∧ k_ ≠ gb394) (.slice Ao29 t380.length co29) t380) := ⟨by (with_reducible repeat (first | apply Kd.V_alloc | apply Kd.V_drewN | apply Kd.V_drew)); exact Kd.V_mono (Kd.V_far (p := ⟨gb394, 3, none⟩) (Kd.V_far (p := ⟨gb394, 2, none⟩) (Kd.V_far (p := ⟨gb394, 1, none⟩) (Kd.V_far (p := ⟨gb394, 0, none⟩) (Kd.V_mono HO_384002.out (fun k_ hk => (⟨hk, hk.2⟩ : _ ∧ k_ ≠ gb394))) (fun _ hk => hk.2) (.int .i64 ((rd_T25 y389 x11_1).f0))) (fun _ hk => hk.2) (.int .i64 ((rd_T25 y389 x11_1).f1))) (fun _ hk => hk.2) (.int .i64 ((rd_T25 y389 x11_1).f2))) (fun _ hk => hk.2) (.int .i64 ((rd_T25 y389 x11_1).f3))) (fun _ hk => ⟨hk.1.1.1, ⟨hk.1.1.2.1, ⟨hk.1.1.2.2.1, ⟨hk.1.1.2.2.2.1, ⟨hk.1.1.2.2.2.2, hk.1.2⟩⟩⟩⟩⟩)⟩
         have n3_ : Aside0 (((((w56.setCell ⟨gb394, 0, none⟩ (.int .i64 ((rd_T25 y389 x11_1).f0))).setCell ⟨gb394, 1, none⟩ (.int .i64 ((rd_T25 y389 x11_1).f1))).setCell ⟨gb394, 2, none⟩ (.int .i64 ((rd_T25 y389 x11_1).f2))).setCell ⟨gb394, 3, none⟩ (.int .i64 ((rd_T25 y389 x11_1).f3))).heap[gb371]? = some (.cells #[.int .i64 a2_0, .int .i64 a2_1, .int .i64 a2_2, .int .i64 a2_3] 25 (0, 0))) := ⟨hf_ BK371.out NB371_394.out⟩
         have n4_ : Aside0 (((((w56.setCell ⟨gb394, 0, none⟩ (.int .i64 ((rd_T25 y389 x11_1).f0))).setCell ⟨gb394, 1, none⟩ (.int .i64 ((rd_T25 y389 x11_1).f1))).setCell ⟨gb394, 2, none⟩ (.int .i64 ((rd_T25 y389 x11_1).f2))).setCell ⟨gb394, 3, none⟩ (.int .i64 ((rd_T25 y389 x11_1).f3))).heap[gb377]? = some (.cells #[.int .i64 t372, .int .i64 t373, .slice Ao21 t374.length co21] 24 (0, 0))) := ⟨hf_ BK377.out NB377_394.out⟩
         have n5_ : Aside0 (((((w56.setCell ⟨gb394, 0, none⟩ (.int .i64 ((rd_T25 y389 x11_1).f0))).setCell ⟨gb394, 1, none⟩ (.int .i64 ((rd_T25 y389 x11_1).f1))).setCell ⟨gb394, 2, none⟩ (.int .i64 ((rd_T25 y389 x11_1).f2))).setCell ⟨gb394, 3, none⟩ (.int .i64 ((rd_T25 y389 x11_1).f3))).heap[gb383]? = some (.cells #[.int .i64 t378, .int .i64 t379, .slice Ao29 t380.length co29] 24 (0, 0))) := ⟨hf_ BK383.out NB383_394.out⟩
         have n6_ : Aside0 (((((w56.setCell ⟨gb394, 0, none⟩ (.int .i64 ((rd_T25 y389 x11_1).f0))).setCell ⟨gb394, 1, none⟩ (.int .i64 ((rd_T25 y389 x11_1).f1))).setCell ⟨gb394, 2, none⟩ (.int .i64 ((rd_T25 y389 x11_1).f2))).setCell ⟨gb394, 3, none⟩ (.int .i64 ((rd_T25 y389 x11_1).f3))).heap[gb388]? = some (.cells #[.int .i64 (wrap64 (t384 - 1)), .int .i64 (wrap64 (t385 - 1)), .int .i64 (wrap64 (t386 - 1)), .int .i64 (wrap64 (t387 - 1))] 25 (0, 0))) := ⟨hf_ BK388.out NB388_394.out⟩
         have n7_ : Aside0 (((((w56.setCell ⟨gb394, 0, none⟩ (.int .i64 ((rd_T25 y389 x11_1).f0))).setCell ⟨gb394, 1, none⟩ (.int .i64 ((rd_T25 y389 x11_1).f1))).setCell ⟨gb394, 2, none⟩ (.int .i64 ((rd_T25 y389 x11_1).f2))).setCell ⟨gb394, 3, none⟩ (.int .i64 ((rd_T25 y389 x11_1).f3))).heap[gb394]? = some (.cells #[.int .i64 ((rd_T25 y389 x11_1).f0), .int .i64 ((rd_T25 y389 x11_1).f1), .int .i64 ((rd_T25 y389 x11_1).f2), .int .i64 ((rd_T25 y389 x11_1).f3)] 25 (0, 0))) := ⟨by (with_reducible repeat (first | refine blk_drewN ?_ _ | refine blk_drew ?_ | refine blk_alloc ?_ _)); refine blk_put (cs := #[.int .i64 ((rd_T25 y389 x11_1).f0), .int .i64 ((rd_T25 y389 x11_1).f1), .int .i64 ((rd_T25 y389 x11_1).f2), .int .i64 0]) ?_ 3 _ rfl; (with_reducible repeat (first | refine blk_drewN ?_ _ | refine blk_drew ?_ | refine blk_alloc ?_ _)); refine blk_put (cs := #[.int .i64 ((rd_T25 y389 x11_1).f0), .int .i64 ((rd_T25 y389 x11_1).f1), .int .i64 0, .int .i64 0]) ?_ 2 _ rfl; (with_reducible repeat (first | refine blk_drewN ?_ _ | refine blk_drew ?_ | refine blk_alloc ?_ _)); refine blk_put (cs := #[.int .i64 ((rd_T25 y389 x11_1).f0), .int .i64 0, .int .i64 0, .int .i64 0]) ?_ 1 _ rfl; (with_reducible repeat (first | refine blk_drewN ?_ _ | refine blk_drew ?_ | refine blk_alloc ?_ _)); refine blk_put (cs := #[.int .i64 0, .int .i64 0, .int .i64 0, .int .i64 0]) ?_ 0 _ rfl; (with_reducible repeat (first | refine blk_drewN ?_ _ | refine blk_drew ?_ | refine blk_alloc ?_ _)); exact BK394.out⟩
         have n8_ : Aside0 (Below w.heap.size w ((((w56.setCell ⟨gb394, 0, none⟩ (.int .i64 ((rd_T25 y389 x11_1).f0))).setCell ⟨gb394, 1, none⟩ (.int .i64 ((rd_T25 y389 x11_1).f1))).setCell ⟨gb394, 2, none⟩ (.int .i64 ((rd_T25 y389 x11_1).f2))).setCell ⟨gb394, 3, none⟩ (.int .i64 ((rd_T25 y389 x11_1).f3)))) := ⟨bp_⟩
         (try clear HO_10)
         (try clear HO_378002)
         (try clear HO_384002)
         (try clear BK371)
         (try clear BK377)
         (try clear BK383)
         (try clear BK388)
         (try clear BK394)
         (try clear HB)
         generalize ((((w56.setCell ⟨gb394, 0, none⟩ (.int .i64 ((rd_T25 y389 x11_1).f0))).setCell ⟨gb394, 1, none⟩ (.int .i64 ((rd_T25 y389 x11_1).f1))).setCell ⟨gb394, 2, none⟩ (.int .i64 ((rd_T25 y389 x11_1).f2))).setCell ⟨gb394, 3, none⟩ (.int .i64 ((rd_T25 y389 x11_1).f3))) = w62 at n0_ n1_ n2_ n3_ n4_ n5_ n6_ n7_ n8_ ⊢
         have HO_10 := n0_
         have HO_378002 := n1_
         have HO_384002 := n2_
         have BK371 := n3_
         have BK377 := n4_
         have BK383 := n5_
         have BK388 := n6_
         have BK394 := n7_
         have HB := n8_
         clear n0_ n1_ n2_ n3_ n4_ n5_ n6_ n7_ n8_
         replace HO_10 := Aside0.mk (Kd.R_drew HO_10.out)
         replace HO_378002 := Aside0.mk (Kd.V_drew HO_378002.out)
         replace HO_384002 := Aside0.mk (Kd.V_drew HO_384002.out)
         replace BK371 := Aside0.mk (blk_drew BK371.out)
         replace BK377 := Aside0.mk (blk_drew BK377.out)
         replace BK383 := Aside0.mk (blk_drew BK383.out)
         replace BK388 := Aside0.mk (blk_drew BK388.out)
         replace BK394 := Aside0.mk (blk_drew BK394.out)
         replace HB := Aside0.mk (below_drew1 HB.out)
         refine start_ (n := 12) (S := fun w' => w'.cell? ⟨gb377, 0, none⟩ = some (.int .i64 t372) ∧ w'.cell? ⟨gb377, 1, none⟩ = some (.int .i64 t373) ∧ w'.cell? ⟨gb377, 2, none⟩ = some (.slice Ao21 t374.length co21) ∧ w'.cell? ⟨gb394, 0, none⟩ = some (.int .i64 ((rd_T25 y389 x11_1).f0)) ∧ w'.cell? ⟨gb394, 1, none⟩ = some (.int .i64 ((rd_T25 y389 x11_1).f1)) ∧ w'.cell? ⟨gb394, 2, none⟩ = some (.int .i64 ((rd_T25 y389 x11_1).f2)) ∧ w'.cell? ⟨gb394, 3, none⟩ = some (.int .i64 ((rd_T25 y389 x11_1).f3))) (ds := []) #[false, false, false, false, false, false, false, false, false, false, false, false] (by kernel_rfl) rfl rfl ⟨(blk_cell BK377.out 0).trans rfl, (blk_cell BK377.out 1).trans rfl, (blk_cell BK377.out 2).trans rfl, (blk_cell BK394.out 0).trans rfl, (blk_cell BK394.out 1).trans rfl, (blk_cell BK394.out 2).trans rfl, (blk_cell BK394.out 3).trans rfl⟩ (fun hHeld => ?_); refine with_tabW chequerlaw03_RectParts.tab9 chequerlaw03_RectParts.bits9 (fun HT_ HW_ => ?_)
         generalize w62.drew = w63 at HO_10 HO_378002 HO_384002 BK371 BK377 BK383 BK388 BK394 HB hHeld ⊢
         refine pur_ (i := 2) (N := some 56) #[false, false, true, false, false, false, false, false, false, false, false, false] (any_of HT_.out (by kernel_rfl)) ?_
         refine pur_ (i := 4) (N := some 58) #[false, false, true, false, true, false, false, false, false, false, false, false] (any_of HT_.out (by kernel_rfl)) ?_
         refine take_ (i := 0) (N := some 54) (v := ?_) (a' := ?_) #[true, false, true, false, true, false, false, false, false, false, false, false] rfl rfl (take_ofW HT_.out HW_.out (by kernel_rfl)) (fun _ _ _ h => h) (Or.inl ⟨by rfl, ?_⟩) hHeld ?_ ?_
         rotate_left
         · rintro w' ⟨s0, s1, s2, s3, s4, s5, s6⟩
           go_simp
           with_reducible rfl
         rotate_left
         · simp only [Act.put, List.setIfInBounds_toArray, List.set_cons_zero, List.set_cons_succ, i64_w, i32_w]
           rfl
         refine take_ (i := 3) (N := some 57) (v := ?_) (a' := ?_) #[true, false, true, true, true, false, false, false, false, false, false, false] rfl rfl (take_ofW HT_.out HW_.out (by kernel_rfl)) (fun _ _ _ h => h) (Or.inl ⟨by rfl, ?_⟩) hHeld ?_ ?_
         rotate_left
         · rintro w' ⟨s0, s1, s2, s3, s4, s5, s6⟩
           go_simp
           with_reducible rfl
         rotate_left
         · simp only [Act.put, List.setIfInBounds_toArray, List.set_cons_zero, List.set_cons_succ, i64_w, i32_w]
           rfl
         refine take_ (i := 5) (N := some 59) (v := ?_) (a' := ?_) #[true, false, true, true, true, true, false, false, false, false, false, false] rfl rfl (take_ofW HT_.out HW_.out (by kernel_rfl)) (fun _ _ _ h => h) (Or.inl ⟨by rfl, ?_⟩) hHeld ?_ ?_
         rotate_left
         · rintro w' ⟨s0, s1, s2, s3, s4, s5, s6⟩
           go_simp
           with_reducible rfl
         rotate_left
         · simp only [Act.put, List.setIfInBounds_toArray, List.set_cons_zero, List.set_cons_succ, i64_w, i32_w]
           rfl
         refine one_ (i := 1) (N := some 55) #[true, true, true, true, true, true, false, false, false, false, false, false] rfl rfl (one_of HT_.out (by kernel_rfl)) (by decide) (fun K hK => ?_)
         refine goes_ Try.func13 (by kernel_rfl) rfl #[.agg #[.int .i64 t372, .int .i64 t373, .slice Ao21 t374.length co21]] (by rfl) rfl rfl (by (try simp only [List.map_toArray, List.map_cons, List.map_nil]); first | done | rfl | (simp only [List.length_drop, List.length_take]; rfl)) ?_
         with_reducible refine (chequerlaw03_of.calls t372 t373 (fun k_ => (some k_ ≠ (.slice (some ad393) y389.length co55 : Value).ownBlock ∧ (k_ ≠ gb371 ∧ (k_ ≠ gb377 ∧ (k_ ≠ gb383 ∧ (k_ ≠ gb388 ∧ k_ ≠ gb394)))))) _ _ t374 t395 t396 t397 _ ?side1 A48.out).mono ?_
         (case side1 => exact HO_378002.out)
         rintro e w64 ⟨v398, rfl, ho0, hb⟩
         refine ⟨_, rfl, ?_⟩
         replace HO_378002 := Aside0.mk (Kd.V_below (vp_ HO_378002.out) hb)
         replace HO_384002 := Aside0.mk (Kd.V_below (vp_ HO_384002.out) hb)
         have HO399 := Aside0.mk (Kd.V_lower (Kd.V_mono (ok' := fun k_ => some k_ ≠ (.slice (some ad393) y389.length co55 : Value).ownBlock ∧ k_ ≠ gb371 ∧ k_ ≠ gb377 ∧ k_ ≠ gb383 ∧ k_ ≠ gb388 ∧ k_ ≠ gb394) ho0 (fun k_ hk_ => ⟨Or.elim hk_ (fun hs_ => hs_.1) (fun hn_ => (Kd.fresh' (Kd.R_lt (rp_ HO_10.out)) k_ hn_)), Or.elim hk_ (fun hs_ => hs_.2.1) (fun hn_ => (Kd.freshB (g := gb371) (o := .cells #[.int .i64 a2_0, .int .i64 a2_1, .int .i64 a2_2, .int .i64 a2_3] 25 (0, 0)) (hp_ BK371.out) k_ hn_)), Or.elim hk_ (fun hs_ => hs_.2.2.1) (fun hn_ => (Kd.freshB (g := gb377) (o := .cells #[.int .i64 t372, .int .i64 t373, .slice Ao21 t374.length co21] 24 (0, 0)) (hp_ BK377.out) k_ hn_)), Or.elim hk_ (fun hs_ => hs_.2.2.2.1) (fun hn_ => (Kd.freshB (g := gb383) (o := .cells #[.int .i64 t378, .int .i64 t379, .slice Ao29 t380.length co29] 24 (0, 0)) (hp_ BK383.out) k_ hn_)), Or.elim hk_ (fun hs_ => hs_.2.2.2.2.1) (fun hn_ => (Kd.freshB (g := gb388) (o := .cells #[.int .i64 (wrap64 (t384 - 1)), .int .i64 (wrap64 (t385 - 1)), .int .i64 (wrap64 (t386 - 1)), .int .i64 (wrap64 (t387 - 1))] 25 (0, 0)) (hp_ BK388.out) k_ hn_)), Or.elim hk_ (fun hs_ => hs_.2.2.2.2.2) (fun hn_ => (Kd.freshB (g := gb394) (o := .cells #[.int .i64 ((rd_T25 y389 x11_1).f0), .int .i64 ((rd_T25 y389 x11_1).f1), .int .i64 ((rd_T25 y389 x11_1).f2), .int .i64 ((rd_T25 y389 x11_1).f3)] 25 (0, 0)) (hp_ BK394.out) k_ hn_))⟩)) (below_size bp_))
         replace HO_10 := Aside0.mk (Kd.R_below (rp_ HO_10.out) hb)
         replace BK371 := Aside0.mk (blk_below (hp_ BK371.out) hb)
         replace BK377 := Aside0.mk (blk_below (hp_ BK377.out) hb)
         replace BK383 := Aside0.mk (blk_below (hp_ BK383.out) hb)
         replace BK388 := Aside0.mk (blk_below (hp_ BK388.out) hb)
         replace BK394 := Aside0.mk (blk_below (hp_ BK394.out) hb)
         replace HB := Aside0.mk (below_step bp_ hb)
         (try clear hb)
         (try clear hb2)
         (try clear hk)
         (try clear hi)
         (try clear ho0)
         obtain ⟨Ao65, co65, eo65⟩ := Kd.V_slice HO399.out
         (first | subst eo65 | (injection eo65 with f1_ f2_ f3_; have f4_ := f1_.symm; have f5_ := f3_.symm; clear f1_ f2_ f3_; subst f4_; subst f5_))
         refine hK.out _ _ ⟨(blk_cell BK377.out 0).trans rfl, (blk_cell BK377.out 1).trans rfl, (blk_cell BK377.out 2).trans rfl, (blk_cell BK394.out 0).trans rfl, (blk_cell BK394.out 1).trans rfl, (blk_cell BK394.out 2).trans rfl, (blk_cell BK394.out 3).trans rfl⟩ (fun hHeld => ?_)
         clear hK K
         refine norm_ (a' := ?_) ?_ ?_
         rotate_left
         · show Act.put _ (some 55) _ = _
           simp only [Act.put, List.setIfInBounds_toArray, List.set_cons_zero, List.set_cons_succ, i64_w, i32_w]
           rfl
         refine one_ (i := 6) (N := some 60) #[true, true, true, true, true, true, true, false, false, false, false, false] rfl rfl (one_of HT_.out (by kernel_rfl)) (by decide) (fun K hK => ?_)
         refine goes_ Try.func24 (by kernel_rfl) rfl #[.agg #[.int .i64 t395, .int .i64 t396, .slice Ao65 t397.length co65], .int .i64 ((rd_T25 y389 x11_1).f0), .int .i64 ((rd_T25 y389 x11_1).f1)] (by rfl) rfl rfl (by (try simp only [List.map_toArray, List.map_cons, List.map_nil]); first | done | rfl | (simp only [List.length_drop, List.length_take]; rfl)) ?_
         with_reducible refine (rect_Matrix_At.calls t395 t396 _ _ t397 ((rd_T25 y389 x11_1).f0) ((rd_T25 y389 x11_1).f1) t400 t401 _ ?side1 ?side2 A49.out).mono ?_
         (case side1 => exact cp_ (Kd.V_reads' HO399.out).2.2)
         (case side2 => exact (Kd.V_reads' HO399.out).2.1)
         rintro e w66 ⟨rfl, hb⟩
         refine ⟨_, rfl, ?_⟩
         replace HO_10 := Aside0.mk (Kd.R_below (rp_ HO_10.out) hb)
         replace HO_378002 := Aside0.mk (Kd.V_below (vp_ HO_378002.out) hb)
         replace HO_384002 := Aside0.mk (Kd.V_below (vp_ HO_384002.out) hb)
         replace HO399 := Aside0.mk (Kd.V_below (vp_ HO399.out) hb)
         replace BK371 := Aside0.mk (blk_below (hp_ BK371.out) hb)
         replace BK377 := Aside0.mk (blk_below (hp_ BK377.out) hb)
         replace BK383 := Aside0.mk (blk_below (hp_ BK383.out) hb)
         replace BK388 := Aside0.mk (blk_below (hp_ BK388.out) hb)
         replace BK394 := Aside0.mk (blk_below (hp_ BK394.out) hb)
         replace HB := Aside0.mk (below_step bp_ hb)
         (try clear hb)
         (try clear hb2)
         (try clear hk)
         (try clear hi)
         refine hK.out _ _ ⟨(blk_cell BK377.out 0).trans rfl, (blk_cell BK377.out 1).trans rfl, (blk_cell BK377.out 2).trans rfl, (blk_cell BK394.out 0).trans rfl, (blk_cell BK394.out 1).trans rfl, (blk_cell BK394.out 2).trans rfl, (blk_cell BK394.out 3).trans rfl⟩ (fun hHeld => ?_)
         clear hK K
         refine norm_ (a' := ?_) ?_ ?_
         rotate_left
         · show Act.put _ (some 60) _ = _
           simp only [Act.put, List.setIfInBounds_toArray, List.set_cons_zero, List.set_cons_succ, i64_w, i32_w]
           rfl
         refine pur_ (i := 7) (N := some 53) #[true, true, true, true, true, true, true, true, false, false, false, false] (any_of HT_.out (by kernel_rfl)) ?_
         refine pur_ (i := 8) (N := some 61) #[true, true, true, true, true, true, true, true, true, false, false, false] (any_of HT_.out (by kernel_rfl)) ?_
         refine pur_ (i := 9) (N := some 62) #[true, true, true, true, true, true, true, true, true, true, false, false] (any_of HT_.out (by kernel_rfl)) ?_
         refine pur_ (i := 10) (N := some 13) #[true, true, true, true, true, true, true, true, true, true, true, false] (any_of HT_.out (by kernel_rfl)) ?_
         refine pur_ (i := 11) (N := some 14) #[true, true, true, true, true, true, true, true, true, true, true, true] (any_of HT_.out (by kernel_rfl)) ?_
         refine done_ (done_of HT_.out (by kernel_rfl)) ?_
         have hnb67 := NB377_371.out
         have hnc67 := NB371_377.out
         have hnb68 := NB377_383.out
         have hnc68 := NB383_377.out
         have hnb69 := NB377_388.out
         have hnc69 := NB388_377.out
         have hcz70_0 : w66.cell? ⟨gb377, 0, none⟩ = some (.int .i64 t372) := (blk_cell BK377.out 0).trans rfl
         have hcz70_1 : w66.cell? ⟨gb377, 1, none⟩ = some (.int .i64 t373) := (blk_cell BK377.out 1).trans rfl
         have hcz70_2 : w66.cell? ⟨gb377, 2, none⟩ = some (.slice Ao21 t374.length co21) := (blk_cell BK377.out 2).trans rfl
         have hfz70_0 := blk_frozen BK377.out 0
         have hfz70_1 := blk_frozen BK377.out 1
         have hfz70_2 := blk_frozen BK377.out 2
         have hcz71_0 : w66.cell? ⟨gb394, 0, none⟩ = some (.int .i64 ((rd_T25 y389 x11_1).f0)) := (blk_cell BK394.out 0).trans rfl
         have hcz71_1 : w66.cell? ⟨gb394, 1, none⟩ = some (.int .i64 ((rd_T25 y389 x11_1).f1)) := (blk_cell BK394.out 1).trans rfl
         have hcz71_2 : w66.cell? ⟨gb394, 2, none⟩ = some (.int .i64 ((rd_T25 y389 x11_1).f2)) := (blk_cell BK394.out 2).trans rfl
         have hcz71_3 : w66.cell? ⟨gb394, 3, none⟩ = some (.int .i64 ((rd_T25 y389 x11_1).f3)) := (blk_cell BK394.out 3).trans rfl
         have hfz71_0 := blk_frozen BK394.out 0
         have hfz71_1 := blk_frozen BK394.out 1
         have hfz71_2 := blk_frozen BK394.out 2
         have hfz71_3 := blk_frozen BK394.out 3
         try go_wp2_with (first | ((with_reducible refine gate_callee (f := 25) rfl ?_); refine goQ_ (some 69) Try.func25 #[.agg #[.int .i64 t372, .int .i64 t373, .slice Ao21 t374.length co21], .int .i64 ((rd_T25 y389 x11_1).f0), .int .i64 ((rd_T25 y389 x11_1).f1)] ?_; (with_reducible refine (chequerref03_At.calls t372 t373 _ _ t374 ((rd_T25 y389 x11_1).f0) ((rd_T25 y389 x11_1).f1) t402 t403 _ ?side1 ?side2 A50.out).mono ?_); (case side1 => exact cp_ (Kd.V_reads' HO_378002.out).2.2); (case side2 => exact (Kd.V_reads' HO_378002.out).2.1); rintro e w72 ⟨rfl, hb⟩; refine ⟨_, rfl, ?_⟩; replace HO_10 := Aside0.mk (Kd.R_below (rp_ HO_10.out) hb); replace HO_378002 := Aside0.mk (Kd.V_below (vp_ HO_378002.out) hb); replace HO_384002 := Aside0.mk (Kd.V_below (vp_ HO_384002.out) hb); replace HO399 := Aside0.mk (Kd.V_below (vp_ HO399.out) hb); replace BK371 := Aside0.mk (blk_below (hp_ BK371.out) hb); replace BK377 := Aside0.mk (blk_below (hp_ BK377.out) hb); replace BK383 := Aside0.mk (blk_below (hp_ BK383.out) hb); replace BK388 := Aside0.mk (blk_below (hp_ BK388.out) hb); replace BK394 := Aside0.mk (blk_below (hp_ BK394.out) hb); replace HB := Aside0.mk (below_step bp_ hb); (try clear hb); (try clear hb2); (try clear hk); (try clear hi)))
         replace HO_10 := Aside0.mk (Kd.R_drew HO_10.out)
         replace HO_378002 := Aside0.mk (Kd.V_drew HO_378002.out)
         replace HO_384002 := Aside0.mk (Kd.V_drew HO_384002.out)
         replace HO399 := Aside0.mk (Kd.V_drew HO399.out)
         replace BK371 := Aside0.mk (blk_drew BK371.out)
         replace BK377 := Aside0.mk (blk_drew BK377.out)
         replace BK383 := Aside0.mk (blk_drew BK383.out)
         replace BK388 := Aside0.mk (blk_drew BK388.out)
         replace BK394 := Aside0.mk (blk_drew BK394.out)
         replace HB := Aside0.mk (below_drew1 HB.out)
         refine start_ (n := 17) (S := fun w' => w'.cell? ⟨gb377, 0, none⟩ = some (.int .i64 t372) ∧ w'.cell? ⟨gb377, 1, none⟩ = some (.int .i64 t373) ∧ w'.cell? ⟨gb377, 2, none⟩ = some (.slice Ao21 t374.length co21) ∧ w'.cell? ⟨gb394, 0, none⟩ = some (.int .i64 ((rd_T25 y389 x11_1).f0)) ∧ w'.cell? ⟨gb394, 1, none⟩ = some (.int .i64 ((rd_T25 y389 x11_1).f1)) ∧ w'.cell? ⟨gb394, 2, none⟩ = some (.int .i64 ((rd_T25 y389 x11_1).f2)) ∧ w'.cell? ⟨gb394, 3, none⟩ = some (.int .i64 ((rd_T25 y389 x11_1).f3))) (ds := []) #[false, false, false, false, false, false, false, false, false, false, false, false, false, false, false, false, false] (by kernel_rfl) rfl rfl ⟨(blk_cell BK377.out 0).trans rfl, (blk_cell BK377.out 1).trans rfl, (blk_cell BK377.out 2).trans rfl, (blk_cell BK394.out 0).trans rfl, (blk_cell BK394.out 1).trans rfl, (blk_cell BK394.out 2).trans rfl, (blk_cell BK394.out 3).trans rfl⟩ (fun hHeld => ?_); refine with_tabW chequerlaw03_RectParts.tab11 chequerlaw03_RectParts.bits11 (fun HT_ HW_ => ?_)
         generalize w72.drew = w73 at HO_10 HO_378002 HO_384002 HO399 BK371 BK377 BK383 BK388 BK394 HB hHeld ⊢
         refine pur_ (i := 2) (N := some 75) #[false, false, true, false, false, false, false, false, false, false, false, false, false, false, false, false, false] (any_of HT_.out (by kernel_rfl)) ?_
         refine pur_ (i := 4) (N := some 77) #[false, false, true, false, true, false, false, false, false, false, false, false, false, false, false, false, false] (any_of HT_.out (by kernel_rfl)) ?_
         refine pur_ (i := 6) (N := some 79) #[false, false, true, false, true, false, true, false, false, false, false, false, false, false, false, false, false] (any_of HT_.out (by kernel_rfl)) ?_
         refine pur_ (i := 8) (N := some 81) #[false, false, true, false, true, false, true, false, true, false, false, false, false, false, false, false, false] (any_of HT_.out (by kernel_rfl)) ?_
         refine take_ (i := 0) (N := some 73) (v := ?_) (a' := ?_) #[true, false, true, false, true, false, true, false, true, false, false, false, false, false, false, false, false] rfl rfl (take_ofW HT_.out HW_.out (by kernel_rfl)) (fun _ _ _ h => h) (Or.inl ⟨by rfl, ?_⟩) hHeld ?_ ?_
         rotate_left
         · rintro w' ⟨s0, s1, s2, s3, s4, s5, s6⟩
           go_simp
           with_reducible rfl
         rotate_left
         · simp only [Act.put, List.setIfInBounds_toArray, List.set_cons_zero, List.set_cons_succ, i64_w, i32_w]
           rfl
         refine take_ (i := 3) (N := some 76) (v := ?_) (a' := ?_) #[true, false, true, true, true, false, true, false, true, false, false, false, false, false, false, false, false] rfl rfl (take_ofW HT_.out HW_.out (by kernel_rfl)) (fun _ _ _ h => h) (Or.inl ⟨by rfl, ?_⟩) hHeld ?_ ?_
         rotate_left
         · rintro w' ⟨s0, s1, s2, s3, s4, s5, s6⟩
           go_simp
           with_reducible rfl
         rotate_left
         · simp only [Act.put, List.setIfInBounds_toArray, List.set_cons_zero, List.set_cons_succ, i64_w, i32_w]
           rfl
         refine take_ (i := 5) (N := some 78) (v := ?_) (a' := ?_) #[true, false, true, true, true, true, true, false, true, false, false, false, false, false, false, false, false] rfl rfl (take_ofW HT_.out HW_.out (by kernel_rfl)) (fun _ _ _ h => h) (Or.inl ⟨by rfl, ?_⟩) hHeld ?_ ?_
         rotate_left
         · rintro w' ⟨s0, s1, s2, s3, s4, s5, s6⟩
           go_simp
           with_reducible rfl
         rotate_left
         · simp only [Act.put, List.setIfInBounds_toArray, List.set_cons_zero, List.set_cons_succ, i64_w, i32_w]
           rfl
         refine take_ (i := 7) (N := some 80) (v := ?_) (a' := ?_) #[true, false, true, true, true, true, true, true, true, false, false, false, false, false, false, false, false] rfl rfl (take_ofW HT_.out HW_.out (by kernel_rfl)) (fun _ _ _ h => h) (Or.inl ⟨by rfl, ?_⟩) hHeld ?_ ?_
         rotate_left
         · rintro w' ⟨s0, s1, s2, s3, s4, s5, s6⟩
           go_simp
           with_reducible rfl
         rotate_left
         · simp only [Act.put, List.setIfInBounds_toArray, List.set_cons_zero, List.set_cons_succ, i64_w, i32_w]
           rfl
         refine take_ (i := 9) (N := some 82) (v := ?_) (a' := ?_) #[true, false, true, true, true, true, true, true, true, true, false, false, false, false, false, false, false] rfl rfl (take_ofW HT_.out HW_.out (by kernel_rfl)) (fun _ _ _ h => h) (Or.inl ⟨by rfl, ?_⟩) hHeld ?_ ?_
         rotate_left
         · rintro w' ⟨s0, s1, s2, s3, s4, s5, s6⟩
           go_simp
           with_reducible rfl
         rotate_left
         · simp only [Act.put, List.setIfInBounds_toArray, List.set_cons_zero, List.set_cons_succ, i64_w, i32_w]
           rfl
         refine join_ (σ := Value × Value × Nat) 2 Fl123 (fun s_ => [(74, .agg #[.int .i64 t404, .int .i64 t405, s_.1]), (83, .tuple #[.agg #[.int .i64 t409, .int .i64 t410, s_.2.1], .bool t414]), (17, .pointer (some ⟨s_.2.2, 0, none⟩)), (72, .tuple #[.agg #[.int .i64 t409, .int .i64 t410, s_.2.1], .bool t414]), (84, .agg #[.int .i64 t409, .int .i64 t410, s_.2.1]), (85, .bool t414)]) (fun s_ w' => (w'.cell? ⟨gb377, 0, none⟩ = some (.int .i64 t372) ∧ w'.cell? ⟨gb377, 1, none⟩ = some (.int .i64 t373) ∧ w'.cell? ⟨gb377, 2, none⟩ = some (.slice Ao21 t374.length co21) ∧ w'.cell? ⟨gb394, 0, none⟩ = some (.int .i64 ((rd_T25 y389 x11_1).f0)) ∧ w'.cell? ⟨gb394, 1, none⟩ = some (.int .i64 ((rd_T25 y389 x11_1).f1)) ∧ w'.cell? ⟨gb394, 2, none⟩ = some (.int .i64 ((rd_T25 y389 x11_1).f2)) ∧ w'.cell? ⟨gb394, 3, none⟩ = some (.int .i64 ((rd_T25 y389 x11_1).f3))) ∧ (Kd.V (Kd.int .u64) 46 w' w.heap.size (fun k_ => some k_ ≠ (s_.2.1 : Value).ownBlock ∧ some k_ ≠ (.slice (some ad393) y389.length co55 : Value).ownBlock ∧ k_ ≠ gb371 ∧ k_ ≠ gb377 ∧ k_ ≠ gb383 ∧ k_ ≠ gb388 ∧ k_ ≠ gb394 ∧ k_ ≠ s_.2.2) (.slice Ao65 t397.length co65) t397) ∧ (Kd.V (Kd.int .u64) 46 w' w.heap.size (fun k_ => some k_ ≠ (s_.2.1 : Value).ownBlock ∧ some k_ ≠ (.slice (some ad393) y389.length co55 : Value).ownBlock ∧ k_ ≠ gb371 ∧ k_ ≠ gb377 ∧ k_ ≠ gb383 ∧ k_ ≠ gb388 ∧ k_ ≠ gb394 ∧ k_ ≠ s_.2.2) s_.1 t406) ∧ (Kd.R (Kd.int .u64) 46 w' w.heap.size (fun _ => True) s_.2.1 t411) ∧ (Kd.R k25 25 w' w.heap.size (fun k_ => k_ ≠ gb371 ∧ k_ ≠ gb388 ∧ k_ ≠ gb394) (.slice (some ad393) y389.length co55) y389) ∧ (Kd.V (Kd.int .u64) 46 w' w.heap.size (fun k_ => some k_ ≠ (s_.2.1 : Value).ownBlock ∧ some k_ ≠ (.slice (some ad393) y389.length co55 : Value).ownBlock ∧ k_ ≠ gb371 ∧ k_ ≠ gb377 ∧ k_ ≠ gb383 ∧ k_ ≠ gb388 ∧ k_ ≠ gb394 ∧ k_ ≠ s_.2.2) (.slice Ao21 t374.length co21) t374) ∧ (Kd.V (Kd.int .u64) 46 w' w.heap.size (fun k_ => some k_ ≠ (s_.2.1 : Value).ownBlock ∧ some k_ ≠ (.slice (some ad393) y389.length co55 : Value).ownBlock ∧ k_ ≠ gb371 ∧ k_ ≠ gb377 ∧ k_ ≠ gb383 ∧ k_ ≠ gb388 ∧ k_ ≠ gb394 ∧ k_ ≠ s_.2.2) (.slice Ao29 t380.length co29) t380) ∧ (w'.heap[gb371]? = some (.cells #[.int .i64 a2_0, .int .i64 a2_1, .int .i64 a2_2, .int .i64 a2_3] 25 (0, 0))) ∧ (w'.heap[gb377]? = some (.cells #[.int .i64 t372, .int .i64 t373, .slice Ao21 t374.length co21] 24 (0, 0))) ∧ (w'.heap[gb383]? = some (.cells #[.int .i64 t378, .int .i64 t379, .slice Ao29 t380.length co29] 24 (0, 0))) ∧ (w'.heap[gb388]? = some (.cells #[.int .i64 (wrap64 (t384 - 1)), .int .i64 (wrap64 (t385 - 1)), .int .i64 (wrap64 (t386 - 1)), .int .i64 (wrap64 (t387 - 1))] 25 (0, 0))) ∧ (w'.heap[gb394]? = some (.cells #[.int .i64 ((rd_T25 y389 x11_1).f0), .int .i64 ((rd_T25 y389 x11_1).f1), .int .i64 ((rd_T25 y389 x11_1).f2), .int .i64 ((rd_T25 y389 x11_1).f3)] 25 (0, 0))) ∧ (w'.heap[s_.2.2]? = some (.cells #[.int .i64 0, .int .i64 0, .slice none 0 0] 32 (0, 0))) ∧ (w.heap.size ≤ s_.2.2) ∧ (w.heap.size ≤ s_.2.2) ∧ (gb371 ≠ s_.2.2) ∧ (s_.2.2 ≠ gb371) ∧ (gb377 ≠ s_.2.2) ∧ (s_.2.2 ≠ gb377) ∧ (gb383 ≠ s_.2.2) ∧ (s_.2.2 ≠ gb383) ∧ (gb388 ≠ s_.2.2) ∧ (s_.2.2 ≠ gb388) ∧ (gb394 ≠ s_.2.2) ∧ (s_.2.2 ≠ gb394) ∧ (Below w.heap.size w w')) ?_ ?_
         rotate_left
         · intro hCont
           refine two_ (i := 1) (j := 14) (Ni := some 74) (Nj := some 17) #[true, true, true, true, true, true, true, true, true, true, false, false, false, false, false, false, false] #[true, false, true, true, true, true, true, true, true, true, false, false, false, false, true, false, false] rfl rfl rfl rfl (two_of HT_.out (by kernel_rfl)) (by decide) (by decide) (fun K hK => ?_) (fun K hK => ?_)
           · skip
             refine goes_ Try.func13 (by kernel_rfl) rfl #[.agg #[.int .i64 t372, .int .i64 t373, .slice Ao21 t374.length co21]] (by rfl) rfl rfl (by (try simp only [List.map_toArray, List.map_cons, List.map_nil]); first | done | rfl | (simp only [List.length_drop, List.length_take]; rfl)) ?_
             with_reducible refine (chequerlaw03_of.calls t372 t373 (fun k_ => (some k_ ≠ (.slice (some ad393) y389.length co55 : Value).ownBlock ∧ (k_ ≠ gb371 ∧ (k_ ≠ gb377 ∧ (k_ ≠ gb383 ∧ (k_ ≠ gb388 ∧ k_ ≠ gb394)))))) _ _ t374 t404 t405 t406 _ ?side1 A51.out).mono ?_
             (case side1 => exact HO_378002.out)
             rintro e w74 ⟨v407, rfl, ho0, hb⟩
             refine ⟨_, rfl, ?_⟩
             replace HO_378002 := Aside0.mk (Kd.V_below (vp_ HO_378002.out) hb)
             replace HO_384002 := Aside0.mk (Kd.V_below (vp_ HO_384002.out) hb)
             replace HO399 := Aside0.mk (Kd.V_below (vp_ HO399.out) hb)
             have HO408 := Aside0.mk (Kd.V_lower (Kd.V_mono (ok' := fun k_ => some k_ ≠ (.slice (some ad393) y389.length co55 : Value).ownBlock ∧ k_ ≠ gb371 ∧ k_ ≠ gb377 ∧ k_ ≠ gb383 ∧ k_ ≠ gb388 ∧ k_ ≠ gb394) ho0 (fun k_ hk_ => ⟨Or.elim hk_ (fun hs_ => hs_.1) (fun hn_ => (Kd.fresh' (Kd.R_lt (rp_ HO_10.out)) k_ hn_)), Or.elim hk_ (fun hs_ => hs_.2.1) (fun hn_ => (Kd.freshB (g := gb371) (o := .cells #[.int .i64 a2_0, .int .i64 a2_1, .int .i64 a2_2, .int .i64 a2_3] 25 (0, 0)) (hp_ BK371.out) k_ hn_)), Or.elim hk_ (fun hs_ => hs_.2.2.1) (fun hn_ => (Kd.freshB (g := gb377) (o := .cells #[.int .i64 t372, .int .i64 t373, .slice Ao21 t374.length co21] 24 (0, 0)) (hp_ BK377.out) k_ hn_)), Or.elim hk_ (fun hs_ => hs_.2.2.2.1) (fun hn_ => (Kd.freshB (g := gb383) (o := .cells #[.int .i64 t378, .int .i64 t379, .slice Ao29 t380.length co29] 24 (0, 0)) (hp_ BK383.out) k_ hn_)), Or.elim hk_ (fun hs_ => hs_.2.2.2.2.1) (fun hn_ => (Kd.freshB (g := gb388) (o := .cells #[.int .i64 (wrap64 (t384 - 1)), .int .i64 (wrap64 (t385 - 1)), .int .i64 (wrap64 (t386 - 1)), .int .i64 (wrap64 (t387 - 1))] 25 (0, 0)) (hp_ BK388.out) k_ hn_)), Or.elim hk_ (fun hs_ => hs_.2.2.2.2.2) (fun hn_ => (Kd.freshB (g := gb394) (o := .cells #[.int .i64 ((rd_T25 y389 x11_1).f0), .int .i64 ((rd_T25 y389 x11_1).f1), .int .i64 ((rd_T25 y389 x11_1).f2), .int .i64 ((rd_T25 y389 x11_1).f3)] 25 (0, 0)) (hp_ BK394.out) k_ hn_))⟩)) (below_size bp_))
             replace HO_10 := Aside0.mk (Kd.R_below (rp_ HO_10.out) hb)
             replace BK371 := Aside0.mk (blk_below (hp_ BK371.out) hb)
             replace BK377 := Aside0.mk (blk_below (hp_ BK377.out) hb)
             replace BK383 := Aside0.mk (blk_below (hp_ BK383.out) hb)
             replace BK388 := Aside0.mk (blk_below (hp_ BK388.out) hb)
             replace BK394 := Aside0.mk (blk_below (hp_ BK394.out) hb)
             replace HB := Aside0.mk (below_step bp_ hb)
             (try clear hb)
             (try clear hb2)
             (try clear hk)
             (try clear hi)
             (try clear ho0)
             obtain ⟨Ao75, co75, eo75⟩ := Kd.V_slice HO408.out
             (first | subst eo75 | (injection eo75 with f1_ f2_ f3_; have f4_ := f1_.symm; have f5_ := f3_.symm; clear f1_ f2_ f3_; subst f4_; subst f5_))
             refine hK.out _ _ ⟨(blk_cell BK377.out 0).trans rfl, (blk_cell BK377.out 1).trans rfl, (blk_cell BK377.out 2).trans rfl, (blk_cell BK394.out 0).trans rfl, (blk_cell BK394.out 1).trans rfl, (blk_cell BK394.out 2).trans rfl, (blk_cell BK394.out 3).trans rfl⟩ (fun hHeld => ?_)
             clear hK K
             refine norm_ (a' := ?_) ?_ ?_
             rotate_left
             · show Act.put _ (some 74) _ = _
               simp only [Act.put, List.setIfInBounds_toArray, List.set_cons_zero, List.set_cons_succ, i64_w, i32_w]
               rfl
             refine two_ (i := 10) (j := 14) (Ni := some 83) (Nj := some 17) #[true, true, true, true, true, true, true, true, true, true, true, false, false, false, false, false, false] Fl159 rfl rfl rfl rfl (two_of HT_.out (by kernel_rfl)) (by decide) (by decide) (fun K hK => ?_) (fun K hK => ?_)
             · skip
               refine goes_ Try.func21 (by kernel_rfl) rfl #[.agg #[.int .i64 t404, .int .i64 t405, .slice Ao75 t406.length co75], .int .i64 ((rd_T25 y389 x11_1).f0), .int .i64 ((rd_T25 y389 x11_1).f1), .int .i64 ((rd_T25 y389 x11_1).f2), .int .i64 ((rd_T25 y389 x11_1).f3)] (by rfl) rfl rfl (by (try simp only [List.map_toArray, List.map_cons, List.map_nil]); first | done | rfl | (simp only [List.length_drop, List.length_take]; rfl)) ?_
               with_reducible refine (rect_Matrix_Sub.calls k1 t404 t405 _ _ t406 ((rd_T25 y389 x11_1).f0) ((rd_T25 y389 x11_1).f1) ((rd_T25 y389 x11_1).f2) ((rd_T25 y389 x11_1).f3) t409 t410 t411 t414 _ ?side1 ?side2 A52.out).mono ?_
               (case side1 => exact cp_ (Kd.V_reads' HO408.out).2.2)
               (case side2 => exact (Kd.V_reads' HO408.out).2.1)
               rintro e w76 ⟨v412, rfl, ho0, hb⟩
               refine ⟨_, rfl, ?_⟩
               replace HO_10 := Aside0.mk (Kd.R_below (rp_ HO_10.out) hb)
               replace HO_378002 := Aside0.mk (Kd.V_elder' (vp_ HO_378002.out) (Kd.R_base ho0) hb)
               replace HO_384002 := Aside0.mk (Kd.V_elder' (vp_ HO_384002.out) (Kd.R_base ho0) hb)
               replace HO399 := Aside0.mk (Kd.V_elder' (vp_ HO399.out) (Kd.R_base ho0) hb)
               replace HO408 := Aside0.mk (Kd.V_elder' (vp_ HO408.out) (Kd.R_base ho0) hb)
               have HO413 := Aside0.mk (Kd.R_lower ho0 (below_size bp_))
               replace BK371 := Aside0.mk (blk_below (hp_ BK371.out) hb)
               replace BK377 := Aside0.mk (blk_below (hp_ BK377.out) hb)
               replace BK383 := Aside0.mk (blk_below (hp_ BK383.out) hb)
               replace BK388 := Aside0.mk (blk_below (hp_ BK388.out) hb)
               replace BK394 := Aside0.mk (blk_below (hp_ BK394.out) hb)
               replace HB := Aside0.mk (below_step bp_ hb)
               (try clear hb)
               (try clear hb2)
               (try clear hk)
               (try clear hi)
               (try clear ho0)
               refine hK.out _ _ ⟨(blk_cell BK377.out 0).trans rfl, (blk_cell BK377.out 1).trans rfl, (blk_cell BK377.out 2).trans rfl, (blk_cell BK394.out 0).trans rfl, (blk_cell BK394.out 1).trans rfl, (blk_cell BK394.out 2).trans rfl, (blk_cell BK394.out 3).trans rfl⟩ (fun hHeld => ?_)
               clear hK K
               refine norm_ (a' := ?_) ?_ ?_
               rotate_left
               · show Act.put _ (some 83) _ = _
                 simp only [Act.put, List.setIfInBounds_toArray, List.set_cons_zero, List.set_cons_succ, i64_w, i32_w]
                 rfl
               refine pur_ (i := 11) (N := some 72) #[true, true, true, true, true, true, true, true, true, true, true, true, false, false, false, false, false] (any_of HT_.out (by kernel_rfl)) ?_
               refine pur_ (i := 12) (N := some 84) #[true, true, true, true, true, true, true, true, true, true, true, true, true, false, false, false, false] (any_of HT_.out (by kernel_rfl)) ?_
               refine pur_ (i := 13) (N := some 85) #[true, true, true, true, true, true, true, true, true, true, true, true, true, true, false, false, false] (any_of HT_.out (by kernel_rfl)) ?_
               refine one_ (i := 14) (N := some 17) Fl123 rfl rfl (one_of HT_.out (by kernel_rfl)) (by decide) (fun K hK => ?_)
               refine box_step ?hg (N := 17) ?hd (cs := #[.int .i64 0, .int .i64 0, .slice none 0 0]) (t := 32) ?hr ?_; (case hd => rfl); (case hg => rfl); (case hr => first | (go_simp; done) | (go_simp; rfl))
               intro gb415 hg w77 hbox hb
               replace HO_10 := Aside0.mk (Kd.R_below (rp_ HO_10.out) hb)
               replace HO_378002 := Aside0.mk (Kd.V_below (Kd.V_elderB (vp_ HO_378002.out) gb415 (Nat.le_of_eq hg.symm)) hb)
               replace HO_384002 := Aside0.mk (Kd.V_below (Kd.V_elderB (vp_ HO_384002.out) gb415 (Nat.le_of_eq hg.symm)) hb)
               replace HO399 := Aside0.mk (Kd.V_below (Kd.V_elderB (vp_ HO399.out) gb415 (Nat.le_of_eq hg.symm)) hb)
               replace HO408 := Aside0.mk (Kd.V_below (Kd.V_elderB (vp_ HO408.out) gb415 (Nat.le_of_eq hg.symm)) hb)
               replace HO413 := Aside0.mk (Kd.R_below (rp_ HO413.out) hb)
               have BK415 := Aside0.mk (hbox)
               have GW415 := Aside0.mk ((by rw [hg]; exact (below_size bp_) : w.heap.size ≤ gb415))
               have GE415 := Aside0.mk ((by rw [hg]; exact (below_size bp_) : w.heap.size ≤ gb415))
               replace HB := Aside0.mk (below_step bp_ hb)
               have NB371_415 := Aside0.mk ((nlt_ hg (hp_ BK371.out)))
               have NB415_371 := Aside0.mk ((ngt_ hg (hp_ BK371.out)))
               replace BK371 := Aside0.mk (blk_below (hp_ BK371.out) hb)
               have NB377_415 := Aside0.mk ((nlt_ hg (hp_ BK377.out)))
               have NB415_377 := Aside0.mk ((ngt_ hg (hp_ BK377.out)))
               replace BK377 := Aside0.mk (blk_below (hp_ BK377.out) hb)
               have NB383_415 := Aside0.mk ((nlt_ hg (hp_ BK383.out)))
               have NB415_383 := Aside0.mk ((ngt_ hg (hp_ BK383.out)))
               replace BK383 := Aside0.mk (blk_below (hp_ BK383.out) hb)
               have NB388_415 := Aside0.mk ((nlt_ hg (hp_ BK388.out)))
               have NB415_388 := Aside0.mk ((ngt_ hg (hp_ BK388.out)))
               replace BK388 := Aside0.mk (blk_below (hp_ BK388.out) hb)
               have NB394_415 := Aside0.mk ((nlt_ hg (hp_ BK394.out)))
               have NB415_394 := Aside0.mk ((ngt_ hg (hp_ BK394.out)))
               replace BK394 := Aside0.mk (blk_below (hp_ BK394.out) hb)
               clear hb hbox hg
               refine hK.out _ _ ⟨(blk_cell BK377.out 0).trans rfl, (blk_cell BK377.out 1).trans rfl, (blk_cell BK377.out 2).trans rfl, (blk_cell BK394.out 0).trans rfl, (blk_cell BK394.out 1).trans rfl, (blk_cell BK394.out 2).trans rfl, (blk_cell BK394.out 3).trans rfl⟩ (fun hHeld => ?_)
               clear hK K
               refine norm_ (a' := ?_) ?_ ?_
               rotate_left
               · show Act.put _ (some 17) _ = _
                 simp only [Act.put, List.setIfInBounds_toArray, List.set_cons_zero, List.set_cons_succ, i64_w, i32_w]
                 rfl
               exact norm_ (by simp only [putAll, Act.put, List.setIfInBounds_toArray, List.set_cons_zero, List.set_cons_succ]) (hCont (.slice Ao75 t406.length co75, v412, gb415) _ ⟨hHeld, (by (with_reducible repeat (first | apply Kd.V_alloc | apply Kd.V_drewN | apply Kd.V_drew)); exact Kd.V_mono HO399.out (fun _ hk => ⟨hk.1.2, ⟨hk.1.1.1, ⟨hk.1.1.2.1, ⟨hk.1.1.2.2.1, ⟨hk.1.1.2.2.2.1, ⟨hk.1.1.2.2.2.2.1, ⟨hk.1.1.2.2.2.2.2, hk.2⟩⟩⟩⟩⟩⟩⟩)), (by (with_reducible repeat (first | apply Kd.V_alloc | apply Kd.V_drewN | apply Kd.V_drew)); exact Kd.V_mono HO408.out (fun _ hk => ⟨hk.1.2, ⟨hk.1.1.1, ⟨hk.1.1.2.1, ⟨hk.1.1.2.2.1, ⟨hk.1.1.2.2.2.1, ⟨hk.1.1.2.2.2.2.1, ⟨hk.1.1.2.2.2.2.2, hk.2⟩⟩⟩⟩⟩⟩⟩)), (rp_ HO413.out), (rp_ HO_10.out), (by (with_reducible repeat (first | apply Kd.V_alloc | apply Kd.V_drewN | apply Kd.V_drew)); exact Kd.V_mono HO_378002.out (fun _ hk => ⟨hk.1.2, ⟨hk.1.1.1, ⟨hk.1.1.2.1, ⟨hk.1.1.2.2.1, ⟨hk.1.1.2.2.2.1, ⟨hk.1.1.2.2.2.2.1, ⟨hk.1.1.2.2.2.2.2, hk.2⟩⟩⟩⟩⟩⟩⟩)), (by (with_reducible repeat (first | apply Kd.V_alloc | apply Kd.V_drewN | apply Kd.V_drew)); exact Kd.V_mono HO_384002.out (fun _ hk => ⟨hk.1.2, ⟨hk.1.1.1, ⟨hk.1.1.2.1, ⟨hk.1.1.2.2.1, ⟨hk.1.1.2.2.2.1, ⟨hk.1.1.2.2.2.2.1, ⟨hk.1.1.2.2.2.2.2, hk.2⟩⟩⟩⟩⟩⟩⟩)), (hp_ BK371.out), (hp_ BK377.out), (hp_ BK383.out), (hp_ BK388.out), (hp_ BK394.out), (hp_ BK415.out), GW415.out, GE415.out, NB371_415.out, NB415_371.out, NB377_415.out, NB415_377.out, NB383_415.out, NB415_383.out, NB388_415.out, NB415_388.out, NB394_415.out, NB415_394.out, bp_⟩)
             · skip
               refine box_step ?hg (N := 17) ?hd (cs := #[.int .i64 0, .int .i64 0, .slice none 0 0]) (t := 32) ?hr ?_; (case hd => rfl); (case hg => rfl); (case hr => first | (go_simp; done) | (go_simp; rfl))
               intro gb415 hg w75 hbox hb
               replace HO_10 := Aside0.mk (Kd.R_below (rp_ HO_10.out) hb)
               replace HO_378002 := Aside0.mk (Kd.V_below (Kd.V_elderB (vp_ HO_378002.out) gb415 (Nat.le_of_eq hg.symm)) hb)
               replace HO_384002 := Aside0.mk (Kd.V_below (Kd.V_elderB (vp_ HO_384002.out) gb415 (Nat.le_of_eq hg.symm)) hb)
               replace HO399 := Aside0.mk (Kd.V_below (Kd.V_elderB (vp_ HO399.out) gb415 (Nat.le_of_eq hg.symm)) hb)
               replace HO408 := Aside0.mk (Kd.V_below (Kd.V_elderB (vp_ HO408.out) gb415 (Nat.le_of_eq hg.symm)) hb)
               have BK415 := Aside0.mk (hbox)
               have GW415 := Aside0.mk ((by rw [hg]; exact (below_size bp_) : w.heap.size ≤ gb415))
               have GE415 := Aside0.mk ((by rw [hg]; exact (below_size bp_) : w.heap.size ≤ gb415))
               replace HB := Aside0.mk (below_step bp_ hb)
               have NB371_415 := Aside0.mk ((nlt_ hg (hp_ BK371.out)))
               have NB415_371 := Aside0.mk ((ngt_ hg (hp_ BK371.out)))
               replace BK371 := Aside0.mk (blk_below (hp_ BK371.out) hb)
               have NB377_415 := Aside0.mk ((nlt_ hg (hp_ BK377.out)))
               have NB415_377 := Aside0.mk ((ngt_ hg (hp_ BK377.out)))
               replace BK377 := Aside0.mk (blk_below (hp_ BK377.out) hb)
               have NB383_415 := Aside0.mk ((nlt_ hg (hp_ BK383.out)))
               have NB415_383 := Aside0.mk ((ngt_ hg (hp_ BK383.out)))
               replace BK383 := Aside0.mk (blk_below (hp_ BK383.out) hb)
               have NB388_415 := Aside0.mk ((nlt_ hg (hp_ BK388.out)))
               have NB415_388 := Aside0.mk ((ngt_ hg (hp_ BK388.out)))
               replace BK388 := Aside0.mk (blk_below (hp_ BK388.out) hb)
               have NB394_415 := Aside0.mk ((nlt_ hg (hp_ BK394.out)))
               have NB415_394 := Aside0.mk ((ngt_ hg (hp_ BK394.out)))
               replace BK394 := Aside0.mk (blk_below (hp_ BK394.out) hb)
               clear hb hbox hg
               obtain ⟨Ao76, co76, eo76⟩ := Kd.V_slice HO408.out
               (first | subst eo76 | (injection eo76 with f1_ f2_ f3_; have f4_ := f1_.symm; have f5_ := f3_.symm; clear f1_ f2_ f3_; subst f4_; subst f5_))
               refine hK.out _ _ ⟨(blk_cell BK377.out 0).trans rfl, (blk_cell BK377.out 1).trans rfl, (blk_cell BK377.out 2).trans rfl, (blk_cell BK394.out 0).trans rfl, (blk_cell BK394.out 1).trans rfl, (blk_cell BK394.out 2).trans rfl, (blk_cell BK394.out 3).trans rfl⟩ (fun hHeld => ?_)
               clear hK K
               refine norm_ (a' := ?_) ?_ ?_
               rotate_left
               · show Act.put _ (some 17) _ = _
                 simp only [Act.put, List.setIfInBounds_toArray, List.set_cons_zero, List.set_cons_succ, i64_w, i32_w]
                 rfl
               refine one_ (i := 10) (N := some 83) Fl161 rfl rfl (one_of HT_.out (by kernel_rfl)) (by decide) (fun K hK => ?_)
               refine goes_ Try.func21 (by kernel_rfl) rfl #[.agg #[.int .i64 t404, .int .i64 t405, .slice Ao76 t406.length co76], .int .i64 ((rd_T25 y389 x11_1).f0), .int .i64 ((rd_T25 y389 x11_1).f1), .int .i64 ((rd_T25 y389 x11_1).f2), .int .i64 ((rd_T25 y389 x11_1).f3)] (by rfl) rfl rfl (by (try simp only [List.map_toArray, List.map_cons, List.map_nil]); first | done | rfl | (simp only [List.length_drop, List.length_take]; rfl)) ?_
               with_reducible refine (rect_Matrix_Sub.calls k1 t404 t405 _ _ t406 ((rd_T25 y389 x11_1).f0) ((rd_T25 y389 x11_1).f1) ((rd_T25 y389 x11_1).f2) ((rd_T25 y389 x11_1).f3) t409 t410 t411 t414 _ ?side1 ?side2 A52.out).mono ?_
               (case side1 => exact cp_ (Kd.V_reads' HO408.out).2.2)
               (case side2 => exact (Kd.V_reads' HO408.out).2.1)
               rintro e w77 ⟨v412, rfl, ho0, hb⟩
               refine ⟨_, rfl, ?_⟩
               replace HO_10 := Aside0.mk (Kd.R_below (rp_ HO_10.out) hb)
               replace HO_378002 := Aside0.mk (Kd.V_elder' (vp_ HO_378002.out) (Kd.R_base ho0) hb)
               replace HO_384002 := Aside0.mk (Kd.V_elder' (vp_ HO_384002.out) (Kd.R_base ho0) hb)
               replace HO399 := Aside0.mk (Kd.V_elder' (vp_ HO399.out) (Kd.R_base ho0) hb)
               replace HO408 := Aside0.mk (Kd.V_elder' (vp_ HO408.out) (Kd.R_base ho0) hb)
               have HO413 := Aside0.mk (Kd.R_lower ho0 (below_size bp_))
               replace BK371 := Aside0.mk (blk_below (hp_ BK371.out) hb)
               replace BK377 := Aside0.mk (blk_below (hp_ BK377.out) hb)
               replace BK383 := Aside0.mk (blk_below (hp_ BK383.out) hb)
               replace BK388 := Aside0.mk (blk_below (hp_ BK388.out) hb)
               replace BK394 := Aside0.mk (blk_below (hp_ BK394.out) hb)
               replace BK415 := Aside0.mk (blk_below (hp_ BK415.out) hb)
               replace HB := Aside0.mk (below_step bp_ hb)
               (try clear hb)
               (try clear hb2)
               (try clear hk)
               (try clear hi)
               (try clear ho0)
               refine hK.out _ _ ⟨(blk_cell BK377.out 0).trans rfl, (blk_cell BK377.out 1).trans rfl, (blk_cell BK377.out 2).trans rfl, (blk_cell BK394.out 0).trans rfl, (blk_cell BK394.out 1).trans rfl, (blk_cell BK394.out 2).trans rfl, (blk_cell BK394.out 3).trans rfl⟩ (fun hHeld => ?_)
               clear hK K
               refine norm_ (a' := ?_) ?_ ?_
               rotate_left
               · show Act.put _ (some 83) _ = _
                 simp only [Act.put, List.setIfInBounds_toArray, List.set_cons_zero, List.set_cons_succ, i64_w, i32_w]
                 rfl
               refine pur_ (i := 11) (N := some 72) Fl162 (any_of HT_.out (by kernel_rfl)) ?_
               refine pur_ (i := 12) (N := some 84) Fl163 (any_of HT_.out (by kernel_rfl)) ?_
               refine pur_ (i := 13) (N := some 85) Fl123 (any_of HT_.out (by kernel_rfl)) ?_
               exact norm_ (by simp only [putAll, Act.put, List.setIfInBounds_toArray, List.set_cons_zero, List.set_cons_succ]) (hCont (.slice Ao76 t406.length co76, v412, gb415) _ ⟨hHeld, (by (with_reducible repeat (first | apply Kd.V_alloc | apply Kd.V_drewN | apply Kd.V_drew)); exact Kd.V_mono HO399.out (fun _ hk => ⟨hk.2, ⟨hk.1.1.1, ⟨hk.1.1.2.1, ⟨hk.1.1.2.2.1, ⟨hk.1.1.2.2.2.1, ⟨hk.1.1.2.2.2.2.1, ⟨hk.1.1.2.2.2.2.2, hk.1.2⟩⟩⟩⟩⟩⟩⟩)), (by (with_reducible repeat (first | apply Kd.V_alloc | apply Kd.V_drewN | apply Kd.V_drew)); exact Kd.V_mono HO408.out (fun _ hk => ⟨hk.2, ⟨hk.1.1.1, ⟨hk.1.1.2.1, ⟨hk.1.1.2.2.1, ⟨hk.1.1.2.2.2.1, ⟨hk.1.1.2.2.2.2.1, ⟨hk.1.1.2.2.2.2.2, hk.1.2⟩⟩⟩⟩⟩⟩⟩)), (rp_ HO413.out), (rp_ HO_10.out), (by (with_reducible repeat (first | apply Kd.V_alloc | apply Kd.V_drewN | apply Kd.V_drew)); exact Kd.V_mono HO_378002.out (fun _ hk => ⟨hk.2, ⟨hk.1.1.1, ⟨hk.1.1.2.1, ⟨hk.1.1.2.2.1, ⟨hk.1.1.2.2.2.1, ⟨hk.1.1.2.2.2.2.1, ⟨hk.1.1.2.2.2.2.2, hk.1.2⟩⟩⟩⟩⟩⟩⟩)), (by (with_reducible repeat (first | apply Kd.V_alloc | apply Kd.V_drewN | apply Kd.V_drew)); exact Kd.V_mono HO_384002.out (fun _ hk => ⟨hk.2, ⟨hk.1.1.1, ⟨hk.1.1.2.1, ⟨hk.1.1.2.2.1, ⟨hk.1.1.2.2.2.1, ⟨hk.1.1.2.2.2.2.1, ⟨hk.1.1.2.2.2.2.2, hk.1.2⟩⟩⟩⟩⟩⟩⟩)), (hp_ BK371.out), (hp_ BK377.out), (hp_ BK383.out), (hp_ BK388.out), (hp_ BK394.out), (hp_ BK415.out), GW415.out, GE415.out, NB371_415.out, NB415_371.out, NB377_415.out, NB415_377.out, NB383_415.out, NB415_383.out, NB388_415.out, NB415_388.out, NB394_415.out, NB415_394.out, bp_⟩)
           · skip
             refine box_step ?hg (N := 17) ?hd (cs := #[.int .i64 0, .int .i64 0, .slice none 0 0]) (t := 32) ?hr ?_; (case hd => rfl); (case hg => rfl); (case hr => first | (go_simp; done) | (go_simp; rfl))
             intro gb415 hg w74 hbox hb
             replace HO_10 := Aside0.mk (Kd.R_below (rp_ HO_10.out) hb)
             replace HO_378002 := Aside0.mk (Kd.V_below (Kd.V_elderB (vp_ HO_378002.out) gb415 (Nat.le_of_eq hg.symm)) hb)
             replace HO_384002 := Aside0.mk (Kd.V_below (Kd.V_elderB (vp_ HO_384002.out) gb415 (Nat.le_of_eq hg.symm)) hb)
             replace HO399 := Aside0.mk (Kd.V_below (Kd.V_elderB (vp_ HO399.out) gb415 (Nat.le_of_eq hg.symm)) hb)
             have BK415 := Aside0.mk (hbox)
             have GW415 := Aside0.mk ((by rw [hg]; exact (below_size bp_) : w.heap.size ≤ gb415))
             have GE415 := Aside0.mk ((by rw [hg]; exact (below_size bp_) : w.heap.size ≤ gb415))
             replace HB := Aside0.mk (below_step bp_ hb)
             have NB371_415 := Aside0.mk ((nlt_ hg (hp_ BK371.out)))
             have NB415_371 := Aside0.mk ((ngt_ hg (hp_ BK371.out)))
             replace BK371 := Aside0.mk (blk_below (hp_ BK371.out) hb)
             have NB377_415 := Aside0.mk ((nlt_ hg (hp_ BK377.out)))
             have NB415_377 := Aside0.mk ((ngt_ hg (hp_ BK377.out)))
             replace BK377 := Aside0.mk (blk_below (hp_ BK377.out) hb)
             have NB383_415 := Aside0.mk ((nlt_ hg (hp_ BK383.out)))
             have NB415_383 := Aside0.mk ((ngt_ hg (hp_ BK383.out)))
             replace BK383 := Aside0.mk (blk_below (hp_ BK383.out) hb)
             have NB388_415 := Aside0.mk ((nlt_ hg (hp_ BK388.out)))
             have NB415_388 := Aside0.mk ((ngt_ hg (hp_ BK388.out)))
             replace BK388 := Aside0.mk (blk_below (hp_ BK388.out) hb)
             have NB394_415 := Aside0.mk ((nlt_ hg (hp_ BK394.out)))
             have NB415_394 := Aside0.mk ((ngt_ hg (hp_ BK394.out)))
             replace BK394 := Aside0.mk (blk_below (hp_ BK394.out) hb)
             clear hb hbox hg
             refine hK.out _ _ ⟨(blk_cell BK377.out 0).trans rfl, (blk_cell BK377.out 1).trans rfl, (blk_cell BK377.out 2).trans rfl, (blk_cell BK394.out 0).trans rfl, (blk_cell BK394.out 1).trans rfl, (blk_cell BK394.out 2).trans rfl, (blk_cell BK394.out 3).trans rfl⟩ (fun hHeld => ?_)
             clear hK K
             refine norm_ (a' := ?_) ?_ ?_
             rotate_left
             · show Act.put _ (some 17) _ = _
               simp only [Act.put, List.setIfInBounds_toArray, List.set_cons_zero, List.set_cons_succ, i64_w, i32_w]
               rfl
             refine one_ (i := 1) (N := some 74) Fl159 rfl rfl (one_of HT_.out (by kernel_rfl)) (by decide) (fun K hK => ?_)
             refine goes_ Try.func13 (by kernel_rfl) rfl #[.agg #[.int .i64 t372, .int .i64 t373, .slice Ao21 t374.length co21]] (by rfl) rfl rfl (by (try simp only [List.map_toArray, List.map_cons, List.map_nil]); first | done | rfl | (simp only [List.length_drop, List.length_take]; rfl)) ?_
             with_reducible refine (chequerlaw03_of.calls t372 t373 (fun k_ => ((some k_ ≠ (.slice (some ad393) y389.length co55 : Value).ownBlock ∧ (k_ ≠ gb371 ∧ (k_ ≠ gb377 ∧ (k_ ≠ gb383 ∧ (k_ ≠ gb388 ∧ k_ ≠ gb394))))) ∧ k_ ≠ gb415)) _ _ t374 t404 t405 t406 _ ?side1 A51.out).mono ?_
             (case side1 => exact HO_378002.out)
             rintro e w75 ⟨v407, rfl, ho0, hb⟩
             refine ⟨_, rfl, ?_⟩
             replace HO_378002 := Aside0.mk (Kd.V_below (vp_ HO_378002.out) hb)
             replace HO_384002 := Aside0.mk (Kd.V_below (vp_ HO_384002.out) hb)
             replace HO399 := Aside0.mk (Kd.V_below (vp_ HO399.out) hb)
             have HO408 := Aside0.mk (Kd.V_lower (Kd.V_mono (ok' := fun k_ => some k_ ≠ (.slice (some ad393) y389.length co55 : Value).ownBlock ∧ k_ ≠ gb371 ∧ k_ ≠ gb377 ∧ k_ ≠ gb383 ∧ k_ ≠ gb388 ∧ k_ ≠ gb394 ∧ k_ ≠ gb415) ho0 (fun k_ hk_ => ⟨Or.elim hk_ (fun hs_ => hs_.1.1) (fun hn_ => (Kd.fresh' (Kd.R_lt (rp_ HO_10.out)) k_ hn_)), Or.elim hk_ (fun hs_ => hs_.1.2.1) (fun hn_ => (Kd.freshB (g := gb371) (o := .cells #[.int .i64 a2_0, .int .i64 a2_1, .int .i64 a2_2, .int .i64 a2_3] 25 (0, 0)) (hp_ BK371.out) k_ hn_)), Or.elim hk_ (fun hs_ => hs_.1.2.2.1) (fun hn_ => (Kd.freshB (g := gb377) (o := .cells #[.int .i64 t372, .int .i64 t373, .slice Ao21 t374.length co21] 24 (0, 0)) (hp_ BK377.out) k_ hn_)), Or.elim hk_ (fun hs_ => hs_.1.2.2.2.1) (fun hn_ => (Kd.freshB (g := gb383) (o := .cells #[.int .i64 t378, .int .i64 t379, .slice Ao29 t380.length co29] 24 (0, 0)) (hp_ BK383.out) k_ hn_)), Or.elim hk_ (fun hs_ => hs_.1.2.2.2.2.1) (fun hn_ => (Kd.freshB (g := gb388) (o := .cells #[.int .i64 (wrap64 (t384 - 1)), .int .i64 (wrap64 (t385 - 1)), .int .i64 (wrap64 (t386 - 1)), .int .i64 (wrap64 (t387 - 1))] 25 (0, 0)) (hp_ BK388.out) k_ hn_)), Or.elim hk_ (fun hs_ => hs_.1.2.2.2.2.2) (fun hn_ => (Kd.freshB (g := gb394) (o := .cells #[.int .i64 ((rd_T25 y389 x11_1).f0), .int .i64 ((rd_T25 y389 x11_1).f1), .int .i64 ((rd_T25 y389 x11_1).f2), .int .i64 ((rd_T25 y389 x11_1).f3)] 25 (0, 0)) (hp_ BK394.out) k_ hn_)), Or.elim hk_ (fun hs_ => hs_.2) (fun hn_ => (Kd.freshB (g := gb415) (o := .cells #[.int .i64 0, .int .i64 0, .slice none 0 0] 32 (0, 0)) (hp_ BK415.out) k_ hn_))⟩)) (below_size bp_))
             replace HO_10 := Aside0.mk (Kd.R_below (rp_ HO_10.out) hb)
             replace BK371 := Aside0.mk (blk_below (hp_ BK371.out) hb)
             replace BK377 := Aside0.mk (blk_below (hp_ BK377.out) hb)
             replace BK383 := Aside0.mk (blk_below (hp_ BK383.out) hb)
             replace BK388 := Aside0.mk (blk_below (hp_ BK388.out) hb)
             replace BK394 := Aside0.mk (blk_below (hp_ BK394.out) hb)
             replace BK415 := Aside0.mk (blk_below (hp_ BK415.out) hb)
             replace HB := Aside0.mk (below_step bp_ hb)
             (try clear hb)
             (try clear hb2)
             (try clear hk)
             (try clear hi)
             (try clear ho0)
             obtain ⟨Ao76, co76, eo76⟩ := Kd.V_slice HO408.out
             (first | subst eo76 | (injection eo76 with f1_ f2_ f3_; have f4_ := f1_.symm; have f5_ := f3_.symm; clear f1_ f2_ f3_; subst f4_; subst f5_))
             refine hK.out _ _ ⟨(blk_cell BK377.out 0).trans rfl, (blk_cell BK377.out 1).trans rfl, (blk_cell BK377.out 2).trans rfl, (blk_cell BK394.out 0).trans rfl, (blk_cell BK394.out 1).trans rfl, (blk_cell BK394.out 2).trans rfl, (blk_cell BK394.out 3).trans rfl⟩ (fun hHeld => ?_)
             clear hK K
             refine norm_ (a' := ?_) ?_ ?_
             rotate_left
             · show Act.put _ (some 74) _ = _
               simp only [Act.put, List.setIfInBounds_toArray, List.set_cons_zero, List.set_cons_succ, i64_w, i32_w]
               rfl
             refine one_ (i := 10) (N := some 83) Fl161 rfl rfl (one_of HT_.out (by kernel_rfl)) (by decide) (fun K hK => ?_)
             refine goes_ Try.func21 (by kernel_rfl) rfl #[.agg #[.int .i64 t404, .int .i64 t405, .slice Ao76 t406.length co76], .int .i64 ((rd_T25 y389 x11_1).f0), .int .i64 ((rd_T25 y389 x11_1).f1), .int .i64 ((rd_T25 y389 x11_1).f2), .int .i64 ((rd_T25 y389 x11_1).f3)] (by rfl) rfl rfl (by (try simp only [List.map_toArray, List.map_cons, List.map_nil]); first | done | rfl | (simp only [List.length_drop, List.length_take]; rfl)) ?_
             with_reducible refine (rect_Matrix_Sub.calls k1 t404 t405 _ _ t406 ((rd_T25 y389 x11_1).f0) ((rd_T25 y389 x11_1).f1) ((rd_T25 y389 x11_1).f2) ((rd_T25 y389 x11_1).f3) t409 t410 t411 t414 _ ?side1 ?side2 A52.out).mono ?_
             (case side1 => exact cp_ (Kd.V_reads' HO408.out).2.2)
             (case side2 => exact (Kd.V_reads' HO408.out).2.1)
             rintro e w77 ⟨v412, rfl, ho0, hb⟩
             refine ⟨_, rfl, ?_⟩
             replace HO_10 := Aside0.mk (Kd.R_below (rp_ HO_10.out) hb)
             replace HO_378002 := Aside0.mk (Kd.V_elder' (vp_ HO_378002.out) (Kd.R_base ho0) hb)
             replace HO_384002 := Aside0.mk (Kd.V_elder' (vp_ HO_384002.out) (Kd.R_base ho0) hb)
             replace HO399 := Aside0.mk (Kd.V_elder' (vp_ HO399.out) (Kd.R_base ho0) hb)
             replace HO408 := Aside0.mk (Kd.V_elder' (vp_ HO408.out) (Kd.R_base ho0) hb)
             have HO413 := Aside0.mk (Kd.R_lower ho0 (below_size bp_))
             replace BK371 := Aside0.mk (blk_below (hp_ BK371.out) hb)
             replace BK377 := Aside0.mk (blk_below (hp_ BK377.out) hb)
             replace BK383 := Aside0.mk (blk_below (hp_ BK383.out) hb)
             replace BK388 := Aside0.mk (blk_below (hp_ BK388.out) hb)
             replace BK394 := Aside0.mk (blk_below (hp_ BK394.out) hb)
             replace BK415 := Aside0.mk (blk_below (hp_ BK415.out) hb)
             replace HB := Aside0.mk (below_step bp_ hb)
             (try clear hb)
             (try clear hb2)
             (try clear hk)
             (try clear hi)
             (try clear ho0)
             refine hK.out _ _ ⟨(blk_cell BK377.out 0).trans rfl, (blk_cell BK377.out 1).trans rfl, (blk_cell BK377.out 2).trans rfl, (blk_cell BK394.out 0).trans rfl, (blk_cell BK394.out 1).trans rfl, (blk_cell BK394.out 2).trans rfl, (blk_cell BK394.out 3).trans rfl⟩ (fun hHeld => ?_)
             clear hK K
             refine norm_ (a' := ?_) ?_ ?_
             rotate_left
             · show Act.put _ (some 83) _ = _
               simp only [Act.put, List.setIfInBounds_toArray, List.set_cons_zero, List.set_cons_succ, i64_w, i32_w]
               rfl
             refine pur_ (i := 11) (N := some 72) Fl162 (any_of HT_.out (by kernel_rfl)) ?_
             refine pur_ (i := 12) (N := some 84) Fl163 (any_of HT_.out (by kernel_rfl)) ?_
             refine pur_ (i := 13) (N := some 85) Fl123 (any_of HT_.out (by kernel_rfl)) ?_
             exact norm_ (by simp only [putAll, Act.put, List.setIfInBounds_toArray, List.set_cons_zero, List.set_cons_succ]) (hCont (.slice Ao76 t406.length co76, v412, gb415) _ ⟨hHeld, (by (with_reducible repeat (first | apply Kd.V_alloc | apply Kd.V_drewN | apply Kd.V_drew)); exact Kd.V_mono HO399.out (fun _ hk => ⟨hk.2, ⟨hk.1.1.1, ⟨hk.1.1.2.1, ⟨hk.1.1.2.2.1, ⟨hk.1.1.2.2.2.1, ⟨hk.1.1.2.2.2.2.1, ⟨hk.1.1.2.2.2.2.2, hk.1.2⟩⟩⟩⟩⟩⟩⟩)), (by (with_reducible repeat (first | apply Kd.V_alloc | apply Kd.V_drewN | apply Kd.V_drew)); exact Kd.V_mono HO408.out (fun _ hk => ⟨hk.2, ⟨hk.1.1, ⟨hk.1.2.1, ⟨hk.1.2.2.1, ⟨hk.1.2.2.2.1, ⟨hk.1.2.2.2.2.1, ⟨hk.1.2.2.2.2.2.1, hk.1.2.2.2.2.2.2⟩⟩⟩⟩⟩⟩⟩)), (rp_ HO413.out), (rp_ HO_10.out), (by (with_reducible repeat (first | apply Kd.V_alloc | apply Kd.V_drewN | apply Kd.V_drew)); exact Kd.V_mono HO_378002.out (fun _ hk => ⟨hk.2, ⟨hk.1.1.1, ⟨hk.1.1.2.1, ⟨hk.1.1.2.2.1, ⟨hk.1.1.2.2.2.1, ⟨hk.1.1.2.2.2.2.1, ⟨hk.1.1.2.2.2.2.2, hk.1.2⟩⟩⟩⟩⟩⟩⟩)), (by (with_reducible repeat (first | apply Kd.V_alloc | apply Kd.V_drewN | apply Kd.V_drew)); exact Kd.V_mono HO_384002.out (fun _ hk => ⟨hk.2, ⟨hk.1.1.1, ⟨hk.1.1.2.1, ⟨hk.1.1.2.2.1, ⟨hk.1.1.2.2.2.1, ⟨hk.1.1.2.2.2.2.1, ⟨hk.1.1.2.2.2.2.2, hk.1.2⟩⟩⟩⟩⟩⟩⟩)), (hp_ BK371.out), (hp_ BK377.out), (hp_ BK383.out), (hp_ BK388.out), (hp_ BK394.out), (hp_ BK415.out), GW415.out, GE415.out, NB371_415.out, NB415_371.out, NB377_415.out, NB415_377.out, NB383_415.out, NB415_383.out, NB388_415.out, NB415_388.out, NB394_415.out, NB415_394.out, bp_⟩)
         rintro ⟨v407, v412, gb415⟩ w78 ⟨hS_, h0_, h1_, h2_, h3_, h4_, h5_, h6_, h7_, h8_, h9_, h10_, h11_, h12_, h13_, h14_, h15_, h16_, h17_, h18_, h19_, h20_, h21_, h22_, h23_, h24_⟩
         replace HO399 : Aside0 (Kd.V (Kd.int .u64) 46 w78 w.heap.size (fun k_ => some k_ ≠ (v412 : Value).ownBlock ∧ some k_ ≠ (.slice (some ad393) y389.length co55 : Value).ownBlock ∧ k_ ≠ gb371 ∧ k_ ≠ gb377 ∧ k_ ≠ gb383 ∧ k_ ≠ gb388 ∧ k_ ≠ gb394 ∧ k_ ≠ gb415) (.slice Ao65 t397.length co65) t397) := ⟨h0_⟩
         have HO408 : Aside0 (Kd.V (Kd.int .u64) 46 w78 w.heap.size (fun k_ => some k_ ≠ (v412 : Value).ownBlock ∧ some k_ ≠ (.slice (some ad393) y389.length co55 : Value).ownBlock ∧ k_ ≠ gb371 ∧ k_ ≠ gb377 ∧ k_ ≠ gb383 ∧ k_ ≠ gb388 ∧ k_ ≠ gb394 ∧ k_ ≠ gb415) v407 t406) := ⟨h1_⟩
         have HO413 : Aside0 (Kd.R (Kd.int .u64) 46 w78 w.heap.size (fun _ => True) v412 t411) := ⟨h2_⟩
         replace HO_10 : Aside0 (Kd.R k25 25 w78 w.heap.size (fun k_ => k_ ≠ gb371 ∧ k_ ≠ gb388 ∧ k_ ≠ gb394) (.slice (some ad393) y389.length co55) y389) := ⟨h3_⟩
         replace HO_378002 : Aside0 (Kd.V (Kd.int .u64) 46 w78 w.heap.size (fun k_ => some k_ ≠ (v412 : Value).ownBlock ∧ some k_ ≠ (.slice (some ad393) y389.length co55 : Value).ownBlock ∧ k_ ≠ gb371 ∧ k_ ≠ gb377 ∧ k_ ≠ gb383 ∧ k_ ≠ gb388 ∧ k_ ≠ gb394 ∧ k_ ≠ gb415) (.slice Ao21 t374.length co21) t374) := ⟨h4_⟩
         replace HO_384002 : Aside0 (Kd.V (Kd.int .u64) 46 w78 w.heap.size (fun k_ => some k_ ≠ (v412 : Value).ownBlock ∧ some k_ ≠ (.slice (some ad393) y389.length co55 : Value).ownBlock ∧ k_ ≠ gb371 ∧ k_ ≠ gb377 ∧ k_ ≠ gb383 ∧ k_ ≠ gb388 ∧ k_ ≠ gb394 ∧ k_ ≠ gb415) (.slice Ao29 t380.length co29) t380) := ⟨h5_⟩
         replace BK371 : Aside0 (w78.heap[gb371]? = some (.cells #[.int .i64 a2_0, .int .i64 a2_1, .int .i64 a2_2, .int .i64 a2_3] 25 (0, 0))) := ⟨h6_⟩
         replace BK377 : Aside0 (w78.heap[gb377]? = some (.cells #[.int .i64 t372, .int .i64 t373, .slice Ao21 t374.length co21] 24 (0, 0))) := ⟨h7_⟩
         replace BK383 : Aside0 (w78.heap[gb383]? = some (.cells #[.int .i64 t378, .int .i64 t379, .slice Ao29 t380.length co29] 24 (0, 0))) := ⟨h8_⟩
         replace BK388 : Aside0 (w78.heap[gb388]? = some (.cells #[.int .i64 (wrap64 (t384 - 1)), .int .i64 (wrap64 (t385 - 1)), .int .i64 (wrap64 (t386 - 1)), .int .i64 (wrap64 (t387 - 1))] 25 (0, 0))) := ⟨h9_⟩
         replace BK394 : Aside0 (w78.heap[gb394]? = some (.cells #[.int .i64 ((rd_T25 y389 x11_1).f0), .int .i64 ((rd_T25 y389 x11_1).f1), .int .i64 ((rd_T25 y389 x11_1).f2), .int .i64 ((rd_T25 y389 x11_1).f3)] 25 (0, 0))) := ⟨h10_⟩
         have BK415 : Aside0 (w78.heap[gb415]? = some (.cells #[.int .i64 0, .int .i64 0, .slice none 0 0] 32 (0, 0))) := ⟨h11_⟩
         have GW415 : Aside0 (w.heap.size ≤ gb415) := ⟨h12_⟩
         have GE415 : Aside0 (w.heap.size ≤ gb415) := ⟨h13_⟩
         have NB371_415 : Aside0 (gb371 ≠ gb415) := ⟨h14_⟩
         have NB415_371 : Aside0 (gb415 ≠ gb371) := ⟨h15_⟩
         have NB377_415 : Aside0 (gb377 ≠ gb415) := ⟨h16_⟩
         have NB415_377 : Aside0 (gb415 ≠ gb377) := ⟨h17_⟩
         have NB383_415 : Aside0 (gb383 ≠ gb415) := ⟨h18_⟩
         have NB415_383 : Aside0 (gb415 ≠ gb383) := ⟨h19_⟩
         have NB388_415 : Aside0 (gb388 ≠ gb415) := ⟨h20_⟩
         have NB415_388 : Aside0 (gb415 ≠ gb388) := ⟨h21_⟩
         have NB394_415 : Aside0 (gb394 ≠ gb415) := ⟨h22_⟩
         have NB415_394 : Aside0 (gb415 ≠ gb394) := ⟨h23_⟩
         replace HB : Aside0 (Below w.heap.size w w78) := ⟨h24_⟩
         clear h0_ h1_ h2_ h3_ h4_ h5_ h6_ h7_ h8_ h9_ h10_ h11_ h12_ h13_ h14_ h15_ h16_ h17_ h18_ h19_ h20_ h21_ h22_ h23_ h24_
         have hHeld : w78.cell? ⟨gb377, 0, none⟩ = some (.int .i64 t372) ∧ w78.cell? ⟨gb377, 1, none⟩ = some (.int .i64 t373) ∧ w78.cell? ⟨gb377, 2, none⟩ = some (.slice Ao21 t374.length co21) ∧ w78.cell? ⟨gb394, 0, none⟩ = some (.int .i64 ((rd_T25 y389 x11_1).f0)) ∧ w78.cell? ⟨gb394, 1, none⟩ = some (.int .i64 ((rd_T25 y389 x11_1).f1)) ∧ w78.cell? ⟨gb394, 2, none⟩ = some (.int .i64 ((rd_T25 y389 x11_1).f2)) ∧ w78.cell? ⟨gb394, 3, none⟩ = some (.int .i64 ((rd_T25 y389 x11_1).f3)) := hS_
         obtain ⟨Ao81, co81, eo81⟩ := Kd.R_slice HO413.out
         (first | subst eo81 | (injection eo81 with f1_ f2_ f3_; have f4_ := f1_.symm; have f5_ := f3_.symm; clear f1_ f2_ f3_; subst f4_; subst f5_))
         refine norm_ (a' := ?_) ?_ ?_
         rotate_left
         · simp only [putAll, Act.put, List.setIfInBounds_toArray, List.set_cons_zero, List.set_cons_succ]
           rfl
         refine one_ (i := 15) (N := none) #[true, true, true, true, true, true, true, true, true, true, true, true, true, true, true, true, false] rfl rfl (one_of HT_.out (by kernel_rfl)) (by decide) (fun K hK => ?_)
         have hs79 : w78.cell? ⟨gb415, 0, none⟩ = some (.int .i64 0) := (blk_cell BK415.out 0).trans rfl
         have hfs79 := blk_frozen BK415.out 0
         have hns79_0 := NB371_415.out
         have hns79_1 := NB377_415.out
         have hns79_2 := NB383_415.out
         have hns79_3 := NB388_415.out
         have hns79_4 := NB394_415.out
         have hms79_0 := NB415_371.out
         have hms79_1 := NB415_377.out
         have hms79_2 := NB415_383.out
         have hms79_3 := NB415_388.out
         have hms79_4 := NB415_394.out
         have hs80 : w78.cell? ⟨gb415, 1, none⟩ = some (.int .i64 0) := (blk_cell BK415.out 1).trans rfl
         have hfs80 := blk_frozen BK415.out 1
         have hns80_0 := NB371_415.out
         have hns80_1 := NB377_415.out
         have hns80_2 := NB383_415.out
         have hns80_3 := NB388_415.out
         have hns80_4 := NB394_415.out
         have hms80_0 := NB415_371.out
         have hms80_1 := NB415_377.out
         have hms80_2 := NB415_383.out
         have hms80_3 := NB415_388.out
         have hms80_4 := NB415_394.out
         have hs82 : w78.cell? ⟨gb415, 2, none⟩ = some (.slice none 0 0) := (blk_cell BK415.out 2).trans rfl
         have hfs82 := blk_frozen BK415.out 2
         have hns82_0 := NB371_415.out
         have hns82_1 := NB377_415.out
         have hns82_2 := NB383_415.out
         have hns82_3 := NB388_415.out
         have hns82_4 := NB394_415.out
         have hms82_0 := NB415_371.out
         have hms82_1 := NB415_377.out
         have hms82_2 := NB415_383.out
         have hms82_3 := NB415_388.out
         have hms82_4 := NB415_394.out
         refine skip_ (w1 := ?_) (by rfl) rfl ?_ ?_
         rotate_left
         · go_simp
           rfl
         refine hK.out _ _ ⟨((cell_far (p := ⟨gb415, _, none⟩) NB377_415.out _).trans (((cell_far (p := ⟨gb415, _, none⟩) NB377_415.out _).trans (((cell_far (p := ⟨gb415, _, none⟩) NB377_415.out _).trans (hHeld.1)))))), ((cell_far (p := ⟨gb415, _, none⟩) NB377_415.out _).trans (((cell_far (p := ⟨gb415, _, none⟩) NB377_415.out _).trans (((cell_far (p := ⟨gb415, _, none⟩) NB377_415.out _).trans (hHeld.2.1)))))), ((cell_far (p := ⟨gb415, _, none⟩) NB377_415.out _).trans (((cell_far (p := ⟨gb415, _, none⟩) NB377_415.out _).trans (((cell_far (p := ⟨gb415, _, none⟩) NB377_415.out _).trans (hHeld.2.2.1)))))), ((cell_far (p := ⟨gb415, _, none⟩) NB394_415.out _).trans (((cell_far (p := ⟨gb415, _, none⟩) NB394_415.out _).trans (((cell_far (p := ⟨gb415, _, none⟩) NB394_415.out _).trans (hHeld.2.2.2.1)))))), ((cell_far (p := ⟨gb415, _, none⟩) NB394_415.out _).trans (((cell_far (p := ⟨gb415, _, none⟩) NB394_415.out _).trans (((cell_far (p := ⟨gb415, _, none⟩) NB394_415.out _).trans (hHeld.2.2.2.2.1)))))), ((cell_far (p := ⟨gb415, _, none⟩) NB394_415.out _).trans (((cell_far (p := ⟨gb415, _, none⟩) NB394_415.out _).trans (((cell_far (p := ⟨gb415, _, none⟩) NB394_415.out _).trans (hHeld.2.2.2.2.2.1)))))), ((cell_far (p := ⟨gb415, _, none⟩) NB394_415.out _).trans (((cell_far (p := ⟨gb415, _, none⟩) NB394_415.out _).trans (((cell_far (p := ⟨gb415, _, none⟩) NB394_415.out _).trans (hHeld.2.2.2.2.2.2))))))⟩ (fun hHeld => ?_)
         clear hK K
         refine pur_ (i := 16) (N := some 18) #[true, true, true, true, true, true, true, true, true, true, true, true, true, true, true, true, true] (any_of HT_.out (by kernel_rfl)) ?_
         refine done_ (done_of HT_.out (by kernel_rfl)) ?_
         have hnb83 := NB377_415.out
         have hnc83 := NB415_377.out
         have hcz84_0 : w78.cell? ⟨gb377, 0, none⟩ = some (.int .i64 t372) := (blk_cell BK377.out 0).trans rfl
         have hcz84_1 : w78.cell? ⟨gb377, 1, none⟩ = some (.int .i64 t373) := (blk_cell BK377.out 1).trans rfl
         have hcz84_2 : w78.cell? ⟨gb377, 2, none⟩ = some (.slice Ao21 t374.length co21) := (blk_cell BK377.out 2).trans rfl
         have hfz84_0 := blk_frozen BK377.out 0
         have hfz84_1 := blk_frozen BK377.out 1
         have hfz84_2 := blk_frozen BK377.out 2
         have hnb85 := NB394_415.out
         have hnc85 := NB415_394.out
         have hcz86_0 : w78.cell? ⟨gb394, 0, none⟩ = some (.int .i64 ((rd_T25 y389 x11_1).f0)) := (blk_cell BK394.out 0).trans rfl
         have hcz86_1 : w78.cell? ⟨gb394, 1, none⟩ = some (.int .i64 ((rd_T25 y389 x11_1).f1)) := (blk_cell BK394.out 1).trans rfl
         have hcz86_2 : w78.cell? ⟨gb394, 2, none⟩ = some (.int .i64 ((rd_T25 y389 x11_1).f2)) := (blk_cell BK394.out 2).trans rfl
         have hcz86_3 : w78.cell? ⟨gb394, 3, none⟩ = some (.int .i64 ((rd_T25 y389 x11_1).f3)) := (blk_cell BK394.out 3).trans rfl
         have hfz86_0 := blk_frozen BK394.out 0
         have hfz86_1 := blk_frozen BK394.out 1
         have hfz86_2 := blk_frozen BK394.out 2
         have hfz86_3 := blk_frozen BK394.out 3
         rename_i hid1_ hid2_ hid3_ hid4_ hid5_ hid6_ hid7_ hid8_ hid9_ hid10_ hid11_ hid12_ hid13_ hid14_ hid15_ hid16_ hid17_ hid18_ hid19_ hid20_ hid21_ hid22_ hid23_ hid24_ hid25_ hid26_ hid27_ hid28_ hid29_
         revert k a0_0 a0_1 A0_2 c0_2 l0_2 a1_0 a1_1 A1_2 c1_2 l1_2 a2_0 a2_1 a2_2 a2_3 r w hu24 hu25 hu32 HR0_2 HC0_2 HR1_2 HC1_2 t372 t373 t374 A4 t378 t379 t380 A5 t384 A6 t385 A7 t386 A8 t387 A9 y389 Ny389 hid1_ gb369 w10 GW369 GE369 gb370 w11 GW370 GE370 NB369_370 NB370_369 gb371 w12 GW371 GE371 NB369_371 NB371_369 BK369 NB370_371 NB371_370 hnb13 hnc13 hnb14 hnc14 hcz15_0 hcz15_1 hcz15_2 hfz15_0 hfz15_1 hfz15_2 w16 gb377 w17 GW377 GE377 NB370_377 NB377_370 NB371_377 NB377_371 hnb18 hnc18 hnb19 hnc19 hcz20_0 hcz20_1 hcz20_2 hfz20_0 hfz20_1 hfz20_2 Ao21 co21 hnb22 hnc22 hcz23_0 hcz23_1 hcz23_2 hfz23_0 hfz23_1 hfz23_2 w24 BK370 gb383 w25 GW383 GE383 NB371_383 NB383_371 NB377_383 NB383_377 hnb26 hnc26 hnb27 hnc27 hcz28_0 hcz28_1 hcz28_2 hfz28_0 hfz28_1 hfz28_2 Ao29 co29 w30 hid2_ hid3_ w31 hid4_ gb388 w33 hid5_ GW388 GE388 NB371_388 NB388_371 NB377_388 NB388_377 NB383_388 NB388_383 hid6_ hs34 hfs34 hns34_0 hns34_1 hns34_2 hms34_0 hms34_1 hms34_2 hs35 hfs35 hns35_0 hns35_1 hns35_2 hms35_0 hms35_1 hms35_2 hs36 hfs36 hns36_0 hns36_1 hns36_2 hms36_0 hms36_1 hms36_2 hs37 hfs37 hns37_0 hns37_1 hns37_2 hms37_0 hms37_1 hms37_2 hid7_ hnb38 hnc38 hnb40 hnc40 hnb41 hnc41 w43 hid8_ hid9_ hid10_ hid11_ hid12_ hid13_ hid14_ wr u6 u12 u13 u14 u15 u16 u17 u18 u19 u20 u45 u46 u47 u48 u49 u50 u51 u52 u53 u54 u55 u56 u57 u58 u59 u60 u61 u62 u63 u64 u65 u66 u67 u68 u69 u70 u71 u72 u73 u74 u75 u76 u77 u78 u79 u80 u81 u82 u83 u84 u85 u86 u87 u88 u89 u90 u91 u92 u93 u94 u95 u96 u97 u98 u99 u100 u101 u102 u103 u104 u105 u106 u107 u108 u109 u110 u111 u112 u113 u114 u115 u116 u117 u118 u119 u120 u121 u122 u123 u124 u125 u126 u127 u128 u129 u130 u131 u132 u133 u134 u135 u136 u137 u138 u139 u140 u141 u142 u143 u144 u145 u146 u147 u148 u149 u150 hid15_ hid16_ x11_1 k1 hid17_ HK1 c45b0 c46b0 c47b0 t395 t396 t397 A48 t400 t401 A49 t402 t403 A50 t404 t405 t406 A51 t409 t410 t411 t414 A52 t416 t417 t418 t421 A53 HC54 co55 ad393 hx393_0 hx393_1 hx393_2 hx393_3 HO376 HO382 HO391 hid18_ p393 q393 hid19_ hid20_ gb394 w56 GW394 GE394 NB371_394 NB394_371 NB377_394 NB394_377 NB383_394 NB394_383 NB388_394 NB394_388 hnb57 hnc57 hnb58 hnc58 hnb59 hnc59 hnb60 hnc60 hcz61_0 hcz61_1 hcz61_2 hcz61_3 hfz61_0 hfz61_1 hfz61_2 hfz61_3 w62 hid21_ hid22_ w63 hid23_ w64 Ao65 co65 hid24_ w66 hid25_ hnb67 hnc67 hnb68 hnc68 hnb69 hnc69 hcz70_0 hcz70_1 hcz70_2 hfz70_0 hfz70_1 hfz70_2 hcz71_0 hcz71_1 hcz71_2 hcz71_3 hfz71_0 hfz71_1 hfz71_2 hfz71_3 w72 hid26_ hid27_ HT_ HW_ w73 hid28_ v407 gb415 w78 hS_ HO_10 BK371 BK377 BK383 BK388 BK394 BK415 GW415 GE415 NB371_415 NB415_371 NB377_415 NB415_377 NB383_415 NB415_383 NB388_415 NB415_388 NB394_415 NB415_394 HB hid29_ Ao81 co81 HO399 HO408 HO413 HO_378002 HO_384002 hs79 hfs79 hns79_0 hns79_1 hns79_2 hns79_3 hns79_4 hms79_0 hms79_1 hms79_2 hms79_3 hms79_4 hs80 hfs80 hns80_0 hns80_1 hns80_2 hns80_3 hns80_4 hms80_0 hms80_1 hms80_2 hms80_3 hms80_4 hs82 hfs82 hns82_0 hns82_1 hns82_2 hns82_3 hns82_4 hms82_0 hms82_1 hms82_2 hms82_3 hms82_4 hHeld hnb83 hnc83 hcz84_0 hcz84_1 hcz84_2 hfz84_0 hfz84_1 hfz84_2 hnb85 hnc85 hcz86_0 hcz86_1 hcz86_2 hcz86_3 hfz86_0 hfz86_1 hfz86_2 hfz86_3
         exact g_.out
       · rw [if_neg c47] at H
         exact absurd H (by simp)
     · rw [if_neg c46] at H
       exact absurd H (by simp)
   · rw [if_neg c45] at H
     have c45b0 : decide (x11_1 < 2) = false := decide_eq_false c45
     clear c45
     replace H := Option.bind_eq_some_iff.mp H
     obtain ⟨t392, A1490, H⟩ := H
     replace H : (some t392) = some r := H
     have A149 := Aside0.mk A1490
     clear A1490
     obtain rfl := Option.some.inj H
     go_wp2_with (first | ((with_reducible refine gate_callee (f := 16) rfl ?_); refine goQ_ (some 151) Try.func16 #[] ?_; (with_reducible refine (chequerlaw03_lives.calls k1  t392 _ A149.out).mono ?_); rintro e w150 ⟨rfl, hb⟩; refine ⟨_, rfl, ?_⟩; replace HO_10 := Aside0.mk (Kd.R_below (rp_ HO_10.out) hb); replace HO_378002 := Aside0.mk (Kd.V_below (vp_ HO_378002.out) hb); replace HO_384002 := Aside0.mk (Kd.V_below (vp_ HO_384002.out) hb); replace HB := Aside0.mk (below_step bp_ hb); (try clear hb); (try clear hb2); (try clear hk); (try clear hi)))
     go_ret
     exact ⟨by first | rfl | (simp [errW_none, errW_some] <;> rfl) | (simp [*, errW_none, errW_some] <;> rfl), bp_⟩

end Go.Proofs.Ytidpaaemfiopkaa.Q
