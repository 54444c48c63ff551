-- written by our own program (wip/tools/myprint.py) out of the translation, by the kit's print; Lean checks it
import Derived.Test.YtmimfljiighbaaaQ0
import Derived.Test.YtmimfljiighbaaaQ6
import Derived.Test.YtmimfljiighbaaaQ7
import Derived.Test.YtmimfljiighbaaaQ19
import Derived.Test.YtmimfljiighbaaaQ25
import Derived.Test.YtmimfljiighbaaaQ31
namespace Go.Proofs.Ytmimfljiighbaaa.Q
open Go.RowKit Go.Proofs.YtmimfljiighbaaaW.PrintWords Go.Proofs.YtmimfljiighbaaaW.PrintLast Go.Proofs.YtmimfljiighbaaaW.PrintMore
attribute [local go_sem] max2_int min2_int max_two min_two max_three min_three max_four min_four   -- for this text's walks alone
set_option linter.unusedVariables false
set_option linter.unusedSimpArgs false

abbrev Fl197 : Array Bool := #[true, true, true, true, true, true, true, true, true, true, true, true, true, true, false]
abbrev Fl198 : Array Bool := #[true, true, true, true, true, true, true, true, true, true, false, false, false, true, false]
abbrev Fl199 : Array Bool := #[true, true, true, true, true, true, true, true, true, true, true, false, false, true, false]
abbrev Fl200 : Array Bool := #[true, true, true, true, true, true, true, true, true, true, true, true, false, true, false]
abbrev Fl201 : Array Bool := #[true, true, true, true, true, true, false, false, true, true, false, false, false, true, false]
abbrev Fl202 : Array Bool := #[true, true, true, true, true, true, true, false, true, true, false, false, false, true, false]
/-! ### chequerlaw06_HeadLimits: function 8 -/
def chequerlaw06_HeadLimits.f (k : Nat) (a0_0 : Int) (a0_1 : Int) (a0_2 : Int) (a0_3 : Int) (a1_0 : Int) (a1_1 : Int) (a1_2 : Int) : Option (Bool) := (chequerref06_Good.f a0_0 a0_1 a0_2 a0_3 4096).bind fun bt542 => ((chequerref01_Around.f a1_0 4096).bind fun t547 => ((chequerref01_Around.f a1_1 65536).bind fun t548 => ((chequerref01_Around.f a1_2 65535).bind fun t549 => ((chequerlaw06_of.f bt542.1 bt542.2.1 bt542.2.2.1 bt542.2.2.2).bind fun bt551 => ((head_Write.f bt551.1 bt551.2.1 bt551.2.2.1 bt551.2.2.2).bind fun bt555 => ((head_Parse.f k bt555.1 (wrap64 (1 + t547)) (wrap64 (1 + t548)) (wrap64 (1 + t549))).bind fun bt557 => ((head_Parse.f k bt555.1 bt542.2.1 bt542.2.2.1 bt542.2.2.2).bind fun bt564 => (if bt542.2.1 ≤ (wrap64 (1 + t547)) then (if bt542.2.2.1 ≤ (wrap64 (1 + t548)) then (if bt542.2.2.2 ≤ (wrap64 (1 + t549)) then (if ((bt557.2.2.2.2.2 == 0) == true) = true then (if bt564.2.2.2.2.2 = 0 then ((chequerlaw06_lives.f k).bind fun t571 => (some t571)) else (some false)) else (some false)) else (if ((bt557.2.2.2.2.2 == 0) == (bt542.2.2.2 == 1)) = true then (if bt542.2.2.2 = 1 then (if bt564.2.2.2.2.2 = 0 then ((chequerlaw06_lives.f k).bind fun t572 => (some t572)) else (some false)) else (if bt557.2.2.2.2.2 = 4 then (if bt564.2.2.2.2.2 = 0 then ((chequerlaw06_lives.f k).bind fun t573 => (some t573)) else (some false)) else (some false))) else (some false))) else (if ((bt557.2.2.2.2.2 == 0) == false) = true then (if bt557.2.2.2.2.2 = 4 then (if bt564.2.2.2.2.2 = 0 then ((chequerlaw06_lives.f k).bind fun t574 => (some t574)) else (some false)) else (some false)) else (some false))) else (if ((bt557.2.2.2.2.2 == 0) == false) = true then (if bt557.2.2.2.2.2 = 4 then (if bt564.2.2.2.2.2 = 0 then ((chequerlaw06_lives.f k).bind fun t575 => (some t575)) else (some false)) else (some false)) else (some false))))))))))
theorem chequerlaw06_HeadLimits.mono : ∀ a0 a1 a2 a3 a4 a5 a6 k, LeO (chequerlaw06_HeadLimits.f k a0 a1 a2 a3 a4 a5 a6) (chequerlaw06_HeadLimits.f (k + 1) a0 a1 a2 a3 a4 a5 a6) := by
 intro a0 a1 a2 a3 a4 a5 a6 k
 unfold chequerlaw06_HeadLimits.f
 repeat' first
  | (with_reducible exact chequerlaw06_lives.mono _)
  | (with_reducible exact head_Parse.mono _ _ _ _ _)
  | (with_reducible exact LeO.refl _)
  | (with_reducible exact LeO.none _)
  | (with_reducible refine LeO.ite ?_ ?_)
  | (with_reducible refine LeO.bind ?_ (fun _ => ?_))
  | exact chequerlaw06_lives.mono _
  | exact head_Parse.mono _ _ _ _ _
  | exact LeO.none _
  | refine LeO.ite ?_ ?_
  | refine LeO.bind ?_ (fun _ => ?_)
def chequerlaw06_HeadLimits.T2 : Bool × List (List Nat × List Nat) := (true, [([], []), ([0], [0]), ([1], [1]), ([2], [2]), ([], []), ([4], [4]), ([5, 2], [5]), ([6], [6]), ([], []), ([8], [8]), ([9, 6], [9]), ([10], [10]), ([3, 7, 11], [3, 7, 11]), ([], []), ([13, 12, 10, 0, 1, 2, 3, 4, 5, 6, 7, 8, 9, 10, 11, 12, 13], [12, 13])])
def chequerlaw06_HeadLimits.B2 : List Nat := [0, 1, 3, 7, 0, 16, 55, 119, 0, 256, 887, 1911, 4095, 0, 16383]
theorem chequerlaw06_HeadLimits.tab2 : rtab .any (opsOf Try.f8 2) = chequerlaw06_HeadLimits.T2 := by kernel_rfl
theorem chequerlaw06_HeadLimits.bits2 : waitsOk chequerlaw06_HeadLimits.T2.2 chequerlaw06_HeadLimits.B2 = true := by kernel_rfl
set_option maxHeartbeats 8000000 in
set_option maxRecDepth 100000 in
theorem chequerlaw06_HeadLimits.calls (k : Nat) (a0_0 : Int) (a0_1 : Int) (a0_2 : Int) (a0_3 : Int) (a1_0 : Int) (a1_1 : Int) (a1_2 : Int) (r : Bool) (w : World) (h : chequerlaw06_HeadLimits.f k a0_0 a0_1 a0_2 a0_3 a1_0 a1_1 a1_2 = some r) :
 Calls Try.prog 8 #[.agg #[.int .i64 a0_0, .int .i64 a0_1, .int .i64 a0_2, .int .i64 a0_3], .agg #[.int .i64 a1_0, .int .i64 a1_1, .int .i64 a1_2]] w fun e w' => e = .returned (.bool r) ∧ Below w.heap.size w w' := by
 have hu25 := Try.underlying25
 have hu23 := Try.underlying23
 have hu36 := Try.underlying36
 have HB := Aside0.mk (Below.refl w.heap.size w)
 have H : ((chequerref06_Good.f a0_0 a0_1 a0_2 a0_3 4096).bind fun bt542 => ((chequerref01_Around.f a1_0 4096).bind fun t547 => ((chequerref01_Around.f a1_1 65536).bind fun t548 => ((chequerref01_Around.f a1_2 65535).bind fun t549 => ((chequerlaw06_of.f bt542.1 bt542.2.1 bt542.2.2.1 bt542.2.2.2).bind fun bt551 => ((head_Write.f bt551.1 bt551.2.1 bt551.2.2.1 bt551.2.2.2).bind fun bt555 => ((head_Parse.f k bt555.1 (wrap64 (1 + t547)) (wrap64 (1 + t548)) (wrap64 (1 + t549))).bind fun bt557 => ((head_Parse.f k bt555.1 bt542.2.1 bt542.2.2.1 bt542.2.2.2).bind fun bt564 => (if bt542.2.1 ≤ (wrap64 (1 + t547)) then (if bt542.2.2.1 ≤ (wrap64 (1 + t548)) then (if bt542.2.2.2 ≤ (wrap64 (1 + t549)) then (if ((bt557.2.2.2.2.2 == 0) == true) = true then (if bt564.2.2.2.2.2 = 0 then ((chequerlaw06_lives.f k).bind fun t571 => (some t571)) else (some false)) else (some false)) else (if ((bt557.2.2.2.2.2 == 0) == (bt542.2.2.2 == 1)) = true then (if bt542.2.2.2 = 1 then (if bt564.2.2.2.2.2 = 0 then ((chequerlaw06_lives.f k).bind fun t572 => (some t572)) else (some false)) else (if bt557.2.2.2.2.2 = 4 then (if bt564.2.2.2.2.2 = 0 then ((chequerlaw06_lives.f k).bind fun t573 => (some t573)) else (some false)) else (some false))) else (some false))) else (if ((bt557.2.2.2.2.2 == 0) == false) = true then (if bt557.2.2.2.2.2 = 4 then (if bt564.2.2.2.2.2 = 0 then ((chequerlaw06_lives.f k).bind fun t574 => (some t574)) else (some false)) else (some false)) else (some false))) else (if ((bt557.2.2.2.2.2 == 0) == false) = true then (if bt557.2.2.2.2.2 = 4 then (if bt564.2.2.2.2.2 = 0 then ((chequerlaw06_lives.f k).bind fun t575 => (some t575)) else (some false)) else (some false)) else (some false))))))))))) = some r := h
 clear h
 replace H := Option.bind_eq_some_iff.mp H
 obtain ⟨⟨t542, t543, t544, t545⟩, A30, H⟩ := H
 replace H : ((chequerref01_Around.f a1_0 4096).bind fun t547 => ((chequerref01_Around.f a1_1 65536).bind fun t548 => ((chequerref01_Around.f a1_2 65535).bind fun t549 => ((chequerlaw06_of.f t542 t543 t544 t545).bind fun bt551 => ((head_Write.f bt551.1 bt551.2.1 bt551.2.2.1 bt551.2.2.2).bind fun bt555 => ((head_Parse.f k bt555.1 (wrap64 (1 + t547)) (wrap64 (1 + t548)) (wrap64 (1 + t549))).bind fun bt557 => ((head_Parse.f k bt555.1 t543 t544 t545).bind fun bt564 => (if t543 ≤ (wrap64 (1 + t547)) then (if t544 ≤ (wrap64 (1 + t548)) then (if t545 ≤ (wrap64 (1 + t549)) then (if ((bt557.2.2.2.2.2 == 0) == true) = true then (if bt564.2.2.2.2.2 = 0 then ((chequerlaw06_lives.f k).bind fun t571 => (some t571)) else (some false)) else (some false)) else (if ((bt557.2.2.2.2.2 == 0) == (t545 == 1)) = true then (if t545 = 1 then (if bt564.2.2.2.2.2 = 0 then ((chequerlaw06_lives.f k).bind fun t572 => (some t572)) else (some false)) else (if bt557.2.2.2.2.2 = 4 then (if bt564.2.2.2.2.2 = 0 then ((chequerlaw06_lives.f k).bind fun t573 => (some t573)) else (some false)) else (some false))) else (some false))) else (if ((bt557.2.2.2.2.2 == 0) == false) = true then (if bt557.2.2.2.2.2 = 4 then (if bt564.2.2.2.2.2 = 0 then ((chequerlaw06_lives.f k).bind fun t574 => (some t574)) else (some false)) else (some false)) else (some false))) else (if ((bt557.2.2.2.2.2 == 0) == false) = true then (if bt557.2.2.2.2.2 = 4 then (if bt564.2.2.2.2.2 = 0 then ((chequerlaw06_lives.f k).bind fun t575 => (some t575)) else (some false)) else (some false)) else (some false)))))))))) = some r := H
 have A3 := Aside0.mk A30
 clear A30
 replace H := Option.bind_eq_some_iff.mp H
 obtain ⟨t547, A40, H⟩ := H
 replace H : ((chequerref01_Around.f a1_1 65536).bind fun t548 => ((chequerref01_Around.f a1_2 65535).bind fun t549 => ((chequerlaw06_of.f t542 t543 t544 t545).bind fun bt551 => ((head_Write.f bt551.1 bt551.2.1 bt551.2.2.1 bt551.2.2.2).bind fun bt555 => ((head_Parse.f k bt555.1 (wrap64 (1 + t547)) (wrap64 (1 + t548)) (wrap64 (1 + t549))).bind fun bt557 => ((head_Parse.f k bt555.1 t543 t544 t545).bind fun bt564 => (if t543 ≤ (wrap64 (1 + t547)) then (if t544 ≤ (wrap64 (1 + t548)) then (if t545 ≤ (wrap64 (1 + t549)) then (if ((bt557.2.2.2.2.2 == 0) == true) = true then (if bt564.2.2.2.2.2 = 0 then ((chequerlaw06_lives.f k).bind fun t571 => (some t571)) else (some false)) else (some false)) else (if ((bt557.2.2.2.2.2 == 0) == (t545 == 1)) = true then (if t545 = 1 then (if bt564.2.2.2.2.2 = 0 then ((chequerlaw06_lives.f k).bind fun t572 => (some t572)) else (some false)) else (if bt557.2.2.2.2.2 = 4 then (if bt564.2.2.2.2.2 = 0 then ((chequerlaw06_lives.f k).bind fun t573 => (some t573)) else (some false)) else (some false))) else (some false))) else (if ((bt557.2.2.2.2.2 == 0) == false) = true then (if bt557.2.2.2.2.2 = 4 then (if bt564.2.2.2.2.2 = 0 then ((chequerlaw06_lives.f k).bind fun t574 => (some t574)) else (some false)) else (some false)) else (some false))) else (if ((bt557.2.2.2.2.2 == 0) == false) = true then (if bt557.2.2.2.2.2 = 4 then (if bt564.2.2.2.2.2 = 0 then ((chequerlaw06_lives.f k).bind fun t575 => (some t575)) else (some false)) else (some false)) else (some false))))))))) = some r := H
 have A4 := Aside0.mk A40
 clear A40
 replace H := Option.bind_eq_some_iff.mp H
 obtain ⟨t548, A50, H⟩ := H
 replace H : ((chequerref01_Around.f a1_2 65535).bind fun t549 => ((chequerlaw06_of.f t542 t543 t544 t545).bind fun bt551 => ((head_Write.f bt551.1 bt551.2.1 bt551.2.2.1 bt551.2.2.2).bind fun bt555 => ((head_Parse.f k bt555.1 (wrap64 (1 + t547)) (wrap64 (1 + t548)) (wrap64 (1 + t549))).bind fun bt557 => ((head_Parse.f k bt555.1 t543 t544 t545).bind fun bt564 => (if t543 ≤ (wrap64 (1 + t547)) then (if t544 ≤ (wrap64 (1 + t548)) then (if t545 ≤ (wrap64 (1 + t549)) then (if ((bt557.2.2.2.2.2 == 0) == true) = true then (if bt564.2.2.2.2.2 = 0 then ((chequerlaw06_lives.f k).bind fun t571 => (some t571)) else (some false)) else (some false)) else (if ((bt557.2.2.2.2.2 == 0) == (t545 == 1)) = true then (if t545 = 1 then (if bt564.2.2.2.2.2 = 0 then ((chequerlaw06_lives.f k).bind fun t572 => (some t572)) else (some false)) else (if bt557.2.2.2.2.2 = 4 then (if bt564.2.2.2.2.2 = 0 then ((chequerlaw06_lives.f k).bind fun t573 => (some t573)) else (some false)) else (some false))) else (some false))) else (if ((bt557.2.2.2.2.2 == 0) == false) = true then (if bt557.2.2.2.2.2 = 4 then (if bt564.2.2.2.2.2 = 0 then ((chequerlaw06_lives.f k).bind fun t574 => (some t574)) else (some false)) else (some false)) else (some false))) else (if ((bt557.2.2.2.2.2 == 0) == false) = true then (if bt557.2.2.2.2.2 = 4 then (if bt564.2.2.2.2.2 = 0 then ((chequerlaw06_lives.f k).bind fun t575 => (some t575)) else (some false)) else (some false)) else (some false)))))))) = some r := H
 have A5 := Aside0.mk A50
 clear A50
 replace H := Option.bind_eq_some_iff.mp H
 obtain ⟨t549, A60, H⟩ := H
 replace H : ((chequerlaw06_of.f t542 t543 t544 t545).bind fun bt551 => ((head_Write.f bt551.1 bt551.2.1 bt551.2.2.1 bt551.2.2.2).bind fun bt555 => ((head_Parse.f k bt555.1 (wrap64 (1 + t547)) (wrap64 (1 + t548)) (wrap64 (1 + t549))).bind fun bt557 => ((head_Parse.f k bt555.1 t543 t544 t545).bind fun bt564 => (if t543 ≤ (wrap64 (1 + t547)) then (if t544 ≤ (wrap64 (1 + t548)) then (if t545 ≤ (wrap64 (1 + t549)) then (if ((bt557.2.2.2.2.2 == 0) == true) = true then (if bt564.2.2.2.2.2 = 0 then ((chequerlaw06_lives.f k).bind fun t571 => (some t571)) else (some false)) else (some false)) else (if ((bt557.2.2.2.2.2 == 0) == (t545 == 1)) = true then (if t545 = 1 then (if bt564.2.2.2.2.2 = 0 then ((chequerlaw06_lives.f k).bind fun t572 => (some t572)) else (some false)) else (if bt557.2.2.2.2.2 = 4 then (if bt564.2.2.2.2.2 = 0 then ((chequerlaw06_lives.f k).bind fun t573 => (some t573)) else (some false)) else (some false))) else (some false))) else (if ((bt557.2.2.2.2.2 == 0) == false) = true then (if bt557.2.2.2.2.2 = 4 then (if bt564.2.2.2.2.2 = 0 then ((chequerlaw06_lives.f k).bind fun t574 => (some t574)) else (some false)) else (some false)) else (some false))) else (if ((bt557.2.2.2.2.2 == 0) == false) = true then (if bt557.2.2.2.2.2 = 4 then (if bt564.2.2.2.2.2 = 0 then ((chequerlaw06_lives.f k).bind fun t575 => (some t575)) else (some false)) else (some false)) else (some false))))))) = some r := H
 have A6 := Aside0.mk A60
 clear A60
 replace H := Option.bind_eq_some_iff.mp H
 obtain ⟨⟨t551, t552, t553, t554⟩, A70, H⟩ := H
 replace H : ((head_Write.f t551 t552 t553 t554).bind fun bt555 => ((head_Parse.f k bt555.1 (wrap64 (1 + t547)) (wrap64 (1 + t548)) (wrap64 (1 + t549))).bind fun bt557 => ((head_Parse.f k bt555.1 t543 t544 t545).bind fun bt564 => (if t543 ≤ (wrap64 (1 + t547)) then (if t544 ≤ (wrap64 (1 + t548)) then (if t545 ≤ (wrap64 (1 + t549)) then (if ((bt557.2.2.2.2.2 == 0) == true) = true then (if bt564.2.2.2.2.2 = 0 then ((chequerlaw06_lives.f k).bind fun t571 => (some t571)) else (some false)) else (some false)) else (if ((bt557.2.2.2.2.2 == 0) == (t545 == 1)) = true then (if t545 = 1 then (if bt564.2.2.2.2.2 = 0 then ((chequerlaw06_lives.f k).bind fun t572 => (some t572)) else (some false)) else (if bt557.2.2.2.2.2 = 4 then (if bt564.2.2.2.2.2 = 0 then ((chequerlaw06_lives.f k).bind fun t573 => (some t573)) else (some false)) else (some false))) else (some false))) else (if ((bt557.2.2.2.2.2 == 0) == false) = true then (if bt557.2.2.2.2.2 = 4 then (if bt564.2.2.2.2.2 = 0 then ((chequerlaw06_lives.f k).bind fun t574 => (some t574)) else (some false)) else (some false)) else (some false))) else (if ((bt557.2.2.2.2.2 == 0) == false) = true then (if bt557.2.2.2.2.2 = 4 then (if bt564.2.2.2.2.2 = 0 then ((chequerlaw06_lives.f k).bind fun t575 => (some t575)) else (some false)) else (some false)) else (some false)))))) = some r := H
 have A7 := Aside0.mk A70
 clear A70
 replace H := Option.bind_eq_some_iff.mp H
 obtain ⟨⟨t555, t556⟩, A80, H⟩ := H
 replace H : ((head_Parse.f k t555 (wrap64 (1 + t547)) (wrap64 (1 + t548)) (wrap64 (1 + t549))).bind fun bt557 => ((head_Parse.f k t555 t543 t544 t545).bind fun bt564 => (if t543 ≤ (wrap64 (1 + t547)) then (if t544 ≤ (wrap64 (1 + t548)) then (if t545 ≤ (wrap64 (1 + t549)) then (if ((bt557.2.2.2.2.2 == 0) == true) = true then (if bt564.2.2.2.2.2 = 0 then ((chequerlaw06_lives.f k).bind fun t571 => (some t571)) else (some false)) else (some false)) else (if ((bt557.2.2.2.2.2 == 0) == (t545 == 1)) = true then (if t545 = 1 then (if bt564.2.2.2.2.2 = 0 then ((chequerlaw06_lives.f k).bind fun t572 => (some t572)) else (some false)) else (if bt557.2.2.2.2.2 = 4 then (if bt564.2.2.2.2.2 = 0 then ((chequerlaw06_lives.f k).bind fun t573 => (some t573)) else (some false)) else (some false))) else (some false))) else (if ((bt557.2.2.2.2.2 == 0) == false) = true then (if bt557.2.2.2.2.2 = 4 then (if bt564.2.2.2.2.2 = 0 then ((chequerlaw06_lives.f k).bind fun t574 => (some t574)) else (some false)) else (some false)) else (some false))) else (if ((bt557.2.2.2.2.2 == 0) == false) = true then (if bt557.2.2.2.2.2 = 4 then (if bt564.2.2.2.2.2 = 0 then ((chequerlaw06_lives.f k).bind fun t575 => (some t575)) else (some false)) else (some false)) else (some false))))) = some r := H
 have A8 := Aside0.mk A80
 clear A80
 replace H := Option.bind_eq_some_iff.mp H
 obtain ⟨⟨t557, t558, t559, t560, t561, t562⟩, A90, H⟩ := H
 replace H : ((head_Parse.f k t555 t543 t544 t545).bind fun bt564 => (if t543 ≤ (wrap64 (1 + t547)) then (if t544 ≤ (wrap64 (1 + t548)) then (if t545 ≤ (wrap64 (1 + t549)) then (if ((t562 == 0) == true) = true then (if bt564.2.2.2.2.2 = 0 then ((chequerlaw06_lives.f k).bind fun t571 => (some t571)) else (some false)) else (some false)) else (if ((t562 == 0) == (t545 == 1)) = true then (if t545 = 1 then (if bt564.2.2.2.2.2 = 0 then ((chequerlaw06_lives.f k).bind fun t572 => (some t572)) else (some false)) else (if t562 = 4 then (if bt564.2.2.2.2.2 = 0 then ((chequerlaw06_lives.f k).bind fun t573 => (some t573)) else (some false)) else (some false))) else (some false))) else (if ((t562 == 0) == false) = true then (if t562 = 4 then (if bt564.2.2.2.2.2 = 0 then ((chequerlaw06_lives.f k).bind fun t574 => (some t574)) else (some false)) else (some false)) else (some false))) else (if ((t562 == 0) == false) = true then (if t562 = 4 then (if bt564.2.2.2.2.2 = 0 then ((chequerlaw06_lives.f k).bind fun t575 => (some t575)) else (some false)) else (some false)) else (some false)))) = some r := H
 have A9 := Aside0.mk A90
 clear A90
 replace H := Option.bind_eq_some_iff.mp H
 obtain ⟨⟨t564, t565, t566, t567, t568, t569⟩, A100, H⟩ := H
 replace H : (if t543 ≤ (wrap64 (1 + t547)) then (if t544 ≤ (wrap64 (1 + t548)) then (if t545 ≤ (wrap64 (1 + t549)) then (if ((t562 == 0) == true) = true then (if t569 = 0 then ((chequerlaw06_lives.f k).bind fun t571 => (some t571)) else (some false)) else (some false)) else (if ((t562 == 0) == (t545 == 1)) = true then (if t545 = 1 then (if t569 = 0 then ((chequerlaw06_lives.f k).bind fun t572 => (some t572)) else (some false)) else (if t562 = 4 then (if t569 = 0 then ((chequerlaw06_lives.f k).bind fun t573 => (some t573)) else (some false)) else (some false))) else (some false))) else (if ((t562 == 0) == false) = true then (if t562 = 4 then (if t569 = 0 then ((chequerlaw06_lives.f k).bind fun t574 => (some t574)) else (some false)) else (some false)) else (some false))) else (if ((t562 == 0) == false) = true then (if t562 = 4 then (if t569 = 0 then ((chequerlaw06_lives.f k).bind fun t575 => (some t575)) else (some false)) else (some false)) else (some false))) = some r := H
 have A10 := Aside0.mk A100
 clear A100
 have HP11 := Aside0.mk H
 clear H
 go_enter Try.func8, Try.ntmps8
 try go_wp2_with (first | ((with_reducible refine gate_dst (N := 2) rfl ?_); refine box_event ?hg (N := 2) ?hd (cs := #[.int .i64 a0_0, .int .i64 a0_1, .int .i64 a0_2, .int .i64 a0_3]) (t := 25) ?hr ?_; (case hd => rfl); (case hg => rfl); (case hr => first | (go_simp; done) | (go_simp; rfl)); intro gb540 hg w12 hbox hb; have BK540 := Aside0.mk (hbox); have GW540 := Aside0.mk ((by rw [hg]; exact (below_size bp_) : w.heap.size ≤ gb540)); have GE540 := Aside0.mk ((by rw [hg]; exact (below_size bp_) : w.heap.size ≤ gb540)); replace HB := Aside0.mk (below_step bp_ hb); clear hb hbox hg) | ((with_reducible refine gate_dst (N := 3) rfl ?_); refine box_event ?hg (N := 3) ?hd (cs := #[.int .i64 a1_0, .int .i64 a1_1, .int .i64 a1_2]) (t := 23) ?hr ?_; (case hd => rfl); (case hg => rfl); (case hr => first | (go_simp; done) | (go_simp; rfl)); intro gb541 hg w13 hbox hb; have BK541 := Aside0.mk (hbox); have GW541 := Aside0.mk ((by rw [hg]; exact (below_size bp_) : w.heap.size ≤ gb541)); have GE541 := Aside0.mk ((by rw [hg]; exact (below_size bp_) : w.heap.size ≤ gb541)); replace HB := Aside0.mk (below_step bp_ hb); have NB540_541 := Aside0.mk ((nlt_ hg (hp_ BK540.out))); have NB541_540 := Aside0.mk ((ngt_ hg (hp_ BK540.out))); replace BK540 := Aside0.mk (blk_below (hp_ BK540.out) hb); clear hb hbox hg; have hnb14 := NB540_541.out; have hnc14 := NB541_540.out; have hcz15_0 : w13.cell? ⟨gb540, 0, none⟩ = some (.int .i64 a0_0) := (blk_cell BK540.out 0).trans rfl; have hcz15_1 : w13.cell? ⟨gb540, 1, none⟩ = some (.int .i64 a0_1) := (blk_cell BK540.out 1).trans rfl; have hcz15_2 : w13.cell? ⟨gb540, 2, none⟩ = some (.int .i64 a0_2) := (blk_cell BK540.out 2).trans rfl; have hcz15_3 : w13.cell? ⟨gb540, 3, none⟩ = some (.int .i64 a0_3) := (blk_cell BK540.out 3).trans rfl; have hfz15_0 := blk_frozen BK540.out 0; have hfz15_1 := blk_frozen BK540.out 1; have hfz15_2 := blk_frozen BK540.out 2; have hfz15_3 := blk_frozen BK540.out 3) | ((with_reducible refine gate_callee (f := 11) rfl ?_); refine goQ_ (some 17) Try.func11 #[.agg #[.int .i64 a0_0, .int .i64 a0_1, .int .i64 a0_2, .int .i64 a0_3], .int .i64 4096] ?_; (with_reducible refine (chequerref06_Good.calls a0_0 a0_1 a0_2 a0_3 4096 t542 t543 t544 t545 _ A3.out).mono ?_); rintro e w16 ⟨rfl, hb⟩; refine ⟨_, rfl, ?_⟩; replace BK540 := Aside0.mk (blk_below (hp_ BK540.out) hb); replace BK541 := Aside0.mk (blk_below (hp_ BK541.out) hb); replace HB := Aside0.mk (below_step bp_ hb); (try clear hb); (try clear hb2); (try clear hk); (try clear hi)) | ((with_reducible refine gate_dst (N := 5) rfl ?_); refine box_event ?hg (N := 5) ?hd (cs := #[.int .i64 0, .int .i64 0, .int .i64 0, .int .i64 0]) (t := 25) ?hr ?_; (case hd => rfl); (case hg => rfl); (case hr => first | (go_simp; done) | (go_simp; rfl)); intro gb546 hg w17 hbox hb; have BK546 := Aside0.mk (hbox); have GW546 := Aside0.mk ((by rw [hg]; exact (below_size bp_) : w.heap.size ≤ gb546)); have GE546 := Aside0.mk ((by rw [hg]; exact (below_size bp_) : w.heap.size ≤ gb546)); replace HB := Aside0.mk (below_step bp_ hb); have NB540_546 := Aside0.mk ((nlt_ hg (hp_ BK540.out))); have NB546_540 := Aside0.mk ((ngt_ hg (hp_ BK540.out))); replace BK540 := Aside0.mk (blk_below (hp_ BK540.out) hb); have NB541_546 := Aside0.mk ((nlt_ hg (hp_ BK541.out))); have NB546_541 := Aside0.mk ((ngt_ hg (hp_ BK541.out))); replace BK541 := Aside0.mk (blk_below (hp_ BK541.out) hb); clear hb hbox hg; have hnb18 := NB546_540.out; have hnc18 := NB540_546.out; have hnb19 := NB546_541.out; have hnc19 := NB541_546.out; have hcz20_0 : w17.cell? ⟨gb546, 0, none⟩ = some (.int .i64 0) := (blk_cell BK546.out 0).trans rfl; have hcz20_1 : w17.cell? ⟨gb546, 1, none⟩ = some (.int .i64 0) := (blk_cell BK546.out 1).trans rfl; have hcz20_2 : w17.cell? ⟨gb546, 2, none⟩ = some (.int .i64 0) := (blk_cell BK546.out 2).trans rfl; have hcz20_3 : w17.cell? ⟨gb546, 3, none⟩ = some (.int .i64 0) := (blk_cell BK546.out 3).trans rfl; have hfz20_0 := blk_frozen BK546.out 0; have hfz20_1 := blk_frozen BK546.out 1; have hfz20_2 := blk_frozen BK546.out 2; have hfz20_3 := blk_frozen BK546.out 3))
 have n0_ : Aside0 (((((w17.setCell ⟨gb546, 0, none⟩ (.int .i64 t542)).setCell ⟨gb546, 1, none⟩ (.int .i64 t543)).setCell ⟨gb546, 2, none⟩ (.int .i64 t544)).setCell ⟨gb546, 3, none⟩ (.int .i64 t545)).heap[gb540]? = some (.cells #[.int .i64 a0_0, .int .i64 a0_1, .int .i64 a0_2, .int .i64 a0_3] 25 (0, 0))) := ⟨hf_ BK540.out NB540_546.out⟩
 have n1_ : Aside0 (((((w17.setCell ⟨gb546, 0, none⟩ (.int .i64 t542)).setCell ⟨gb546, 1, none⟩ (.int .i64 t543)).setCell ⟨gb546, 2, none⟩ (.int .i64 t544)).setCell ⟨gb546, 3, none⟩ (.int .i64 t545)).heap[gb541]? = some (.cells #[.int .i64 a1_0, .int .i64 a1_1, .int .i64 a1_2] 23 (0, 0))) := ⟨hf_ BK541.out NB541_546.out⟩
 have n2_ : Aside0 (((((w17.setCell ⟨gb546, 0, none⟩ (.int .i64 t542)).setCell ⟨gb546, 1, none⟩ (.int .i64 t543)).setCell ⟨gb546, 2, none⟩ (.int .i64 t544)).setCell ⟨gb546, 3, none⟩ (.int .i64 t545)).heap[gb546]? = some (.cells #[.int .i64 t542, .int .i64 t543, .int .i64 t544, .int .i64 t545] 25 (0, 0))) := ⟨by (with_reducible repeat (first | refine blk_drewN ?_ _ | refine blk_drew ?_ | refine blk_alloc ?_ _)); refine blk_put (cs := #[.int .i64 t542, .int .i64 t543, .int .i64 t544, .int .i64 0]) ?_ 3 _ rfl; (with_reducible repeat (first | refine blk_drewN ?_ _ | refine blk_drew ?_ | refine blk_alloc ?_ _)); refine blk_put (cs := #[.int .i64 t542, .int .i64 t543, .int .i64 0, .int .i64 0]) ?_ 2 _ rfl; (with_reducible repeat (first | refine blk_drewN ?_ _ | refine blk_drew ?_ | refine blk_alloc ?_ _)); refine blk_put (cs := #[.int .i64 t542, .int .i64 0, .int .i64 0, .int .i64 0]) ?_ 1 _ rfl; (with_reducible repeat (first | refine blk_drewN ?_ _ | refine blk_drew ?_ | refine blk_alloc ?_ _)); refine blk_put (cs := #[.int .i64 0, .int .i64 0, .int .i64 0, .int .i64 0]) ?_ 0 _ rfl; (with_reducible repeat (first | refine blk_drewN ?_ _ | refine blk_drew ?_ | refine blk_alloc ?_ _)); exact BK546.out⟩
 have n3_ : Aside0 (Below w.heap.size w ((((w17.setCell ⟨gb546, 0, none⟩ (.int .i64 t542)).setCell ⟨gb546, 1, none⟩ (.int .i64 t543)).setCell ⟨gb546, 2, none⟩ (.int .i64 t544)).setCell ⟨gb546, 3, none⟩ (.int .i64 t545))) := ⟨bp_⟩
 (try clear BK540)
 (try clear BK541)
 (try clear BK546)
 (try clear HB)
 generalize ((((w17.setCell ⟨gb546, 0, none⟩ (.int .i64 t542)).setCell ⟨gb546, 1, none⟩ (.int .i64 t543)).setCell ⟨gb546, 2, none⟩ (.int .i64 t544)).setCell ⟨gb546, 3, none⟩ (.int .i64 t545)) = w21 at n0_ n1_ n2_ n3_ ⊢
 have BK540 := n0_
 have BK541 := n1_
 have BK546 := n2_
 have HB := n3_
 clear n0_ n1_ n2_ n3_
 replace BK540 := Aside0.mk (blk_drew BK540.out)
 replace BK541 := Aside0.mk (blk_drew BK541.out)
 replace BK546 := Aside0.mk (blk_drew BK546.out)
 replace HB := Aside0.mk (below_drew1 HB.out)
 refine start_ (n := 15) (S := fun w' => w'.cell? ⟨gb541, 0, none⟩ = some (.int .i64 a1_0) ∧ w'.cell? ⟨gb541, 1, none⟩ = some (.int .i64 a1_1) ∧ w'.cell? ⟨gb541, 2, none⟩ = some (.int .i64 a1_2)) (ds := []) #[false, false, false, false, false, false, false, false, false, false, false, false, false, false, false] (by kernel_rfl) rfl rfl ⟨(blk_cell BK541.out 0).trans rfl, (blk_cell BK541.out 1).trans rfl, (blk_cell BK541.out 2).trans rfl⟩ (fun hHeld => ?_); refine with_tabW chequerlaw06_HeadLimits.tab2 chequerlaw06_HeadLimits.bits2 (fun HT_ HW_ => ?_)
 generalize w21.drew = w22 at BK540 BK541 BK546 HB hHeld ⊢
 refine pur_ (i := 0) (N := some 18) #[true, false, false, false, false, false, false, false, false, false, false, false, false, false, false] (any_of HT_.out (by kernel_rfl)) ?_
 refine pur_ (i := 4) (N := some 22) #[true, false, false, false, true, false, false, false, false, false, false, false, false, false, false] (any_of HT_.out (by kernel_rfl)) ?_
 refine pur_ (i := 8) (N := some 26) #[true, false, false, false, true, false, false, false, true, false, false, false, false, false, false] (any_of HT_.out (by kernel_rfl)) ?_
 refine take_ (i := 1) (N := some 19) (v := ?_) (a' := ?_) #[true, true, false, false, true, false, false, false, true, false, false, false, false, false, false] rfl rfl (take_ofW HT_.out HW_.out (by kernel_rfl)) (fun _ _ _ h => h) (Or.inl ⟨by rfl, ?_⟩) hHeld ?_ ?_
 rotate_left
 · rintro w' ⟨s0, s1, s2⟩
   go_simp
   with_reducible rfl
 rotate_left
 · simp only [Act.put, List.setIfInBounds_toArray, List.set_cons_zero, List.set_cons_succ, i64_w, i32_w]
   rfl
 refine take_ (i := 5) (N := some 23) (v := ?_) (a' := ?_) #[true, true, false, false, true, true, false, false, true, false, false, false, false, false, false] rfl rfl (take_ofW HT_.out HW_.out (by kernel_rfl)) (fun _ _ _ h => h) (Or.inl ⟨by rfl, ?_⟩) hHeld ?_ ?_
 rotate_left
 · rintro w' ⟨s0, s1, s2⟩
   go_simp
   with_reducible rfl
 rotate_left
 · simp only [Act.put, List.setIfInBounds_toArray, List.set_cons_zero, List.set_cons_succ, i64_w, i32_w]
   rfl
 refine take_ (i := 9) (N := some 27) (v := ?_) (a' := ?_) #[true, true, false, false, true, true, false, false, true, true, false, false, false, false, false] rfl rfl (take_ofW HT_.out HW_.out (by kernel_rfl)) (fun _ _ _ h => h) (Or.inl ⟨by rfl, ?_⟩) hHeld ?_ ?_
 rotate_left
 · rintro w' ⟨s0, s1, s2⟩
   go_simp
   with_reducible rfl
 rotate_left
 · simp only [Act.put, List.setIfInBounds_toArray, List.set_cons_zero, List.set_cons_succ, i64_w, i32_w]
   rfl
 refine join_ (σ := Nat) 1 Fl197 (fun s_ => [(20, .int .i64 t547), (24, .int .i64 t548), (28, .int .i64 t549), (6, .pointer (some ⟨s_, 0, none⟩)), (21, .int .i64 (wrap64 (1 + t547))), (25, .int .i64 (wrap64 (1 + t548))), (29, .int .i64 (wrap64 (1 + t549))), (30, .agg #[.int .i64 (wrap64 (1 + t547)), .int .i64 (wrap64 (1 + t548)), .int .i64 (wrap64 (1 + t549))])]) (fun s_ w' => (w'.cell? ⟨gb541, 0, none⟩ = some (.int .i64 a1_0) ∧ w'.cell? ⟨gb541, 1, none⟩ = some (.int .i64 a1_1) ∧ w'.cell? ⟨gb541, 2, none⟩ = some (.int .i64 a1_2)) ∧ (w'.heap[gb540]? = some (.cells #[.int .i64 a0_0, .int .i64 a0_1, .int .i64 a0_2, .int .i64 a0_3] 25 (0, 0))) ∧ (w'.heap[gb541]? = some (.cells #[.int .i64 a1_0, .int .i64 a1_1, .int .i64 a1_2] 23 (0, 0))) ∧ (w'.heap[gb546]? = some (.cells #[.int .i64 t542, .int .i64 t543, .int .i64 t544, .int .i64 t545] 25 (0, 0))) ∧ (w'.heap[s_]? = some (.cells #[.int .i64 0, .int .i64 0, .int .i64 0] 23 (0, 0))) ∧ (w.heap.size ≤ s_) ∧ (w.heap.size ≤ s_) ∧ (gb540 ≠ s_) ∧ (s_ ≠ gb540) ∧ (gb541 ≠ s_) ∧ (s_ ≠ gb541) ∧ (gb546 ≠ s_) ∧ (s_ ≠ gb546) ∧ (Below w.heap.size w w')) ?_ ?_
 rotate_left
 · intro hCont
   refine two_ (i := 2) (j := 13) (Ni := some 20) (Nj := some 6) #[true, true, true, false, true, true, false, false, true, true, false, false, false, false, false] #[true, true, false, false, true, true, false, false, true, true, false, false, false, true, false] rfl rfl rfl rfl (two_of HT_.out (by kernel_rfl)) (by decide) (by decide) (fun K hK => ?_) (fun K hK => ?_)
   · skip
     refine goes_ Try.func13 (by kernel_rfl) rfl #[.int .i64 a1_0, .int .i64 4096] (by rfl) rfl rfl (by (try simp only [List.map_toArray, List.map_cons, List.map_nil]); first | done | rfl | (simp only [List.length_drop, List.length_take]; rfl)) ?_
     with_reducible refine (chequerref01_Around.calls a1_0 4096 t547 _ A4.out).mono ?_
     rintro e w' ⟨rfl, ⟨nd, rfl⟩⟩
     refine ⟨_, rfl, ?_⟩
     refine hK.out _ _ ⟨(blk_cell BK541.out 0).trans rfl, (blk_cell BK541.out 1).trans rfl, (blk_cell BK541.out 2).trans rfl⟩ (fun hHeld => ?_)
     clear hK K
     refine norm_ (a' := ?_) ?_ ?_
     rotate_left
     · show Act.put _ (some 20) _ = _
       simp only [Act.put, List.setIfInBounds_toArray, List.set_cons_zero, List.set_cons_succ, i64_w, i32_w]
       rfl
     refine pur_ (i := 3) (N := some 21) #[true, true, true, true, true, true, false, false, true, true, false, false, false, false, false] (any_of HT_.out (by kernel_rfl)) ?_
     refine two_ (i := 6) (j := 13) (Ni := some 24) (Nj := some 6) #[true, true, true, true, true, true, true, false, true, true, false, false, false, false, false] Fl201 rfl rfl rfl rfl (two_of HT_.out (by kernel_rfl)) (by decide) (by decide) (fun K hK => ?_) (fun K hK => ?_)
     · skip
       refine goes_ Try.func13 (by kernel_rfl) rfl #[.int .i64 a1_1, .int .i64 65536] (by rfl) rfl rfl (by (try simp only [List.map_toArray, List.map_cons, List.map_nil]); first | done | rfl | (simp only [List.length_drop, List.length_take]; rfl)) ?_
       with_reducible refine (chequerref01_Around.calls a1_1 65536 t548 _ A5.out).mono ?_
       rintro e w' ⟨rfl, ⟨nd, rfl⟩⟩
       refine ⟨_, rfl, ?_⟩
       refine hK.out _ _ ⟨(blk_cell BK541.out 0).trans rfl, (blk_cell BK541.out 1).trans rfl, (blk_cell BK541.out 2).trans rfl⟩ (fun hHeld => ?_)
       clear hK K
       refine norm_ (a' := ?_) ?_ ?_
       rotate_left
       · show Act.put _ (some 24) _ = _
         simp only [Act.put, List.setIfInBounds_toArray, List.set_cons_zero, List.set_cons_succ, i64_w, i32_w]
         rfl
       refine pur_ (i := 7) (N := some 25) #[true, true, true, true, true, true, true, true, true, true, false, false, false, false, false] (any_of HT_.out (by kernel_rfl)) ?_
       refine two_ (i := 10) (j := 13) (Ni := some 28) (Nj := some 6) #[true, true, true, true, true, true, true, true, true, true, true, false, false, false, false] Fl198 rfl rfl rfl rfl (two_of HT_.out (by kernel_rfl)) (by decide) (by decide) (fun K hK => ?_) (fun K hK => ?_)
       · skip
         refine goes_ Try.func13 (by kernel_rfl) rfl #[.int .i64 a1_2, .int .i64 65535] (by rfl) rfl rfl (by (try simp only [List.map_toArray, List.map_cons, List.map_nil]); first | done | rfl | (simp only [List.length_drop, List.length_take]; rfl)) ?_
         with_reducible refine (chequerref01_Around.calls a1_2 65535 t549 _ A6.out).mono ?_
         rintro e w' ⟨rfl, ⟨nd, rfl⟩⟩
         refine ⟨_, rfl, ?_⟩
         refine hK.out _ _ ⟨(blk_cell BK541.out 0).trans rfl, (blk_cell BK541.out 1).trans rfl, (blk_cell BK541.out 2).trans rfl⟩ (fun hHeld => ?_)
         clear hK K
         refine norm_ (a' := ?_) ?_ ?_
         rotate_left
         · show Act.put _ (some 28) _ = _
           simp only [Act.put, List.setIfInBounds_toArray, List.set_cons_zero, List.set_cons_succ, i64_w, i32_w]
           rfl
         refine pur_ (i := 11) (N := some 29) #[true, true, true, true, true, true, true, true, true, true, true, true, false, false, false] (any_of HT_.out (by kernel_rfl)) ?_
         refine pur_ (i := 12) (N := some 30) #[true, true, true, true, true, true, true, true, true, true, true, true, true, false, false] (any_of HT_.out (by kernel_rfl)) ?_
         refine one_ (i := 13) (N := some 6) Fl197 rfl rfl (one_of HT_.out (by kernel_rfl)) (by decide) (fun K hK => ?_)
         refine box_step ?hg (N := 6) ?hd (cs := #[.int .i64 0, .int .i64 0, .int .i64 0]) (t := 23) ?hr ?_; (case hd => rfl); (case hg => rfl); (case hr => first | (go_simp; done) | (go_simp; rfl))
         intro gb550 hg w23 hbox hb
         have BK550 := Aside0.mk (hbox)
         have GW550 := Aside0.mk ((by rw [hg]; exact (below_size bp_) : w.heap.size ≤ gb550))
         have GE550 := Aside0.mk ((by rw [hg]; exact (below_size bp_) : w.heap.size ≤ gb550))
         replace HB := Aside0.mk (below_step bp_ hb)
         have NB540_550 := Aside0.mk ((nlt_ hg (hp_ BK540.out)))
         have NB550_540 := Aside0.mk ((ngt_ hg (hp_ BK540.out)))
         replace BK540 := Aside0.mk (blk_below (hp_ BK540.out) hb)
         have NB541_550 := Aside0.mk ((nlt_ hg (hp_ BK541.out)))
         have NB550_541 := Aside0.mk ((ngt_ hg (hp_ BK541.out)))
         replace BK541 := Aside0.mk (blk_below (hp_ BK541.out) hb)
         have NB546_550 := Aside0.mk ((nlt_ hg (hp_ BK546.out)))
         have NB550_546 := Aside0.mk ((ngt_ hg (hp_ BK546.out)))
         replace BK546 := Aside0.mk (blk_below (hp_ BK546.out) hb)
         clear hb hbox hg
         refine hK.out _ _ ⟨(blk_cell BK541.out 0).trans rfl, (blk_cell BK541.out 1).trans rfl, (blk_cell BK541.out 2).trans rfl⟩ (fun hHeld => ?_)
         clear hK K
         refine norm_ (a' := ?_) ?_ ?_
         rotate_left
         · show Act.put _ (some 6) _ = _
           simp only [Act.put, List.setIfInBounds_toArray, List.set_cons_zero, List.set_cons_succ, i64_w, i32_w]
           rfl
         exact norm_ (by simp only [putAll, Act.put, List.setIfInBounds_toArray, List.set_cons_zero, List.set_cons_succ]) (hCont (gb550) _ ⟨hHeld, (hp_ BK540.out), (hp_ BK541.out), (hp_ BK546.out), (hp_ BK550.out), GW550.out, GE550.out, NB540_550.out, NB550_540.out, NB541_550.out, NB550_541.out, NB546_550.out, NB550_546.out, bp_⟩)
       · skip
         refine box_step ?hg (N := 6) ?hd (cs := #[.int .i64 0, .int .i64 0, .int .i64 0]) (t := 23) ?hr ?_; (case hd => rfl); (case hg => rfl); (case hr => first | (go_simp; done) | (go_simp; rfl))
         intro gb550 hg w23 hbox hb
         have BK550 := Aside0.mk (hbox)
         have GW550 := Aside0.mk ((by rw [hg]; exact (below_size bp_) : w.heap.size ≤ gb550))
         have GE550 := Aside0.mk ((by rw [hg]; exact (below_size bp_) : w.heap.size ≤ gb550))
         replace HB := Aside0.mk (below_step bp_ hb)
         have NB540_550 := Aside0.mk ((nlt_ hg (hp_ BK540.out)))
         have NB550_540 := Aside0.mk ((ngt_ hg (hp_ BK540.out)))
         replace BK540 := Aside0.mk (blk_below (hp_ BK540.out) hb)
         have NB541_550 := Aside0.mk ((nlt_ hg (hp_ BK541.out)))
         have NB550_541 := Aside0.mk ((ngt_ hg (hp_ BK541.out)))
         replace BK541 := Aside0.mk (blk_below (hp_ BK541.out) hb)
         have NB546_550 := Aside0.mk ((nlt_ hg (hp_ BK546.out)))
         have NB550_546 := Aside0.mk ((ngt_ hg (hp_ BK546.out)))
         replace BK546 := Aside0.mk (blk_below (hp_ BK546.out) hb)
         clear hb hbox hg
         refine hK.out _ _ ⟨(blk_cell BK541.out 0).trans rfl, (blk_cell BK541.out 1).trans rfl, (blk_cell BK541.out 2).trans rfl⟩ (fun hHeld => ?_)
         clear hK K
         refine norm_ (a' := ?_) ?_ ?_
         rotate_left
         · show Act.put _ (some 6) _ = _
           simp only [Act.put, List.setIfInBounds_toArray, List.set_cons_zero, List.set_cons_succ, i64_w, i32_w]
           rfl
         refine one_ (i := 10) (N := some 28) Fl199 rfl rfl (one_of HT_.out (by kernel_rfl)) (by decide) (fun K hK => ?_)
         refine goes_ Try.func13 (by kernel_rfl) rfl #[.int .i64 a1_2, .int .i64 65535] (by rfl) rfl rfl (by (try simp only [List.map_toArray, List.map_cons, List.map_nil]); first | done | rfl | (simp only [List.length_drop, List.length_take]; rfl)) ?_
         with_reducible refine (chequerref01_Around.calls a1_2 65535 t549 _ A6.out).mono ?_
         rintro e w' ⟨rfl, ⟨nd, rfl⟩⟩
         refine ⟨_, rfl, ?_⟩
         refine hK.out _ _ ⟨(blk_cell BK541.out 0).trans rfl, (blk_cell BK541.out 1).trans rfl, (blk_cell BK541.out 2).trans rfl⟩ (fun hHeld => ?_)
         clear hK K
         refine norm_ (a' := ?_) ?_ ?_
         rotate_left
         · show Act.put _ (some 28) _ = _
           simp only [Act.put, List.setIfInBounds_toArray, List.set_cons_zero, List.set_cons_succ, i64_w, i32_w]
           rfl
         refine pur_ (i := 11) (N := some 29) Fl200 (any_of HT_.out (by kernel_rfl)) ?_
         refine pur_ (i := 12) (N := some 30) Fl197 (any_of HT_.out (by kernel_rfl)) ?_
         exact norm_ (by simp only [putAll, Act.put, List.setIfInBounds_toArray, List.set_cons_zero, List.set_cons_succ]) (hCont (gb550) _ ⟨hHeld, (hp_ BK540.out), (hp_ BK541.out), (hp_ BK546.out), (hp_ BK550.out), GW550.out, GE550.out, NB540_550.out, NB550_540.out, NB541_550.out, NB550_541.out, NB546_550.out, NB550_546.out, bp_⟩)
     · skip
       refine box_step ?hg (N := 6) ?hd (cs := #[.int .i64 0, .int .i64 0, .int .i64 0]) (t := 23) ?hr ?_; (case hd => rfl); (case hg => rfl); (case hr => first | (go_simp; done) | (go_simp; rfl))
       intro gb550 hg w23 hbox hb
       have BK550 := Aside0.mk (hbox)
       have GW550 := Aside0.mk ((by rw [hg]; exact (below_size bp_) : w.heap.size ≤ gb550))
       have GE550 := Aside0.mk ((by rw [hg]; exact (below_size bp_) : w.heap.size ≤ gb550))
       replace HB := Aside0.mk (below_step bp_ hb)
       have NB540_550 := Aside0.mk ((nlt_ hg (hp_ BK540.out)))
       have NB550_540 := Aside0.mk ((ngt_ hg (hp_ BK540.out)))
       replace BK540 := Aside0.mk (blk_below (hp_ BK540.out) hb)
       have NB541_550 := Aside0.mk ((nlt_ hg (hp_ BK541.out)))
       have NB550_541 := Aside0.mk ((ngt_ hg (hp_ BK541.out)))
       replace BK541 := Aside0.mk (blk_below (hp_ BK541.out) hb)
       have NB546_550 := Aside0.mk ((nlt_ hg (hp_ BK546.out)))
       have NB550_546 := Aside0.mk ((ngt_ hg (hp_ BK546.out)))
       replace BK546 := Aside0.mk (blk_below (hp_ BK546.out) hb)
       clear hb hbox hg
       refine hK.out _ _ ⟨(blk_cell BK541.out 0).trans rfl, (blk_cell BK541.out 1).trans rfl, (blk_cell BK541.out 2).trans rfl⟩ (fun hHeld => ?_)
       clear hK K
       refine norm_ (a' := ?_) ?_ ?_
       rotate_left
       · show Act.put _ (some 6) _ = _
         simp only [Act.put, List.setIfInBounds_toArray, List.set_cons_zero, List.set_cons_succ, i64_w, i32_w]
         rfl
       refine one_ (i := 6) (N := some 24) Fl202 rfl rfl (one_of HT_.out (by kernel_rfl)) (by decide) (fun K hK => ?_)
       refine goes_ Try.func13 (by kernel_rfl) rfl #[.int .i64 a1_1, .int .i64 65536] (by rfl) rfl rfl (by (try simp only [List.map_toArray, List.map_cons, List.map_nil]); first | done | rfl | (simp only [List.length_drop, List.length_take]; rfl)) ?_
       with_reducible refine (chequerref01_Around.calls a1_1 65536 t548 _ A5.out).mono ?_
       rintro e w' ⟨rfl, ⟨nd, rfl⟩⟩
       refine ⟨_, rfl, ?_⟩
       refine hK.out _ _ ⟨(blk_cell BK541.out 0).trans rfl, (blk_cell BK541.out 1).trans rfl, (blk_cell BK541.out 2).trans rfl⟩ (fun hHeld => ?_)
       clear hK K
       refine norm_ (a' := ?_) ?_ ?_
       rotate_left
       · show Act.put _ (some 24) _ = _
         simp only [Act.put, List.setIfInBounds_toArray, List.set_cons_zero, List.set_cons_succ, i64_w, i32_w]
         rfl
       refine pur_ (i := 7) (N := some 25) Fl198 (any_of HT_.out (by kernel_rfl)) ?_
       refine one_ (i := 10) (N := some 28) Fl199 rfl rfl (one_of HT_.out (by kernel_rfl)) (by decide) (fun K hK => ?_)
       refine goes_ Try.func13 (by kernel_rfl) rfl #[.int .i64 a1_2, .int .i64 65535] (by rfl) rfl rfl (by (try simp only [List.map_toArray, List.map_cons, List.map_nil]); first | done | rfl | (simp only [List.length_drop, List.length_take]; rfl)) ?_
       with_reducible refine (chequerref01_Around.calls a1_2 65535 t549 _ A6.out).mono ?_
       rintro e w' ⟨rfl, ⟨nd, rfl⟩⟩
       refine ⟨_, rfl, ?_⟩
       refine hK.out _ _ ⟨(blk_cell BK541.out 0).trans rfl, (blk_cell BK541.out 1).trans rfl, (blk_cell BK541.out 2).trans rfl⟩ (fun hHeld => ?_)
       clear hK K
       refine norm_ (a' := ?_) ?_ ?_
       rotate_left
       · show Act.put _ (some 28) _ = _
         simp only [Act.put, List.setIfInBounds_toArray, List.set_cons_zero, List.set_cons_succ, i64_w, i32_w]
         rfl
       refine pur_ (i := 11) (N := some 29) Fl200 (any_of HT_.out (by kernel_rfl)) ?_
       refine pur_ (i := 12) (N := some 30) Fl197 (any_of HT_.out (by kernel_rfl)) ?_
       exact norm_ (by simp only [putAll, Act.put, List.setIfInBounds_toArray, List.set_cons_zero, List.set_cons_succ]) (hCont (gb550) _ ⟨hHeld, (hp_ BK540.out), (hp_ BK541.out), (hp_ BK546.out), (hp_ BK550.out), GW550.out, GE550.out, NB540_550.out, NB550_540.out, NB541_550.out, NB550_541.out, NB546_550.out, NB550_546.out, bp_⟩)
   · skip
     refine box_step ?hg (N := 6) ?hd (cs := #[.int .i64 0, .int .i64 0, .int .i64 0]) (t := 23) ?hr ?_; (case hd => rfl); (case hg => rfl); (case hr => first | (go_simp; done) | (go_simp; rfl))
     intro gb550 hg w23 hbox hb
     have BK550 := Aside0.mk (hbox)
     have GW550 := Aside0.mk ((by rw [hg]; exact (below_size bp_) : w.heap.size ≤ gb550))
     have GE550 := Aside0.mk ((by rw [hg]; exact (below_size bp_) : w.heap.size ≤ gb550))
     replace HB := Aside0.mk (below_step bp_ hb)
     have NB540_550 := Aside0.mk ((nlt_ hg (hp_ BK540.out)))
     have NB550_540 := Aside0.mk ((ngt_ hg (hp_ BK540.out)))
     replace BK540 := Aside0.mk (blk_below (hp_ BK540.out) hb)
     have NB541_550 := Aside0.mk ((nlt_ hg (hp_ BK541.out)))
     have NB550_541 := Aside0.mk ((ngt_ hg (hp_ BK541.out)))
     replace BK541 := Aside0.mk (blk_below (hp_ BK541.out) hb)
     have NB546_550 := Aside0.mk ((nlt_ hg (hp_ BK546.out)))
     have NB550_546 := Aside0.mk ((ngt_ hg (hp_ BK546.out)))
     replace BK546 := Aside0.mk (blk_below (hp_ BK546.out) hb)
     clear hb hbox hg
     refine hK.out _ _ ⟨(blk_cell BK541.out 0).trans rfl, (blk_cell BK541.out 1).trans rfl, (blk_cell BK541.out 2).trans rfl⟩ (fun hHeld => ?_)
     clear hK K
     refine norm_ (a' := ?_) ?_ ?_
     rotate_left
     · show Act.put _ (some 6) _ = _
       simp only [Act.put, List.setIfInBounds_toArray, List.set_cons_zero, List.set_cons_succ, i64_w, i32_w]
       rfl
     refine one_ (i := 2) (N := some 20) #[true, true, true, false, true, true, false, false, true, true, false, false, false, true, false] rfl rfl (one_of HT_.out (by kernel_rfl)) (by decide) (fun K hK => ?_)
     refine goes_ Try.func13 (by kernel_rfl) rfl #[.int .i64 a1_0, .int .i64 4096] (by rfl) rfl rfl (by (try simp only [List.map_toArray, List.map_cons, List.map_nil]); first | done | rfl | (simp only [List.length_drop, List.length_take]; rfl)) ?_
     with_reducible refine (chequerref01_Around.calls a1_0 4096 t547 _ A4.out).mono ?_
     rintro e w' ⟨rfl, ⟨nd, rfl⟩⟩
     refine ⟨_, rfl, ?_⟩
     refine hK.out _ _ ⟨(blk_cell BK541.out 0).trans rfl, (blk_cell BK541.out 1).trans rfl, (blk_cell BK541.out 2).trans rfl⟩ (fun hHeld => ?_)
     clear hK K
     refine norm_ (a' := ?_) ?_ ?_
     rotate_left
     · show Act.put _ (some 20) _ = _
       simp only [Act.put, List.setIfInBounds_toArray, List.set_cons_zero, List.set_cons_succ, i64_w, i32_w]
       rfl
     refine pur_ (i := 3) (N := some 21) Fl201 (any_of HT_.out (by kernel_rfl)) ?_
     refine one_ (i := 6) (N := some 24) Fl202 rfl rfl (one_of HT_.out (by kernel_rfl)) (by decide) (fun K hK => ?_)
     refine goes_ Try.func13 (by kernel_rfl) rfl #[.int .i64 a1_1, .int .i64 65536] (by rfl) rfl rfl (by (try simp only [List.map_toArray, List.map_cons, List.map_nil]); first | done | rfl | (simp only [List.length_drop, List.length_take]; rfl)) ?_
     with_reducible refine (chequerref01_Around.calls a1_1 65536 t548 _ A5.out).mono ?_
     rintro e w' ⟨rfl, ⟨nd, rfl⟩⟩
     refine ⟨_, rfl, ?_⟩
     refine hK.out _ _ ⟨(blk_cell BK541.out 0).trans rfl, (blk_cell BK541.out 1).trans rfl, (blk_cell BK541.out 2).trans rfl⟩ (fun hHeld => ?_)
     clear hK K
     refine norm_ (a' := ?_) ?_ ?_
     rotate_left
     · show Act.put _ (some 24) _ = _
       simp only [Act.put, List.setIfInBounds_toArray, List.set_cons_zero, List.set_cons_succ, i64_w, i32_w]
       rfl
     refine pur_ (i := 7) (N := some 25) Fl198 (any_of HT_.out (by kernel_rfl)) ?_
     refine one_ (i := 10) (N := some 28) Fl199 rfl rfl (one_of HT_.out (by kernel_rfl)) (by decide) (fun K hK => ?_)
     refine goes_ Try.func13 (by kernel_rfl) rfl #[.int .i64 a1_2, .int .i64 65535] (by rfl) rfl rfl (by (try simp only [List.map_toArray, List.map_cons, List.map_nil]); first | done | rfl | (simp only [List.length_drop, List.length_take]; rfl)) ?_
     with_reducible refine (chequerref01_Around.calls a1_2 65535 t549 _ A6.out).mono ?_
     rintro e w' ⟨rfl, ⟨nd, rfl⟩⟩
     refine ⟨_, rfl, ?_⟩
     refine hK.out _ _ ⟨(blk_cell BK541.out 0).trans rfl, (blk_cell BK541.out 1).trans rfl, (blk_cell BK541.out 2).trans rfl⟩ (fun hHeld => ?_)
     clear hK K
     refine norm_ (a' := ?_) ?_ ?_
     rotate_left
     · show Act.put _ (some 28) _ = _
       simp only [Act.put, List.setIfInBounds_toArray, List.set_cons_zero, List.set_cons_succ, i64_w, i32_w]
       rfl
     refine pur_ (i := 11) (N := some 29) Fl200 (any_of HT_.out (by kernel_rfl)) ?_
     refine pur_ (i := 12) (N := some 30) Fl197 (any_of HT_.out (by kernel_rfl)) ?_
     exact norm_ (by simp only [putAll, Act.put, List.setIfInBounds_toArray, List.set_cons_zero, List.set_cons_succ]) (hCont (gb550) _ ⟨hHeld, (hp_ BK540.out), (hp_ BK541.out), (hp_ BK546.out), (hp_ BK550.out), GW550.out, GE550.out, NB540_550.out, NB550_540.out, NB541_550.out, NB550_541.out, NB546_550.out, NB550_546.out, bp_⟩)
 rintro gb550 w24 ⟨hS_, h0_, h1_, h2_, h3_, h4_, h5_, h6_, h7_, h8_, h9_, h10_, h11_, h12_⟩
 replace BK540 : Aside0 (w24.heap[gb540]? = some (.cells #[.int .i64 a0_0, .int .i64 a0_1, .int .i64 a0_2, .int .i64 a0_3] 25 (0, 0))) := ⟨h0_⟩
 replace BK541 : Aside0 (w24.heap[gb541]? = some (.cells #[.int .i64 a1_0, .int .i64 a1_1, .int .i64 a1_2] 23 (0, 0))) := ⟨h1_⟩
 replace BK546 : Aside0 (w24.heap[gb546]? = some (.cells #[.int .i64 t542, .int .i64 t543, .int .i64 t544, .int .i64 t545] 25 (0, 0))) := ⟨h2_⟩
 have BK550 : Aside0 (w24.heap[gb550]? = some (.cells #[.int .i64 0, .int .i64 0, .int .i64 0] 23 (0, 0))) := ⟨h3_⟩
 have GW550 : Aside0 (w.heap.size ≤ gb550) := ⟨h4_⟩
 have GE550 : Aside0 (w.heap.size ≤ gb550) := ⟨h5_⟩
 have NB540_550 : Aside0 (gb540 ≠ gb550) := ⟨h6_⟩
 have NB550_540 : Aside0 (gb550 ≠ gb540) := ⟨h7_⟩
 have NB541_550 : Aside0 (gb541 ≠ gb550) := ⟨h8_⟩
 have NB550_541 : Aside0 (gb550 ≠ gb541) := ⟨h9_⟩
 have NB546_550 : Aside0 (gb546 ≠ gb550) := ⟨h10_⟩
 have NB550_546 : Aside0 (gb550 ≠ gb546) := ⟨h11_⟩
 replace HB : Aside0 (Below w.heap.size w w24) := ⟨h12_⟩
 clear h0_ h1_ h2_ h3_ h4_ h5_ h6_ h7_ h8_ h9_ h10_ h11_ h12_
 have hHeld : w24.cell? ⟨gb541, 0, none⟩ = some (.int .i64 a1_0) ∧ w24.cell? ⟨gb541, 1, none⟩ = some (.int .i64 a1_1) ∧ w24.cell? ⟨gb541, 2, none⟩ = some (.int .i64 a1_2) := hS_
 refine norm_ (a' := ?_) ?_ ?_
 rotate_left
 · simp only [putAll, Act.put, List.setIfInBounds_toArray, List.set_cons_zero, List.set_cons_succ]
   rfl
 refine one_ (i := 14) (N := none) #[true, true, true, true, true, true, true, true, true, true, true, true, true, true, true] rfl rfl (one_of HT_.out (by kernel_rfl)) (by decide) (fun K hK => ?_)
 have hs25 : w24.cell? ⟨gb550, 0, none⟩ = some (.int .i64 0) := (blk_cell BK550.out 0).trans rfl
 have hfs25 := blk_frozen BK550.out 0
 have hns25_0 := NB540_550.out
 have hns25_1 := NB541_550.out
 have hns25_2 := NB546_550.out
 have hms25_0 := NB550_540.out
 have hms25_1 := NB550_541.out
 have hms25_2 := NB550_546.out
 have hs26 : w24.cell? ⟨gb550, 1, none⟩ = some (.int .i64 0) := (blk_cell BK550.out 1).trans rfl
 have hfs26 := blk_frozen BK550.out 1
 have hns26_0 := NB540_550.out
 have hns26_1 := NB541_550.out
 have hns26_2 := NB546_550.out
 have hms26_0 := NB550_540.out
 have hms26_1 := NB550_541.out
 have hms26_2 := NB550_546.out
 have hs27 : w24.cell? ⟨gb550, 2, none⟩ = some (.int .i64 0) := (blk_cell BK550.out 2).trans rfl
 have hfs27 := blk_frozen BK550.out 2
 have hns27_0 := NB540_550.out
 have hns27_1 := NB541_550.out
 have hns27_2 := NB546_550.out
 have hms27_0 := NB550_540.out
 have hms27_1 := NB550_541.out
 have hms27_2 := NB550_546.out
 refine skip_ (w1 := ?_) (by rfl) rfl ?_ ?_
 rotate_left
 · go_simp
   rfl
 refine hK.out _ _ ⟨((cell_far (p := ⟨gb550, _, none⟩) NB541_550.out _).trans (((cell_far (p := ⟨gb550, _, none⟩) NB541_550.out _).trans (((cell_far (p := ⟨gb550, _, none⟩) NB541_550.out _).trans (hHeld.1)))))), ((cell_far (p := ⟨gb550, _, none⟩) NB541_550.out _).trans (((cell_far (p := ⟨gb550, _, none⟩) NB541_550.out _).trans (((cell_far (p := ⟨gb550, _, none⟩) NB541_550.out _).trans (hHeld.2.1)))))), ((cell_far (p := ⟨gb550, _, none⟩) NB541_550.out _).trans (((cell_far (p := ⟨gb550, _, none⟩) NB541_550.out _).trans (((cell_far (p := ⟨gb550, _, none⟩) NB541_550.out _).trans (hHeld.2.2))))))⟩ (fun hHeld => ?_)
 clear hK K
 refine done_ (done_of HT_.out (by kernel_rfl)) ?_
 have hnb28 := NB546_550.out
 have hnc28 := NB550_546.out
 have hcz29_0 : w24.cell? ⟨gb546, 0, none⟩ = some (.int .i64 t542) := (blk_cell BK546.out 0).trans rfl
 have hcz29_1 : w24.cell? ⟨gb546, 1, none⟩ = some (.int .i64 t543) := (blk_cell BK546.out 1).trans rfl
 have hcz29_2 : w24.cell? ⟨gb546, 2, none⟩ = some (.int .i64 t544) := (blk_cell BK546.out 2).trans rfl
 have hcz29_3 : w24.cell? ⟨gb546, 3, none⟩ = some (.int .i64 t545) := (blk_cell BK546.out 3).trans rfl
 have hfz29_0 := blk_frozen BK546.out 0
 have hfz29_1 := blk_frozen BK546.out 1
 have hfz29_2 := blk_frozen BK546.out 2
 have hfz29_3 := blk_frozen BK546.out 3
 go_upto_region 6 with (first | ((with_reducible refine gate_callee (f := 23) rfl ?_); refine goQ_ (some 33) Try.func23 #[.agg #[.int .i64 t542, .int .i64 t543, .int .i64 t544, .int .i64 t545]] ?_; (with_reducible refine (chequerlaw06_of.calls t542 t543 t544 t545 t551 t552 t553 t554 _ A7.out).mono ?_); rintro e w30 ⟨rfl, hb⟩; refine ⟨_, rfl, ?_⟩; replace BK540 := Aside0.mk (blk_below (hf_ BK540.out NB540_550.out) hb); replace BK541 := Aside0.mk (blk_below (hf_ BK541.out NB541_550.out) hb); replace BK546 := Aside0.mk (blk_below (hf_ BK546.out NB546_550.out) hb); replace BK550 := Aside0.mk (blk_below (g := gb550) (o := .cells #[.int .i64 (wrap64 (1 + t547)), .int .i64 (wrap64 (1 + t548)), .int .i64 (wrap64 (1 + t549))] 23 (0, 0)) (by (with_reducible repeat (first | refine blk_drewN ?_ _ | refine blk_drew ?_ | refine blk_alloc ?_ _)); refine blk_put (cs := #[.int .i64 (wrap64 (1 + t547)), .int .i64 (wrap64 (1 + t548)), .int .i64 0]) ?_ 2 _ rfl; (with_reducible repeat (first | refine blk_drewN ?_ _ | refine blk_drew ?_ | refine blk_alloc ?_ _)); refine blk_put (cs := #[.int .i64 (wrap64 (1 + t547)), .int .i64 0, .int .i64 0]) ?_ 1 _ rfl; (with_reducible repeat (first | refine blk_drewN ?_ _ | refine blk_drew ?_ | refine blk_alloc ?_ _)); refine blk_put (cs := #[.int .i64 0, .int .i64 0, .int .i64 0]) ?_ 0 _ rfl; (with_reducible repeat (first | refine blk_drewN ?_ _ | refine blk_drew ?_ | refine blk_alloc ?_ _)); exact BK550.out) hb); replace HB := Aside0.mk (below_step bp_ hb); (try clear hb); (try clear hb2); (try clear hk); (try clear hi)) | ((with_reducible refine gate_callee (f := 29) rfl ?_); refine goQ_ (some 34) Try.func29 #[.agg #[.int .i64 t551, .int .i64 t552, .int .i64 t553, .int .i64 t554]] ?_; (with_reducible refine (head_Write.calls t551 t552 t553 t554 t555 t556 _ A8.out).mono ?_); rintro e w31 ⟨rfl, hb⟩; refine ⟨_, rfl, ?_⟩; replace BK540 := Aside0.mk (blk_below (hp_ BK540.out) hb); replace BK541 := Aside0.mk (blk_below (hp_ BK541.out) hb); replace BK546 := Aside0.mk (blk_below (hp_ BK546.out) hb); replace BK550 := Aside0.mk (blk_below (hp_ BK550.out) hb); replace HB := Aside0.mk (below_step bp_ hb); (try clear hb); (try clear hb2); (try clear hk); (try clear hi); have hnb32 := NB550_540.out; have hnc32 := NB540_550.out; have hnb33 := NB550_541.out; have hnc33 := NB541_550.out; have hcz34_0 : w31.cell? ⟨gb550, 0, none⟩ = some (.int .i64 (wrap64 (1 + t547))) := (blk_cell BK550.out 0).trans rfl; have hcz34_1 : w31.cell? ⟨gb550, 1, none⟩ = some (.int .i64 (wrap64 (1 + t548))) := (blk_cell BK550.out 1).trans rfl; have hcz34_2 : w31.cell? ⟨gb550, 2, none⟩ = some (.int .i64 (wrap64 (1 + t549))) := (blk_cell BK550.out 2).trans rfl; have hfz34_0 := blk_frozen BK550.out 0; have hfz34_1 := blk_frozen BK550.out 1; have hfz34_2 := blk_frozen BK550.out 2) | ((with_reducible refine gate_callee (f := 15) rfl ?_); refine goQ_ (some 40) Try.func15 #[.string t555, .agg #[.int .i64 (wrap64 (1 + t547)), .int .i64 (wrap64 (1 + t548)), .int .i64 (wrap64 (1 + t549))]] ?_; (with_reducible refine (head_Parse.calls k t555 (wrap64 (1 + t547)) (wrap64 (1 + t548)) (wrap64 (1 + t549)) t557 t558 t559 t560 t561 t562 _ A9.out).mono ?_); rintro e w35 ⟨rfl, hb⟩; refine ⟨_, rfl, ?_⟩; replace BK540 := Aside0.mk (blk_below (hp_ BK540.out) hb); replace BK541 := Aside0.mk (blk_below (hp_ BK541.out) hb); replace BK546 := Aside0.mk (blk_below (hp_ BK546.out) hb); replace BK550 := Aside0.mk (blk_below (hp_ BK550.out) hb); replace HB := Aside0.mk (below_step bp_ hb); (try clear hb); (try clear hb2); (try clear hk); (try clear hi)) | ((with_reducible refine gate_dst (N := 9) rfl ?_); refine box_event ?hg (N := 9) ?hd (cs := #[.int .i64 0, .int .i64 0, .int .i64 0, .int .i64 0]) (t := 36) ?hr ?_; (case hd => rfl); (case hg => rfl); (case hr => first | (go_simp; done) | (go_simp; rfl)); intro gb563 hg w36 hbox hb; have BK563 := Aside0.mk (hbox); have GW563 := Aside0.mk ((by rw [hg]; exact (below_size bp_) : w.heap.size ≤ gb563)); have GE563 := Aside0.mk ((by rw [hg]; exact (below_size bp_) : w.heap.size ≤ gb563)); replace HB := Aside0.mk (below_step bp_ hb); have NB540_563 := Aside0.mk ((nlt_ hg (hp_ BK540.out))); have NB563_540 := Aside0.mk ((ngt_ hg (hp_ BK540.out))); replace BK540 := Aside0.mk (blk_below (hp_ BK540.out) hb); have NB541_563 := Aside0.mk ((nlt_ hg (hp_ BK541.out))); have NB563_541 := Aside0.mk ((ngt_ hg (hp_ BK541.out))); replace BK541 := Aside0.mk (blk_below (hp_ BK541.out) hb); have NB546_563 := Aside0.mk ((nlt_ hg (hp_ BK546.out))); have NB563_546 := Aside0.mk ((ngt_ hg (hp_ BK546.out))); replace BK546 := Aside0.mk (blk_below (hp_ BK546.out) hb); have NB550_563 := Aside0.mk ((nlt_ hg (hp_ BK550.out))); have NB563_550 := Aside0.mk ((ngt_ hg (hp_ BK550.out))); replace BK550 := Aside0.mk (blk_below (hp_ BK550.out) hb); clear hb hbox hg; have hnb37 := NB563_540.out; have hnc37 := NB540_563.out; have hnb38 := NB563_541.out; have hnc38 := NB541_563.out; have hnb39 := NB563_546.out; have hnc39 := NB546_563.out; have hnb40 := NB563_550.out; have hnc40 := NB550_563.out; have hcz41_0 : w36.cell? ⟨gb563, 0, none⟩ = some (.int .i64 0) := (blk_cell BK563.out 0).trans rfl; have hcz41_1 : w36.cell? ⟨gb563, 1, none⟩ = some (.int .i64 0) := (blk_cell BK563.out 1).trans rfl; have hcz41_2 : w36.cell? ⟨gb563, 2, none⟩ = some (.int .i64 0) := (blk_cell BK563.out 2).trans rfl; have hcz41_3 : w36.cell? ⟨gb563, 3, none⟩ = some (.int .i64 0) := (blk_cell BK563.out 3).trans rfl; have hfz41_0 := blk_frozen BK563.out 0; have hfz41_1 := blk_frozen BK563.out 1; have hfz41_2 := blk_frozen BK563.out 2; have hfz41_3 := blk_frozen BK563.out 3; have hcz42_0 : w36.cell? ⟨gb546, 0, none⟩ = some (.int .i64 t542) := (blk_cell BK546.out 0).trans rfl; have hcz42_1 : w36.cell? ⟨gb546, 1, none⟩ = some (.int .i64 t543) := (blk_cell BK546.out 1).trans rfl; have hcz42_2 : w36.cell? ⟨gb546, 2, none⟩ = some (.int .i64 t544) := (blk_cell BK546.out 2).trans rfl; have hcz42_3 : w36.cell? ⟨gb546, 3, none⟩ = some (.int .i64 t545) := (blk_cell BK546.out 3).trans rfl; have hfz42_0 := blk_frozen BK546.out 0; have hfz42_1 := blk_frozen BK546.out 1; have hfz42_2 := blk_frozen BK546.out 2; have hfz42_3 := blk_frozen BK546.out 3) | ((with_reducible refine gate_callee (f := 15) rfl ?_); refine goQ_ (some 53) Try.func15 #[.string t555, .agg #[.int .i64 t543, .int .i64 t544, .int .i64 t545]] ?_; (with_reducible refine (head_Parse.calls k t555 t543 t544 t545 t564 t565 t566 t567 t568 t569 _ A10.out).mono ?_); rintro e w43 ⟨rfl, hb⟩; refine ⟨_, rfl, ?_⟩; replace BK540 := Aside0.mk (blk_below (hf_ BK540.out NB540_563.out) hb); replace BK541 := Aside0.mk (blk_below (hf_ BK541.out NB541_563.out) hb); replace BK546 := Aside0.mk (blk_below (hf_ BK546.out NB546_563.out) hb); replace BK550 := Aside0.mk (blk_below (hf_ BK550.out NB550_563.out) hb); replace BK563 := Aside0.mk (blk_below (g := gb563) (o := .cells #[.int .i64 t557, .int .i64 t558, .int .i64 t559, .int .i64 t560] 36 (0, 0)) (by (with_reducible repeat (first | refine blk_drewN ?_ _ | refine blk_drew ?_ | refine blk_alloc ?_ _)); refine blk_put (cs := #[.int .i64 t557, .int .i64 t558, .int .i64 t559, .int .i64 0]) ?_ 3 _ rfl; (with_reducible repeat (first | refine blk_drewN ?_ _ | refine blk_drew ?_ | refine blk_alloc ?_ _)); refine blk_put (cs := #[.int .i64 t557, .int .i64 t558, .int .i64 0, .int .i64 0]) ?_ 2 _ rfl; (with_reducible repeat (first | refine blk_drewN ?_ _ | refine blk_drew ?_ | refine blk_alloc ?_ _)); refine blk_put (cs := #[.int .i64 t557, .int .i64 0, .int .i64 0, .int .i64 0]) ?_ 1 _ rfl; (with_reducible repeat (first | refine blk_drewN ?_ _ | refine blk_drew ?_ | refine blk_alloc ?_ _)); refine blk_put (cs := #[.int .i64 0, .int .i64 0, .int .i64 0, .int .i64 0]) ?_ 0 _ rfl; (with_reducible repeat (first | refine blk_drewN ?_ _ | refine blk_drew ?_ | refine blk_alloc ?_ _)); exact BK563.out) hb); replace HB := Aside0.mk (below_step bp_ hb); (try clear hb); (try clear hb2); (try clear hk); (try clear hi)) | ((with_reducible refine gate_dst (N := 12) rfl ?_); refine box_event ?hg (N := 12) ?hd (cs := #[.int .i64 0, .int .i64 0, .int .i64 0, .int .i64 0]) (t := 36) ?hr ?_; (case hd => rfl); (case hg => rfl); (case hr => first | (go_simp; done) | (go_simp; rfl)); intro gb570 hg w44 hbox hb; have BK570 := Aside0.mk (hbox); have GW570 := Aside0.mk ((by rw [hg]; exact (below_size bp_) : w.heap.size ≤ gb570)); have GE570 := Aside0.mk ((by rw [hg]; exact (below_size bp_) : w.heap.size ≤ gb570)); replace HB := Aside0.mk (below_step bp_ hb); have NB540_570 := Aside0.mk ((nlt_ hg (hp_ BK540.out))); have NB570_540 := Aside0.mk ((ngt_ hg (hp_ BK540.out))); replace BK540 := Aside0.mk (blk_below (hp_ BK540.out) hb); have NB541_570 := Aside0.mk ((nlt_ hg (hp_ BK541.out))); have NB570_541 := Aside0.mk ((ngt_ hg (hp_ BK541.out))); replace BK541 := Aside0.mk (blk_below (hp_ BK541.out) hb); have NB546_570 := Aside0.mk ((nlt_ hg (hp_ BK546.out))); have NB570_546 := Aside0.mk ((ngt_ hg (hp_ BK546.out))); replace BK546 := Aside0.mk (blk_below (hp_ BK546.out) hb); have NB550_570 := Aside0.mk ((nlt_ hg (hp_ BK550.out))); have NB570_550 := Aside0.mk ((ngt_ hg (hp_ BK550.out))); replace BK550 := Aside0.mk (blk_below (hp_ BK550.out) hb); have NB563_570 := Aside0.mk ((nlt_ hg (hp_ BK563.out))); have NB570_563 := Aside0.mk ((ngt_ hg (hp_ BK563.out))); replace BK563 := Aside0.mk (blk_below (hp_ BK563.out) hb); clear hb hbox hg; have hnb45 := NB570_540.out; have hnc45 := NB540_570.out; have hnb46 := NB570_541.out; have hnc46 := NB541_570.out; have hnb47 := NB570_546.out; have hnc47 := NB546_570.out; have hnb48 := NB570_550.out; have hnc48 := NB550_570.out; have hnb49 := NB570_563.out; have hnc49 := NB563_570.out; have hcz50_0 : w44.cell? ⟨gb570, 0, none⟩ = some (.int .i64 0) := (blk_cell BK570.out 0).trans rfl; have hcz50_1 : w44.cell? ⟨gb570, 1, none⟩ = some (.int .i64 0) := (blk_cell BK570.out 1).trans rfl; have hcz50_2 : w44.cell? ⟨gb570, 2, none⟩ = some (.int .i64 0) := (blk_cell BK570.out 2).trans rfl; have hcz50_3 : w44.cell? ⟨gb570, 3, none⟩ = some (.int .i64 0) := (blk_cell BK570.out 3).trans rfl; have hfz50_0 := blk_frozen BK570.out 0; have hfz50_1 := blk_frozen BK570.out 1; have hfz50_2 := blk_frozen BK570.out 2; have hfz50_3 := blk_frozen BK570.out 3))
 (try simp only [Act.put, List.setIfInBounds_toArray, List.set_cons_zero, List.set_cons_succ])
 have H := HP11.out
 clear HP11
 by_cases c51 : t543 ≤ (wrap64 (1 + t547))
 · rw [if_pos c51] at H
   have c51b0 : decide (t543 ≤ (wrap64 (1 + t547))) = true := decide_eq_true c51
   clear c51
   (first | rw [c51b0] | (simp only [i64_w, i32_w]; rw [c51b0]) | skip)
   by_cases c52 : t544 ≤ (wrap64 (1 + t548))
   · rw [if_pos c52] at H
     have c52b0 : decide (t544 ≤ (wrap64 (1 + t548))) = true := decide_eq_true c52
     clear c52
     by_cases c53 : t545 ≤ (wrap64 (1 + t549))
     · rw [if_pos c53] at H
       have c53b0 : decide (t545 ≤ (wrap64 (1 + t549))) = true := decide_eq_true c53
       clear c53
       have HP54 := Aside0.mk H
       clear H
       have hnb55 := NB546_540.out
       have hnc55 := NB540_546.out
       have hnb56 := NB546_541.out
       have hnc56 := NB541_546.out
       have hnb57 := NB546_550.out
       have hnc57 := NB550_546.out
       have hnb58 := NB546_563.out
       have hnc58 := NB563_546.out
       have hnb59 := NB546_570.out
       have hnc59 := NB570_546.out
       have hcz60_0 : w44.cell? ⟨gb546, 0, none⟩ = some (.int .i64 t542) := (blk_cell BK546.out 0).trans rfl
       have hcz60_1 : w44.cell? ⟨gb546, 1, none⟩ = some (.int .i64 t543) := (blk_cell BK546.out 1).trans rfl
       have hcz60_2 : w44.cell? ⟨gb546, 2, none⟩ = some (.int .i64 t544) := (blk_cell BK546.out 2).trans rfl
       have hcz60_3 : w44.cell? ⟨gb546, 3, none⟩ = some (.int .i64 t545) := (blk_cell BK546.out 3).trans rfl
       have hfz60_0 := blk_frozen BK546.out 0
       have hfz60_1 := blk_frozen BK546.out 1
       have hfz60_2 := blk_frozen BK546.out 2
       have hfz60_3 := blk_frozen BK546.out 3
       have hnb61 := NB550_540.out
       have hnc61 := NB540_550.out
       have hnb62 := NB550_541.out
       have hnc62 := NB541_550.out
       have hnb63 := NB550_563.out
       have hnc63 := NB563_550.out
       have hnb64 := NB550_570.out
       have hnc64 := NB570_550.out
       have hcz65_0 : w44.cell? ⟨gb550, 0, none⟩ = some (.int .i64 (wrap64 (1 + t547))) := (blk_cell BK550.out 0).trans rfl
       have hcz65_1 : w44.cell? ⟨gb550, 1, none⟩ = some (.int .i64 (wrap64 (1 + t548))) := (blk_cell BK550.out 1).trans rfl
       have hcz65_2 : w44.cell? ⟨gb550, 2, none⟩ = some (.int .i64 (wrap64 (1 + t549))) := (blk_cell BK550.out 2).trans rfl
       have hfz65_0 := blk_frozen BK550.out 0
       have hfz65_1 := blk_frozen BK550.out 1
       have hfz65_2 := blk_frozen BK550.out 2
       go_upto_region 7 with (fail)
       have H := HP54.out
       clear HP54
       by_cases c66 : ((t562 == 0) == true) = true
       · rw [if_pos c66] at H
         have c66b0 : ((t562 == 0) == true) = true := c66
         (try (have c66b1 : decide ((t562 == 0) = true) = true := by simpa using c66))
         (try (have c66b2 : ((t562 == 0) == true) = true := by simpa using c66))
         clear c66
         (first | rw [c66b0] | (simp only [i64_w, i32_w]; rw [c66b0]) | skip)
         by_cases c67 : t569 = 0
         · rw [if_pos c67] at H
           have c67b0 : (t569 == 0) = true := beq_iff_eq.mpr c67
           have c67b1 : (t569 != 0) = false := bne_eq_false_iff_eq.mpr c67
           clear c67
           replace H := Option.bind_eq_some_iff.mp H
           obtain ⟨t571, A680, H⟩ := H
           replace H : (some t571) = some r := H
           have A68 := Aside0.mk A680
           clear A680
           obtain rfl := Option.some.inj H
           go_wp2_with (first | (go_at_call 12; (with_reducible refine (chequerlaw06_lives.calls k  t571 _ A68.out).mono ?_); rintro e w69 ⟨rfl, hb⟩; replace BK540 := Aside0.mk (blk_below (hf_ BK540.out NB540_570.out) hb); replace BK541 := Aside0.mk (blk_below (hf_ BK541.out NB541_570.out) hb); replace BK546 := Aside0.mk (blk_below (hf_ BK546.out NB546_570.out) hb); replace BK550 := Aside0.mk (blk_below (hf_ BK550.out NB550_570.out) hb); replace BK563 := Aside0.mk (blk_below (hf_ BK563.out NB563_570.out) hb); replace BK570 := Aside0.mk (blk_below (g := gb570) (o := .cells #[.int .i64 t564, .int .i64 t565, .int .i64 t566, .int .i64 t567] 36 (0, 0)) (by (with_reducible repeat (first | refine blk_drewN ?_ _ | refine blk_drew ?_ | refine blk_alloc ?_ _)); refine blk_put (cs := #[.int .i64 t564, .int .i64 t565, .int .i64 t566, .int .i64 0]) ?_ 3 _ rfl; (with_reducible repeat (first | refine blk_drewN ?_ _ | refine blk_drew ?_ | refine blk_alloc ?_ _)); refine blk_put (cs := #[.int .i64 t564, .int .i64 t565, .int .i64 0, .int .i64 0]) ?_ 2 _ rfl; (with_reducible repeat (first | refine blk_drewN ?_ _ | refine blk_drew ?_ | refine blk_alloc ?_ _)); refine blk_put (cs := #[.int .i64 t564, .int .i64 0, .int .i64 0, .int .i64 0]) ?_ 1 _ rfl; (with_reducible repeat (first | refine blk_drewN ?_ _ | refine blk_drew ?_ | refine blk_alloc ?_ _)); refine blk_put (cs := #[.int .i64 0, .int .i64 0, .int .i64 0, .int .i64 0]) ?_ 0 _ rfl; (with_reducible repeat (first | refine blk_drewN ?_ _ | refine blk_drew ?_ | refine blk_alloc ?_ _)); exact BK570.out) hb); replace HB := Aside0.mk (below_step bp_ hb); (try clear hb); (try clear hb2); (try clear hk); (try clear hi)))
           go_ret
           exact ⟨by first | rfl | (simp [errW_none, errW_some] <;> rfl) | (simp [*, errW_none, errW_some] <;> rfl), bp_⟩
         · rw [if_neg c67] at H
           have c67b0 : (t569 == 0) = false := beq_eq_false_iff_ne.mpr c67
           have c67b1 : (t569 != 0) = true := bne_iff_ne.mpr c67
           obtain rfl := Option.some.inj H
           go_wp2
           go_ret
           exact ⟨by first | rfl | (simp [errW_none, errW_some] <;> rfl) | (simp [*, errW_none, errW_some] <;> rfl), bp_⟩
       · rw [if_neg c66] at H
         have c66b0 : ((t562 == 0) == true) = false := by simpa using c66
         (try (have c66b1 : decide ((t562 == 0) = true) = false := by simpa using c66))
         (try (have c66b2 : ((t562 == 0) == true) = false := by simpa using c66))
         (try (have c66b3 : ¬ ((t562 == 0) = true) := by simpa using c66))
         clear c66
         (first | rw [c66b0] | (simp only [i64_w, i32_w]; rw [c66b0]) | skip)
         obtain rfl := Option.some.inj H
         go_wp2
         go_ret
         exact ⟨by first | rfl | (simp [errW_none, errW_some] <;> rfl) | (simp [*, errW_none, errW_some] <;> rfl), bp_⟩
     · rw [if_neg c53] at H
       have c53b0 : decide (t545 ≤ (wrap64 (1 + t549))) = false := decide_eq_false c53
       clear c53
       have HP70 := Aside0.mk H
       clear H
       have hnb71 := NB546_540.out
       have hnc71 := NB540_546.out
       have hnb72 := NB546_541.out
       have hnc72 := NB541_546.out
       have hnb73 := NB546_550.out
       have hnc73 := NB550_546.out
       have hnb74 := NB546_563.out
       have hnc74 := NB563_546.out
       have hnb75 := NB546_570.out
       have hnc75 := NB570_546.out
       have hcz76_0 : w44.cell? ⟨gb546, 0, none⟩ = some (.int .i64 t542) := (blk_cell BK546.out 0).trans rfl
       have hcz76_1 : w44.cell? ⟨gb546, 1, none⟩ = some (.int .i64 t543) := (blk_cell BK546.out 1).trans rfl
       have hcz76_2 : w44.cell? ⟨gb546, 2, none⟩ = some (.int .i64 t544) := (blk_cell BK546.out 2).trans rfl
       have hcz76_3 : w44.cell? ⟨gb546, 3, none⟩ = some (.int .i64 t545) := (blk_cell BK546.out 3).trans rfl
       have hfz76_0 := blk_frozen BK546.out 0
       have hfz76_1 := blk_frozen BK546.out 1
       have hfz76_2 := blk_frozen BK546.out 2
       have hfz76_3 := blk_frozen BK546.out 3
       have hnb77 := NB550_540.out
       have hnc77 := NB540_550.out
       have hnb78 := NB550_541.out
       have hnc78 := NB541_550.out
       have hnb79 := NB550_563.out
       have hnc79 := NB563_550.out
       have hnb80 := NB550_570.out
       have hnc80 := NB570_550.out
       have hcz81_0 : w44.cell? ⟨gb550, 0, none⟩ = some (.int .i64 (wrap64 (1 + t547))) := (blk_cell BK550.out 0).trans rfl
       have hcz81_1 : w44.cell? ⟨gb550, 1, none⟩ = some (.int .i64 (wrap64 (1 + t548))) := (blk_cell BK550.out 1).trans rfl
       have hcz81_2 : w44.cell? ⟨gb550, 2, none⟩ = some (.int .i64 (wrap64 (1 + t549))) := (blk_cell BK550.out 2).trans rfl
       have hfz81_0 := blk_frozen BK550.out 0
       have hfz81_1 := blk_frozen BK550.out 1
       have hfz81_2 := blk_frozen BK550.out 2
       go_upto_region 7 with (fail)
       have H := HP70.out
       clear HP70
       by_cases c82 : ((t562 == 0) == (t545 == 1)) = true
       · rw [if_pos c82] at H
         have c82b0 : ((t562 == 0) == (t545 == 1)) = true := c82
         (try (have c82b1 : decide ((t562 == 0) = (t545 == 1)) = true := by simpa using c82))
         (try (have c82b2 : ((t562 == 0) == (t545 == 1)) = true := by simpa using c82))
         clear c82
         (first | rw [c82b0] | (simp only [i64_w, i32_w]; rw [c82b0]) | skip)
         by_cases c83 : t545 = 1
         · rw [if_pos c83] at H
           have c83b0 : (t545 == 1) = true := beq_iff_eq.mpr c83
           (try have c83b0x560 : (t562 == 0) = true := by have h_ := c82b0; rw [c83b0] at h_; simpa using h_)
           have c83b1 : (t545 != 1) = false := bne_eq_false_iff_eq.mpr c83
           clear c83
           by_cases c84 : t569 = 0
           · rw [if_pos c84] at H
             have c84b0 : (t569 == 0) = true := beq_iff_eq.mpr c84
             have c84b1 : (t569 != 0) = false := bne_eq_false_iff_eq.mpr c84
             clear c84
             replace H := Option.bind_eq_some_iff.mp H
             obtain ⟨t572, A850, H⟩ := H
             replace H : (some t572) = some r := H
             have A85 := Aside0.mk A850
             clear A850
             obtain rfl := Option.some.inj H
             go_wp2_with (first | (go_at_call 12; (with_reducible refine (chequerlaw06_lives.calls k  t572 _ A85.out).mono ?_); rintro e w86 ⟨rfl, hb⟩; replace BK540 := Aside0.mk (blk_below (hf_ BK540.out NB540_570.out) hb); replace BK541 := Aside0.mk (blk_below (hf_ BK541.out NB541_570.out) hb); replace BK546 := Aside0.mk (blk_below (hf_ BK546.out NB546_570.out) hb); replace BK550 := Aside0.mk (blk_below (hf_ BK550.out NB550_570.out) hb); replace BK563 := Aside0.mk (blk_below (hf_ BK563.out NB563_570.out) hb); replace BK570 := Aside0.mk (blk_below (g := gb570) (o := .cells #[.int .i64 t564, .int .i64 t565, .int .i64 t566, .int .i64 t567] 36 (0, 0)) (by (with_reducible repeat (first | refine blk_drewN ?_ _ | refine blk_drew ?_ | refine blk_alloc ?_ _)); refine blk_put (cs := #[.int .i64 t564, .int .i64 t565, .int .i64 t566, .int .i64 0]) ?_ 3 _ rfl; (with_reducible repeat (first | refine blk_drewN ?_ _ | refine blk_drew ?_ | refine blk_alloc ?_ _)); refine blk_put (cs := #[.int .i64 t564, .int .i64 t565, .int .i64 0, .int .i64 0]) ?_ 2 _ rfl; (with_reducible repeat (first | refine blk_drewN ?_ _ | refine blk_drew ?_ | refine blk_alloc ?_ _)); refine blk_put (cs := #[.int .i64 t564, .int .i64 0, .int .i64 0, .int .i64 0]) ?_ 1 _ rfl; (with_reducible repeat (first | refine blk_drewN ?_ _ | refine blk_drew ?_ | refine blk_alloc ?_ _)); refine blk_put (cs := #[.int .i64 0, .int .i64 0, .int .i64 0, .int .i64 0]) ?_ 0 _ rfl; (with_reducible repeat (first | refine blk_drewN ?_ _ | refine blk_drew ?_ | refine blk_alloc ?_ _)); exact BK570.out) hb); replace HB := Aside0.mk (below_step bp_ hb); (try clear hb); (try clear hb2); (try clear hk); (try clear hi)))
             go_ret
             exact ⟨by first | rfl | (simp [errW_none, errW_some] <;> rfl) | (simp [*, errW_none, errW_some] <;> rfl), bp_⟩
           · rw [if_neg c84] at H
             have c84b0 : (t569 == 0) = false := beq_eq_false_iff_ne.mpr c84
             have c84b1 : (t569 != 0) = true := bne_iff_ne.mpr c84
             obtain rfl := Option.some.inj H
             go_wp2
             go_ret
             exact ⟨by first | rfl | (simp [errW_none, errW_some] <;> rfl) | (simp [*, errW_none, errW_some] <;> rfl), bp_⟩
         · rw [if_neg c83] at H
           have c83b0 : (t545 == 1) = false := beq_eq_false_iff_ne.mpr c83
           (try have c83b0x586 : (t562 == 0) = false := by have h_ := c82b0; rw [c83b0] at h_; simpa using h_)
           have c83b1 : (t545 != 1) = true := bne_iff_ne.mpr c83
           by_cases c87 : t562 = 4
           · rw [if_pos c87] at H
             have c87b0 : (t562 == 4) = true := beq_iff_eq.mpr c87
             have c87b1 : (t562 != 4) = false := bne_eq_false_iff_eq.mpr c87
             clear c87
             by_cases c88 : t569 = 0
             · rw [if_pos c88] at H
               have c88b0 : (t569 == 0) = true := beq_iff_eq.mpr c88
               have c88b1 : (t569 != 0) = false := bne_eq_false_iff_eq.mpr c88
               clear c88
               replace H := Option.bind_eq_some_iff.mp H
               obtain ⟨t573, A890, H⟩ := H
               replace H : (some t573) = some r := H
               have A89 := Aside0.mk A890
               clear A890
               obtain rfl := Option.some.inj H
               go_wp2_with (first | (go_at_call 12; (with_reducible refine (chequerlaw06_lives.calls k  t573 _ A89.out).mono ?_); rintro e w90 ⟨rfl, hb⟩; replace BK540 := Aside0.mk (blk_below (hf_ BK540.out NB540_570.out) hb); replace BK541 := Aside0.mk (blk_below (hf_ BK541.out NB541_570.out) hb); replace BK546 := Aside0.mk (blk_below (hf_ BK546.out NB546_570.out) hb); replace BK550 := Aside0.mk (blk_below (hf_ BK550.out NB550_570.out) hb); replace BK563 := Aside0.mk (blk_below (hf_ BK563.out NB563_570.out) hb); replace BK570 := Aside0.mk (blk_below (g := gb570) (o := .cells #[.int .i64 t564, .int .i64 t565, .int .i64 t566, .int .i64 t567] 36 (0, 0)) (by (with_reducible repeat (first | refine blk_drewN ?_ _ | refine blk_drew ?_ | refine blk_alloc ?_ _)); refine blk_put (cs := #[.int .i64 t564, .int .i64 t565, .int .i64 t566, .int .i64 0]) ?_ 3 _ rfl; (with_reducible repeat (first | refine blk_drewN ?_ _ | refine blk_drew ?_ | refine blk_alloc ?_ _)); refine blk_put (cs := #[.int .i64 t564, .int .i64 t565, .int .i64 0, .int .i64 0]) ?_ 2 _ rfl; (with_reducible repeat (first | refine blk_drewN ?_ _ | refine blk_drew ?_ | refine blk_alloc ?_ _)); refine blk_put (cs := #[.int .i64 t564, .int .i64 0, .int .i64 0, .int .i64 0]) ?_ 1 _ rfl; (with_reducible repeat (first | refine blk_drewN ?_ _ | refine blk_drew ?_ | refine blk_alloc ?_ _)); refine blk_put (cs := #[.int .i64 0, .int .i64 0, .int .i64 0, .int .i64 0]) ?_ 0 _ rfl; (with_reducible repeat (first | refine blk_drewN ?_ _ | refine blk_drew ?_ | refine blk_alloc ?_ _)); exact BK570.out) hb); replace HB := Aside0.mk (below_step bp_ hb); (try clear hb); (try clear hb2); (try clear hk); (try clear hi)))
               go_ret
               exact ⟨by first | rfl | (simp [errW_none, errW_some] <;> rfl) | (simp [*, errW_none, errW_some] <;> rfl), bp_⟩
             · rw [if_neg c88] at H
               have c88b0 : (t569 == 0) = false := beq_eq_false_iff_ne.mpr c88
               have c88b1 : (t569 != 0) = true := bne_iff_ne.mpr c88
               obtain rfl := Option.some.inj H
               go_wp2
               go_ret
               exact ⟨by first | rfl | (simp [errW_none, errW_some] <;> rfl) | (simp [*, errW_none, errW_some] <;> rfl), bp_⟩
           · rw [if_neg c87] at H
             have c87b0 : (t562 == 4) = false := beq_eq_false_iff_ne.mpr c87
             have c87b1 : (t562 != 4) = true := bne_iff_ne.mpr c87
             obtain rfl := Option.some.inj H
             go_wp2
             go_ret
             exact ⟨by first | rfl | (simp [errW_none, errW_some] <;> rfl) | (simp [*, errW_none, errW_some] <;> rfl), bp_⟩
       · rw [if_neg c82] at H
         have c82b0 : ((t562 == 0) == (t545 == 1)) = false := by simpa using c82
         (try (have c82b1 : decide ((t562 == 0) = (t545 == 1)) = false := by simpa using c82))
         (try (have c82b2 : ((t562 == 0) == (t545 == 1)) = false := by simpa using c82))
         (try (have c82b3 : ¬ ((t562 == 0) = (t545 == 1)) := by simpa using c82))
         clear c82
         (first | rw [c82b0] | (simp only [i64_w, i32_w]; rw [c82b0]) | skip)
         obtain rfl := Option.some.inj H
         go_wp2
         go_ret
         exact ⟨by first | rfl | (simp [errW_none, errW_some] <;> rfl) | (simp [*, errW_none, errW_some] <;> rfl), bp_⟩
   · rw [if_neg c52] at H
     have c52b0 : decide (t544 ≤ (wrap64 (1 + t548))) = false := decide_eq_false c52
     clear c52
     have HP91 := Aside0.mk H
     clear H
     have hnb92 := NB546_540.out
     have hnc92 := NB540_546.out
     have hnb93 := NB546_541.out
     have hnc93 := NB541_546.out
     have hnb94 := NB546_550.out
     have hnc94 := NB550_546.out
     have hnb95 := NB546_563.out
     have hnc95 := NB563_546.out
     have hnb96 := NB546_570.out
     have hnc96 := NB570_546.out
     have hcz97_0 : w44.cell? ⟨gb546, 0, none⟩ = some (.int .i64 t542) := (blk_cell BK546.out 0).trans rfl
     have hcz97_1 : w44.cell? ⟨gb546, 1, none⟩ = some (.int .i64 t543) := (blk_cell BK546.out 1).trans rfl
     have hcz97_2 : w44.cell? ⟨gb546, 2, none⟩ = some (.int .i64 t544) := (blk_cell BK546.out 2).trans rfl
     have hcz97_3 : w44.cell? ⟨gb546, 3, none⟩ = some (.int .i64 t545) := (blk_cell BK546.out 3).trans rfl
     have hfz97_0 := blk_frozen BK546.out 0
     have hfz97_1 := blk_frozen BK546.out 1
     have hfz97_2 := blk_frozen BK546.out 2
     have hfz97_3 := blk_frozen BK546.out 3
     have hnb98 := NB550_540.out
     have hnc98 := NB540_550.out
     have hnb99 := NB550_541.out
     have hnc99 := NB541_550.out
     have hnb100 := NB550_563.out
     have hnc100 := NB563_550.out
     have hnb101 := NB550_570.out
     have hnc101 := NB570_550.out
     have hcz102_0 : w44.cell? ⟨gb550, 0, none⟩ = some (.int .i64 (wrap64 (1 + t547))) := (blk_cell BK550.out 0).trans rfl
     have hcz102_1 : w44.cell? ⟨gb550, 1, none⟩ = some (.int .i64 (wrap64 (1 + t548))) := (blk_cell BK550.out 1).trans rfl
     have hcz102_2 : w44.cell? ⟨gb550, 2, none⟩ = some (.int .i64 (wrap64 (1 + t549))) := (blk_cell BK550.out 2).trans rfl
     have hfz102_0 := blk_frozen BK550.out 0
     have hfz102_1 := blk_frozen BK550.out 1
     have hfz102_2 := blk_frozen BK550.out 2
     go_upto_region 7 with (fail)
     have H := HP91.out
     clear HP91
     by_cases c103 : ((t562 == 0) == false) = true
     · rw [if_pos c103] at H
       have c103b0 : ((t562 == 0) == false) = true := c103
       (try (have c103b1 : decide ((t562 == 0) = false) = true := by simpa using c103))
       (try (have c103b2 : ((t562 == 0) == false) = true := by simpa using c103))
       clear c103
       (first | rw [c103b0] | (simp only [i64_w, i32_w]; rw [c103b0]) | skip)
       by_cases c104 : t562 = 4
       · rw [if_pos c104] at H
         have c104b0 : (t562 == 4) = true := beq_iff_eq.mpr c104
         have c104b1 : (t562 != 4) = false := bne_eq_false_iff_eq.mpr c104
         clear c104
         by_cases c105 : t569 = 0
         · rw [if_pos c105] at H
           have c105b0 : (t569 == 0) = true := beq_iff_eq.mpr c105
           have c105b1 : (t569 != 0) = false := bne_eq_false_iff_eq.mpr c105
           clear c105
           replace H := Option.bind_eq_some_iff.mp H
           obtain ⟨t574, A1060, H⟩ := H
           replace H : (some t574) = some r := H
           have A106 := Aside0.mk A1060
           clear A1060
           obtain rfl := Option.some.inj H
           go_wp2_with (first | (go_at_call 12; (with_reducible refine (chequerlaw06_lives.calls k  t574 _ A106.out).mono ?_); rintro e w107 ⟨rfl, hb⟩; replace BK540 := Aside0.mk (blk_below (hf_ BK540.out NB540_570.out) hb); replace BK541 := Aside0.mk (blk_below (hf_ BK541.out NB541_570.out) hb); replace BK546 := Aside0.mk (blk_below (hf_ BK546.out NB546_570.out) hb); replace BK550 := Aside0.mk (blk_below (hf_ BK550.out NB550_570.out) hb); replace BK563 := Aside0.mk (blk_below (hf_ BK563.out NB563_570.out) hb); replace BK570 := Aside0.mk (blk_below (g := gb570) (o := .cells #[.int .i64 t564, .int .i64 t565, .int .i64 t566, .int .i64 t567] 36 (0, 0)) (by (with_reducible repeat (first | refine blk_drewN ?_ _ | refine blk_drew ?_ | refine blk_alloc ?_ _)); refine blk_put (cs := #[.int .i64 t564, .int .i64 t565, .int .i64 t566, .int .i64 0]) ?_ 3 _ rfl; (with_reducible repeat (first | refine blk_drewN ?_ _ | refine blk_drew ?_ | refine blk_alloc ?_ _)); refine blk_put (cs := #[.int .i64 t564, .int .i64 t565, .int .i64 0, .int .i64 0]) ?_ 2 _ rfl; (with_reducible repeat (first | refine blk_drewN ?_ _ | refine blk_drew ?_ | refine blk_alloc ?_ _)); refine blk_put (cs := #[.int .i64 t564, .int .i64 0, .int .i64 0, .int .i64 0]) ?_ 1 _ rfl; (with_reducible repeat (first | refine blk_drewN ?_ _ | refine blk_drew ?_ | refine blk_alloc ?_ _)); refine blk_put (cs := #[.int .i64 0, .int .i64 0, .int .i64 0, .int .i64 0]) ?_ 0 _ rfl; (with_reducible repeat (first | refine blk_drewN ?_ _ | refine blk_drew ?_ | refine blk_alloc ?_ _)); exact BK570.out) hb); replace HB := Aside0.mk (below_step bp_ hb); (try clear hb); (try clear hb2); (try clear hk); (try clear hi)))
           go_ret
           exact ⟨by first | rfl | (simp [errW_none, errW_some] <;> rfl) | (simp [*, errW_none, errW_some] <;> rfl), bp_⟩
         · rw [if_neg c105] at H
           have c105b0 : (t569 == 0) = false := beq_eq_false_iff_ne.mpr c105
           have c105b1 : (t569 != 0) = true := bne_iff_ne.mpr c105
           obtain rfl := Option.some.inj H
           go_wp2
           go_ret
           exact ⟨by first | rfl | (simp [errW_none, errW_some] <;> rfl) | (simp [*, errW_none, errW_some] <;> rfl), bp_⟩
       · rw [if_neg c104] at H
         have c104b0 : (t562 == 4) = false := beq_eq_false_iff_ne.mpr c104
         have c104b1 : (t562 != 4) = true := bne_iff_ne.mpr c104
         obtain rfl := Option.some.inj H
         go_wp2
         go_ret
         exact ⟨by first | rfl | (simp [errW_none, errW_some] <;> rfl) | (simp [*, errW_none, errW_some] <;> rfl), bp_⟩
     · rw [if_neg c103] at H
       have c103b0 : ((t562 == 0) == false) = false := by simpa using c103
       (try (have c103b1 : decide ((t562 == 0) = false) = false := by simpa using c103))
       (try (have c103b2 : ((t562 == 0) == false) = false := by simpa using c103))
       (try (have c103b3 : ¬ ((t562 == 0) = false) := by simpa using c103))
       clear c103
       (first | rw [c103b0] | (simp only [i64_w, i32_w]; rw [c103b0]) | skip)
       obtain rfl := Option.some.inj H
       go_wp2
       go_ret
       exact ⟨by first | rfl | (simp [errW_none, errW_some] <;> rfl) | (simp [*, errW_none, errW_some] <;> rfl), bp_⟩
 · rw [if_neg c51] at H
   have c51b0 : decide (t543 ≤ (wrap64 (1 + t547))) = false := decide_eq_false c51
   clear c51
   (first | rw [c51b0] | (simp only [i64_w, i32_w]; rw [c51b0]) | skip)
   have HP108 := Aside0.mk H
   clear H
   have hnb109 := NB546_540.out
   have hnc109 := NB540_546.out
   have hnb110 := NB546_541.out
   have hnc110 := NB541_546.out
   have hnb111 := NB546_550.out
   have hnc111 := NB550_546.out
   have hnb112 := NB546_563.out
   have hnc112 := NB563_546.out
   have hnb113 := NB546_570.out
   have hnc113 := NB570_546.out
   have hcz114_0 : w44.cell? ⟨gb546, 0, none⟩ = some (.int .i64 t542) := (blk_cell BK546.out 0).trans rfl
   have hcz114_1 : w44.cell? ⟨gb546, 1, none⟩ = some (.int .i64 t543) := (blk_cell BK546.out 1).trans rfl
   have hcz114_2 : w44.cell? ⟨gb546, 2, none⟩ = some (.int .i64 t544) := (blk_cell BK546.out 2).trans rfl
   have hcz114_3 : w44.cell? ⟨gb546, 3, none⟩ = some (.int .i64 t545) := (blk_cell BK546.out 3).trans rfl
   have hfz114_0 := blk_frozen BK546.out 0
   have hfz114_1 := blk_frozen BK546.out 1
   have hfz114_2 := blk_frozen BK546.out 2
   have hfz114_3 := blk_frozen BK546.out 3
   have hnb115 := NB550_540.out
   have hnc115 := NB540_550.out
   have hnb116 := NB550_541.out
   have hnc116 := NB541_550.out
   have hnb117 := NB550_563.out
   have hnc117 := NB563_550.out
   have hnb118 := NB550_570.out
   have hnc118 := NB570_550.out
   have hcz119_0 : w44.cell? ⟨gb550, 0, none⟩ = some (.int .i64 (wrap64 (1 + t547))) := (blk_cell BK550.out 0).trans rfl
   have hcz119_1 : w44.cell? ⟨gb550, 1, none⟩ = some (.int .i64 (wrap64 (1 + t548))) := (blk_cell BK550.out 1).trans rfl
   have hcz119_2 : w44.cell? ⟨gb550, 2, none⟩ = some (.int .i64 (wrap64 (1 + t549))) := (blk_cell BK550.out 2).trans rfl
   have hfz119_0 := blk_frozen BK550.out 0
   have hfz119_1 := blk_frozen BK550.out 1
   have hfz119_2 := blk_frozen BK550.out 2
   go_upto_region 7 with (fail)
   have H := HP108.out
   clear HP108
   by_cases c120 : ((t562 == 0) == false) = true
   · rw [if_pos c120] at H
     have c120b0 : ((t562 == 0) == false) = true := c120
     (try (have c120b1 : decide ((t562 == 0) = false) = true := by simpa using c120))
     (try (have c120b2 : ((t562 == 0) == false) = true := by simpa using c120))
     clear c120
     (first | rw [c120b0] | (simp only [i64_w, i32_w]; rw [c120b0]) | skip)
     by_cases c121 : t562 = 4
     · rw [if_pos c121] at H
       have c121b0 : (t562 == 4) = true := beq_iff_eq.mpr c121
       have c121b1 : (t562 != 4) = false := bne_eq_false_iff_eq.mpr c121
       clear c121
       by_cases c122 : t569 = 0
       · rw [if_pos c122] at H
         have c122b0 : (t569 == 0) = true := beq_iff_eq.mpr c122
         have c122b1 : (t569 != 0) = false := bne_eq_false_iff_eq.mpr c122
         clear c122
         replace H := Option.bind_eq_some_iff.mp H
         obtain ⟨t575, A1230, H⟩ := H
         replace H : (some t575) = some r := H
         have A123 := Aside0.mk A1230
         clear A1230
         obtain rfl := Option.some.inj H
         go_wp2_with (first | (go_at_call 12; (with_reducible refine (chequerlaw06_lives.calls k  t575 _ A123.out).mono ?_); rintro e w124 ⟨rfl, hb⟩; replace BK540 := Aside0.mk (blk_below (hf_ BK540.out NB540_570.out) hb); replace BK541 := Aside0.mk (blk_below (hf_ BK541.out NB541_570.out) hb); replace BK546 := Aside0.mk (blk_below (hf_ BK546.out NB546_570.out) hb); replace BK550 := Aside0.mk (blk_below (hf_ BK550.out NB550_570.out) hb); replace BK563 := Aside0.mk (blk_below (hf_ BK563.out NB563_570.out) hb); replace BK570 := Aside0.mk (blk_below (g := gb570) (o := .cells #[.int .i64 t564, .int .i64 t565, .int .i64 t566, .int .i64 t567] 36 (0, 0)) (by (with_reducible repeat (first | refine blk_drewN ?_ _ | refine blk_drew ?_ | refine blk_alloc ?_ _)); refine blk_put (cs := #[.int .i64 t564, .int .i64 t565, .int .i64 t566, .int .i64 0]) ?_ 3 _ rfl; (with_reducible repeat (first | refine blk_drewN ?_ _ | refine blk_drew ?_ | refine blk_alloc ?_ _)); refine blk_put (cs := #[.int .i64 t564, .int .i64 t565, .int .i64 0, .int .i64 0]) ?_ 2 _ rfl; (with_reducible repeat (first | refine blk_drewN ?_ _ | refine blk_drew ?_ | refine blk_alloc ?_ _)); refine blk_put (cs := #[.int .i64 t564, .int .i64 0, .int .i64 0, .int .i64 0]) ?_ 1 _ rfl; (with_reducible repeat (first | refine blk_drewN ?_ _ | refine blk_drew ?_ | refine blk_alloc ?_ _)); refine blk_put (cs := #[.int .i64 0, .int .i64 0, .int .i64 0, .int .i64 0]) ?_ 0 _ rfl; (with_reducible repeat (first | refine blk_drewN ?_ _ | refine blk_drew ?_ | refine blk_alloc ?_ _)); exact BK570.out) hb); replace HB := Aside0.mk (below_step bp_ hb); (try clear hb); (try clear hb2); (try clear hk); (try clear hi)))
         go_ret
         exact ⟨by first | rfl | (simp [errW_none, errW_some] <;> rfl) | (simp [*, errW_none, errW_some] <;> rfl), bp_⟩
       · rw [if_neg c122] at H
         have c122b0 : (t569 == 0) = false := beq_eq_false_iff_ne.mpr c122
         have c122b1 : (t569 != 0) = true := bne_iff_ne.mpr c122
         obtain rfl := Option.some.inj H
         go_wp2
         go_ret
         exact ⟨by first | rfl | (simp [errW_none, errW_some] <;> rfl) | (simp [*, errW_none, errW_some] <;> rfl), bp_⟩
     · rw [if_neg c121] at H
       have c121b0 : (t562 == 4) = false := beq_eq_false_iff_ne.mpr c121
       have c121b1 : (t562 != 4) = true := bne_iff_ne.mpr c121
       obtain rfl := Option.some.inj H
       go_wp2
       go_ret
       exact ⟨by first | rfl | (simp [errW_none, errW_some] <;> rfl) | (simp [*, errW_none, errW_some] <;> rfl), bp_⟩
   · rw [if_neg c120] at H
     have c120b0 : ((t562 == 0) == false) = false := by simpa using c120
     (try (have c120b1 : decide ((t562 == 0) = false) = false := by simpa using c120))
     (try (have c120b2 : ((t562 == 0) == false) = false := by simpa using c120))
     (try (have c120b3 : ¬ ((t562 == 0) = false) := by simpa using c120))
     clear c120
     (first | rw [c120b0] | (simp only [i64_w, i32_w]; rw [c120b0]) | skip)
     obtain rfl := Option.some.inj H
     go_wp2
     go_ret
     exact ⟨by first | rfl | (simp [errW_none, errW_some] <;> rfl) | (simp [*, errW_none, errW_some] <;> rfl), bp_⟩

/-- THE ONE PURE STATEMENT of chequerlaw06_HeadLimits. -/
def chequerlaw06_HeadLimits.Pure : Prop := ∀ (a0_0 : Int) (a0_1 : Int) (a0_2 : Int) (a0_3 : Int) (a1_0 : Int) (a1_1 : Int) (a1_2 : Int), (Lit.int .i64 a0_0).wf = true → (Lit.int .i64 a0_1).wf = true → (Lit.int .i64 a0_2).wf = true → (Lit.int .i64 a0_3).wf = true → (Lit.int .i64 a1_0).wf = true → (Lit.int .i64 a1_1).wf = true → (Lit.int .i64 a1_2).wf = true → ∃ k, chequerlaw06_HeadLimits.f k a0_0 a0_1 a0_2 a0_3 a1_0 a1_1 a1_2 = some true
theorem chequerlaw06_HeadLimits.walk (P : chequerlaw06_HeadLimits.Pure) (a0_0 : Int) (a0_1 : Int) (a0_2 : Int) (a0_3 : Int) (a1_0 : Int) (a1_1 : Int) (a1_2 : Int) (w : World) (w0_0 : (Lit.int .i64 a0_0).wf = true) (w0_1 : (Lit.int .i64 a0_1).wf = true) (w0_2 : (Lit.int .i64 a0_2).wf = true) (w0_3 : (Lit.int .i64 a0_3).wf = true) (w1_0 : (Lit.int .i64 a1_0).wf = true) (w1_1 : (Lit.int .i64 a1_1).wf = true) (w1_2 : (Lit.int .i64 a1_2).wf = true) :
 Calls Try.prog 8 #[.agg #[.int .i64 a0_0, .int .i64 a0_1, .int .i64 a0_2, .int .i64 a0_3], .agg #[.int .i64 a1_0, .int .i64 a1_1, .int .i64 a1_2]] w fun e w' => e = .returned (.bool true) ∧ Below w.heap.size w w' := by
 obtain ⟨k, h⟩ := P a0_0 a0_1 a0_2 a0_3 a1_0 a1_1 a1_2 w0_0 w0_1 w0_2 w0_3 w1_0 w1_1 w1_2
 refine (chequerlaw06_HeadLimits.calls k a0_0 a0_1 a0_2 a0_3 a1_0 a1_1 a1_2 true w h).mono ?_
 rintro e w' ⟨rfl, hd⟩
 exact ⟨rfl, hd⟩

end Go.Proofs.Ytmimfljiighbaaa.Q
