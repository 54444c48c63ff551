-- written by our own program (wip/tools/myprint.py) out of the translation, by the kit's print; Lean checks it
import Derived.Test.YtehjnekljodmgaaQ0
import Derived.Test.YtehjnekljodmgaaQ1
import Derived.Test.YtehjnekljodmgaaQ3
import Derived.Test.YtehjnekljodmgaaQ6
import Derived.Test.YtehjnekljodmgaaQ8
import Derived.Test.YtehjnekljodmgaaQ9
namespace Go.Proofs.Ytehjnekljodmgaa.Q
open Go.RowKit Go.Proofs.YtehjnekljodmgaaW.PrintWords Go.Proofs.YtehjnekljodmgaaW.PrintLast Go.Proofs.YtehjnekljodmgaaW.PrintMore
attribute [local go_sem] max2_int min2_int max_two min_two max_three min_three max_four min_four   -- for this text's walks alone
set_option linter.unusedVariables false
set_option linter.unusedSimpArgs false

abbrev Fl58 : Array Bool := #[true, true, true, true, true, true, true, true, true, true, true, true, true, true, true, true, true, true, true, true, true, true, true, true, true, true, true, true, true, true, true, true, true, true, true, true, true, true, true, true, true, true, false, false, false, false, false]
abbrev Fl59 : Array Bool := #[true, true, true, true, true, true, true, true, true, true, true, true, true, true, true, true, true, true, true, true, true, true, true, true, true, true, true, true, true, true, true, true, true, true, true, true, true, true, true, true, true, true, true, false, false, false, false]
abbrev Fl60 : Array Bool := #[true, true, true, true, true, true, true, true, true, true, true, true, true, true, true, true, true, true, true, true, true, true, true, true, true, true, true, true, true, true, true, true, true, true, true, true, true, true, true, true, true, true, true, true, false, false, false]
abbrev Fl61 : Array Bool := #[true, true, true, true, true, true, true, true, true, true, true, true, true, true, true, true, true, true, true, true, true, true, true, true, true, true, true, true, true, true, true, true, true, true, true, true, true, true, true, true, true, true, true, true, true, false, false]
abbrev Fl62 : Array Bool := #[true, true, true, true, true, true, true, true, true, true, true, true, true, true, true, true, true, true, true, true, true, true, true, true, true, true, true, true, true, true, true, true, true, true, true, true, true, true, true, true, true, true, true, true, true, true, false]
abbrev Fl63 : Array Bool := #[true, true, true, true, true, true, true, true, true, true, true, true, true, true, true, true, true, true, true, true, true, true, true, true, true, true, true, true, true, true, true, true, true, true, true, true, true, true, true, true, true, true, true, true, true, true, true]
abbrev Fl64 : Array Bool := #[true, true, true, true, true, true, true, true, true, true, true, true, true, true, true, true, true, true, true, true, true, true, true, true, true, true, true, true, true, true, true, true, true, true, true, true, false, false, false, false, false, false, false, false, false, false, false]
abbrev Fl65 : Array Bool := #[true, true, true, true, true, true, true, true, true, true, true, true, true, true, true, true, true, true, true, true, true, true, true, true, true, true, true, true, true, true, true, true, true, true, true, true, true, false, false, false, false, false, false, false, false, false, false]
abbrev Fl66 : Array Bool := #[true, true, true, true, true, true, true, true, true, true, true, true, true, true, true, true, true, true, true, true, true, true, true, true, true, true, true, true, true, true, true, true, true, true, true, true, true, true, false, false, false, false, false, false, false, false, false]
abbrev Fl67 : Array Bool := #[true, true, true, true, true, true, true, true, true, true, true, true, true, true, true, true, true, true, true, true, true, true, true, true, true, true, true, true, true, true, true, true, true, true, true, true, true, true, true, false, false, false, false, false, false, false, false]
abbrev Fl68 : Array Bool := #[true, true, true, true, true, true, true, true, true, true, true, true, true, true, true, true, true, true, true, true, true, true, true, true, true, true, true, true, true, true, true, true, true, true, true, true, true, true, true, true, true, false, false, false, false, false, false]
abbrev Fl69 : Array Bool := #[true, true, true, true, true, true, true, true, true, true, true, true, true, true, true, true, true, true, true, true, true, true, true, true, true, true, true, true, true, true, true, true, false, false, false, false, false, false, false, false, false, false, false, false, false, false, false]
abbrev Fl70 : Array Bool := #[true, true, true, true, true, true, true, true, true, true, true, true, true, true, true, true, true, true, true, true, true, true, true, true, true, true, true, true, true, true, true, true, true, true, false, false, false, false, false, false, false, false, false, false, false, false, false]
abbrev Fl71 : Array Bool := #[true, true, true, true, true, true, true, true, true, true, true, true, true, true, true, true, true, true, true, true, true, true, true, true, true, true, true, true, true, true, true, true, true, true, true, false, false, false, false, false, false, false, false, false, false, false, false]
abbrev Fl72 : Array Bool := #[true, true, true, true, true, true, true, true, true, true, true, true, true, true, true, true, true, true, true, true, true, true, true, true, true, true, true, true, true, true, true, true, true, true, true, true, true, true, true, true, false, false, false, false, false, false, false]
abbrev Fl73 : Array Bool := #[true, true, true, true, true, true, true, true, false, false]
abbrev Fl74 : Array Bool := #[true, true, true, true, true, true, true, true, true, true, true, true, true, true, true, true, true, true, true, true, true, true, true, true, true, false, false, false, false, false, false, false, false, false, false, false, false, false, false, false, false, false, false, false, false, false, false]
abbrev Fl75 : Array Bool := #[true, true, true, true, true, true, true, true, true, true, true, true, true, true, true, true, true, true, true, true, true, true, true, true, true, true, true, false, false, false, false, false, false, false, false, false, false, false, false, false, false, false, false, false, false, false, false]
abbrev Fl76 : Array Bool := #[true, true, true, true, true, true, true, true, true, true, true, true, true, true, true, true, true, true, true, true, true, true, true, true, true, true, true, true, false, false, false, false, false, false, false, false, false, false, false, false, false, false, false, false, false, false, false]
abbrev Fl77 : Array Bool := #[true, true, true, true, true, true, true, true, true, true, true, true, true, true, true, true, true, true, true, true, true, true, true, true, true, true, true, true, true, false, false, false, false, false, false, false, false, false, false, false, false, false, false, false, false, false, false]
abbrev Fl78 : Array Bool := #[true, true, true, true, true, true, true, true, true, true, true, true, true, true, true, true, true, true, true, true, true, true, true, true, true, true, true, true, true, true, false, false, false, false, false, false, false, false, false, false, false, false, false, false, false, false, false]
abbrev Fl79 : Array Bool := #[true, true, true, true, true, true, true, true, true, true, true, true, true, true, true, true, true, true, true, true, true, true, true, true, true, true, true, true, true, true, true, false, false, false, false, false, false, false, false, false, false, false, false, false, false, false, false]
abbrev Fl80 : Array Bool := #[true, true, true, true, true, true, true, true, true, true, true, true, true, true, true, true, true, true, true, true, true, true, true, true, true, true, true, true, true, true, true, true, true, false, false, false, false, false, false, false, false, false, false, false, false, false, false]
abbrev Fl81 : Array Bool := #[true, true, true, true, true, true, true, true, true, true, true, true, true, true, true, true, true, true, false, false, false, false, false, false, false, false, false, false, false, false, false, false, false, false, false, false, false, false, false, false, false, false, false, false, false, false, false]
abbrev Fl82 : Array Bool := #[true, true, true, true, true, true, true, true, true, true, true, true, true, true, true, true, true, true, true, true, false, false, false, false, false, false, false, false, false, false, false, false, false, false, false, false, false, false, false, false, false, false, false, false, false, false, false]
abbrev Fl83 : Array Bool := #[true, true, true, true, true, true, true, true, true, true, true, true, true, true, true, true, true, true, true, true, true, false, false, false, false, false, false, false, false, false, false, false, false, false, false, false, false, false, false, false, false, false, false, false, false, false, false]
abbrev Fl84 : Array Bool := #[true, true, true, true, true, true, true, true, true, true, true, true, true, true, true, true, true, true, true, true, true, true, false, false, false, false, false, false, false, false, false, false, false, false, false, false, false, false, false, false, false, false, false, false, false, false, false]
abbrev Fl85 : Array Bool := #[true, true, true, true, true, true, true, true, true, true, true, true, true, true, true, true, true, true, true, true, true, true, true, false, false, false, false, false, false, false, false, false, false, false, false, false, false, false, false, false, false, false, false, false, false, false, false]
abbrev Fl86 : Array Bool := #[true, true, true, true, true, true, true, true, true, true, true, true, true, true, true, true, true, true, true, true, true, true, true, true, false, false, false, false, false, false, false, false, false, false, false, false, false, false, false, false, false, false, false, false, false, false, false]
abbrev Fl87 : Array Bool := #[true, true, true, true, true, true, true, true, true, true, true, true, true, true, true, true, true, true, true, true, true, true, true, true, true, true, false, false, false, false, false, false, false, false, false, false, false, false, false, false, false, false, false, false, false, false, false]
abbrev Fl88 : Array Bool := #[true, true, true, false, false, false, false, true, false, false]
abbrev Fl89 : Array Bool := #[true, true, true, true, false, false, false, true, false, false]
abbrev Fl90 : Array Bool := #[true, true, true, true, true, false, false, true, false, false]
abbrev Fl91 : Array Bool := #[true, true, true, true, true, true, false, true, false, false]
abbrev Fl92 : Array Bool := #[true, true, true, true, true, true, true, true, true, false, false, false, false, false, false, false, false, false, false, false, false, false, false, false, false, false, false, false, false, false, false, false, false, false, false, false, false, false, false, false, false, false, false, false, false, false, false]
abbrev Fl93 : Array Bool := #[true, true, true, true, true, true, true, true, true, true, false, false, false, false, false, false, false, false, false, false, false, false, false, false, false, false, false, false, false, false, false, false, false, false, false, false, false, false, false, false, false, false, false, false, false, false, false]
abbrev Fl94 : Array Bool := #[true, true, true, true, true, true, true, true, true, true, true, true, true, false, false, false, false, false, false, false, false, false, false, false, false, false, false, false, false, false, false, false, false, false, false, false, false, false, false, false, false, false, false, false, false, false, false]
abbrev Fl95 : Array Bool := #[true, true, true, true, true, true, true, true, true, true, true, true, true, true, false, false, false, false, false, false, false, false, false, false, false, false, false, false, false, false, false, false, false, false, false, false, false, false, false, false, false, false, false, false, false, false, false]
abbrev Fl96 : Array Bool := #[true, true, true, true, true, true, true, true, true, true, true, true, true, true, true, false, false, false, false, false, false, false, false, false, false, false, false, false, false, false, false, false, false, false, false, false, false, false, false, false, false, false, false, false, false, false, false]
abbrev Fl97 : Array Bool := #[true, true, true, true, true, true, true, true, true, true, true, true, true, true, true, true, false, false, false, false, false, false, false, false, false, false, false, false, false, false, false, false, false, false, false, false, false, false, false, false, false, false, false, false, false, false, false]
abbrev Fl98 : Array Bool := #[true, true, true, true, true, true, true, true, true, true, true, true, true, true, true, true, true, false, false, false, false, false, false, false, false, false, false, false, false, false, false, false, false, false, false, false, false, false, false, false, false, false, false, false, false, false, false]
abbrev Fl99 : Array Bool := #[true, true, true, true, true, true, true, true, true, true, true, true, true, true, true, true, true, true, true, false, false, false, false, false, false, false, false, false, false, false, false, false, false, false, false, false, false, false, false, false, false, false, false, false, false, false, false]
/-! ### chequerlaw04_TurnThen: function 5 -/
def chequerlaw04_TurnThen.f (k : Nat) (a0_0 : Int) (a0_1 : Int) (l0_2 : List Int) (a1 : Int) (a2 : Int) : Option (Bool) := (chequerref03_Good.f k a0_0 a0_1 l0_2 6).bind fun bt290 => ((chequerref01_Around.f a1 8).bind fun t296 => ((chequerref01_Around.f a2 8).bind fun t297 => ((chequerlaw04_of.f bt290.1 bt290.2.1 bt290.2.2).bind fun bt298 => ((turn_Lay.f k bt298.1 bt298.2.1 bt298.2.2 t296).bind fun bt303 => ((turn_Lay.f k bt303.1 bt303.2.1 bt303.2.2.1 t297).bind fun bt310 => ((chequerlaw04_of.f bt290.1 bt290.2.1 bt290.2.2).bind fun bt317 => ((turn_Then.f k t296 t297).bind fun t322 => ((turn_Lay.f k bt317.1 bt317.2.1 bt317.2.2 t322).bind fun bt323 => ((turn_Back.f k t296).bind fun t330 => ((turn_Lay.f k bt303.1 bt303.2.1 bt303.2.2.1 t330).bind fun bt331 => ((turn_Then.f k a1 a2).bind fun t338 => ((chequerref04_Then.f k a1 a2).bind fun t339 => (if t338 = t339 then ((turn_Then.f k t296 t297).bind fun t340 => ((chequerref04_Then.f k t296 t297).bind fun t341 => (if t340 = t341 then ((turn_Back.f k a1).bind fun t342 => ((chequerref04_Back.f k a1).bind fun t343 => (if t342 = t343 then ((turn_Back.f k t296).bind fun t344 => ((chequerref04_Back.f k t296).bind fun t345 => (if t344 = t345 then ((chequerlaw04_as.f bt310.1 bt310.2.1 bt310.2.2.1).bind fun bt346 => ((chequerlaw04_as.f bt323.1 bt323.2.1 bt323.2.2.1).bind fun bt351 => ((chequerref03_Same.f k bt346.1 bt346.2.1 bt346.2.2 bt351.1 bt351.2.1 bt351.2.2).bind fun t356 => (if t356 = true then ((chequerlaw04_as.f bt331.1 bt331.2.1 bt331.2.2.1).bind fun bt357 => ((chequerref03_Same.f k bt357.1 bt357.2.1 bt357.2.2 bt290.1 bt290.2.1 bt290.2.2).bind fun t362 => (if t362 = true then ((chequerlaw04_lives.f k).bind fun t363 => (some t363)) else (some false)))) else (some false))))) else (some false)))) else (some false)))) else (some false)))) else (some false))))))))))))))
theorem chequerlaw04_TurnThen.mono : ∀ a0 a1 a2 a3 a4 k, LeO (chequerlaw04_TurnThen.f k a0 a1 a2 a3 a4) (chequerlaw04_TurnThen.f (k + 1) a0 a1 a2 a3 a4) := by
 intro a0 a1 a2 a3 a4 k
 unfold chequerlaw04_TurnThen.f
 repeat' first
  | (with_reducible exact chequerlaw04_lives.mono _)
  | (with_reducible exact chequerref03_Good.mono _ _ _ _ _)
  | (with_reducible exact chequerref03_Same.mono _ _ _ _ _ _ _)
  | (with_reducible exact chequerref04_Back.mono _ _)
  | (with_reducible exact chequerref04_Then.mono _ _ _)
  | (with_reducible exact turn_Back.mono _ _)
  | (with_reducible exact turn_Lay.mono _ _ _ _ _)
  | (with_reducible exact turn_Then.mono _ _ _)
  | (with_reducible exact LeO.refl _)
  | (with_reducible exact LeO.none _)
  | (with_reducible refine LeO.ite ?_ ?_)
  | (with_reducible refine LeO.bind ?_ (fun _ => ?_))
  | exact chequerlaw04_lives.mono _
  | exact chequerref03_Good.mono _ _ _ _ _
  | exact chequerref03_Same.mono _ _ _ _ _ _ _
  | exact chequerref04_Back.mono _ _
  | exact chequerref04_Then.mono _ _ _
  | exact turn_Back.mono _ _
  | exact turn_Lay.mono _ _ _ _ _
  | exact turn_Then.mono _ _ _
  | exact LeO.none _
  | refine LeO.ite ?_ ?_
  | refine LeO.bind ?_ (fun _ => ?_)
def chequerlaw04_TurnThen.T7 : Bool × List (List Nat × List Nat) := (true, [([], []), ([], []), ([1], [1]), ([0, 2, 2], [0, 2]), ([3], [3]), ([4], [4]), ([4], [4]), ([], []), ([7, 5, 3, 0, 1, 2, 3, 4, 5, 7], [5, 7]), ([6, 8, 0, 1, 2, 3, 4, 5, 6, 7, 8], [6])])
def chequerlaw04_TurnThen.B7 : List Nat := [0, 0, 2, 7, 15, 31, 31, 0, 191, 511]
theorem chequerlaw04_TurnThen.tab7 : rtab .any (opsOf Try.f5 7) = chequerlaw04_TurnThen.T7 := by kernel_rfl
theorem chequerlaw04_TurnThen.bits7 : waitsOk chequerlaw04_TurnThen.T7.2 chequerlaw04_TurnThen.B7 = true := by kernel_rfl
def chequerlaw04_TurnThen.T8 : Bool × List (List Nat × List Nat) := (true, [([], []), ([], []), ([0, 1], [0, 1]), ([], []), ([], []), ([3, 4, 2], [3, 4]), ([2, 5], [2, 5]), ([6, 5], [6]), ([7], [7]), ([7], [7]), ([8, 9, 7, 7], [7, 8, 9]), ([7], [7]), ([7], [7]), ([11, 12, 10, 7], [7, 11, 12]), ([10, 13, 7], [7, 10, 13]), ([7, 14], [7, 14]), ([15, 13], [15]), ([16], [16]), ([17, 16, 16], [16, 17]), ([16], [16]), ([19, 18, 16], [16, 19]), ([18, 20, 16], [16, 18, 20]), ([16, 21], [16, 21]), ([22, 20], [22]), ([23], [23]), ([24, 23, 23], [23, 24]), ([23], [23]), ([26, 25, 23], [23, 26]), ([25, 27, 23], [23, 25, 27]), ([23, 28], [23, 28]), ([29, 27], [29]), ([30], [30]), ([31, 30, 30], [30, 31]), ([30], [30]), ([33, 32, 30], [30, 33]), ([32, 34, 34, 30], [30, 32, 34]), ([30, 35], [30, 35]), ([36, 35], [36]), ([37], [37]), ([38, 37, 37], [37, 38]), ([37], [37]), ([39, 40, 39, 37], [37, 39, 40]), ([37, 41], [37, 41]), ([42, 41], [42]), ([43, 43], [43]), ([43, 44], [43, 44]), ([45, 44, 0, 1, 2, 3, 4, 5, 6, 7, 8, 9, 10, 11, 12, 13, 14, 15, 16, 17, 18, 19, 20, 21, 22, 23, 24, 25, 26, 27, 28, 29, 30, 31, 32, 33, 34, 35, 36, 37, 38, 39, 40, 41, 42, 43, 44, 45], [45])])
def chequerlaw04_TurnThen.B8 : List Nat := [0, 0, 3, 0, 0, 31, 63, 127, 255, 255, 1023, 255, 255, 8191, 16383, 32767, 65535, 131071, 262143, 131071, 1048575, 2097151, 4194303, 8388607, 16777215, 33554431, 16777215, 134217727, 268435455, 536870911, 1073741823, 2147483647, 4294967295, 2147483647, 17179869183, 34359738367, 68719476735, 137438953471, 274877906943, 549755813887, 274877906943, 2199023255551, 4398046511103, 8796093022207, 17592186044415, 35184372088831, 70368744177663]
theorem chequerlaw04_TurnThen.tab8 : rtab .any (opsOf Try.f5 8) = chequerlaw04_TurnThen.T8 := by kernel_rfl
theorem chequerlaw04_TurnThen.bits8 : waitsOk chequerlaw04_TurnThen.T8.2 chequerlaw04_TurnThen.B8 = true := by kernel_rfl
set_option maxHeartbeats 8000000 in
set_option maxRecDepth 100000 in
theorem chequerlaw04_TurnThen.calls (k : Nat) (a0_0 : Int) (a0_1 : Int) (A0_2 : Option Addr) (c0_2 : Nat) (l0_2 : List Int) (a1 : Int) (a2 : Int) (r : Bool) (w : World) (hr0_2 : Kd.C (Kd.int .u64) w A0_2 l0_2.length l0_2) (hc0_2 : l0_2.length ≤ c0_2) (h : chequerlaw04_TurnThen.f k a0_0 a0_1 l0_2 a1 a2 = some r) :
 Calls Try.prog 5 #[.agg #[.int .i64 a0_0, .int .i64 a0_1, .slice A0_2 l0_2.length c0_2], .int .i64 a1, .int .i64 a2] w fun e w' => e = .returned (.bool r) ∧ Below w.heap.size w w' := by
 have hu24 := Try.underlying24
 have hu26 := Try.underlying26
 have HR0_2 := Aside0.mk hr0_2
 have HC0_2 := Aside0.mk hc0_2
 clear hr0_2 hc0_2
 have HB := Aside0.mk (Below.refl w.heap.size w)
 have H : ((chequerref03_Good.f k a0_0 a0_1 l0_2 6).bind fun bt290 => ((chequerref01_Around.f a1 8).bind fun t296 => ((chequerref01_Around.f a2 8).bind fun t297 => ((chequerlaw04_of.f bt290.1 bt290.2.1 bt290.2.2).bind fun bt298 => ((turn_Lay.f k bt298.1 bt298.2.1 bt298.2.2 t296).bind fun bt303 => ((turn_Lay.f k bt303.1 bt303.2.1 bt303.2.2.1 t297).bind fun bt310 => ((chequerlaw04_of.f bt290.1 bt290.2.1 bt290.2.2).bind fun bt317 => ((turn_Then.f k t296 t297).bind fun t322 => ((turn_Lay.f k bt317.1 bt317.2.1 bt317.2.2 t322).bind fun bt323 => ((turn_Back.f k t296).bind fun t330 => ((turn_Lay.f k bt303.1 bt303.2.1 bt303.2.2.1 t330).bind fun bt331 => ((turn_Then.f k a1 a2).bind fun t338 => ((chequerref04_Then.f k a1 a2).bind fun t339 => (if t338 = t339 then ((turn_Then.f k t296 t297).bind fun t340 => ((chequerref04_Then.f k t296 t297).bind fun t341 => (if t340 = t341 then ((turn_Back.f k a1).bind fun t342 => ((chequerref04_Back.f k a1).bind fun t343 => (if t342 = t343 then ((turn_Back.f k t296).bind fun t344 => ((chequerref04_Back.f k t296).bind fun t345 => (if t344 = t345 then ((chequerlaw04_as.f bt310.1 bt310.2.1 bt310.2.2.1).bind fun bt346 => ((chequerlaw04_as.f bt323.1 bt323.2.1 bt323.2.2.1).bind fun bt351 => ((chequerref03_Same.f k bt346.1 bt346.2.1 bt346.2.2 bt351.1 bt351.2.1 bt351.2.2).bind fun t356 => (if t356 = true then ((chequerlaw04_as.f bt331.1 bt331.2.1 bt331.2.2.1).bind fun bt357 => ((chequerref03_Same.f k bt357.1 bt357.2.1 bt357.2.2 bt290.1 bt290.2.1 bt290.2.2).bind fun t362 => (if t362 = true then ((chequerlaw04_lives.f k).bind fun t363 => (some t363)) else (some false)))) else (some false))))) else (some false)))) else (some false)))) else (some false)))) else (some false))))))))))))))) = some r := h
 clear h
 replace H := Option.bind_eq_some_iff.mp H
 obtain ⟨⟨t290, t291, t292⟩, A40, H⟩ := H
 replace H : ((chequerref01_Around.f a1 8).bind fun t296 => ((chequerref01_Around.f a2 8).bind fun t297 => ((chequerlaw04_of.f t290 t291 t292).bind fun bt298 => ((turn_Lay.f k bt298.1 bt298.2.1 bt298.2.2 t296).bind fun bt303 => ((turn_Lay.f k bt303.1 bt303.2.1 bt303.2.2.1 t297).bind fun bt310 => ((chequerlaw04_of.f t290 t291 t292).bind fun bt317 => ((turn_Then.f k t296 t297).bind fun t322 => ((turn_Lay.f k bt317.1 bt317.2.1 bt317.2.2 t322).bind fun bt323 => ((turn_Back.f k t296).bind fun t330 => ((turn_Lay.f k bt303.1 bt303.2.1 bt303.2.2.1 t330).bind fun bt331 => ((turn_Then.f k a1 a2).bind fun t338 => ((chequerref04_Then.f k a1 a2).bind fun t339 => (if t338 = t339 then ((turn_Then.f k t296 t297).bind fun t340 => ((chequerref04_Then.f k t296 t297).bind fun t341 => (if t340 = t341 then ((turn_Back.f k a1).bind fun t342 => ((chequerref04_Back.f k a1).bind fun t343 => (if t342 = t343 then ((turn_Back.f k t296).bind fun t344 => ((chequerref04_Back.f k t296).bind fun t345 => (if t344 = t345 then ((chequerlaw04_as.f bt310.1 bt310.2.1 bt310.2.2.1).bind fun bt346 => ((chequerlaw04_as.f bt323.1 bt323.2.1 bt323.2.2.1).bind fun bt351 => ((chequerref03_Same.f k bt346.1 bt346.2.1 bt346.2.2 bt351.1 bt351.2.1 bt351.2.2).bind fun t356 => (if t356 = true then ((chequerlaw04_as.f bt331.1 bt331.2.1 bt331.2.2.1).bind fun bt357 => ((chequerref03_Same.f k bt357.1 bt357.2.1 bt357.2.2 t290 t291 t292).bind fun t362 => (if t362 = true then ((chequerlaw04_lives.f k).bind fun t363 => (some t363)) else (some false)))) else (some false))))) else (some false)))) else (some false)))) else (some false)))) else (some false)))))))))))))) = some r := H
 have A4 := Aside0.mk A40
 clear A40
 replace H := Option.bind_eq_some_iff.mp H
 obtain ⟨t296, A50, H⟩ := H
 replace H : ((chequerref01_Around.f a2 8).bind fun t297 => ((chequerlaw04_of.f t290 t291 t292).bind fun bt298 => ((turn_Lay.f k bt298.1 bt298.2.1 bt298.2.2 t296).bind fun bt303 => ((turn_Lay.f k bt303.1 bt303.2.1 bt303.2.2.1 t297).bind fun bt310 => ((chequerlaw04_of.f t290 t291 t292).bind fun bt317 => ((turn_Then.f k t296 t297).bind fun t322 => ((turn_Lay.f k bt317.1 bt317.2.1 bt317.2.2 t322).bind fun bt323 => ((turn_Back.f k t296).bind fun t330 => ((turn_Lay.f k bt303.1 bt303.2.1 bt303.2.2.1 t330).bind fun bt331 => ((turn_Then.f k a1 a2).bind fun t338 => ((chequerref04_Then.f k a1 a2).bind fun t339 => (if t338 = t339 then ((turn_Then.f k t296 t297).bind fun t340 => ((chequerref04_Then.f k t296 t297).bind fun t341 => (if t340 = t341 then ((turn_Back.f k a1).bind fun t342 => ((chequerref04_Back.f k a1).bind fun t343 => (if t342 = t343 then ((turn_Back.f k t296).bind fun t344 => ((chequerref04_Back.f k t296).bind fun t345 => (if t344 = t345 then ((chequerlaw04_as.f bt310.1 bt310.2.1 bt310.2.2.1).bind fun bt346 => ((chequerlaw04_as.f bt323.1 bt323.2.1 bt323.2.2.1).bind fun bt351 => ((chequerref03_Same.f k bt346.1 bt346.2.1 bt346.2.2 bt351.1 bt351.2.1 bt351.2.2).bind fun t356 => (if t356 = true then ((chequerlaw04_as.f bt331.1 bt331.2.1 bt331.2.2.1).bind fun bt357 => ((chequerref03_Same.f k bt357.1 bt357.2.1 bt357.2.2 t290 t291 t292).bind fun t362 => (if t362 = true then ((chequerlaw04_lives.f k).bind fun t363 => (some t363)) else (some false)))) else (some false))))) else (some false)))) else (some false)))) else (some false)))) else (some false))))))))))))) = some r := H
 have A5 := Aside0.mk A50
 clear A50
 replace H := Option.bind_eq_some_iff.mp H
 obtain ⟨t297, A60, H⟩ := H
 replace H : ((chequerlaw04_of.f t290 t291 t292).bind fun bt298 => ((turn_Lay.f k bt298.1 bt298.2.1 bt298.2.2 t296).bind fun bt303 => ((turn_Lay.f k bt303.1 bt303.2.1 bt303.2.2.1 t297).bind fun bt310 => ((chequerlaw04_of.f t290 t291 t292).bind fun bt317 => ((turn_Then.f k t296 t297).bind fun t322 => ((turn_Lay.f k bt317.1 bt317.2.1 bt317.2.2 t322).bind fun bt323 => ((turn_Back.f k t296).bind fun t330 => ((turn_Lay.f k bt303.1 bt303.2.1 bt303.2.2.1 t330).bind fun bt331 => ((turn_Then.f k a1 a2).bind fun t338 => ((chequerref04_Then.f k a1 a2).bind fun t339 => (if t338 = t339 then ((turn_Then.f k t296 t297).bind fun t340 => ((chequerref04_Then.f k t296 t297).bind fun t341 => (if t340 = t341 then ((turn_Back.f k a1).bind fun t342 => ((chequerref04_Back.f k a1).bind fun t343 => (if t342 = t343 then ((turn_Back.f k t296).bind fun t344 => ((chequerref04_Back.f k t296).bind fun t345 => (if t344 = t345 then ((chequerlaw04_as.f bt310.1 bt310.2.1 bt310.2.2.1).bind fun bt346 => ((chequerlaw04_as.f bt323.1 bt323.2.1 bt323.2.2.1).bind fun bt351 => ((chequerref03_Same.f k bt346.1 bt346.2.1 bt346.2.2 bt351.1 bt351.2.1 bt351.2.2).bind fun t356 => (if t356 = true then ((chequerlaw04_as.f bt331.1 bt331.2.1 bt331.2.2.1).bind fun bt357 => ((chequerref03_Same.f k bt357.1 bt357.2.1 bt357.2.2 t290 t291 t292).bind fun t362 => (if t362 = true then ((chequerlaw04_lives.f k).bind fun t363 => (some t363)) else (some false)))) else (some false))))) else (some false)))) else (some false)))) else (some false)))) else (some false)))))))))))) = some r := H
 have A6 := Aside0.mk A60
 clear A60
 replace H := Option.bind_eq_some_iff.mp H
 obtain ⟨⟨t298, t299, t300⟩, A70, H⟩ := H
 replace H : ((turn_Lay.f k t298 t299 t300 t296).bind fun bt303 => ((turn_Lay.f k bt303.1 bt303.2.1 bt303.2.2.1 t297).bind fun bt310 => ((chequerlaw04_of.f t290 t291 t292).bind fun bt317 => ((turn_Then.f k t296 t297).bind fun t322 => ((turn_Lay.f k bt317.1 bt317.2.1 bt317.2.2 t322).bind fun bt323 => ((turn_Back.f k t296).bind fun t330 => ((turn_Lay.f k bt303.1 bt303.2.1 bt303.2.2.1 t330).bind fun bt331 => ((turn_Then.f k a1 a2).bind fun t338 => ((chequerref04_Then.f k a1 a2).bind fun t339 => (if t338 = t339 then ((turn_Then.f k t296 t297).bind fun t340 => ((chequerref04_Then.f k t296 t297).bind fun t341 => (if t340 = t341 then ((turn_Back.f k a1).bind fun t342 => ((chequerref04_Back.f k a1).bind fun t343 => (if t342 = t343 then ((turn_Back.f k t296).bind fun t344 => ((chequerref04_Back.f k t296).bind fun t345 => (if t344 = t345 then ((chequerlaw04_as.f bt310.1 bt310.2.1 bt310.2.2.1).bind fun bt346 => ((chequerlaw04_as.f bt323.1 bt323.2.1 bt323.2.2.1).bind fun bt351 => ((chequerref03_Same.f k bt346.1 bt346.2.1 bt346.2.2 bt351.1 bt351.2.1 bt351.2.2).bind fun t356 => (if t356 = true then ((chequerlaw04_as.f bt331.1 bt331.2.1 bt331.2.2.1).bind fun bt357 => ((chequerref03_Same.f k bt357.1 bt357.2.1 bt357.2.2 t290 t291 t292).bind fun t362 => (if t362 = true then ((chequerlaw04_lives.f k).bind fun t363 => (some t363)) else (some false)))) else (some false))))) else (some false)))) else (some false)))) else (some false)))) else (some false))))))))))) = some r := H
 have A7 := Aside0.mk A70
 clear A70
 replace H := Option.bind_eq_some_iff.mp H
 obtain ⟨⟨t303, t304, t305, t308⟩, A80, H⟩ := H
 replace H : ((turn_Lay.f k t303 t304 t305 t297).bind fun bt310 => ((chequerlaw04_of.f t290 t291 t292).bind fun bt317 => ((turn_Then.f k t296 t297).bind fun t322 => ((turn_Lay.f k bt317.1 bt317.2.1 bt317.2.2 t322).bind fun bt323 => ((turn_Back.f k t296).bind fun t330 => ((turn_Lay.f k t303 t304 t305 t330).bind fun bt331 => ((turn_Then.f k a1 a2).bind fun t338 => ((chequerref04_Then.f k a1 a2).bind fun t339 => (if t338 = t339 then ((turn_Then.f k t296 t297).bind fun t340 => ((chequerref04_Then.f k t296 t297).bind fun t341 => (if t340 = t341 then ((turn_Back.f k a1).bind fun t342 => ((chequerref04_Back.f k a1).bind fun t343 => (if t342 = t343 then ((turn_Back.f k t296).bind fun t344 => ((chequerref04_Back.f k t296).bind fun t345 => (if t344 = t345 then ((chequerlaw04_as.f bt310.1 bt310.2.1 bt310.2.2.1).bind fun bt346 => ((chequerlaw04_as.f bt323.1 bt323.2.1 bt323.2.2.1).bind fun bt351 => ((chequerref03_Same.f k bt346.1 bt346.2.1 bt346.2.2 bt351.1 bt351.2.1 bt351.2.2).bind fun t356 => (if t356 = true then ((chequerlaw04_as.f bt331.1 bt331.2.1 bt331.2.2.1).bind fun bt357 => ((chequerref03_Same.f k bt357.1 bt357.2.1 bt357.2.2 t290 t291 t292).bind fun t362 => (if t362 = true then ((chequerlaw04_lives.f k).bind fun t363 => (some t363)) else (some false)))) else (some false))))) else (some false)))) else (some false)))) else (some false)))) else (some false)))))))))) = some r := H
 have A8 := Aside0.mk A80
 clear A80
 replace H := Option.bind_eq_some_iff.mp H
 obtain ⟨⟨t310, t311, t312, t315⟩, A90, H⟩ := H
 replace H : ((chequerlaw04_of.f t290 t291 t292).bind fun bt317 => ((turn_Then.f k t296 t297).bind fun t322 => ((turn_Lay.f k bt317.1 bt317.2.1 bt317.2.2 t322).bind fun bt323 => ((turn_Back.f k t296).bind fun t330 => ((turn_Lay.f k t303 t304 t305 t330).bind fun bt331 => ((turn_Then.f k a1 a2).bind fun t338 => ((chequerref04_Then.f k a1 a2).bind fun t339 => (if t338 = t339 then ((turn_Then.f k t296 t297).bind fun t340 => ((chequerref04_Then.f k t296 t297).bind fun t341 => (if t340 = t341 then ((turn_Back.f k a1).bind fun t342 => ((chequerref04_Back.f k a1).bind fun t343 => (if t342 = t343 then ((turn_Back.f k t296).bind fun t344 => ((chequerref04_Back.f k t296).bind fun t345 => (if t344 = t345 then ((chequerlaw04_as.f t310 t311 t312).bind fun bt346 => ((chequerlaw04_as.f bt323.1 bt323.2.1 bt323.2.2.1).bind fun bt351 => ((chequerref03_Same.f k bt346.1 bt346.2.1 bt346.2.2 bt351.1 bt351.2.1 bt351.2.2).bind fun t356 => (if t356 = true then ((chequerlaw04_as.f bt331.1 bt331.2.1 bt331.2.2.1).bind fun bt357 => ((chequerref03_Same.f k bt357.1 bt357.2.1 bt357.2.2 t290 t291 t292).bind fun t362 => (if t362 = true then ((chequerlaw04_lives.f k).bind fun t363 => (some t363)) else (some false)))) else (some false))))) else (some false)))) else (some false)))) else (some false)))) else (some false))))))))) = some r := H
 have A9 := Aside0.mk A90
 clear A90
 replace H := Option.bind_eq_some_iff.mp H
 obtain ⟨⟨t317, t318, t319⟩, A100, H⟩ := H
 replace H : ((turn_Then.f k t296 t297).bind fun t322 => ((turn_Lay.f k t317 t318 t319 t322).bind fun bt323 => ((turn_Back.f k t296).bind fun t330 => ((turn_Lay.f k t303 t304 t305 t330).bind fun bt331 => ((turn_Then.f k a1 a2).bind fun t338 => ((chequerref04_Then.f k a1 a2).bind fun t339 => (if t338 = t339 then ((turn_Then.f k t296 t297).bind fun t340 => ((chequerref04_Then.f k t296 t297).bind fun t341 => (if t340 = t341 then ((turn_Back.f k a1).bind fun t342 => ((chequerref04_Back.f k a1).bind fun t343 => (if t342 = t343 then ((turn_Back.f k t296).bind fun t344 => ((chequerref04_Back.f k t296).bind fun t345 => (if t344 = t345 then ((chequerlaw04_as.f t310 t311 t312).bind fun bt346 => ((chequerlaw04_as.f bt323.1 bt323.2.1 bt323.2.2.1).bind fun bt351 => ((chequerref03_Same.f k bt346.1 bt346.2.1 bt346.2.2 bt351.1 bt351.2.1 bt351.2.2).bind fun t356 => (if t356 = true then ((chequerlaw04_as.f bt331.1 bt331.2.1 bt331.2.2.1).bind fun bt357 => ((chequerref03_Same.f k bt357.1 bt357.2.1 bt357.2.2 t290 t291 t292).bind fun t362 => (if t362 = true then ((chequerlaw04_lives.f k).bind fun t363 => (some t363)) else (some false)))) else (some false))))) else (some false)))) else (some false)))) else (some false)))) else (some false)))))))) = some r := H
 have A10 := Aside0.mk A100
 clear A100
 replace H := Option.bind_eq_some_iff.mp H
 obtain ⟨t322, A110, H⟩ := H
 replace H : ((turn_Lay.f k t317 t318 t319 t322).bind fun bt323 => ((turn_Back.f k t296).bind fun t330 => ((turn_Lay.f k t303 t304 t305 t330).bind fun bt331 => ((turn_Then.f k a1 a2).bind fun t338 => ((chequerref04_Then.f k a1 a2).bind fun t339 => (if t338 = t339 then ((turn_Then.f k t296 t297).bind fun t340 => ((chequerref04_Then.f k t296 t297).bind fun t341 => (if t340 = t341 then ((turn_Back.f k a1).bind fun t342 => ((chequerref04_Back.f k a1).bind fun t343 => (if t342 = t343 then ((turn_Back.f k t296).bind fun t344 => ((chequerref04_Back.f k t296).bind fun t345 => (if t344 = t345 then ((chequerlaw04_as.f t310 t311 t312).bind fun bt346 => ((chequerlaw04_as.f bt323.1 bt323.2.1 bt323.2.2.1).bind fun bt351 => ((chequerref03_Same.f k bt346.1 bt346.2.1 bt346.2.2 bt351.1 bt351.2.1 bt351.2.2).bind fun t356 => (if t356 = true then ((chequerlaw04_as.f bt331.1 bt331.2.1 bt331.2.2.1).bind fun bt357 => ((chequerref03_Same.f k bt357.1 bt357.2.1 bt357.2.2 t290 t291 t292).bind fun t362 => (if t362 = true then ((chequerlaw04_lives.f k).bind fun t363 => (some t363)) else (some false)))) else (some false))))) else (some false)))) else (some false)))) else (some false)))) else (some false))))))) = some r := H
 have A11 := Aside0.mk A110
 clear A110
 replace H := Option.bind_eq_some_iff.mp H
 obtain ⟨⟨t323, t324, t325, t328⟩, A120, H⟩ := H
 replace H : ((turn_Back.f k t296).bind fun t330 => ((turn_Lay.f k t303 t304 t305 t330).bind fun bt331 => ((turn_Then.f k a1 a2).bind fun t338 => ((chequerref04_Then.f k a1 a2).bind fun t339 => (if t338 = t339 then ((turn_Then.f k t296 t297).bind fun t340 => ((chequerref04_Then.f k t296 t297).bind fun t341 => (if t340 = t341 then ((turn_Back.f k a1).bind fun t342 => ((chequerref04_Back.f k a1).bind fun t343 => (if t342 = t343 then ((turn_Back.f k t296).bind fun t344 => ((chequerref04_Back.f k t296).bind fun t345 => (if t344 = t345 then ((chequerlaw04_as.f t310 t311 t312).bind fun bt346 => ((chequerlaw04_as.f t323 t324 t325).bind fun bt351 => ((chequerref03_Same.f k bt346.1 bt346.2.1 bt346.2.2 bt351.1 bt351.2.1 bt351.2.2).bind fun t356 => (if t356 = true then ((chequerlaw04_as.f bt331.1 bt331.2.1 bt331.2.2.1).bind fun bt357 => ((chequerref03_Same.f k bt357.1 bt357.2.1 bt357.2.2 t290 t291 t292).bind fun t362 => (if t362 = true then ((chequerlaw04_lives.f k).bind fun t363 => (some t363)) else (some false)))) else (some false))))) else (some false)))) else (some false)))) else (some false)))) else (some false)))))) = some r := H
 have A12 := Aside0.mk A120
 clear A120
 replace H := Option.bind_eq_some_iff.mp H
 obtain ⟨t330, A130, H⟩ := H
 replace H : ((turn_Lay.f k t303 t304 t305 t330).bind fun bt331 => ((turn_Then.f k a1 a2).bind fun t338 => ((chequerref04_Then.f k a1 a2).bind fun t339 => (if t338 = t339 then ((turn_Then.f k t296 t297).bind fun t340 => ((chequerref04_Then.f k t296 t297).bind fun t341 => (if t340 = t341 then ((turn_Back.f k a1).bind fun t342 => ((chequerref04_Back.f k a1).bind fun t343 => (if t342 = t343 then ((turn_Back.f k t296).bind fun t344 => ((chequerref04_Back.f k t296).bind fun t345 => (if t344 = t345 then ((chequerlaw04_as.f t310 t311 t312).bind fun bt346 => ((chequerlaw04_as.f t323 t324 t325).bind fun bt351 => ((chequerref03_Same.f k bt346.1 bt346.2.1 bt346.2.2 bt351.1 bt351.2.1 bt351.2.2).bind fun t356 => (if t356 = true then ((chequerlaw04_as.f bt331.1 bt331.2.1 bt331.2.2.1).bind fun bt357 => ((chequerref03_Same.f k bt357.1 bt357.2.1 bt357.2.2 t290 t291 t292).bind fun t362 => (if t362 = true then ((chequerlaw04_lives.f k).bind fun t363 => (some t363)) else (some false)))) else (some false))))) else (some false)))) else (some false)))) else (some false)))) else (some false))))) = some r := H
 have A13 := Aside0.mk A130
 clear A130
 replace H := Option.bind_eq_some_iff.mp H
 obtain ⟨⟨t331, t332, t333, t336⟩, A140, H⟩ := H
 replace H : ((turn_Then.f k a1 a2).bind fun t338 => ((chequerref04_Then.f k a1 a2).bind fun t339 => (if t338 = t339 then ((turn_Then.f k t296 t297).bind fun t340 => ((chequerref04_Then.f k t296 t297).bind fun t341 => (if t340 = t341 then ((turn_Back.f k a1).bind fun t342 => ((chequerref04_Back.f k a1).bind fun t343 => (if t342 = t343 then ((turn_Back.f k t296).bind fun t344 => ((chequerref04_Back.f k t296).bind fun t345 => (if t344 = t345 then ((chequerlaw04_as.f t310 t311 t312).bind fun bt346 => ((chequerlaw04_as.f t323 t324 t325).bind fun bt351 => ((chequerref03_Same.f k bt346.1 bt346.2.1 bt346.2.2 bt351.1 bt351.2.1 bt351.2.2).bind fun t356 => (if t356 = true then ((chequerlaw04_as.f t331 t332 t333).bind fun bt357 => ((chequerref03_Same.f k bt357.1 bt357.2.1 bt357.2.2 t290 t291 t292).bind fun t362 => (if t362 = true then ((chequerlaw04_lives.f k).bind fun t363 => (some t363)) else (some false)))) else (some false))))) else (some false)))) else (some false)))) else (some false)))) else (some false)))) = some r := H
 have A14 := Aside0.mk A140
 clear A140
 have HP15 := Aside0.mk H
 clear H
 go_enter Try.func5, Try.ntmps5
 try go_wp2_with (first | ((with_reducible refine gate_dst (N := 3) rfl ?_); refine box_event ?hg (N := 3) ?hd (cs := #[.int .i64 a0_0, .int .i64 a0_1, .slice A0_2 l0_2.length c0_2]) (t := 24) ?hr ?_; (case hd => rfl); (case hg => rfl); (case hr => first | (go_simp; done) | (go_simp; rfl)); intro gb289 hg w16 hbox hb; have BK289 := Aside0.mk (hbox); have GW289 := Aside0.mk ((by rw [hg]; exact (below_size bp_) : w.heap.size ≤ gb289)); have GE289 := Aside0.mk ((by rw [hg]; exact (below_size bp_) : w.heap.size ≤ gb289)); replace HB := Aside0.mk (below_step bp_ hb); clear hb hbox hg; have hcz17_0 : w16.cell? ⟨gb289, 0, none⟩ = some (.int .i64 a0_0) := (blk_cell BK289.out 0).trans rfl; have hcz17_1 : w16.cell? ⟨gb289, 1, none⟩ = some (.int .i64 a0_1) := (blk_cell BK289.out 1).trans rfl; have hcz17_2 : w16.cell? ⟨gb289, 2, none⟩ = some (.slice A0_2 l0_2.length c0_2) := (blk_cell BK289.out 2).trans rfl; have hfz17_0 := blk_frozen BK289.out 0; have hfz17_1 := blk_frozen BK289.out 1; have hfz17_2 := blk_frozen BK289.out 2) | ((with_reducible refine gate_callee (f := 11) rfl ?_); refine goQ_ (some 19) Try.func11 #[.agg #[.int .i64 a0_0, .int .i64 a0_1, .slice A0_2 l0_2.length c0_2], .int .i64 6] ?_; (with_reducible refine (chequerref03_Good.calls k a0_0 a0_1 _ _ l0_2 6 t290 t291 t292 _ ?side1 ?side2 A4.out).mono ?_); (case side1 => repeat (first | exact (Kd.C_below HR0_2.out HB.out) | (with_reducible refine Kd.C_alloc ?_ _) | (with_reducible refine Kd.C_drewN ?_ _) | (with_reducible refine Kd.C_drew ?_))); (case side2 => exact HC0_2.out); rintro e w18 ⟨v293, rfl, ho0, hb⟩; refine ⟨_, rfl, ?_⟩; have HO294 := Aside0.mk (Kd.R_lower ho0 (below_size bp_)); replace BK289 := Aside0.mk (blk_below (hp_ BK289.out) hb); replace HB := Aside0.mk (below_step bp_ hb); (try clear hb); (try clear hb2); (try clear hk); (try clear hi); (try clear ho0)) | ((with_reducible refine gate_dst (N := 7) rfl ?_); refine box_event ?hg (N := 7) ?hd (cs := #[.int .i64 0, .int .i64 0, .slice none 0 0]) (t := 24) ?hr ?_; (case hd => rfl); (case hg => rfl); (case hr => first | (go_simp; done) | (go_simp; rfl)); intro gb295 hg w19 hbox hb; replace HO294 := Aside0.mk (Kd.R_below (rp_ HO294.out) hb); have BK295 := Aside0.mk (hbox); have GW295 := Aside0.mk ((by rw [hg]; exact (below_size bp_) : w.heap.size ≤ gb295)); have GE295 := Aside0.mk ((by rw [hg]; exact (below_size bp_) : w.heap.size ≤ gb295)); replace HB := Aside0.mk (below_step bp_ hb); have NB289_295 := Aside0.mk ((nlt_ hg (hp_ BK289.out))); have NB295_289 := Aside0.mk ((ngt_ hg (hp_ BK289.out))); replace BK289 := Aside0.mk (blk_below (hp_ BK289.out) hb); clear hb hbox hg; have hnb20 := NB295_289.out; have hnc20 := NB289_295.out; have hcz21_0 : w19.cell? ⟨gb295, 0, none⟩ = some (.int .i64 0) := (blk_cell BK295.out 0).trans rfl; have hcz21_1 : w19.cell? ⟨gb295, 1, none⟩ = some (.int .i64 0) := (blk_cell BK295.out 1).trans rfl; have hcz21_2 : w19.cell? ⟨gb295, 2, none⟩ = some (.slice none 0 0) := (blk_cell BK295.out 2).trans rfl; have hfz21_0 := blk_frozen BK295.out 0; have hfz21_1 := blk_frozen BK295.out 1; have hfz21_2 := blk_frozen BK295.out 2; obtain ⟨Ao22, co22, eo22⟩ := Kd.R_slice HO294.out; subst eo22) | ((with_reducible refine gate_store (t := 24) (p := 7) rfl ?_); refine store_event (t := 24) (p := 7) (v := ?vo_w23) (w1 := (((w19.setCell ⟨gb295, 0, none⟩ (.int .i64 t290)).setCell ⟨gb295, 1, none⟩ (.int .i64 t291)).setCell ⟨gb295, 2, none⟩ (.slice Ao22 t292.length co22))) ?hg ?ho ?hn ?hr ?_; (case ho => rfl); (case hg => rfl); (case hn => rfl); (case hr => first | (go_simp; done) | (go_simp; rfl)); intro w23 hw; replace HO294 : Aside0 (Kd.R (Kd.int .u64) 41 w23 w.heap.size (fun _ => True) (.slice Ao22 t292.length co22) t292) := ⟨(by rw [hw]; exact (rf_ HO294.out BK295.out (by decide) (fun _ hk => trivial)))⟩; replace BK289 : Aside0 (w23.heap[gb289]? = some (.cells #[.int .i64 a0_0, .int .i64 a0_1, .slice A0_2 l0_2.length c0_2] 24 (0, 0))) := ⟨(by rw [hw]; exact (hf_ BK289.out NB289_295.out))⟩; replace BK295 : Aside0 (w23.heap[gb295]? = some (.cells #[.int .i64 t290, .int .i64 t291, .slice Ao22 t292.length co22] 24 (0, 0))) := ⟨(by rw [hw]; exact (by (with_reducible repeat (first | refine blk_drewN ?_ _ | refine blk_drew ?_ | refine blk_alloc ?_ _)); refine blk_put (cs := #[.int .i64 t290, .int .i64 t291, .slice none 0 0]) ?_ 2 _ rfl; (with_reducible repeat (first | refine blk_drewN ?_ _ | refine blk_drew ?_ | refine blk_alloc ?_ _)); refine blk_put (cs := #[.int .i64 t290, .int .i64 0, .slice none 0 0]) ?_ 1 _ rfl; (with_reducible repeat (first | refine blk_drewN ?_ _ | refine blk_drew ?_ | refine blk_alloc ?_ _)); refine blk_put (cs := #[.int .i64 0, .int .i64 0, .slice none 0 0]) ?_ 0 _ rfl; (with_reducible repeat (first | refine blk_drewN ?_ _ | refine blk_drew ?_ | refine blk_alloc ?_ _)); exact BK295.out))⟩; replace HB : Aside0 (Below w.heap.size w w23) := ⟨(by rw [hw]; exact bp_)⟩; clear hw) | ((with_reducible refine gate_callee (f := 23) rfl ?_); refine goQ_ (some 21) Try.func23 #[.int .i64 a1, .int .i64 8] ?_; (with_reducible refine (chequerref01_Around.calls a1 8 t296 _ A5.out).mono ?_); rintro e w' ⟨rfl, ⟨nd, rfl⟩⟩; refine ⟨_, rfl, ?_⟩; (try (rw [drewN_self w23]; generalize hq_ : World.drewN w23 _ = w23; replace HO294 := Aside0.mk (qrp_ hq_ HO294.out); replace BK289 := Aside0.mk (qhp_ hq_ BK289.out); replace BK295 := Aside0.mk (qhp_ hq_ BK295.out); replace HB : Aside0 (Below w.heap.size w w23) := ⟨qbp_ hq_⟩; clear hq_)); (try have hfz17_0r2 := blk_frozen BK289.out 0); (try have hfz17_1r2 := blk_frozen BK289.out 1); (try have hfz17_2r2 := blk_frozen BK289.out 2); (try have hfz21_0r2 := blk_frozen BK295.out 0); (try have hfz21_1r2 := blk_frozen BK295.out 1); (try have hfz21_2r2 := blk_frozen BK295.out 2)) | ((with_reducible refine gate_callee (f := 23) rfl ?_); refine goQ_ (some 23) Try.func23 #[.int .i64 a2, .int .i64 8] ?_; (with_reducible refine (chequerref01_Around.calls a2 8 t297 _ A6.out).mono ?_); rintro e w' ⟨rfl, ⟨nd, rfl⟩⟩; refine ⟨_, rfl, ?_⟩; (try (rw [drewN_self w23]; generalize hq_ : World.drewN w23 _ = w23; replace HO294 := Aside0.mk (qrp_ hq_ HO294.out); replace BK289 := Aside0.mk (qhp_ hq_ BK289.out); replace BK295 := Aside0.mk (qhp_ hq_ BK295.out); replace HB : Aside0 (Below w.heap.size w w23) := ⟨qbp_ hq_⟩; clear hq_)); have hcz24_0 : w23.cell? ⟨gb295, 0, none⟩ = some (.int .i64 t290) := (blk_cell BK295.out 0).trans rfl; have hcz24_1 : w23.cell? ⟨gb295, 1, none⟩ = some (.int .i64 t291) := (blk_cell BK295.out 1).trans rfl; have hcz24_2 : w23.cell? ⟨gb295, 2, none⟩ = some (.slice Ao22 t292.length co22) := (blk_cell BK295.out 2).trans rfl; have hfz24_0 := blk_frozen BK295.out 0; have hfz24_1 := blk_frozen BK295.out 1; have hfz24_2 := blk_frozen BK295.out 2; (try have hfz17_0r3 := blk_frozen BK289.out 0); (try have hfz17_1r3 := blk_frozen BK289.out 1); (try have hfz17_2r3 := blk_frozen BK289.out 2)) | ((with_reducible refine gate_callee (f := 13) rfl ?_); refine goQ_ (some 26) Try.func13 #[.agg #[.int .i64 t290, .int .i64 t291, .slice Ao22 t292.length co22]] ?_; (with_reducible refine (chequerlaw04_of.calls t290 t291 (fun k_ => some k_ = (.slice Ao22 t292.length co22 : Value).ownBlock) _ _ t292 t298 t299 t300 _ ?side1 A7.out).mono ?_); (case side1 => exact Kd.R_V (Kd.R_tight rfl (Kd.R_types (Kd.R_types (HO294.out) BK289.out (by decide)) BK295.out (by decide)))); rintro e w25 ⟨v301, rfl, ho0, hb⟩; refine ⟨_, rfl, ?_⟩; have HO302 := Aside0.mk (Kd.V_lower (Kd.V_mono (ok' := fun k_ => k_ ≠ gb289 ∧ k_ ≠ gb295) ho0 (fun k_ hk_ => ⟨Or.elim hk_ (fun hs_ => ((Kd.R_types (Kd.R_types (HO294.out) BK289.out (by decide)) BK295.out (by decide)).1 k_ hs_.symm).1.2) (fun hn_ => (Kd.freshB (g := gb289) (o := .cells #[.int .i64 a0_0, .int .i64 a0_1, .slice A0_2 l0_2.length c0_2] 24 (0, 0)) (hp_ BK289.out) k_ hn_)), Or.elim hk_ (fun hs_ => ((Kd.R_types (Kd.R_types (HO294.out) BK289.out (by decide)) BK295.out (by decide)).1 k_ hs_.symm).2) (fun hn_ => (Kd.freshB (g := gb295) (o := .cells #[.int .i64 t290, .int .i64 t291, .slice Ao22 t292.length co22] 24 (0, 0)) (hp_ BK295.out) k_ hn_))⟩)) (below_size bp_)); replace HO294 := Aside0.mk (Kd.R_below (rp_ HO294.out) hb); replace BK289 := Aside0.mk (blk_below (hp_ BK289.out) hb); replace BK295 := Aside0.mk (blk_below (hp_ BK295.out) hb); replace HB := Aside0.mk (below_step bp_ hb); (try clear hb); (try clear hb2); (try clear hk); (try clear hi); (try clear ho0); obtain ⟨Ao26, co26, eo26⟩ := Kd.V_slice HO302.out; subst eo26) | ((with_reducible refine gate_callee (f := 12) rfl ?_); refine goQ_ (some 28) Try.func12 #[.agg #[.int .i64 t298, .int .i64 t299, .slice Ao26 t300.length co26], .int .i64 t296] ?_; (with_reducible refine (turn_Lay.calls k t298 t299 _ _ t300 t296 t303 t304 t305 t308 _ ?side1 ?side2 A8.out).mono ?_); (case side1 => exact cp_ (Kd.V_reads' HO302.out).2.2); (case side2 => exact (Kd.V_reads' HO302.out).2.1); rintro e w27 ⟨v306, rfl, ho0, hb⟩; refine ⟨_, rfl, ?_⟩; replace HO302 := Aside0.mk (Kd.V_elder' (vp_ HO302.out) (Kd.R_base ho0) hb); have HO307 := Aside0.mk (Kd.R_lower (Kd.R_new' ho0 (Kd.R_lt (rp_ HO294.out))) (below_size bp_)); replace HO294 := Aside0.mk (Kd.R_elder' (rp_ HO294.out) (Kd.R_base ho0) hb); replace BK289 := Aside0.mk (blk_below (hp_ BK289.out) hb); replace BK295 := Aside0.mk (blk_below (hp_ BK295.out) hb); replace HB := Aside0.mk (below_step bp_ hb); (try clear hb); (try clear hb2); (try clear hk); (try clear hi); (try clear ho0)) | ((with_reducible refine gate_dst (N := 10) rfl ?_); refine box_event ?hg (N := 10) ?hd (cs := #[.int .i64 0, .int .i64 0, .slice none 0 0]) (t := 26) ?hr ?_; (case hd => rfl); (case hg => rfl); (case hr => first | (go_simp; done) | (go_simp; rfl)); intro gb309 hg w28 hbox hb; replace HO294 := Aside0.mk (Kd.R_below (rp_ HO294.out) hb); replace HO302 := Aside0.mk (Kd.V_below (Kd.V_elderB (vp_ HO302.out) gb309 (Nat.le_of_eq hg.symm)) hb); replace HO307 := Aside0.mk (Kd.R_below (rp_ HO307.out) hb); have BK309 := Aside0.mk (hbox); have GW309 := Aside0.mk ((by rw [hg]; exact (below_size bp_) : w.heap.size ≤ gb309)); have GE309 := Aside0.mk ((by rw [hg]; exact (below_size bp_) : w.heap.size ≤ gb309)); replace HB := Aside0.mk (below_step bp_ hb); have NB289_309 := Aside0.mk ((nlt_ hg (hp_ BK289.out))); have NB309_289 := Aside0.mk ((ngt_ hg (hp_ BK289.out))); replace BK289 := Aside0.mk (blk_below (hp_ BK289.out) hb); have NB295_309 := Aside0.mk ((nlt_ hg (hp_ BK295.out))); have NB309_295 := Aside0.mk ((ngt_ hg (hp_ BK295.out))); replace BK295 := Aside0.mk (blk_below (hp_ BK295.out) hb); clear hb hbox hg; have hnb29 := NB309_289.out; have hnc29 := NB289_309.out; have hnb30 := NB309_295.out; have hnc30 := NB295_309.out; have hcz31_0 : w28.cell? ⟨gb309, 0, none⟩ = some (.int .i64 0) := (blk_cell BK309.out 0).trans rfl; have hcz31_1 : w28.cell? ⟨gb309, 1, none⟩ = some (.int .i64 0) := (blk_cell BK309.out 1).trans rfl; have hcz31_2 : w28.cell? ⟨gb309, 2, none⟩ = some (.slice none 0 0) := (blk_cell BK309.out 2).trans rfl; have hfz31_0 := blk_frozen BK309.out 0; have hfz31_1 := blk_frozen BK309.out 1; have hfz31_2 := blk_frozen BK309.out 2; obtain ⟨Ao32, co32, eo32⟩ := Kd.R_slice HO307.out; subst eo32) | ((with_reducible refine gate_callee (f := 12) rfl ?_); refine goQ_ (some 34) Try.func12 #[.agg #[.int .i64 t303, .int .i64 t304, .slice Ao32 t305.length co32], .int .i64 t297] ?_; (with_reducible refine (turn_Lay.calls k t303 t304 _ _ t305 t297 t310 t311 t312 t315 _ ?side1 ?side2 A9.out).mono ?_); (case side1 => refine (Kd.R_reads' (e := 41) (base := w.heap.size) (ok := fun k_ => (True ∧ some k_ ≠ (.slice Ao22 t292.length co22 : Value).ownBlock)) (n := t305.length) (c := co32) ?_).2.2; exact (by (with_reducible repeat (first | apply Kd.R_alloc | apply Kd.R_drewN | apply Kd.R_drew)); exact (Kd.R_mono (Kd.R_far (p := ⟨gb309, 2, none⟩) (Kd.R_far (p := ⟨gb309, 1, none⟩) (Kd.R_far (p := ⟨gb309, 0, none⟩) (Kd.R_types HO307.out BK309.out (by decide)) (fun _ hk => hk.2) (.int .i64 t303)) (fun _ hk => hk.2) (.int .i64 t304)) (fun _ hk => hk.2) (.slice Ao32 t305.length co32)) (fun _ h_ => h_.1)))); (case side2 => exact (Kd.R_reads' HO307.out).2.1); rintro e w33 ⟨v313, rfl, ho0, hb⟩; refine ⟨_, rfl, ?_⟩; replace HO302 := Aside0.mk (Kd.V_elder' (by (with_reducible repeat (first | apply Kd.V_alloc | apply Kd.V_drewN | apply Kd.V_drew)); exact (Kd.V_mono (Kd.V_far (p := ⟨gb309, 2, none⟩) (Kd.V_far (p := ⟨gb309, 1, none⟩) (Kd.V_far (p := ⟨gb309, 0, none⟩) (Kd.V_mono HO302.out (fun k_ hk => (⟨hk, hk.2⟩ : _ ∧ k_ ≠ gb309))) (fun _ hk => hk.2) (.int .i64 t303)) (fun _ hk => hk.2) (.int .i64 t304)) (fun _ hk => hk.2) (.slice Ao32 t305.length co32)) (fun _ h_ => h_.1))) (Kd.R_base ho0) hb); have HO314 := Aside0.mk (Kd.R_lower (Kd.R_new' (Kd.R_new' ho0 (Kd.R_lt (by (with_reducible repeat (first | apply Kd.R_alloc | apply Kd.R_drewN | apply Kd.R_drew)); exact (Kd.R_mono (Kd.R_far (p := ⟨gb309, 2, none⟩) (Kd.R_far (p := ⟨gb309, 1, none⟩) (Kd.R_far (p := ⟨gb309, 0, none⟩) (Kd.R_types HO294.out BK309.out (by decide)) (fun _ hk => hk.2) (.int .i64 t303)) (fun _ hk => hk.2) (.int .i64 t304)) (fun _ hk => hk.2) (.slice Ao32 t305.length co32)) (fun _ h_ => h_.1))))) (Kd.R_lt (by (with_reducible repeat (first | apply Kd.R_alloc | apply Kd.R_drewN | apply Kd.R_drew)); exact (Kd.R_mono (Kd.R_far (p := ⟨gb309, 2, none⟩) (Kd.R_far (p := ⟨gb309, 1, none⟩) (Kd.R_far (p := ⟨gb309, 0, none⟩) (Kd.R_types HO307.out BK309.out (by decide)) (fun _ hk => hk.2) (.int .i64 t303)) (fun _ hk => hk.2) (.int .i64 t304)) (fun _ hk => hk.2) (.slice Ao32 t305.length co32)) (fun _ h_ => h_.1))))) (below_size bp_)); replace HO294 := Aside0.mk (Kd.R_elder' (by (with_reducible repeat (first | apply Kd.R_alloc | apply Kd.R_drewN | apply Kd.R_drew)); exact (Kd.R_mono (Kd.R_far (p := ⟨gb309, 2, none⟩) (Kd.R_far (p := ⟨gb309, 1, none⟩) (Kd.R_far (p := ⟨gb309, 0, none⟩) (Kd.R_types HO294.out BK309.out (by decide)) (fun _ hk => hk.2) (.int .i64 t303)) (fun _ hk => hk.2) (.int .i64 t304)) (fun _ hk => hk.2) (.slice Ao32 t305.length co32)) (fun _ h_ => h_.1))) (Kd.R_base ho0) hb); replace HO307 := Aside0.mk (Kd.R_elder' (by (with_reducible repeat (first | apply Kd.R_alloc | apply Kd.R_drewN | apply Kd.R_drew)); exact (Kd.R_mono (Kd.R_far (p := ⟨gb309, 2, none⟩) (Kd.R_far (p := ⟨gb309, 1, none⟩) (Kd.R_far (p := ⟨gb309, 0, none⟩) (Kd.R_types HO307.out BK309.out (by decide)) (fun _ hk => hk.2) (.int .i64 t303)) (fun _ hk => hk.2) (.int .i64 t304)) (fun _ hk => hk.2) (.slice Ao32 t305.length co32)) (fun _ h_ => h_.1))) (Kd.R_base ho0) hb); replace BK289 := Aside0.mk (blk_below (hf_ BK289.out NB289_309.out) hb); replace BK295 := Aside0.mk (blk_below (hf_ BK295.out NB295_309.out) hb); replace BK309 := Aside0.mk (blk_below (g := gb309) (o := .cells #[.int .i64 t303, .int .i64 t304, .slice Ao32 t305.length co32] 26 (0, 0)) (by (with_reducible repeat (first | refine blk_drewN ?_ _ | refine blk_drew ?_ | refine blk_alloc ?_ _)); refine blk_put (cs := #[.int .i64 t303, .int .i64 t304, .slice none 0 0]) ?_ 2 _ rfl; (with_reducible repeat (first | refine blk_drewN ?_ _ | refine blk_drew ?_ | refine blk_alloc ?_ _)); refine blk_put (cs := #[.int .i64 t303, .int .i64 0, .slice none 0 0]) ?_ 1 _ rfl; (with_reducible repeat (first | refine blk_drewN ?_ _ | refine blk_drew ?_ | refine blk_alloc ?_ _)); refine blk_put (cs := #[.int .i64 0, .int .i64 0, .slice none 0 0]) ?_ 0 _ rfl; (with_reducible repeat (first | refine blk_drewN ?_ _ | refine blk_drew ?_ | refine blk_alloc ?_ _)); exact BK309.out) hb); replace HB := Aside0.mk (below_step bp_ hb); (try clear hb); (try clear hb2); (try clear hk); (try clear hi); (try clear ho0)) | ((with_reducible refine gate_dst (N := 12) rfl ?_); refine box_event ?hg (N := 12) ?hd (cs := #[.int .i64 0, .int .i64 0, .slice none 0 0]) (t := 26) ?hr ?_; (case hd => rfl); (case hg => rfl); (case hr => first | (go_simp; done) | (go_simp; rfl)); intro gb316 hg w34 hbox hb; replace HO294 := Aside0.mk (Kd.R_below (rp_ HO294.out) hb); replace HO302 := Aside0.mk (Kd.V_below (Kd.V_elderB (vp_ HO302.out) gb316 (Nat.le_of_eq hg.symm)) hb); replace HO307 := Aside0.mk (Kd.R_below (rp_ HO307.out) hb); replace HO314 := Aside0.mk (Kd.R_below (rp_ HO314.out) hb); have BK316 := Aside0.mk (hbox); have GW316 := Aside0.mk ((by rw [hg]; exact (below_size bp_) : w.heap.size ≤ gb316)); have GE316 := Aside0.mk ((by rw [hg]; exact (below_size bp_) : w.heap.size ≤ gb316)); replace HB := Aside0.mk (below_step bp_ hb); have NB289_316 := Aside0.mk ((nlt_ hg (hp_ BK289.out))); have NB316_289 := Aside0.mk ((ngt_ hg (hp_ BK289.out))); replace BK289 := Aside0.mk (blk_below (hp_ BK289.out) hb); have NB295_316 := Aside0.mk ((nlt_ hg (hp_ BK295.out))); have NB316_295 := Aside0.mk ((ngt_ hg (hp_ BK295.out))); replace BK295 := Aside0.mk (blk_below (hp_ BK295.out) hb); have NB309_316 := Aside0.mk ((nlt_ hg (hp_ BK309.out))); have NB316_309 := Aside0.mk ((ngt_ hg (hp_ BK309.out))); replace BK309 := Aside0.mk (blk_below (hp_ BK309.out) hb); clear hb hbox hg; have hnb35 := NB316_289.out; have hnc35 := NB289_316.out; have hnb36 := NB316_295.out; have hnc36 := NB295_316.out; have hnb37 := NB316_309.out; have hnc37 := NB309_316.out; have hcz38_0 : w34.cell? ⟨gb316, 0, none⟩ = some (.int .i64 0) := (blk_cell BK316.out 0).trans rfl; have hcz38_1 : w34.cell? ⟨gb316, 1, none⟩ = some (.int .i64 0) := (blk_cell BK316.out 1).trans rfl; have hcz38_2 : w34.cell? ⟨gb316, 2, none⟩ = some (.slice none 0 0) := (blk_cell BK316.out 2).trans rfl; have hfz38_0 := blk_frozen BK316.out 0; have hfz38_1 := blk_frozen BK316.out 1; have hfz38_2 := blk_frozen BK316.out 2; obtain ⟨Ao39, co39, eo39⟩ := Kd.R_slice HO314.out; subst eo39) | ((with_reducible refine gate_store (t := 26) (p := 12) rfl ?_); refine store_event (t := 26) (p := 12) (v := ?vo_w40) (w1 := (((w34.setCell ⟨gb316, 0, none⟩ (.int .i64 t310)).setCell ⟨gb316, 1, none⟩ (.int .i64 t311)).setCell ⟨gb316, 2, none⟩ (.slice Ao39 t312.length co39))) ?hg ?ho ?hn ?hr ?_; (case ho => rfl); (case hg => rfl); (case hn => rfl); (case hr => first | (go_simp; done) | (go_simp; rfl)); intro w40 hw; replace HO294 : Aside0 (Kd.R (Kd.int .u64) 41 w40 w.heap.size (fun k_ => some k_ ≠ (.slice Ao32 t305.length co32 : Value).ownBlock ∧ some k_ ≠ (.slice Ao39 t312.length co39 : Value).ownBlock) (.slice Ao22 t292.length co22) t292) := ⟨(by rw [hw]; exact (rf_ HO294.out BK316.out (by decide) (fun _ hk => ⟨hk.1.1.2, hk.1.2⟩)))⟩; replace HO302 : Aside0 (Kd.V (Kd.int .u64) 41 w40 w.heap.size (fun k_ => some k_ ≠ (.slice Ao32 t305.length co32 : Value).ownBlock ∧ some k_ ≠ (.slice Ao39 t312.length co39 : Value).ownBlock ∧ k_ ≠ gb289 ∧ k_ ≠ gb295 ∧ k_ ≠ gb309 ∧ k_ ≠ gb316) (.slice Ao26 t300.length co26) t300) := ⟨(by rw [hw]; exact (by (with_reducible repeat (first | apply Kd.V_alloc | apply Kd.V_drewN | apply Kd.V_drew)); exact Kd.V_mono (Kd.V_far (p := ⟨gb316, 2, none⟩) (Kd.V_far (p := ⟨gb316, 1, none⟩) (Kd.V_far (p := ⟨gb316, 0, none⟩) (Kd.V_mono HO302.out (fun k_ hk => (⟨hk, hk.2⟩ : _ ∧ k_ ≠ gb316))) (fun _ hk => hk.2) (.int .i64 t310)) (fun _ hk => hk.2) (.int .i64 t311)) (fun _ hk => hk.2) (.slice Ao39 t312.length co39)) (fun _ hk => ⟨hk.1.1.1.1.2, ⟨hk.1.1.2, ⟨hk.1.1.1.1.1.1, ⟨hk.1.1.1.1.1.2, ⟨hk.1.1.1.2, hk.1.2⟩⟩⟩⟩⟩)))⟩; replace HO307 : Aside0 (Kd.R (Kd.int .u64) 41 w40 w.heap.size (fun k_ => some k_ ≠ (.slice Ao22 t292.length co22 : Value).ownBlock ∧ some k_ ≠ (.slice Ao39 t312.length co39 : Value).ownBlock) (.slice Ao32 t305.length co32) t305) := ⟨(by rw [hw]; exact (rf_ HO307.out BK316.out (by decide) (fun _ hk => ⟨hk.1.1.2, hk.1.2⟩)))⟩; replace HO314 : Aside0 (Kd.R (Kd.int .u64) 41 w40 w.heap.size (fun k_ => some k_ ≠ (.slice Ao22 t292.length co22 : Value).ownBlock ∧ some k_ ≠ (.slice Ao32 t305.length co32 : Value).ownBlock) (.slice Ao39 t312.length co39) t312) := ⟨(by rw [hw]; exact (rf_ HO314.out BK316.out (by decide) (fun _ hk => ⟨hk.1.1.2, hk.1.2⟩)))⟩; replace BK289 : Aside0 (w40.heap[gb289]? = some (.cells #[.int .i64 a0_0, .int .i64 a0_1, .slice A0_2 l0_2.length c0_2] 24 (0, 0))) := ⟨(by rw [hw]; exact (hf_ BK289.out NB289_316.out))⟩; replace BK295 : Aside0 (w40.heap[gb295]? = some (.cells #[.int .i64 t290, .int .i64 t291, .slice Ao22 t292.length co22] 24 (0, 0))) := ⟨(by rw [hw]; exact (hf_ BK295.out NB295_316.out))⟩; replace BK309 : Aside0 (w40.heap[gb309]? = some (.cells #[.int .i64 t303, .int .i64 t304, .slice Ao32 t305.length co32] 26 (0, 0))) := ⟨(by rw [hw]; exact (hf_ BK309.out NB309_316.out))⟩; replace BK316 : Aside0 (w40.heap[gb316]? = some (.cells #[.int .i64 t310, .int .i64 t311, .slice Ao39 t312.length co39] 26 (0, 0))) := ⟨(by rw [hw]; exact (by (with_reducible repeat (first | refine blk_drewN ?_ _ | refine blk_drew ?_ | refine blk_alloc ?_ _)); refine blk_put (cs := #[.int .i64 t310, .int .i64 t311, .slice none 0 0]) ?_ 2 _ rfl; (with_reducible repeat (first | refine blk_drewN ?_ _ | refine blk_drew ?_ | refine blk_alloc ?_ _)); refine blk_put (cs := #[.int .i64 t310, .int .i64 0, .slice none 0 0]) ?_ 1 _ rfl; (with_reducible repeat (first | refine blk_drewN ?_ _ | refine blk_drew ?_ | refine blk_alloc ?_ _)); refine blk_put (cs := #[.int .i64 0, .int .i64 0, .slice none 0 0]) ?_ 0 _ rfl; (with_reducible repeat (first | refine blk_drewN ?_ _ | refine blk_drew ?_ | refine blk_alloc ?_ _)); exact BK316.out))⟩; replace HB : Aside0 (Below w.heap.size w w40) := ⟨(by rw [hw]; exact bp_)⟩; clear hw; have hcz41_0 : w40.cell? ⟨gb295, 0, none⟩ = some (.int .i64 t290) := (blk_cell BK295.out 0).trans rfl; have hcz41_1 : w40.cell? ⟨gb295, 1, none⟩ = some (.int .i64 t291) := (blk_cell BK295.out 1).trans rfl; have hcz41_2 : w40.cell? ⟨gb295, 2, none⟩ = some (.slice Ao22 t292.length co22) := (blk_cell BK295.out 2).trans rfl; have hfz41_0 := blk_frozen BK295.out 0; have hfz41_1 := blk_frozen BK295.out 1; have hfz41_2 := blk_frozen BK295.out 2) | ((with_reducible refine gate_callee (f := 13) rfl ?_); refine goQ_ (some 39) Try.func13 #[.agg #[.int .i64 t290, .int .i64 t291, .slice Ao22 t292.length co22]] ?_; (with_reducible refine (chequerlaw04_of.calls t290 t291 (fun k_ => some k_ = (.slice Ao22 t292.length co22 : Value).ownBlock) _ _ t292 t317 t318 t319 _ ?side1 A10.out).mono ?_); (case side1 => exact Kd.R_V (Kd.R_tight rfl (Kd.R_types (Kd.R_types (Kd.R_types (Kd.R_types (HO294.out) BK289.out (by decide)) BK295.out (by decide)) BK309.out (by decide)) BK316.out (by decide)))); rintro e w42 ⟨v320, rfl, ho0, hb⟩; refine ⟨_, rfl, ?_⟩; replace HO302 := Aside0.mk (Kd.V_below (vp_ HO302.out) hb); have HO321 := Aside0.mk (Kd.V_lower (Kd.V_mono (ok' := fun k_ => some k_ ≠ (.slice Ao32 t305.length co32 : Value).ownBlock ∧ some k_ ≠ (.slice Ao39 t312.length co39 : Value).ownBlock ∧ k_ ≠ gb289 ∧ k_ ≠ gb295 ∧ k_ ≠ gb309 ∧ k_ ≠ gb316) ho0 (fun k_ hk_ => ⟨Or.elim hk_ (fun hs_ => ((Kd.R_types (Kd.R_types (Kd.R_types (Kd.R_types (HO294.out) BK289.out (by decide)) BK295.out (by decide)) BK309.out (by decide)) BK316.out (by decide)).1 k_ hs_.symm).1.1.1.1.1) (fun hn_ => (Kd.fresh' (Kd.R_lt (rp_ HO307.out)) k_ hn_)), Or.elim hk_ (fun hs_ => ((Kd.R_types (Kd.R_types (Kd.R_types (Kd.R_types (HO294.out) BK289.out (by decide)) BK295.out (by decide)) BK309.out (by decide)) BK316.out (by decide)).1 k_ hs_.symm).1.1.1.1.2) (fun hn_ => (Kd.fresh' (Kd.R_lt (rp_ HO314.out)) k_ hn_)), Or.elim hk_ (fun hs_ => ((Kd.R_types (Kd.R_types (Kd.R_types (Kd.R_types (HO294.out) BK289.out (by decide)) BK295.out (by decide)) BK309.out (by decide)) BK316.out (by decide)).1 k_ hs_.symm).1.1.1.2) (fun hn_ => (Kd.freshB (g := gb289) (o := .cells #[.int .i64 a0_0, .int .i64 a0_1, .slice A0_2 l0_2.length c0_2] 24 (0, 0)) (hp_ BK289.out) k_ hn_)), Or.elim hk_ (fun hs_ => ((Kd.R_types (Kd.R_types (Kd.R_types (Kd.R_types (HO294.out) BK289.out (by decide)) BK295.out (by decide)) BK309.out (by decide)) BK316.out (by decide)).1 k_ hs_.symm).1.1.2) (fun hn_ => (Kd.freshB (g := gb295) (o := .cells #[.int .i64 t290, .int .i64 t291, .slice Ao22 t292.length co22] 24 (0, 0)) (hp_ BK295.out) k_ hn_)), Or.elim hk_ (fun hs_ => ((Kd.R_types (Kd.R_types (Kd.R_types (Kd.R_types (HO294.out) BK289.out (by decide)) BK295.out (by decide)) BK309.out (by decide)) BK316.out (by decide)).1 k_ hs_.symm).1.2) (fun hn_ => (Kd.freshB (g := gb309) (o := .cells #[.int .i64 t303, .int .i64 t304, .slice Ao32 t305.length co32] 26 (0, 0)) (hp_ BK309.out) k_ hn_)), Or.elim hk_ (fun hs_ => ((Kd.R_types (Kd.R_types (Kd.R_types (Kd.R_types (HO294.out) BK289.out (by decide)) BK295.out (by decide)) BK309.out (by decide)) BK316.out (by decide)).1 k_ hs_.symm).2) (fun hn_ => (Kd.freshB (g := gb316) (o := .cells #[.int .i64 t310, .int .i64 t311, .slice Ao39 t312.length co39] 26 (0, 0)) (hp_ BK316.out) k_ hn_))⟩)) (below_size bp_)); replace HO294 := Aside0.mk (Kd.R_below (rp_ HO294.out) hb); replace HO307 := Aside0.mk (Kd.R_below (rp_ HO307.out) hb); replace HO314 := Aside0.mk (Kd.R_below (rp_ HO314.out) hb); replace BK289 := Aside0.mk (blk_below (hp_ BK289.out) hb); replace BK295 := Aside0.mk (blk_below (hp_ BK295.out) hb); replace BK309 := Aside0.mk (blk_below (hp_ BK309.out) hb); replace BK316 := Aside0.mk (blk_below (hp_ BK316.out) hb); replace HB := Aside0.mk (below_step bp_ hb); (try clear hb); (try clear hb2); (try clear hk); (try clear hi); (try clear ho0)) | ((with_reducible refine gate_callee (f := 24) rfl ?_); refine goQ_ (some 42) Try.func24 #[.int .i64 t296, .int .i64 t297] ?_; (with_reducible refine (turn_Then.calls k t296 t297 t322 _ A11.out).mono ?_); rintro e w' ⟨rfl, ⟨nd, rfl⟩⟩; refine ⟨_, rfl, ?_⟩; (try (rw [drewN_self w42]; generalize hq_ : World.drewN w42 _ = w42; replace HO294 := Aside0.mk (qrp_ hq_ HO294.out); replace HO302 := Aside0.mk (qvp_ hq_ HO302.out); replace HO307 := Aside0.mk (qrp_ hq_ HO307.out); replace HO314 := Aside0.mk (qrp_ hq_ HO314.out); replace HO321 := Aside0.mk (qvp_ hq_ HO321.out); replace BK289 := Aside0.mk (qhp_ hq_ BK289.out); replace BK295 := Aside0.mk (qhp_ hq_ BK295.out); replace BK309 := Aside0.mk (qhp_ hq_ BK309.out); replace BK316 := Aside0.mk (qhp_ hq_ BK316.out); replace HB : Aside0 (Below w.heap.size w w42) := ⟨qbp_ hq_⟩; clear hq_)); obtain ⟨Ao43, co43, eo43⟩ := Kd.V_slice HO321.out; subst eo43; (try have hfz17_0r8 := blk_frozen BK289.out 0); (try have hfz17_1r8 := blk_frozen BK289.out 1); (try have hfz17_2r8 := blk_frozen BK289.out 2); (try have hfz21_0r8 := blk_frozen BK295.out 0); (try have hfz21_1r8 := blk_frozen BK295.out 1); (try have hfz21_2r8 := blk_frozen BK295.out 2); (try have hfz24_0r8 := blk_frozen BK295.out 0); (try have hfz24_1r8 := blk_frozen BK295.out 1); (try have hfz24_2r8 := blk_frozen BK295.out 2); (try have hfz31_0r8 := blk_frozen BK309.out 0); (try have hfz31_1r8 := blk_frozen BK309.out 1); (try have hfz31_2r8 := blk_frozen BK309.out 2); (try have hfz38_0r8 := blk_frozen BK316.out 0); (try have hfz38_1r8 := blk_frozen BK316.out 1); (try have hfz38_2r8 := blk_frozen BK316.out 2); (try have hfz41_0r8 := blk_frozen BK295.out 0); (try have hfz41_1r8 := blk_frozen BK295.out 1); (try have hfz41_2r8 := blk_frozen BK295.out 2)) | ((with_reducible refine gate_callee (f := 12) rfl ?_); refine goQ_ (some 43) Try.func12 #[.agg #[.int .i64 t317, .int .i64 t318, .slice Ao43 t319.length co43], .int .i64 t322] ?_; (with_reducible refine (turn_Lay.calls k t317 t318 _ _ t319 t322 t323 t324 t325 t328 _ ?side1 ?side2 A12.out).mono ?_); (case side1 => exact cp_ (Kd.V_reads' HO321.out).2.2); (case side2 => exact (Kd.V_reads' HO321.out).2.1); rintro e w44 ⟨v326, rfl, ho0, hb⟩; refine ⟨_, rfl, ?_⟩; replace HO302 := Aside0.mk (Kd.V_elder' (vp_ HO302.out) (Kd.R_base ho0) hb); replace HO321 := Aside0.mk (Kd.V_elder' (vp_ HO321.out) (Kd.R_base ho0) hb); have HO327 := Aside0.mk (Kd.R_lower (Kd.R_new' (Kd.R_new' (Kd.R_new' ho0 (Kd.R_lt (rp_ HO294.out))) (Kd.R_lt (rp_ HO307.out))) (Kd.R_lt (rp_ HO314.out))) (below_size bp_)); replace HO294 := Aside0.mk (Kd.R_elder' (rp_ HO294.out) (Kd.R_base ho0) hb); replace HO307 := Aside0.mk (Kd.R_elder' (rp_ HO307.out) (Kd.R_base ho0) hb); replace HO314 := Aside0.mk (Kd.R_elder' (rp_ HO314.out) (Kd.R_base ho0) hb); replace BK289 := Aside0.mk (blk_below (hp_ BK289.out) hb); replace BK295 := Aside0.mk (blk_below (hp_ BK295.out) hb); replace BK309 := Aside0.mk (blk_below (hp_ BK309.out) hb); replace BK316 := Aside0.mk (blk_below (hp_ BK316.out) hb); replace HB := Aside0.mk (below_step bp_ hb); (try clear hb); (try clear hb2); (try clear hk); (try clear hi); (try clear ho0)) | ((with_reducible refine gate_dst (N := 14) rfl ?_); refine box_event ?hg (N := 14) ?hd (cs := #[.int .i64 0, .int .i64 0, .slice none 0 0]) (t := 26) ?hr ?_; (case hd => rfl); (case hg => rfl); (case hr => first | (go_simp; done) | (go_simp; rfl)); intro gb329 hg w45 hbox hb; replace HO294 := Aside0.mk (Kd.R_below (rp_ HO294.out) hb); replace HO302 := Aside0.mk (Kd.V_below (Kd.V_elderB (vp_ HO302.out) gb329 (Nat.le_of_eq hg.symm)) hb); replace HO307 := Aside0.mk (Kd.R_below (rp_ HO307.out) hb); replace HO314 := Aside0.mk (Kd.R_below (rp_ HO314.out) hb); replace HO321 := Aside0.mk (Kd.V_below (Kd.V_elderB (vp_ HO321.out) gb329 (Nat.le_of_eq hg.symm)) hb); replace HO327 := Aside0.mk (Kd.R_below (rp_ HO327.out) hb); have BK329 := Aside0.mk (hbox); have GW329 := Aside0.mk ((by rw [hg]; exact (below_size bp_) : w.heap.size ≤ gb329)); have GE329 := Aside0.mk ((by rw [hg]; exact (below_size bp_) : w.heap.size ≤ gb329)); replace HB := Aside0.mk (below_step bp_ hb); have NB289_329 := Aside0.mk ((nlt_ hg (hp_ BK289.out))); have NB329_289 := Aside0.mk ((ngt_ hg (hp_ BK289.out))); replace BK289 := Aside0.mk (blk_below (hp_ BK289.out) hb); have NB295_329 := Aside0.mk ((nlt_ hg (hp_ BK295.out))); have NB329_295 := Aside0.mk ((ngt_ hg (hp_ BK295.out))); replace BK295 := Aside0.mk (blk_below (hp_ BK295.out) hb); have NB309_329 := Aside0.mk ((nlt_ hg (hp_ BK309.out))); have NB329_309 := Aside0.mk ((ngt_ hg (hp_ BK309.out))); replace BK309 := Aside0.mk (blk_below (hp_ BK309.out) hb); have NB316_329 := Aside0.mk ((nlt_ hg (hp_ BK316.out))); have NB329_316 := Aside0.mk ((ngt_ hg (hp_ BK316.out))); replace BK316 := Aside0.mk (blk_below (hp_ BK316.out) hb); clear hb hbox hg; have hnb46 := NB329_289.out; have hnc46 := NB289_329.out; have hnb47 := NB329_295.out; have hnc47 := NB295_329.out; have hnb48 := NB329_309.out; have hnc48 := NB309_329.out; have hnb49 := NB329_316.out; have hnc49 := NB316_329.out; have hcz50_0 : w45.cell? ⟨gb329, 0, none⟩ = some (.int .i64 0) := (blk_cell BK329.out 0).trans rfl; have hcz50_1 : w45.cell? ⟨gb329, 1, none⟩ = some (.int .i64 0) := (blk_cell BK329.out 1).trans rfl; have hcz50_2 : w45.cell? ⟨gb329, 2, none⟩ = some (.slice none 0 0) := (blk_cell BK329.out 2).trans rfl; have hfz50_0 := blk_frozen BK329.out 0; have hfz50_1 := blk_frozen BK329.out 1; have hfz50_2 := blk_frozen BK329.out 2; obtain ⟨Ao51, co51, eo51⟩ := Kd.R_slice HO327.out; subst eo51))
 have n0_ : Aside0 (Kd.R (Kd.int .u64) 41 (((w45.setCell ⟨gb329, 0, none⟩ (.int .i64 t323)).setCell ⟨gb329, 1, none⟩ (.int .i64 t324)).setCell ⟨gb329, 2, none⟩ (.slice Ao51 t325.length co51)) w.heap.size (fun k_ => some k_ ≠ (.slice Ao32 t305.length co32 : Value).ownBlock ∧ some k_ ≠ (.slice Ao39 t312.length co39 : Value).ownBlock ∧ some k_ ≠ (.slice Ao51 t325.length co51 : Value).ownBlock) (.slice Ao22 t292.length co22) t292) := ⟨rf_ HO294.out BK329.out (by decide) (fun _ hk => ⟨hk.1.1.1, ⟨hk.1.1.2, hk.1.2⟩⟩)⟩
 have n1_ : Aside0 (Kd.V (Kd.int .u64) 41 (((w45.setCell ⟨gb329, 0, none⟩ (.int .i64 t323)).setCell ⟨gb329, 1, none⟩ (.int .i64 t324)).setCell ⟨gb329, 2, none⟩ (.slice Ao51 t325.length co51)) w.heap.size (fun k_ => some k_ ≠ (.slice Ao32 t305.length co32 : Value).ownBlock ∧ some k_ ≠ (.slice Ao39 t312.length co39 : Value).ownBlock ∧ some k_ ≠ (.slice Ao51 t325.length co51 : Value).ownBlock ∧ k_ ≠ gb289 ∧ k_ ≠ gb295 ∧ k_ ≠ gb309 ∧ k_ ≠ gb316 ∧ k_ ≠ gb329) (.slice Ao26 t300.length co26) t300) := ⟨by (with_reducible repeat (first | apply Kd.V_alloc | apply Kd.V_drewN | apply Kd.V_drew)); exact Kd.V_mono (Kd.V_far (p := ⟨gb329, 2, none⟩) (Kd.V_far (p := ⟨gb329, 1, none⟩) (Kd.V_far (p := ⟨gb329, 0, none⟩) (Kd.V_mono HO302.out (fun k_ hk => (⟨hk, hk.2⟩ : _ ∧ k_ ≠ gb329))) (fun _ hk => hk.2) (.int .i64 t323)) (fun _ hk => hk.2) (.int .i64 t324)) (fun _ hk => hk.2) (.slice Ao51 t325.length co51)) (fun _ hk => ⟨hk.1.1.1.1, ⟨hk.1.1.1.2.1, ⟨hk.1.1.2, ⟨hk.1.1.1.2.2.1, ⟨hk.1.1.1.2.2.2.1, ⟨hk.1.1.1.2.2.2.2.1, ⟨hk.1.1.1.2.2.2.2.2, hk.1.2⟩⟩⟩⟩⟩⟩⟩)⟩
 have n2_ : Aside0 (Kd.R (Kd.int .u64) 41 (((w45.setCell ⟨gb329, 0, none⟩ (.int .i64 t323)).setCell ⟨gb329, 1, none⟩ (.int .i64 t324)).setCell ⟨gb329, 2, none⟩ (.slice Ao51 t325.length co51)) w.heap.size (fun k_ => some k_ ≠ (.slice Ao22 t292.length co22 : Value).ownBlock ∧ some k_ ≠ (.slice Ao39 t312.length co39 : Value).ownBlock ∧ some k_ ≠ (.slice Ao51 t325.length co51 : Value).ownBlock) (.slice Ao32 t305.length co32) t305) := ⟨rf_ HO307.out BK329.out (by decide) (fun _ hk => ⟨hk.1.1.1, ⟨hk.1.1.2, hk.1.2⟩⟩)⟩
 have n3_ : Aside0 (Kd.R (Kd.int .u64) 41 (((w45.setCell ⟨gb329, 0, none⟩ (.int .i64 t323)).setCell ⟨gb329, 1, none⟩ (.int .i64 t324)).setCell ⟨gb329, 2, none⟩ (.slice Ao51 t325.length co51)) w.heap.size (fun k_ => some k_ ≠ (.slice Ao22 t292.length co22 : Value).ownBlock ∧ some k_ ≠ (.slice Ao32 t305.length co32 : Value).ownBlock ∧ some k_ ≠ (.slice Ao51 t325.length co51 : Value).ownBlock) (.slice Ao39 t312.length co39) t312) := ⟨rf_ HO314.out BK329.out (by decide) (fun _ hk => ⟨hk.1.1.1, ⟨hk.1.1.2, hk.1.2⟩⟩)⟩
 have n4_ : Aside0 (Kd.V (Kd.int .u64) 41 (((w45.setCell ⟨gb329, 0, none⟩ (.int .i64 t323)).setCell ⟨gb329, 1, none⟩ (.int .i64 t324)).setCell ⟨gb329, 2, none⟩ (.slice Ao51 t325.length co51)) w.heap.size (fun k_ => some k_ ≠ (.slice Ao32 t305.length co32 : Value).ownBlock ∧ some k_ ≠ (.slice Ao39 t312.length co39 : Value).ownBlock ∧ some k_ ≠ (.slice Ao51 t325.length co51 : Value).ownBlock ∧ k_ ≠ gb289 ∧ k_ ≠ gb295 ∧ k_ ≠ gb309 ∧ k_ ≠ gb316 ∧ k_ ≠ gb329) (.slice Ao43 t319.length co43) t319) := ⟨by (with_reducible repeat (first | apply Kd.V_alloc | apply Kd.V_drewN | apply Kd.V_drew)); exact Kd.V_mono (Kd.V_far (p := ⟨gb329, 2, none⟩) (Kd.V_far (p := ⟨gb329, 1, none⟩) (Kd.V_far (p := ⟨gb329, 0, none⟩) (Kd.V_mono HO321.out (fun k_ hk => (⟨hk, hk.2⟩ : _ ∧ k_ ≠ gb329))) (fun _ hk => hk.2) (.int .i64 t323)) (fun _ hk => hk.2) (.int .i64 t324)) (fun _ hk => hk.2) (.slice Ao51 t325.length co51)) (fun _ hk => ⟨hk.1.1.1.1, ⟨hk.1.1.1.2.1, ⟨hk.1.1.2, ⟨hk.1.1.1.2.2.1, ⟨hk.1.1.1.2.2.2.1, ⟨hk.1.1.1.2.2.2.2.1, ⟨hk.1.1.1.2.2.2.2.2, hk.1.2⟩⟩⟩⟩⟩⟩⟩)⟩
 have n5_ : Aside0 (Kd.R (Kd.int .u64) 41 (((w45.setCell ⟨gb329, 0, none⟩ (.int .i64 t323)).setCell ⟨gb329, 1, none⟩ (.int .i64 t324)).setCell ⟨gb329, 2, none⟩ (.slice Ao51 t325.length co51)) w.heap.size (fun k_ => some k_ ≠ (.slice Ao22 t292.length co22 : Value).ownBlock ∧ some k_ ≠ (.slice Ao32 t305.length co32 : Value).ownBlock ∧ some k_ ≠ (.slice Ao39 t312.length co39 : Value).ownBlock) (.slice Ao51 t325.length co51) t325) := ⟨rf_ HO327.out BK329.out (by decide) (fun _ hk => ⟨hk.1.1.1.2, ⟨hk.1.1.2, hk.1.2⟩⟩)⟩
 have n6_ : Aside0 ((((w45.setCell ⟨gb329, 0, none⟩ (.int .i64 t323)).setCell ⟨gb329, 1, none⟩ (.int .i64 t324)).setCell ⟨gb329, 2, none⟩ (.slice Ao51 t325.length co51)).heap[gb289]? = some (.cells #[.int .i64 a0_0, .int .i64 a0_1, .slice A0_2 l0_2.length c0_2] 24 (0, 0))) := ⟨hf_ BK289.out NB289_329.out⟩
 have n7_ : Aside0 ((((w45.setCell ⟨gb329, 0, none⟩ (.int .i64 t323)).setCell ⟨gb329, 1, none⟩ (.int .i64 t324)).setCell ⟨gb329, 2, none⟩ (.slice Ao51 t325.length co51)).heap[gb295]? = some (.cells #[.int .i64 t290, .int .i64 t291, .slice Ao22 t292.length co22] 24 (0, 0))) := ⟨hf_ BK295.out NB295_329.out⟩
 have n8_ : Aside0 ((((w45.setCell ⟨gb329, 0, none⟩ (.int .i64 t323)).setCell ⟨gb329, 1, none⟩ (.int .i64 t324)).setCell ⟨gb329, 2, none⟩ (.slice Ao51 t325.length co51)).heap[gb309]? = some (.cells #[.int .i64 t303, .int .i64 t304, .slice Ao32 t305.length co32] 26 (0, 0))) := ⟨hf_ BK309.out NB309_329.out⟩
 have n9_ : Aside0 ((((w45.setCell ⟨gb329, 0, none⟩ (.int .i64 t323)).setCell ⟨gb329, 1, none⟩ (.int .i64 t324)).setCell ⟨gb329, 2, none⟩ (.slice Ao51 t325.length co51)).heap[gb316]? = some (.cells #[.int .i64 t310, .int .i64 t311, .slice Ao39 t312.length co39] 26 (0, 0))) := ⟨hf_ BK316.out NB316_329.out⟩
 have n10_ : Aside0 ((((w45.setCell ⟨gb329, 0, none⟩ (.int .i64 t323)).setCell ⟨gb329, 1, none⟩ (.int .i64 t324)).setCell ⟨gb329, 2, none⟩ (.slice Ao51 t325.length co51)).heap[gb329]? = some (.cells #[.int .i64 t323, .int .i64 t324, .slice Ao51 t325.length co51] 26 (0, 0))) := ⟨by (with_reducible repeat (first | refine blk_drewN ?_ _ | refine blk_drew ?_ | refine blk_alloc ?_ _)); refine blk_put (cs := #[.int .i64 t323, .int .i64 t324, .slice none 0 0]) ?_ 2 _ rfl; (with_reducible repeat (first | refine blk_drewN ?_ _ | refine blk_drew ?_ | refine blk_alloc ?_ _)); refine blk_put (cs := #[.int .i64 t323, .int .i64 0, .slice none 0 0]) ?_ 1 _ rfl; (with_reducible repeat (first | refine blk_drewN ?_ _ | refine blk_drew ?_ | refine blk_alloc ?_ _)); refine blk_put (cs := #[.int .i64 0, .int .i64 0, .slice none 0 0]) ?_ 0 _ rfl; (with_reducible repeat (first | refine blk_drewN ?_ _ | refine blk_drew ?_ | refine blk_alloc ?_ _)); exact BK329.out⟩
 have n11_ : Aside0 (Below w.heap.size w (((w45.setCell ⟨gb329, 0, none⟩ (.int .i64 t323)).setCell ⟨gb329, 1, none⟩ (.int .i64 t324)).setCell ⟨gb329, 2, none⟩ (.slice Ao51 t325.length co51))) := ⟨bp_⟩
 (try clear HO294)
 (try clear HO302)
 (try clear HO307)
 (try clear HO314)
 (try clear HO321)
 (try clear HO327)
 (try clear BK289)
 (try clear BK295)
 (try clear BK309)
 (try clear BK316)
 (try clear BK329)
 (try clear HB)
 generalize (((w45.setCell ⟨gb329, 0, none⟩ (.int .i64 t323)).setCell ⟨gb329, 1, none⟩ (.int .i64 t324)).setCell ⟨gb329, 2, none⟩ (.slice Ao51 t325.length co51)) = w52 at n0_ n1_ n2_ n3_ n4_ n5_ n6_ n7_ n8_ n9_ n10_ n11_ ⊢
 have HO294 := n0_
 have HO302 := n1_
 have HO307 := n2_
 have HO314 := n3_
 have HO321 := n4_
 have HO327 := n5_
 have BK289 := n6_
 have BK295 := n7_
 have BK309 := n8_
 have BK316 := n9_
 have BK329 := n10_
 have HB := n11_
 clear n0_ n1_ n2_ n3_ n4_ n5_ n6_ n7_ n8_ n9_ n10_ n11_
 replace HO294 := Aside0.mk (Kd.R_drew HO294.out)
 replace HO302 := Aside0.mk (Kd.V_drew HO302.out)
 replace HO307 := Aside0.mk (Kd.R_drew HO307.out)
 replace HO314 := Aside0.mk (Kd.R_drew HO314.out)
 replace HO321 := Aside0.mk (Kd.V_drew HO321.out)
 replace HO327 := Aside0.mk (Kd.R_drew HO327.out)
 replace BK289 := Aside0.mk (blk_drew BK289.out)
 replace BK295 := Aside0.mk (blk_drew BK295.out)
 replace BK309 := Aside0.mk (blk_drew BK309.out)
 replace BK316 := Aside0.mk (blk_drew BK316.out)
 replace BK329 := Aside0.mk (blk_drew BK329.out)
 replace HB := Aside0.mk (below_drew1 HB.out)
 refine start_ (n := 10) (S := fun w' => w'.cell? ⟨gb309, 0, none⟩ = some (.int .i64 t303) ∧ w'.cell? ⟨gb309, 1, none⟩ = some (.int .i64 t304) ∧ w'.cell? ⟨gb309, 2, none⟩ = some (.slice Ao32 t305.length co32)) (ds := []) #[false, false, false, false, false, false, false, false, false, false] (by kernel_rfl) rfl rfl ⟨(blk_cell BK309.out 0).trans rfl, (blk_cell BK309.out 1).trans rfl, (blk_cell BK309.out 2).trans rfl⟩ (fun hHeld => ?_); refine with_tabW chequerlaw04_TurnThen.tab7 chequerlaw04_TurnThen.bits7 (fun HT_ HW_ => ?_)
 generalize w52.drew = w53 at HO294 HO302 HO307 HO314 HO321 HO327 BK289 BK295 BK309 BK316 BK329 HB hHeld ⊢
 refine pur_ (i := 1) (N := some 48) #[false, true, false, false, false, false, false, false, false, false] (any_of HT_.out (by kernel_rfl)) ?_
 refine take_ (i := 0) (N := some 47) (v := ?_) (a' := ?_) #[true, true, false, false, false, false, false, false, false, false] rfl rfl (take_ofW HT_.out HW_.out (by kernel_rfl)) (fun _ _ _ h => h) (Or.inl ⟨by rfl, ?_⟩) hHeld ?_ ?_
 rotate_left
 · rintro w' ⟨s0, s1, s2⟩
   go_simp
   with_reducible rfl
 rotate_left
 · simp only [Act.put, List.setIfInBounds_toArray, List.set_cons_zero, List.set_cons_succ, i64_w, i32_w]
   rfl
 refine join_ (σ := Value × Nat) 2 Fl73 (fun s_ => [(49, .int .i64 t330), (50, .tuple #[.agg #[.int .i64 t331, .int .i64 t332, s_.1], .int .i64 t336]), (16, .pointer (some ⟨s_.2, 0, none⟩)), (46, .tuple #[.agg #[.int .i64 t331, .int .i64 t332, s_.1], .int .i64 t336]), (51, .agg #[.int .i64 t331, .int .i64 t332, s_.1]), (52, .int .i64 t336)]) (fun s_ w' => (w'.cell? ⟨gb309, 0, none⟩ = some (.int .i64 t303) ∧ w'.cell? ⟨gb309, 1, none⟩ = some (.int .i64 t304) ∧ w'.cell? ⟨gb309, 2, none⟩ = some (.slice Ao32 t305.length co32)) ∧ (Kd.R (Kd.int .u64) 41 w' w.heap.size (fun k_ => some k_ ≠ (.slice Ao32 t305.length co32 : Value).ownBlock ∧ some k_ ≠ (.slice Ao39 t312.length co39 : Value).ownBlock ∧ some k_ ≠ (.slice Ao51 t325.length co51 : Value).ownBlock ∧ some k_ ≠ (s_.1 : Value).ownBlock) (.slice Ao22 t292.length co22) t292) ∧ (Kd.V (Kd.int .u64) 41 w' w.heap.size (fun k_ => some k_ ≠ (.slice Ao32 t305.length co32 : Value).ownBlock ∧ some k_ ≠ (.slice Ao39 t312.length co39 : Value).ownBlock ∧ some k_ ≠ (.slice Ao51 t325.length co51 : Value).ownBlock ∧ some k_ ≠ (s_.1 : Value).ownBlock ∧ k_ ≠ gb289 ∧ k_ ≠ gb295 ∧ k_ ≠ gb309 ∧ k_ ≠ gb316 ∧ k_ ≠ gb329 ∧ k_ ≠ s_.2) (.slice Ao26 t300.length co26) t300) ∧ (Kd.R (Kd.int .u64) 41 w' w.heap.size (fun k_ => some k_ ≠ (.slice Ao22 t292.length co22 : Value).ownBlock ∧ some k_ ≠ (.slice Ao39 t312.length co39 : Value).ownBlock ∧ some k_ ≠ (.slice Ao51 t325.length co51 : Value).ownBlock ∧ some k_ ≠ (s_.1 : Value).ownBlock) (.slice Ao32 t305.length co32) t305) ∧ (Kd.R (Kd.int .u64) 41 w' w.heap.size (fun k_ => some k_ ≠ (.slice Ao22 t292.length co22 : Value).ownBlock ∧ some k_ ≠ (.slice Ao32 t305.length co32 : Value).ownBlock ∧ some k_ ≠ (.slice Ao51 t325.length co51 : Value).ownBlock ∧ some k_ ≠ (s_.1 : Value).ownBlock) (.slice Ao39 t312.length co39) t312) ∧ (Kd.V (Kd.int .u64) 41 w' w.heap.size (fun k_ => some k_ ≠ (.slice Ao32 t305.length co32 : Value).ownBlock ∧ some k_ ≠ (.slice Ao39 t312.length co39 : Value).ownBlock ∧ some k_ ≠ (.slice Ao51 t325.length co51 : Value).ownBlock ∧ some k_ ≠ (s_.1 : Value).ownBlock ∧ k_ ≠ gb289 ∧ k_ ≠ gb295 ∧ k_ ≠ gb309 ∧ k_ ≠ gb316 ∧ k_ ≠ gb329 ∧ k_ ≠ s_.2) (.slice Ao43 t319.length co43) t319) ∧ (Kd.R (Kd.int .u64) 41 w' w.heap.size (fun k_ => some k_ ≠ (.slice Ao22 t292.length co22 : Value).ownBlock ∧ some k_ ≠ (.slice Ao32 t305.length co32 : Value).ownBlock ∧ some k_ ≠ (.slice Ao39 t312.length co39 : Value).ownBlock ∧ some k_ ≠ (s_.1 : Value).ownBlock) (.slice Ao51 t325.length co51) t325) ∧ (Kd.R (Kd.int .u64) 41 w' w.heap.size (fun k_ => some k_ ≠ (.slice Ao22 t292.length co22 : Value).ownBlock ∧ some k_ ≠ (.slice Ao32 t305.length co32 : Value).ownBlock ∧ some k_ ≠ (.slice Ao39 t312.length co39 : Value).ownBlock ∧ some k_ ≠ (.slice Ao51 t325.length co51 : Value).ownBlock) s_.1 t333) ∧ (w'.heap[gb289]? = some (.cells #[.int .i64 a0_0, .int .i64 a0_1, .slice A0_2 l0_2.length c0_2] 24 (0, 0))) ∧ (w'.heap[gb295]? = some (.cells #[.int .i64 t290, .int .i64 t291, .slice Ao22 t292.length co22] 24 (0, 0))) ∧ (w'.heap[gb309]? = some (.cells #[.int .i64 t303, .int .i64 t304, .slice Ao32 t305.length co32] 26 (0, 0))) ∧ (w'.heap[gb316]? = some (.cells #[.int .i64 t310, .int .i64 t311, .slice Ao39 t312.length co39] 26 (0, 0))) ∧ (w'.heap[gb329]? = some (.cells #[.int .i64 t323, .int .i64 t324, .slice Ao51 t325.length co51] 26 (0, 0))) ∧ (w'.heap[s_.2]? = some (.cells #[.int .i64 0, .int .i64 0, .slice none 0 0] 26 (0, 0))) ∧ (w.heap.size ≤ s_.2) ∧ (w.heap.size ≤ s_.2) ∧ (gb289 ≠ s_.2) ∧ (s_.2 ≠ gb289) ∧ (gb295 ≠ s_.2) ∧ (s_.2 ≠ gb295) ∧ (gb309 ≠ s_.2) ∧ (s_.2 ≠ gb309) ∧ (gb316 ≠ s_.2) ∧ (s_.2 ≠ gb316) ∧ (gb329 ≠ s_.2) ∧ (s_.2 ≠ gb329) ∧ (Below w.heap.size w w')) ?_ ?_
 rotate_left
 · intro hCont
   refine two_ (i := 2) (j := 7) (Ni := some 49) (Nj := some 16) #[true, true, true, false, false, false, false, false, false, false] #[true, true, false, false, false, false, false, true, false, false] rfl rfl rfl rfl (two_of HT_.out (by kernel_rfl)) (by decide) (by decide) (fun K hK => ?_) (fun K hK => ?_)
   · skip
     refine goes_ Try.func25 (by kernel_rfl) rfl #[.int .i64 t296] (by rfl) rfl rfl (by (try simp only [List.map_toArray, List.map_cons, List.map_nil]); first | done | rfl | (simp only [List.length_drop, List.length_take]; rfl)) ?_
     with_reducible refine (turn_Back.calls k t296 t330 _ A13.out).mono ?_
     rintro e w' ⟨rfl, ⟨nd, rfl⟩⟩
     refine ⟨_, rfl, ?_⟩
     refine hK.out _ _ ⟨(blk_cell BK309.out 0).trans rfl, (blk_cell BK309.out 1).trans rfl, (blk_cell BK309.out 2).trans rfl⟩ (fun hHeld => ?_)
     clear hK K
     refine norm_ (a' := ?_) ?_ ?_
     rotate_left
     · show Act.put _ (some 49) _ = _
       simp only [Act.put, List.setIfInBounds_toArray, List.set_cons_zero, List.set_cons_succ, i64_w, i32_w]
       rfl
     refine two_ (i := 3) (j := 7) (Ni := some 50) (Nj := some 16) #[true, true, true, true, false, false, false, false, false, false] Fl88 rfl rfl rfl rfl (two_of HT_.out (by kernel_rfl)) (by decide) (by decide) (fun K hK => ?_) (fun K hK => ?_)
     · skip
       refine goes_ Try.func12 (by kernel_rfl) rfl #[.agg #[.int .i64 t303, .int .i64 t304, .slice Ao32 t305.length co32], .int .i64 t330] (by rfl) rfl rfl (by (try simp only [List.map_toArray, List.map_cons, List.map_nil]); first | done | rfl | (simp only [List.length_drop, List.length_take]; rfl)) ?_
       with_reducible refine (turn_Lay.calls k t303 t304 _ _ t305 t330 t331 t332 t333 t336 _ ?side1 ?side2 A14.out).mono ?_
       (case side1 => exact cp_ (Kd.R_reads' HO307.out).2.2)
       (case side2 => exact (Kd.R_reads' HO307.out).2.1)
       rintro e w54 ⟨v334, rfl, ho0, hb⟩
       refine ⟨_, rfl, ?_⟩
       replace HO302 := Aside0.mk (Kd.V_elder' (vp_ HO302.out) (Kd.R_base ho0) hb)
       replace HO321 := Aside0.mk (Kd.V_elder' (vp_ HO321.out) (Kd.R_base ho0) hb)
       have HO335 := Aside0.mk (Kd.R_lower (Kd.R_new' (Kd.R_new' (Kd.R_new' (Kd.R_new' ho0 (Kd.R_lt (rp_ HO294.out))) (Kd.R_lt (rp_ HO307.out))) (Kd.R_lt (rp_ HO314.out))) (Kd.R_lt (rp_ HO327.out))) (below_size bp_))
       replace HO294 := Aside0.mk (Kd.R_elder' (rp_ HO294.out) (Kd.R_base ho0) hb)
       replace HO307 := Aside0.mk (Kd.R_elder' (rp_ HO307.out) (Kd.R_base ho0) hb)
       replace HO314 := Aside0.mk (Kd.R_elder' (rp_ HO314.out) (Kd.R_base ho0) hb)
       replace HO327 := Aside0.mk (Kd.R_elder' (rp_ HO327.out) (Kd.R_base ho0) hb)
       replace BK289 := Aside0.mk (blk_below (hp_ BK289.out) hb)
       replace BK295 := Aside0.mk (blk_below (hp_ BK295.out) hb)
       replace BK309 := Aside0.mk (blk_below (hp_ BK309.out) hb)
       replace BK316 := Aside0.mk (blk_below (hp_ BK316.out) hb)
       replace BK329 := Aside0.mk (blk_below (hp_ BK329.out) hb)
       replace HB := Aside0.mk (below_step bp_ hb)
       (try clear hb)
       (try clear hb2)
       (try clear hk)
       (try clear hi)
       (try clear ho0)
       refine hK.out _ _ ⟨(blk_cell BK309.out 0).trans rfl, (blk_cell BK309.out 1).trans rfl, (blk_cell BK309.out 2).trans rfl⟩ (fun hHeld => ?_)
       clear hK K
       refine norm_ (a' := ?_) ?_ ?_
       rotate_left
       · show Act.put _ (some 50) _ = _
         simp only [Act.put, List.setIfInBounds_toArray, List.set_cons_zero, List.set_cons_succ, i64_w, i32_w]
         rfl
       refine pur_ (i := 4) (N := some 46) #[true, true, true, true, true, false, false, false, false, false] (any_of HT_.out (by kernel_rfl)) ?_
       refine pur_ (i := 5) (N := some 51) #[true, true, true, true, true, true, false, false, false, false] (any_of HT_.out (by kernel_rfl)) ?_
       refine pur_ (i := 6) (N := some 52) #[true, true, true, true, true, true, true, false, false, false] (any_of HT_.out (by kernel_rfl)) ?_
       refine one_ (i := 7) (N := some 16) Fl73 rfl rfl (one_of HT_.out (by kernel_rfl)) (by decide) (fun K hK => ?_)
       refine box_step ?hg (N := 16) ?hd (cs := #[.int .i64 0, .int .i64 0, .slice none 0 0]) (t := 26) ?hr ?_; (case hd => rfl); (case hg => rfl); (case hr => first | (go_simp; done) | (go_simp; rfl))
       intro gb337 hg w55 hbox hb
       replace HO294 := Aside0.mk (Kd.R_below (rp_ HO294.out) hb)
       replace HO302 := Aside0.mk (Kd.V_below (Kd.V_elderB (vp_ HO302.out) gb337 (Nat.le_of_eq hg.symm)) hb)
       replace HO307 := Aside0.mk (Kd.R_below (rp_ HO307.out) hb)
       replace HO314 := Aside0.mk (Kd.R_below (rp_ HO314.out) hb)
       replace HO321 := Aside0.mk (Kd.V_below (Kd.V_elderB (vp_ HO321.out) gb337 (Nat.le_of_eq hg.symm)) hb)
       replace HO327 := Aside0.mk (Kd.R_below (rp_ HO327.out) hb)
       replace HO335 := Aside0.mk (Kd.R_below (rp_ HO335.out) hb)
       have BK337 := Aside0.mk (hbox)
       have GW337 := Aside0.mk ((by rw [hg]; exact (below_size bp_) : w.heap.size ≤ gb337))
       have GE337 := Aside0.mk ((by rw [hg]; exact (below_size bp_) : w.heap.size ≤ gb337))
       replace HB := Aside0.mk (below_step bp_ hb)
       have NB289_337 := Aside0.mk ((nlt_ hg (hp_ BK289.out)))
       have NB337_289 := Aside0.mk ((ngt_ hg (hp_ BK289.out)))
       replace BK289 := Aside0.mk (blk_below (hp_ BK289.out) hb)
       have NB295_337 := Aside0.mk ((nlt_ hg (hp_ BK295.out)))
       have NB337_295 := Aside0.mk ((ngt_ hg (hp_ BK295.out)))
       replace BK295 := Aside0.mk (blk_below (hp_ BK295.out) hb)
       have NB309_337 := Aside0.mk ((nlt_ hg (hp_ BK309.out)))
       have NB337_309 := Aside0.mk ((ngt_ hg (hp_ BK309.out)))
       replace BK309 := Aside0.mk (blk_below (hp_ BK309.out) hb)
       have NB316_337 := Aside0.mk ((nlt_ hg (hp_ BK316.out)))
       have NB337_316 := Aside0.mk ((ngt_ hg (hp_ BK316.out)))
       replace BK316 := Aside0.mk (blk_below (hp_ BK316.out) hb)
       have NB329_337 := Aside0.mk ((nlt_ hg (hp_ BK329.out)))
       have NB337_329 := Aside0.mk ((ngt_ hg (hp_ BK329.out)))
       replace BK329 := Aside0.mk (blk_below (hp_ BK329.out) hb)
       clear hb hbox hg
       refine hK.out _ _ ⟨(blk_cell BK309.out 0).trans rfl, (blk_cell BK309.out 1).trans rfl, (blk_cell BK309.out 2).trans rfl⟩ (fun hHeld => ?_)
       clear hK K
       refine norm_ (a' := ?_) ?_ ?_
       rotate_left
       · show Act.put _ (some 16) _ = _
         simp only [Act.put, List.setIfInBounds_toArray, List.set_cons_zero, List.set_cons_succ, i64_w, i32_w]
         rfl
       exact norm_ (by simp only [putAll, Act.put, List.setIfInBounds_toArray, List.set_cons_zero, List.set_cons_succ]) (hCont (v334, gb337) _ ⟨hHeld, (by (with_reducible repeat (first | apply Kd.R_alloc | apply Kd.R_drewN | apply Kd.R_drew)); exact Kd.R_mono HO294.out (fun _ hk => ⟨hk.1.1, ⟨hk.1.2.1, ⟨hk.1.2.2, hk.2⟩⟩⟩)), (by (with_reducible repeat (first | apply Kd.V_alloc | apply Kd.V_drewN | apply Kd.V_drew)); exact Kd.V_mono HO302.out (fun _ hk => ⟨hk.1.1.1, ⟨hk.1.1.2.1, ⟨hk.1.1.2.2.1, ⟨hk.1.2, ⟨hk.1.1.2.2.2.1, ⟨hk.1.1.2.2.2.2.1, ⟨hk.1.1.2.2.2.2.2.1, ⟨hk.1.1.2.2.2.2.2.2.1, ⟨hk.1.1.2.2.2.2.2.2.2, hk.2⟩⟩⟩⟩⟩⟩⟩⟩⟩)), (by (with_reducible repeat (first | apply Kd.R_alloc | apply Kd.R_drewN | apply Kd.R_drew)); exact Kd.R_mono HO307.out (fun _ hk => ⟨hk.1.1, ⟨hk.1.2.1, ⟨hk.1.2.2, hk.2⟩⟩⟩)), (by (with_reducible repeat (first | apply Kd.R_alloc | apply Kd.R_drewN | apply Kd.R_drew)); exact Kd.R_mono HO314.out (fun _ hk => ⟨hk.1.1, ⟨hk.1.2.1, ⟨hk.1.2.2, hk.2⟩⟩⟩)), (by (with_reducible repeat (first | apply Kd.V_alloc | apply Kd.V_drewN | apply Kd.V_drew)); exact Kd.V_mono HO321.out (fun _ hk => ⟨hk.1.1.1, ⟨hk.1.1.2.1, ⟨hk.1.1.2.2.1, ⟨hk.1.2, ⟨hk.1.1.2.2.2.1, ⟨hk.1.1.2.2.2.2.1, ⟨hk.1.1.2.2.2.2.2.1, ⟨hk.1.1.2.2.2.2.2.2.1, ⟨hk.1.1.2.2.2.2.2.2.2, hk.2⟩⟩⟩⟩⟩⟩⟩⟩⟩)), (by (with_reducible repeat (first | apply Kd.R_alloc | apply Kd.R_drewN | apply Kd.R_drew)); exact Kd.R_mono HO327.out (fun _ hk => ⟨hk.1.1, ⟨hk.1.2.1, ⟨hk.1.2.2, hk.2⟩⟩⟩)), (by (with_reducible repeat (first | apply Kd.R_alloc | apply Kd.R_drewN | apply Kd.R_drew)); exact Kd.R_mono HO335.out (fun _ hk => ⟨hk.1.1.1.2, ⟨hk.1.1.2, ⟨hk.1.2, hk.2⟩⟩⟩)), (hp_ BK289.out), (hp_ BK295.out), (hp_ BK309.out), (hp_ BK316.out), (hp_ BK329.out), (hp_ BK337.out), GW337.out, GE337.out, NB289_337.out, NB337_289.out, NB295_337.out, NB337_295.out, NB309_337.out, NB337_309.out, NB316_337.out, NB337_316.out, NB329_337.out, NB337_329.out, bp_⟩)
     · skip
       refine box_step ?hg (N := 16) ?hd (cs := #[.int .i64 0, .int .i64 0, .slice none 0 0]) (t := 26) ?hr ?_; (case hd => rfl); (case hg => rfl); (case hr => first | (go_simp; done) | (go_simp; rfl))
       intro gb337 hg w54 hbox hb
       replace HO294 := Aside0.mk (Kd.R_below (rp_ HO294.out) hb)
       replace HO302 := Aside0.mk (Kd.V_below (Kd.V_elderB (vp_ HO302.out) gb337 (Nat.le_of_eq hg.symm)) hb)
       replace HO307 := Aside0.mk (Kd.R_below (rp_ HO307.out) hb)
       replace HO314 := Aside0.mk (Kd.R_below (rp_ HO314.out) hb)
       replace HO321 := Aside0.mk (Kd.V_below (Kd.V_elderB (vp_ HO321.out) gb337 (Nat.le_of_eq hg.symm)) hb)
       replace HO327 := Aside0.mk (Kd.R_below (rp_ HO327.out) hb)
       have BK337 := Aside0.mk (hbox)
       have GW337 := Aside0.mk ((by rw [hg]; exact (below_size bp_) : w.heap.size ≤ gb337))
       have GE337 := Aside0.mk ((by rw [hg]; exact (below_size bp_) : w.heap.size ≤ gb337))
       replace HB := Aside0.mk (below_step bp_ hb)
       have NB289_337 := Aside0.mk ((nlt_ hg (hp_ BK289.out)))
       have NB337_289 := Aside0.mk ((ngt_ hg (hp_ BK289.out)))
       replace BK289 := Aside0.mk (blk_below (hp_ BK289.out) hb)
       have NB295_337 := Aside0.mk ((nlt_ hg (hp_ BK295.out)))
       have NB337_295 := Aside0.mk ((ngt_ hg (hp_ BK295.out)))
       replace BK295 := Aside0.mk (blk_below (hp_ BK295.out) hb)
       have NB309_337 := Aside0.mk ((nlt_ hg (hp_ BK309.out)))
       have NB337_309 := Aside0.mk ((ngt_ hg (hp_ BK309.out)))
       replace BK309 := Aside0.mk (blk_below (hp_ BK309.out) hb)
       have NB316_337 := Aside0.mk ((nlt_ hg (hp_ BK316.out)))
       have NB337_316 := Aside0.mk ((ngt_ hg (hp_ BK316.out)))
       replace BK316 := Aside0.mk (blk_below (hp_ BK316.out) hb)
       have NB329_337 := Aside0.mk ((nlt_ hg (hp_ BK329.out)))
       have NB337_329 := Aside0.mk ((ngt_ hg (hp_ BK329.out)))
       replace BK329 := Aside0.mk (blk_below (hp_ BK329.out) hb)
       clear hb hbox hg
       refine hK.out _ _ ⟨(blk_cell BK309.out 0).trans rfl, (blk_cell BK309.out 1).trans rfl, (blk_cell BK309.out 2).trans rfl⟩ (fun hHeld => ?_)
       clear hK K
       refine norm_ (a' := ?_) ?_ ?_
       rotate_left
       · show Act.put _ (some 16) _ = _
         simp only [Act.put, List.setIfInBounds_toArray, List.set_cons_zero, List.set_cons_succ, i64_w, i32_w]
         rfl
       refine one_ (i := 3) (N := some 50) Fl89 rfl rfl (one_of HT_.out (by kernel_rfl)) (by decide) (fun K hK => ?_)
       refine goes_ Try.func12 (by kernel_rfl) rfl #[.agg #[.int .i64 t303, .int .i64 t304, .slice Ao32 t305.length co32], .int .i64 t330] (by rfl) rfl rfl (by (try simp only [List.map_toArray, List.map_cons, List.map_nil]); first | done | rfl | (simp only [List.length_drop, List.length_take]; rfl)) ?_
       with_reducible refine (turn_Lay.calls k t303 t304 _ _ t305 t330 t331 t332 t333 t336 _ ?side1 ?side2 A14.out).mono ?_
       (case side1 => exact cp_ (Kd.R_reads' HO307.out).2.2)
       (case side2 => exact (Kd.R_reads' HO307.out).2.1)
       rintro e w55 ⟨v334, rfl, ho0, hb⟩
       refine ⟨_, rfl, ?_⟩
       replace HO302 := Aside0.mk (Kd.V_elder' (vp_ HO302.out) (Kd.R_base ho0) hb)
       replace HO321 := Aside0.mk (Kd.V_elder' (vp_ HO321.out) (Kd.R_base ho0) hb)
       have HO335 := Aside0.mk (Kd.R_lower (Kd.R_new' (Kd.R_new' (Kd.R_new' (Kd.R_new' ho0 (Kd.R_lt (rp_ HO294.out))) (Kd.R_lt (rp_ HO307.out))) (Kd.R_lt (rp_ HO314.out))) (Kd.R_lt (rp_ HO327.out))) (below_size bp_))
       replace HO294 := Aside0.mk (Kd.R_elder' (rp_ HO294.out) (Kd.R_base ho0) hb)
       replace HO307 := Aside0.mk (Kd.R_elder' (rp_ HO307.out) (Kd.R_base ho0) hb)
       replace HO314 := Aside0.mk (Kd.R_elder' (rp_ HO314.out) (Kd.R_base ho0) hb)
       replace HO327 := Aside0.mk (Kd.R_elder' (rp_ HO327.out) (Kd.R_base ho0) hb)
       replace BK289 := Aside0.mk (blk_below (hp_ BK289.out) hb)
       replace BK295 := Aside0.mk (blk_below (hp_ BK295.out) hb)
       replace BK309 := Aside0.mk (blk_below (hp_ BK309.out) hb)
       replace BK316 := Aside0.mk (blk_below (hp_ BK316.out) hb)
       replace BK329 := Aside0.mk (blk_below (hp_ BK329.out) hb)
       replace BK337 := Aside0.mk (blk_below (hp_ BK337.out) hb)
       replace HB := Aside0.mk (below_step bp_ hb)
       (try clear hb)
       (try clear hb2)
       (try clear hk)
       (try clear hi)
       (try clear ho0)
       refine hK.out _ _ ⟨(blk_cell BK309.out 0).trans rfl, (blk_cell BK309.out 1).trans rfl, (blk_cell BK309.out 2).trans rfl⟩ (fun hHeld => ?_)
       clear hK K
       refine norm_ (a' := ?_) ?_ ?_
       rotate_left
       · show Act.put _ (some 50) _ = _
         simp only [Act.put, List.setIfInBounds_toArray, List.set_cons_zero, List.set_cons_succ, i64_w, i32_w]
         rfl
       refine pur_ (i := 4) (N := some 46) Fl90 (any_of HT_.out (by kernel_rfl)) ?_
       refine pur_ (i := 5) (N := some 51) Fl91 (any_of HT_.out (by kernel_rfl)) ?_
       refine pur_ (i := 6) (N := some 52) Fl73 (any_of HT_.out (by kernel_rfl)) ?_
       exact norm_ (by simp only [putAll, Act.put, List.setIfInBounds_toArray, List.set_cons_zero, List.set_cons_succ]) (hCont (v334, gb337) _ ⟨hHeld, (by (with_reducible repeat (first | apply Kd.R_alloc | apply Kd.R_drewN | apply Kd.R_drew)); exact Kd.R_mono HO294.out (fun _ hk => ⟨hk.1.1, ⟨hk.1.2.1, ⟨hk.1.2.2, hk.2⟩⟩⟩)), (by (with_reducible repeat (first | apply Kd.V_alloc | apply Kd.V_drewN | apply Kd.V_drew)); exact Kd.V_mono HO302.out (fun _ hk => ⟨hk.1.1.1, ⟨hk.1.1.2.1, ⟨hk.1.1.2.2.1, ⟨hk.2, ⟨hk.1.1.2.2.2.1, ⟨hk.1.1.2.2.2.2.1, ⟨hk.1.1.2.2.2.2.2.1, ⟨hk.1.1.2.2.2.2.2.2.1, ⟨hk.1.1.2.2.2.2.2.2.2, hk.1.2⟩⟩⟩⟩⟩⟩⟩⟩⟩)), (by (with_reducible repeat (first | apply Kd.R_alloc | apply Kd.R_drewN | apply Kd.R_drew)); exact Kd.R_mono HO307.out (fun _ hk => ⟨hk.1.1, ⟨hk.1.2.1, ⟨hk.1.2.2, hk.2⟩⟩⟩)), (by (with_reducible repeat (first | apply Kd.R_alloc | apply Kd.R_drewN | apply Kd.R_drew)); exact Kd.R_mono HO314.out (fun _ hk => ⟨hk.1.1, ⟨hk.1.2.1, ⟨hk.1.2.2, hk.2⟩⟩⟩)), (by (with_reducible repeat (first | apply Kd.V_alloc | apply Kd.V_drewN | apply Kd.V_drew)); exact Kd.V_mono HO321.out (fun _ hk => ⟨hk.1.1.1, ⟨hk.1.1.2.1, ⟨hk.1.1.2.2.1, ⟨hk.2, ⟨hk.1.1.2.2.2.1, ⟨hk.1.1.2.2.2.2.1, ⟨hk.1.1.2.2.2.2.2.1, ⟨hk.1.1.2.2.2.2.2.2.1, ⟨hk.1.1.2.2.2.2.2.2.2, hk.1.2⟩⟩⟩⟩⟩⟩⟩⟩⟩)), (by (with_reducible repeat (first | apply Kd.R_alloc | apply Kd.R_drewN | apply Kd.R_drew)); exact Kd.R_mono HO327.out (fun _ hk => ⟨hk.1.1, ⟨hk.1.2.1, ⟨hk.1.2.2, hk.2⟩⟩⟩)), (by (with_reducible repeat (first | apply Kd.R_alloc | apply Kd.R_drewN | apply Kd.R_drew)); exact Kd.R_mono HO335.out (fun _ hk => ⟨hk.1.1.1.2, ⟨hk.1.1.2, ⟨hk.1.2, hk.2⟩⟩⟩)), (hp_ BK289.out), (hp_ BK295.out), (hp_ BK309.out), (hp_ BK316.out), (hp_ BK329.out), (hp_ BK337.out), GW337.out, GE337.out, NB289_337.out, NB337_289.out, NB295_337.out, NB337_295.out, NB309_337.out, NB337_309.out, NB316_337.out, NB337_316.out, NB329_337.out, NB337_329.out, bp_⟩)
   · skip
     refine box_step ?hg (N := 16) ?hd (cs := #[.int .i64 0, .int .i64 0, .slice none 0 0]) (t := 26) ?hr ?_; (case hd => rfl); (case hg => rfl); (case hr => first | (go_simp; done) | (go_simp; rfl))
     intro gb337 hg w54 hbox hb
     replace HO294 := Aside0.mk (Kd.R_below (rp_ HO294.out) hb)
     replace HO302 := Aside0.mk (Kd.V_below (Kd.V_elderB (vp_ HO302.out) gb337 (Nat.le_of_eq hg.symm)) hb)
     replace HO307 := Aside0.mk (Kd.R_below (rp_ HO307.out) hb)
     replace HO314 := Aside0.mk (Kd.R_below (rp_ HO314.out) hb)
     replace HO321 := Aside0.mk (Kd.V_below (Kd.V_elderB (vp_ HO321.out) gb337 (Nat.le_of_eq hg.symm)) hb)
     replace HO327 := Aside0.mk (Kd.R_below (rp_ HO327.out) hb)
     have BK337 := Aside0.mk (hbox)
     have GW337 := Aside0.mk ((by rw [hg]; exact (below_size bp_) : w.heap.size ≤ gb337))
     have GE337 := Aside0.mk ((by rw [hg]; exact (below_size bp_) : w.heap.size ≤ gb337))
     replace HB := Aside0.mk (below_step bp_ hb)
     have NB289_337 := Aside0.mk ((nlt_ hg (hp_ BK289.out)))
     have NB337_289 := Aside0.mk ((ngt_ hg (hp_ BK289.out)))
     replace BK289 := Aside0.mk (blk_below (hp_ BK289.out) hb)
     have NB295_337 := Aside0.mk ((nlt_ hg (hp_ BK295.out)))
     have NB337_295 := Aside0.mk ((ngt_ hg (hp_ BK295.out)))
     replace BK295 := Aside0.mk (blk_below (hp_ BK295.out) hb)
     have NB309_337 := Aside0.mk ((nlt_ hg (hp_ BK309.out)))
     have NB337_309 := Aside0.mk ((ngt_ hg (hp_ BK309.out)))
     replace BK309 := Aside0.mk (blk_below (hp_ BK309.out) hb)
     have NB316_337 := Aside0.mk ((nlt_ hg (hp_ BK316.out)))
     have NB337_316 := Aside0.mk ((ngt_ hg (hp_ BK316.out)))
     replace BK316 := Aside0.mk (blk_below (hp_ BK316.out) hb)
     have NB329_337 := Aside0.mk ((nlt_ hg (hp_ BK329.out)))
     have NB337_329 := Aside0.mk ((ngt_ hg (hp_ BK329.out)))
     replace BK329 := Aside0.mk (blk_below (hp_ BK329.out) hb)
     clear hb hbox hg
     refine hK.out _ _ ⟨(blk_cell BK309.out 0).trans rfl, (blk_cell BK309.out 1).trans rfl, (blk_cell BK309.out 2).trans rfl⟩ (fun hHeld => ?_)
     clear hK K
     refine norm_ (a' := ?_) ?_ ?_
     rotate_left
     · show Act.put _ (some 16) _ = _
       simp only [Act.put, List.setIfInBounds_toArray, List.set_cons_zero, List.set_cons_succ, i64_w, i32_w]
       rfl
     refine one_ (i := 2) (N := some 49) Fl88 rfl rfl (one_of HT_.out (by kernel_rfl)) (by decide) (fun K hK => ?_)
     refine goes_ Try.func25 (by kernel_rfl) rfl #[.int .i64 t296] (by rfl) rfl rfl (by (try simp only [List.map_toArray, List.map_cons, List.map_nil]); first | done | rfl | (simp only [List.length_drop, List.length_take]; rfl)) ?_
     with_reducible refine (turn_Back.calls k t296 t330 _ A13.out).mono ?_
     rintro e w' ⟨rfl, ⟨nd, rfl⟩⟩
     refine ⟨_, rfl, ?_⟩
     refine hK.out _ _ ⟨(blk_cell BK309.out 0).trans rfl, (blk_cell BK309.out 1).trans rfl, (blk_cell BK309.out 2).trans rfl⟩ (fun hHeld => ?_)
     clear hK K
     refine norm_ (a' := ?_) ?_ ?_
     rotate_left
     · show Act.put _ (some 49) _ = _
       simp only [Act.put, List.setIfInBounds_toArray, List.set_cons_zero, List.set_cons_succ, i64_w, i32_w]
       rfl
     refine one_ (i := 3) (N := some 50) Fl89 rfl rfl (one_of HT_.out (by kernel_rfl)) (by decide) (fun K hK => ?_)
     refine goes_ Try.func12 (by kernel_rfl) rfl #[.agg #[.int .i64 t303, .int .i64 t304, .slice Ao32 t305.length co32], .int .i64 t330] (by rfl) rfl rfl (by (try simp only [List.map_toArray, List.map_cons, List.map_nil]); first | done | rfl | (simp only [List.length_drop, List.length_take]; rfl)) ?_
     with_reducible refine (turn_Lay.calls k t303 t304 _ _ t305 t330 t331 t332 t333 t336 _ ?side1 ?side2 A14.out).mono ?_
     (case side1 => exact cp_ (Kd.R_reads' HO307.out).2.2)
     (case side2 => exact (Kd.R_reads' HO307.out).2.1)
     rintro e w55 ⟨v334, rfl, ho0, hb⟩
     refine ⟨_, rfl, ?_⟩
     replace HO302 := Aside0.mk (Kd.V_elder' (vp_ HO302.out) (Kd.R_base ho0) hb)
     replace HO321 := Aside0.mk (Kd.V_elder' (vp_ HO321.out) (Kd.R_base ho0) hb)
     have HO335 := Aside0.mk (Kd.R_lower (Kd.R_new' (Kd.R_new' (Kd.R_new' (Kd.R_new' ho0 (Kd.R_lt (rp_ HO294.out))) (Kd.R_lt (rp_ HO307.out))) (Kd.R_lt (rp_ HO314.out))) (Kd.R_lt (rp_ HO327.out))) (below_size bp_))
     replace HO294 := Aside0.mk (Kd.R_elder' (rp_ HO294.out) (Kd.R_base ho0) hb)
     replace HO307 := Aside0.mk (Kd.R_elder' (rp_ HO307.out) (Kd.R_base ho0) hb)
     replace HO314 := Aside0.mk (Kd.R_elder' (rp_ HO314.out) (Kd.R_base ho0) hb)
     replace HO327 := Aside0.mk (Kd.R_elder' (rp_ HO327.out) (Kd.R_base ho0) hb)
     replace BK289 := Aside0.mk (blk_below (hp_ BK289.out) hb)
     replace BK295 := Aside0.mk (blk_below (hp_ BK295.out) hb)
     replace BK309 := Aside0.mk (blk_below (hp_ BK309.out) hb)
     replace BK316 := Aside0.mk (blk_below (hp_ BK316.out) hb)
     replace BK329 := Aside0.mk (blk_below (hp_ BK329.out) hb)
     replace BK337 := Aside0.mk (blk_below (hp_ BK337.out) hb)
     replace HB := Aside0.mk (below_step bp_ hb)
     (try clear hb)
     (try clear hb2)
     (try clear hk)
     (try clear hi)
     (try clear ho0)
     refine hK.out _ _ ⟨(blk_cell BK309.out 0).trans rfl, (blk_cell BK309.out 1).trans rfl, (blk_cell BK309.out 2).trans rfl⟩ (fun hHeld => ?_)
     clear hK K
     refine norm_ (a' := ?_) ?_ ?_
     rotate_left
     · show Act.put _ (some 50) _ = _
       simp only [Act.put, List.setIfInBounds_toArray, List.set_cons_zero, List.set_cons_succ, i64_w, i32_w]
       rfl
     refine pur_ (i := 4) (N := some 46) Fl90 (any_of HT_.out (by kernel_rfl)) ?_
     refine pur_ (i := 5) (N := some 51) Fl91 (any_of HT_.out (by kernel_rfl)) ?_
     refine pur_ (i := 6) (N := some 52) Fl73 (any_of HT_.out (by kernel_rfl)) ?_
     exact norm_ (by simp only [putAll, Act.put, List.setIfInBounds_toArray, List.set_cons_zero, List.set_cons_succ]) (hCont (v334, gb337) _ ⟨hHeld, (by (with_reducible repeat (first | apply Kd.R_alloc | apply Kd.R_drewN | apply Kd.R_drew)); exact Kd.R_mono HO294.out (fun _ hk => ⟨hk.1.1, ⟨hk.1.2.1, ⟨hk.1.2.2, hk.2⟩⟩⟩)), (by (with_reducible repeat (first | apply Kd.V_alloc | apply Kd.V_drewN | apply Kd.V_drew)); exact Kd.V_mono HO302.out (fun _ hk => ⟨hk.1.1.1, ⟨hk.1.1.2.1, ⟨hk.1.1.2.2.1, ⟨hk.2, ⟨hk.1.1.2.2.2.1, ⟨hk.1.1.2.2.2.2.1, ⟨hk.1.1.2.2.2.2.2.1, ⟨hk.1.1.2.2.2.2.2.2.1, ⟨hk.1.1.2.2.2.2.2.2.2, hk.1.2⟩⟩⟩⟩⟩⟩⟩⟩⟩)), (by (with_reducible repeat (first | apply Kd.R_alloc | apply Kd.R_drewN | apply Kd.R_drew)); exact Kd.R_mono HO307.out (fun _ hk => ⟨hk.1.1, ⟨hk.1.2.1, ⟨hk.1.2.2, hk.2⟩⟩⟩)), (by (with_reducible repeat (first | apply Kd.R_alloc | apply Kd.R_drewN | apply Kd.R_drew)); exact Kd.R_mono HO314.out (fun _ hk => ⟨hk.1.1, ⟨hk.1.2.1, ⟨hk.1.2.2, hk.2⟩⟩⟩)), (by (with_reducible repeat (first | apply Kd.V_alloc | apply Kd.V_drewN | apply Kd.V_drew)); exact Kd.V_mono HO321.out (fun _ hk => ⟨hk.1.1.1, ⟨hk.1.1.2.1, ⟨hk.1.1.2.2.1, ⟨hk.2, ⟨hk.1.1.2.2.2.1, ⟨hk.1.1.2.2.2.2.1, ⟨hk.1.1.2.2.2.2.2.1, ⟨hk.1.1.2.2.2.2.2.2.1, ⟨hk.1.1.2.2.2.2.2.2.2, hk.1.2⟩⟩⟩⟩⟩⟩⟩⟩⟩)), (by (with_reducible repeat (first | apply Kd.R_alloc | apply Kd.R_drewN | apply Kd.R_drew)); exact Kd.R_mono HO327.out (fun _ hk => ⟨hk.1.1, ⟨hk.1.2.1, ⟨hk.1.2.2, hk.2⟩⟩⟩)), (by (with_reducible repeat (first | apply Kd.R_alloc | apply Kd.R_drewN | apply Kd.R_drew)); exact Kd.R_mono HO335.out (fun _ hk => ⟨hk.1.1.1.2, ⟨hk.1.1.2, ⟨hk.1.2, hk.2⟩⟩⟩)), (hp_ BK289.out), (hp_ BK295.out), (hp_ BK309.out), (hp_ BK316.out), (hp_ BK329.out), (hp_ BK337.out), GW337.out, GE337.out, NB289_337.out, NB337_289.out, NB295_337.out, NB337_295.out, NB309_337.out, NB337_309.out, NB316_337.out, NB337_316.out, NB329_337.out, NB337_329.out, bp_⟩)
 rintro ⟨v334, gb337⟩ w56 ⟨hS_, h0_, h1_, h2_, h3_, h4_, h5_, h6_, h7_, h8_, h9_, h10_, h11_, h12_, h13_, h14_, h15_, h16_, h17_, h18_, h19_, h20_, h21_, h22_, h23_, h24_, h25_⟩
 replace HO294 : Aside0 (Kd.R (Kd.int .u64) 41 w56 w.heap.size (fun k_ => some k_ ≠ (.slice Ao32 t305.length co32 : Value).ownBlock ∧ some k_ ≠ (.slice Ao39 t312.length co39 : Value).ownBlock ∧ some k_ ≠ (.slice Ao51 t325.length co51 : Value).ownBlock ∧ some k_ ≠ (v334 : Value).ownBlock) (.slice Ao22 t292.length co22) t292) := ⟨h0_⟩
 replace HO302 : Aside0 (Kd.V (Kd.int .u64) 41 w56 w.heap.size (fun k_ => some k_ ≠ (.slice Ao32 t305.length co32 : Value).ownBlock ∧ some k_ ≠ (.slice Ao39 t312.length co39 : Value).ownBlock ∧ some k_ ≠ (.slice Ao51 t325.length co51 : Value).ownBlock ∧ some k_ ≠ (v334 : Value).ownBlock ∧ k_ ≠ gb289 ∧ k_ ≠ gb295 ∧ k_ ≠ gb309 ∧ k_ ≠ gb316 ∧ k_ ≠ gb329 ∧ k_ ≠ gb337) (.slice Ao26 t300.length co26) t300) := ⟨h1_⟩
 replace HO307 : Aside0 (Kd.R (Kd.int .u64) 41 w56 w.heap.size (fun k_ => some k_ ≠ (.slice Ao22 t292.length co22 : Value).ownBlock ∧ some k_ ≠ (.slice Ao39 t312.length co39 : Value).ownBlock ∧ some k_ ≠ (.slice Ao51 t325.length co51 : Value).ownBlock ∧ some k_ ≠ (v334 : Value).ownBlock) (.slice Ao32 t305.length co32) t305) := ⟨h2_⟩
 replace HO314 : Aside0 (Kd.R (Kd.int .u64) 41 w56 w.heap.size (fun k_ => some k_ ≠ (.slice Ao22 t292.length co22 : Value).ownBlock ∧ some k_ ≠ (.slice Ao32 t305.length co32 : Value).ownBlock ∧ some k_ ≠ (.slice Ao51 t325.length co51 : Value).ownBlock ∧ some k_ ≠ (v334 : Value).ownBlock) (.slice Ao39 t312.length co39) t312) := ⟨h3_⟩
 replace HO321 : Aside0 (Kd.V (Kd.int .u64) 41 w56 w.heap.size (fun k_ => some k_ ≠ (.slice Ao32 t305.length co32 : Value).ownBlock ∧ some k_ ≠ (.slice Ao39 t312.length co39 : Value).ownBlock ∧ some k_ ≠ (.slice Ao51 t325.length co51 : Value).ownBlock ∧ some k_ ≠ (v334 : Value).ownBlock ∧ k_ ≠ gb289 ∧ k_ ≠ gb295 ∧ k_ ≠ gb309 ∧ k_ ≠ gb316 ∧ k_ ≠ gb329 ∧ k_ ≠ gb337) (.slice Ao43 t319.length co43) t319) := ⟨h4_⟩
 replace HO327 : Aside0 (Kd.R (Kd.int .u64) 41 w56 w.heap.size (fun k_ => some k_ ≠ (.slice Ao22 t292.length co22 : Value).ownBlock ∧ some k_ ≠ (.slice Ao32 t305.length co32 : Value).ownBlock ∧ some k_ ≠ (.slice Ao39 t312.length co39 : Value).ownBlock ∧ some k_ ≠ (v334 : Value).ownBlock) (.slice Ao51 t325.length co51) t325) := ⟨h5_⟩
 have HO335 : Aside0 (Kd.R (Kd.int .u64) 41 w56 w.heap.size (fun k_ => some k_ ≠ (.slice Ao22 t292.length co22 : Value).ownBlock ∧ some k_ ≠ (.slice Ao32 t305.length co32 : Value).ownBlock ∧ some k_ ≠ (.slice Ao39 t312.length co39 : Value).ownBlock ∧ some k_ ≠ (.slice Ao51 t325.length co51 : Value).ownBlock) v334 t333) := ⟨h6_⟩
 replace BK289 : Aside0 (w56.heap[gb289]? = some (.cells #[.int .i64 a0_0, .int .i64 a0_1, .slice A0_2 l0_2.length c0_2] 24 (0, 0))) := ⟨h7_⟩
 replace BK295 : Aside0 (w56.heap[gb295]? = some (.cells #[.int .i64 t290, .int .i64 t291, .slice Ao22 t292.length co22] 24 (0, 0))) := ⟨h8_⟩
 replace BK309 : Aside0 (w56.heap[gb309]? = some (.cells #[.int .i64 t303, .int .i64 t304, .slice Ao32 t305.length co32] 26 (0, 0))) := ⟨h9_⟩
 replace BK316 : Aside0 (w56.heap[gb316]? = some (.cells #[.int .i64 t310, .int .i64 t311, .slice Ao39 t312.length co39] 26 (0, 0))) := ⟨h10_⟩
 replace BK329 : Aside0 (w56.heap[gb329]? = some (.cells #[.int .i64 t323, .int .i64 t324, .slice Ao51 t325.length co51] 26 (0, 0))) := ⟨h11_⟩
 have BK337 : Aside0 (w56.heap[gb337]? = some (.cells #[.int .i64 0, .int .i64 0, .slice none 0 0] 26 (0, 0))) := ⟨h12_⟩
 have GW337 : Aside0 (w.heap.size ≤ gb337) := ⟨h13_⟩
 have GE337 : Aside0 (w.heap.size ≤ gb337) := ⟨h14_⟩
 have NB289_337 : Aside0 (gb289 ≠ gb337) := ⟨h15_⟩
 have NB337_289 : Aside0 (gb337 ≠ gb289) := ⟨h16_⟩
 have NB295_337 : Aside0 (gb295 ≠ gb337) := ⟨h17_⟩
 have NB337_295 : Aside0 (gb337 ≠ gb295) := ⟨h18_⟩
 have NB309_337 : Aside0 (gb309 ≠ gb337) := ⟨h19_⟩
 have NB337_309 : Aside0 (gb337 ≠ gb309) := ⟨h20_⟩
 have NB316_337 : Aside0 (gb316 ≠ gb337) := ⟨h21_⟩
 have NB337_316 : Aside0 (gb337 ≠ gb316) := ⟨h22_⟩
 have NB329_337 : Aside0 (gb329 ≠ gb337) := ⟨h23_⟩
 have NB337_329 : Aside0 (gb337 ≠ gb329) := ⟨h24_⟩
 replace HB : Aside0 (Below w.heap.size w w56) := ⟨h25_⟩
 clear h0_ h1_ h2_ h3_ h4_ h5_ h6_ h7_ h8_ h9_ h10_ h11_ h12_ h13_ h14_ h15_ h16_ h17_ h18_ h19_ h20_ h21_ h22_ h23_ h24_ h25_
 have hHeld : w56.cell? ⟨gb309, 0, none⟩ = some (.int .i64 t303) ∧ w56.cell? ⟨gb309, 1, none⟩ = some (.int .i64 t304) ∧ w56.cell? ⟨gb309, 2, none⟩ = some (.slice Ao32 t305.length co32) := hS_
 obtain ⟨Ao59, co59, eo59⟩ := Kd.R_slice HO335.out
 (first | subst eo59 | (injection eo59 with f1_ f2_ f3_; have f4_ := f1_.symm; have f5_ := f3_.symm; clear f1_ f2_ f3_; subst f4_; subst f5_))
 refine norm_ (a' := ?_) ?_ ?_
 rotate_left
 · simp only [putAll, Act.put, List.setIfInBounds_toArray, List.set_cons_zero, List.set_cons_succ]
   rfl
 refine one_ (i := 8) (N := none) #[true, true, true, true, true, true, true, true, true, false] rfl rfl (one_of HT_.out (by kernel_rfl)) (by decide) (fun K hK => ?_)
 have hs57 : w56.cell? ⟨gb337, 0, none⟩ = some (.int .i64 0) := (blk_cell BK337.out 0).trans rfl
 have hfs57 := blk_frozen BK337.out 0
 have hns57_0 := NB289_337.out
 have hns57_1 := NB295_337.out
 have hns57_2 := NB309_337.out
 have hns57_3 := NB316_337.out
 have hns57_4 := NB329_337.out
 have hms57_0 := NB337_289.out
 have hms57_1 := NB337_295.out
 have hms57_2 := NB337_309.out
 have hms57_3 := NB337_316.out
 have hms57_4 := NB337_329.out
 have hs58 : w56.cell? ⟨gb337, 1, none⟩ = some (.int .i64 0) := (blk_cell BK337.out 1).trans rfl
 have hfs58 := blk_frozen BK337.out 1
 have hns58_0 := NB289_337.out
 have hns58_1 := NB295_337.out
 have hns58_2 := NB309_337.out
 have hns58_3 := NB316_337.out
 have hns58_4 := NB329_337.out
 have hms58_0 := NB337_289.out
 have hms58_1 := NB337_295.out
 have hms58_2 := NB337_309.out
 have hms58_3 := NB337_316.out
 have hms58_4 := NB337_329.out
 have hs60 : w56.cell? ⟨gb337, 2, none⟩ = some (.slice none 0 0) := (blk_cell BK337.out 2).trans rfl
 have hfs60 := blk_frozen BK337.out 2
 have hns60_0 := NB289_337.out
 have hns60_1 := NB295_337.out
 have hns60_2 := NB309_337.out
 have hns60_3 := NB316_337.out
 have hns60_4 := NB329_337.out
 have hms60_0 := NB337_289.out
 have hms60_1 := NB337_295.out
 have hms60_2 := NB337_309.out
 have hms60_3 := NB337_316.out
 have hms60_4 := NB337_329.out
 refine skip_ (w1 := ?_) (by rfl) rfl ?_ ?_
 rotate_left
 · go_simp
   rfl
 refine hK.out _ _ ⟨((cell_far (p := ⟨gb337, _, none⟩) NB309_337.out _).trans (((cell_far (p := ⟨gb337, _, none⟩) NB309_337.out _).trans (((cell_far (p := ⟨gb337, _, none⟩) NB309_337.out _).trans (hHeld.1)))))), ((cell_far (p := ⟨gb337, _, none⟩) NB309_337.out _).trans (((cell_far (p := ⟨gb337, _, none⟩) NB309_337.out _).trans (((cell_far (p := ⟨gb337, _, none⟩) NB309_337.out _).trans (hHeld.2.1)))))), ((cell_far (p := ⟨gb337, _, none⟩) NB309_337.out _).trans (((cell_far (p := ⟨gb337, _, none⟩) NB309_337.out _).trans (((cell_far (p := ⟨gb337, _, none⟩) NB309_337.out _).trans (hHeld.2.2))))))⟩ (fun hHeld => ?_)
 clear hK K
 refine pur_ (i := 9) (N := some 17) #[true, true, true, true, true, true, true, true, true, true] (any_of HT_.out (by kernel_rfl)) ?_
 refine done_ (done_of HT_.out (by kernel_rfl)) ?_
 go_upto_region 8 with (fail)
 have H := HP15.out
 clear HP15
 replace H := Option.bind_eq_some_iff.mp H
 obtain ⟨t338, A610, H⟩ := H
 replace H : ((chequerref04_Then.f k a1 a2).bind fun t339 => (if t338 = t339 then ((turn_Then.f k t296 t297).bind fun t340 => ((chequerref04_Then.f k t296 t297).bind fun t341 => (if t340 = t341 then ((turn_Back.f k a1).bind fun t342 => ((chequerref04_Back.f k a1).bind fun t343 => (if t342 = t343 then ((turn_Back.f k t296).bind fun t344 => ((chequerref04_Back.f k t296).bind fun t345 => (if t344 = t345 then ((chequerlaw04_as.f t310 t311 t312).bind fun bt346 => ((chequerlaw04_as.f t323 t324 t325).bind fun bt351 => ((chequerref03_Same.f k bt346.1 bt346.2.1 bt346.2.2 bt351.1 bt351.2.1 bt351.2.2).bind fun t356 => (if t356 = true then ((chequerlaw04_as.f t331 t332 t333).bind fun bt357 => ((chequerref03_Same.f k bt357.1 bt357.2.1 bt357.2.2 t290 t291 t292).bind fun t362 => (if t362 = true then ((chequerlaw04_lives.f k).bind fun t363 => (some t363)) else (some false)))) else (some false))))) else (some false)))) else (some false)))) else (some false)))) else (some false))) = some r := H
 have A61 := Aside0.mk A610
 clear A610
 replace H := Option.bind_eq_some_iff.mp H
 obtain ⟨t339, A620, H⟩ := H
 replace H : (if t338 = t339 then ((turn_Then.f k t296 t297).bind fun t340 => ((chequerref04_Then.f k t296 t297).bind fun t341 => (if t340 = t341 then ((turn_Back.f k a1).bind fun t342 => ((chequerref04_Back.f k a1).bind fun t343 => (if t342 = t343 then ((turn_Back.f k t296).bind fun t344 => ((chequerref04_Back.f k t296).bind fun t345 => (if t344 = t345 then ((chequerlaw04_as.f t310 t311 t312).bind fun bt346 => ((chequerlaw04_as.f t323 t324 t325).bind fun bt351 => ((chequerref03_Same.f k bt346.1 bt346.2.1 bt346.2.2 bt351.1 bt351.2.1 bt351.2.2).bind fun t356 => (if t356 = true then ((chequerlaw04_as.f t331 t332 t333).bind fun bt357 => ((chequerref03_Same.f k bt357.1 bt357.2.1 bt357.2.2 t290 t291 t292).bind fun t362 => (if t362 = true then ((chequerlaw04_lives.f k).bind fun t363 => (some t363)) else (some false)))) else (some false))))) else (some false)))) else (some false)))) else (some false)))) else (some false)) = some r := H
 have A62 := Aside0.mk A620
 clear A620
 have HQ6 := Aside0.mk H
 clear H
 try go_wp2
 have n0_ : Aside0 (Kd.R (Kd.int .u64) 41 (((w56.setCell ⟨gb337, 0, none⟩ (.int .i64 t331)).setCell ⟨gb337, 1, none⟩ (.int .i64 t332)).setCell ⟨gb337, 2, none⟩ (.slice Ao59 t333.length co59)) w.heap.size (fun k_ => some k_ ≠ (.slice Ao32 t305.length co32 : Value).ownBlock ∧ some k_ ≠ (.slice Ao39 t312.length co39 : Value).ownBlock ∧ some k_ ≠ (.slice Ao51 t325.length co51 : Value).ownBlock ∧ some k_ ≠ (.slice Ao59 t333.length co59 : Value).ownBlock) (.slice Ao22 t292.length co22) t292) := ⟨rf_ HO294.out BK337.out (by decide) (fun _ hk => ⟨hk.1.1, ⟨hk.1.2.1, ⟨hk.1.2.2.1, hk.1.2.2.2⟩⟩⟩)⟩
 have n1_ : Aside0 (Kd.V (Kd.int .u64) 41 (((w56.setCell ⟨gb337, 0, none⟩ (.int .i64 t331)).setCell ⟨gb337, 1, none⟩ (.int .i64 t332)).setCell ⟨gb337, 2, none⟩ (.slice Ao59 t333.length co59)) w.heap.size (fun k_ => some k_ ≠ (.slice Ao32 t305.length co32 : Value).ownBlock ∧ some k_ ≠ (.slice Ao39 t312.length co39 : Value).ownBlock ∧ some k_ ≠ (.slice Ao51 t325.length co51 : Value).ownBlock ∧ some k_ ≠ (.slice Ao59 t333.length co59 : Value).ownBlock ∧ k_ ≠ gb289 ∧ k_ ≠ gb295 ∧ k_ ≠ gb309 ∧ k_ ≠ gb316 ∧ k_ ≠ gb329 ∧ k_ ≠ gb337) (.slice Ao26 t300.length co26) t300) := ⟨by (with_reducible repeat (first | apply Kd.V_alloc | apply Kd.V_drewN | apply Kd.V_drew)); exact Kd.V_mono (Kd.V_far (p := ⟨gb337, 2, none⟩) (Kd.V_far (p := ⟨gb337, 1, none⟩) (Kd.V_far (p := ⟨gb337, 0, none⟩) (Kd.V_mono HO302.out (fun k_ hk => (⟨hk, hk.2.2.2.2.2.2.2.2.2⟩ : _ ∧ k_ ≠ gb337))) (fun _ hk => hk.2) (.int .i64 t331)) (fun _ hk => hk.2) (.int .i64 t332)) (fun _ hk => hk.2) (.slice Ao59 t333.length co59)) (fun _ hk => ⟨hk.1.1, ⟨hk.1.2.1, ⟨hk.1.2.2.1, ⟨hk.1.2.2.2.1, ⟨hk.1.2.2.2.2.1, ⟨hk.1.2.2.2.2.2.1, ⟨hk.1.2.2.2.2.2.2.1, ⟨hk.1.2.2.2.2.2.2.2.1, ⟨hk.1.2.2.2.2.2.2.2.2.1, hk.1.2.2.2.2.2.2.2.2.2⟩⟩⟩⟩⟩⟩⟩⟩⟩)⟩
 have n2_ : Aside0 (Kd.R (Kd.int .u64) 41 (((w56.setCell ⟨gb337, 0, none⟩ (.int .i64 t331)).setCell ⟨gb337, 1, none⟩ (.int .i64 t332)).setCell ⟨gb337, 2, none⟩ (.slice Ao59 t333.length co59)) w.heap.size (fun k_ => some k_ ≠ (.slice Ao22 t292.length co22 : Value).ownBlock ∧ some k_ ≠ (.slice Ao39 t312.length co39 : Value).ownBlock ∧ some k_ ≠ (.slice Ao51 t325.length co51 : Value).ownBlock ∧ some k_ ≠ (.slice Ao59 t333.length co59 : Value).ownBlock) (.slice Ao32 t305.length co32) t305) := ⟨rf_ HO307.out BK337.out (by decide) (fun _ hk => ⟨hk.1.1, ⟨hk.1.2.1, ⟨hk.1.2.2.1, hk.1.2.2.2⟩⟩⟩)⟩
 have n3_ : Aside0 (Kd.R (Kd.int .u64) 41 (((w56.setCell ⟨gb337, 0, none⟩ (.int .i64 t331)).setCell ⟨gb337, 1, none⟩ (.int .i64 t332)).setCell ⟨gb337, 2, none⟩ (.slice Ao59 t333.length co59)) w.heap.size (fun k_ => some k_ ≠ (.slice Ao22 t292.length co22 : Value).ownBlock ∧ some k_ ≠ (.slice Ao32 t305.length co32 : Value).ownBlock ∧ some k_ ≠ (.slice Ao51 t325.length co51 : Value).ownBlock ∧ some k_ ≠ (.slice Ao59 t333.length co59 : Value).ownBlock) (.slice Ao39 t312.length co39) t312) := ⟨rf_ HO314.out BK337.out (by decide) (fun _ hk => ⟨hk.1.1, ⟨hk.1.2.1, ⟨hk.1.2.2.1, hk.1.2.2.2⟩⟩⟩)⟩
 have n4_ : Aside0 (Kd.V (Kd.int .u64) 41 (((w56.setCell ⟨gb337, 0, none⟩ (.int .i64 t331)).setCell ⟨gb337, 1, none⟩ (.int .i64 t332)).setCell ⟨gb337, 2, none⟩ (.slice Ao59 t333.length co59)) w.heap.size (fun k_ => some k_ ≠ (.slice Ao32 t305.length co32 : Value).ownBlock ∧ some k_ ≠ (.slice Ao39 t312.length co39 : Value).ownBlock ∧ some k_ ≠ (.slice Ao51 t325.length co51 : Value).ownBlock ∧ some k_ ≠ (.slice Ao59 t333.length co59 : Value).ownBlock ∧ k_ ≠ gb289 ∧ k_ ≠ gb295 ∧ k_ ≠ gb309 ∧ k_ ≠ gb316 ∧ k_ ≠ gb329 ∧ k_ ≠ gb337) (.slice Ao43 t319.length co43) t319) := ⟨by (with_reducible repeat (first | apply Kd.V_alloc | apply Kd.V_drewN | apply Kd.V_drew)); exact Kd.V_mono (Kd.V_far (p := ⟨gb337, 2, none⟩) (Kd.V_far (p := ⟨gb337, 1, none⟩) (Kd.V_far (p := ⟨gb337, 0, none⟩) (Kd.V_mono HO321.out (fun k_ hk => (⟨hk, hk.2.2.2.2.2.2.2.2.2⟩ : _ ∧ k_ ≠ gb337))) (fun _ hk => hk.2) (.int .i64 t331)) (fun _ hk => hk.2) (.int .i64 t332)) (fun _ hk => hk.2) (.slice Ao59 t333.length co59)) (fun _ hk => ⟨hk.1.1, ⟨hk.1.2.1, ⟨hk.1.2.2.1, ⟨hk.1.2.2.2.1, ⟨hk.1.2.2.2.2.1, ⟨hk.1.2.2.2.2.2.1, ⟨hk.1.2.2.2.2.2.2.1, ⟨hk.1.2.2.2.2.2.2.2.1, ⟨hk.1.2.2.2.2.2.2.2.2.1, hk.1.2.2.2.2.2.2.2.2.2⟩⟩⟩⟩⟩⟩⟩⟩⟩)⟩
 have n5_ : Aside0 (Kd.R (Kd.int .u64) 41 (((w56.setCell ⟨gb337, 0, none⟩ (.int .i64 t331)).setCell ⟨gb337, 1, none⟩ (.int .i64 t332)).setCell ⟨gb337, 2, none⟩ (.slice Ao59 t333.length co59)) w.heap.size (fun k_ => some k_ ≠ (.slice Ao22 t292.length co22 : Value).ownBlock ∧ some k_ ≠ (.slice Ao32 t305.length co32 : Value).ownBlock ∧ some k_ ≠ (.slice Ao39 t312.length co39 : Value).ownBlock ∧ some k_ ≠ (.slice Ao59 t333.length co59 : Value).ownBlock) (.slice Ao51 t325.length co51) t325) := ⟨rf_ HO327.out BK337.out (by decide) (fun _ hk => ⟨hk.1.1, ⟨hk.1.2.1, ⟨hk.1.2.2.1, hk.1.2.2.2⟩⟩⟩)⟩
 have n6_ : Aside0 (Kd.R (Kd.int .u64) 41 (((w56.setCell ⟨gb337, 0, none⟩ (.int .i64 t331)).setCell ⟨gb337, 1, none⟩ (.int .i64 t332)).setCell ⟨gb337, 2, none⟩ (.slice Ao59 t333.length co59)) w.heap.size (fun k_ => some k_ ≠ (.slice Ao22 t292.length co22 : Value).ownBlock ∧ some k_ ≠ (.slice Ao32 t305.length co32 : Value).ownBlock ∧ some k_ ≠ (.slice Ao39 t312.length co39 : Value).ownBlock ∧ some k_ ≠ (.slice Ao51 t325.length co51 : Value).ownBlock) (.slice Ao59 t333.length co59) t333) := ⟨rf_ HO335.out BK337.out (by decide) (fun _ hk => ⟨hk.1.1, ⟨hk.1.2.1, ⟨hk.1.2.2.1, hk.1.2.2.2⟩⟩⟩)⟩
 have n7_ : Aside0 ((((w56.setCell ⟨gb337, 0, none⟩ (.int .i64 t331)).setCell ⟨gb337, 1, none⟩ (.int .i64 t332)).setCell ⟨gb337, 2, none⟩ (.slice Ao59 t333.length co59)).heap[gb289]? = some (.cells #[.int .i64 a0_0, .int .i64 a0_1, .slice A0_2 l0_2.length c0_2] 24 (0, 0))) := ⟨hf_ BK289.out NB289_337.out⟩
 have n8_ : Aside0 ((((w56.setCell ⟨gb337, 0, none⟩ (.int .i64 t331)).setCell ⟨gb337, 1, none⟩ (.int .i64 t332)).setCell ⟨gb337, 2, none⟩ (.slice Ao59 t333.length co59)).heap[gb295]? = some (.cells #[.int .i64 t290, .int .i64 t291, .slice Ao22 t292.length co22] 24 (0, 0))) := ⟨hf_ BK295.out NB295_337.out⟩
 have n9_ : Aside0 ((((w56.setCell ⟨gb337, 0, none⟩ (.int .i64 t331)).setCell ⟨gb337, 1, none⟩ (.int .i64 t332)).setCell ⟨gb337, 2, none⟩ (.slice Ao59 t333.length co59)).heap[gb309]? = some (.cells #[.int .i64 t303, .int .i64 t304, .slice Ao32 t305.length co32] 26 (0, 0))) := ⟨hf_ BK309.out NB309_337.out⟩
 have n10_ : Aside0 ((((w56.setCell ⟨gb337, 0, none⟩ (.int .i64 t331)).setCell ⟨gb337, 1, none⟩ (.int .i64 t332)).setCell ⟨gb337, 2, none⟩ (.slice Ao59 t333.length co59)).heap[gb316]? = some (.cells #[.int .i64 t310, .int .i64 t311, .slice Ao39 t312.length co39] 26 (0, 0))) := ⟨hf_ BK316.out NB316_337.out⟩
 have n11_ : Aside0 ((((w56.setCell ⟨gb337, 0, none⟩ (.int .i64 t331)).setCell ⟨gb337, 1, none⟩ (.int .i64 t332)).setCell ⟨gb337, 2, none⟩ (.slice Ao59 t333.length co59)).heap[gb329]? = some (.cells #[.int .i64 t323, .int .i64 t324, .slice Ao51 t325.length co51] 26 (0, 0))) := ⟨hf_ BK329.out NB329_337.out⟩
 have n12_ : Aside0 ((((w56.setCell ⟨gb337, 0, none⟩ (.int .i64 t331)).setCell ⟨gb337, 1, none⟩ (.int .i64 t332)).setCell ⟨gb337, 2, none⟩ (.slice Ao59 t333.length co59)).heap[gb337]? = some (.cells #[.int .i64 t331, .int .i64 t332, .slice Ao59 t333.length co59] 26 (0, 0))) := ⟨by (with_reducible repeat (first | refine blk_drewN ?_ _ | refine blk_drew ?_ | refine blk_alloc ?_ _)); refine blk_put (cs := #[.int .i64 t331, .int .i64 t332, .slice none 0 0]) ?_ 2 _ rfl; (with_reducible repeat (first | refine blk_drewN ?_ _ | refine blk_drew ?_ | refine blk_alloc ?_ _)); refine blk_put (cs := #[.int .i64 t331, .int .i64 0, .slice none 0 0]) ?_ 1 _ rfl; (with_reducible repeat (first | refine blk_drewN ?_ _ | refine blk_drew ?_ | refine blk_alloc ?_ _)); refine blk_put (cs := #[.int .i64 0, .int .i64 0, .slice none 0 0]) ?_ 0 _ rfl; (with_reducible repeat (first | refine blk_drewN ?_ _ | refine blk_drew ?_ | refine blk_alloc ?_ _)); exact BK337.out⟩
 have n13_ : Aside0 (Below w.heap.size w (((w56.setCell ⟨gb337, 0, none⟩ (.int .i64 t331)).setCell ⟨gb337, 1, none⟩ (.int .i64 t332)).setCell ⟨gb337, 2, none⟩ (.slice Ao59 t333.length co59))) := ⟨bp_⟩
 (try clear HO294)
 (try clear HO302)
 (try clear HO307)
 (try clear HO314)
 (try clear HO321)
 (try clear HO327)
 (try clear HO335)
 (try clear BK289)
 (try clear BK295)
 (try clear BK309)
 (try clear BK316)
 (try clear BK329)
 (try clear BK337)
 (try clear HB)
 generalize (((w56.setCell ⟨gb337, 0, none⟩ (.int .i64 t331)).setCell ⟨gb337, 1, none⟩ (.int .i64 t332)).setCell ⟨gb337, 2, none⟩ (.slice Ao59 t333.length co59)) = w81 at n0_ n1_ n2_ n3_ n4_ n5_ n6_ n7_ n8_ n9_ n10_ n11_ n12_ n13_ ⊢
 have HO294 := n0_
 have HO302 := n1_
 have HO307 := n2_
 have HO314 := n3_
 have HO321 := n4_
 have HO327 := n5_
 have HO335 := n6_
 have BK289 := n7_
 have BK295 := n8_
 have BK309 := n9_
 have BK316 := n10_
 have BK329 := n11_
 have BK337 := n12_
 have HB := n13_
 clear n0_ n1_ n2_ n3_ n4_ n5_ n6_ n7_ n8_ n9_ n10_ n11_ n12_ n13_
 replace HO294 := Aside0.mk (Kd.R_drew HO294.out)
 replace HO302 := Aside0.mk (Kd.V_drew HO302.out)
 replace HO307 := Aside0.mk (Kd.R_drew HO307.out)
 replace HO314 := Aside0.mk (Kd.R_drew HO314.out)
 replace HO321 := Aside0.mk (Kd.V_drew HO321.out)
 replace HO327 := Aside0.mk (Kd.R_drew HO327.out)
 replace HO335 := Aside0.mk (Kd.R_drew HO335.out)
 replace BK289 := Aside0.mk (blk_drew BK289.out)
 replace BK295 := Aside0.mk (blk_drew BK295.out)
 replace BK309 := Aside0.mk (blk_drew BK309.out)
 replace BK316 := Aside0.mk (blk_drew BK316.out)
 replace BK329 := Aside0.mk (blk_drew BK329.out)
 replace BK337 := Aside0.mk (blk_drew BK337.out)
 replace HB := Aside0.mk (below_drew1 HB.out)
 refine start_ (n := 47) (S := fun w' => w'.cell? ⟨gb295, 0, none⟩ = some (.int .i64 t290) ∧ w'.cell? ⟨gb295, 1, none⟩ = some (.int .i64 t291) ∧ w'.cell? ⟨gb295, 2, none⟩ = some (.slice Ao22 t292.length co22) ∧ w'.cell? ⟨gb316, 0, none⟩ = some (.int .i64 t310) ∧ w'.cell? ⟨gb316, 1, none⟩ = some (.int .i64 t311) ∧ w'.cell? ⟨gb316, 2, none⟩ = some (.slice Ao39 t312.length co39) ∧ w'.cell? ⟨gb329, 0, none⟩ = some (.int .i64 t323) ∧ w'.cell? ⟨gb329, 1, none⟩ = some (.int .i64 t324) ∧ w'.cell? ⟨gb329, 2, none⟩ = some (.slice Ao51 t325.length co51) ∧ w'.cell? ⟨gb337, 0, none⟩ = some (.int .i64 t331) ∧ w'.cell? ⟨gb337, 1, none⟩ = some (.int .i64 t332) ∧ w'.cell? ⟨gb337, 2, none⟩ = some (.slice Ao59 t333.length co59)) (ds := []) #[false, false, false, false, false, false, false, false, false, false, false, false, false, false, false, false, false, false, false, false, false, false, false, false, false, false, false, false, false, false, false, false, false, false, false, false, false, false, false, false, false, false, false, false, false, false, false] (by kernel_rfl) rfl rfl ⟨(blk_cell BK295.out 0).trans rfl, (blk_cell BK295.out 1).trans rfl, (blk_cell BK295.out 2).trans rfl, (blk_cell BK316.out 0).trans rfl, (blk_cell BK316.out 1).trans rfl, (blk_cell BK316.out 2).trans rfl, (blk_cell BK329.out 0).trans rfl, (blk_cell BK329.out 1).trans rfl, (blk_cell BK329.out 2).trans rfl, (blk_cell BK337.out 0).trans rfl, (blk_cell BK337.out 1).trans rfl, (blk_cell BK337.out 2).trans rfl⟩ (fun hHeld => ?_); refine with_tabW chequerlaw04_TurnThen.tab8 chequerlaw04_TurnThen.bits8 (fun HT_ HW_ => ?_)
 generalize w81.drew = w82 at HO294 HO302 HO307 HO314 HO321 HO327 HO335 BK289 BK295 BK309 BK316 BK329 BK337 HB hHeld ⊢
 refine pur_ (i := 0) (N := some 53) #[true, false, false, false, false, false, false, false, false, false, false, false, false, false, false, false, false, false, false, false, false, false, false, false, false, false, false, false, false, false, false, false, false, false, false, false, false, false, false, false, false, false, false, false, false, false, false] (any_of HT_.out (by kernel_rfl)) ?_
 refine pur_ (i := 1) (N := some 54) #[true, true, false, false, false, false, false, false, false, false, false, false, false, false, false, false, false, false, false, false, false, false, false, false, false, false, false, false, false, false, false, false, false, false, false, false, false, false, false, false, false, false, false, false, false, false, false] (any_of HT_.out (by kernel_rfl)) ?_
 refine pur_ (i := 3) (N := some 56) #[true, true, false, true, false, false, false, false, false, false, false, false, false, false, false, false, false, false, false, false, false, false, false, false, false, false, false, false, false, false, false, false, false, false, false, false, false, false, false, false, false, false, false, false, false, false, false] (any_of HT_.out (by kernel_rfl)) ?_
 refine pur_ (i := 4) (N := some 57) #[true, true, false, true, true, false, false, false, false, false, false, false, false, false, false, false, false, false, false, false, false, false, false, false, false, false, false, false, false, false, false, false, false, false, false, false, false, false, false, false, false, false, false, false, false, false, false] (any_of HT_.out (by kernel_rfl)) ?_
 refine one_ (i := 2) (N := some 55) #[true, true, true, true, true, false, false, false, false, false, false, false, false, false, false, false, false, false, false, false, false, false, false, false, false, false, false, false, false, false, false, false, false, false, false, false, false, false, false, false, false, false, false, false, false, false, false] rfl rfl (one_of HT_.out (by kernel_rfl)) (by decide) (fun K hK => ?_)
 refine goes_ Try.func24 (by kernel_rfl) rfl #[.int .i64 a1, .int .i64 a2] (by rfl) rfl rfl (by (try simp only [List.map_toArray, List.map_cons, List.map_nil]); first | done | rfl | (simp only [List.length_drop, List.length_take]; rfl)) ?_
 with_reducible refine (turn_Then.calls k a1 a2 t338 _ A61.out).mono ?_
 rintro e w' ⟨rfl, ⟨nd, rfl⟩⟩
 refine ⟨_, rfl, ?_⟩
 refine hK.out _ _ ⟨(blk_cell BK295.out 0).trans rfl, (blk_cell BK295.out 1).trans rfl, (blk_cell BK295.out 2).trans rfl, (blk_cell BK316.out 0).trans rfl, (blk_cell BK316.out 1).trans rfl, (blk_cell BK316.out 2).trans rfl, (blk_cell BK329.out 0).trans rfl, (blk_cell BK329.out 1).trans rfl, (blk_cell BK329.out 2).trans rfl, (blk_cell BK337.out 0).trans rfl, (blk_cell BK337.out 1).trans rfl, (blk_cell BK337.out 2).trans rfl⟩ (fun hHeld => ?_)
 clear hK K
 refine norm_ (a' := ?_) ?_ ?_
 rotate_left
 · show Act.put _ (some 55) _ = _
   simp only [Act.put, List.setIfInBounds_toArray, List.set_cons_zero, List.set_cons_succ, i64_w, i32_w]
   rfl
 refine one_ (i := 5) (N := some 58) #[true, true, true, true, true, true, false, false, false, false, false, false, false, false, false, false, false, false, false, false, false, false, false, false, false, false, false, false, false, false, false, false, false, false, false, false, false, false, false, false, false, false, false, false, false, false, false] rfl rfl (one_of HT_.out (by kernel_rfl)) (by decide) (fun K hK => ?_)
 refine goes_ Try.func26 (by kernel_rfl) rfl #[.int .i64 a1, .int .i64 a2] (by rfl) rfl rfl (by (try simp only [List.map_toArray, List.map_cons, List.map_nil]); first | done | rfl | (simp only [List.length_drop, List.length_take]; rfl)) ?_
 with_reducible refine (chequerref04_Then.calls k a1 a2 t339 _ A62.out).mono ?_
 rintro e w83 ⟨rfl, hb⟩
 refine ⟨_, rfl, ?_⟩
 replace HO294 := Aside0.mk (Kd.R_below (rp_ HO294.out) hb)
 replace HO302 := Aside0.mk (Kd.V_below (vp_ HO302.out) hb)
 replace HO307 := Aside0.mk (Kd.R_below (rp_ HO307.out) hb)
 replace HO314 := Aside0.mk (Kd.R_below (rp_ HO314.out) hb)
 replace HO321 := Aside0.mk (Kd.V_below (vp_ HO321.out) hb)
 replace HO327 := Aside0.mk (Kd.R_below (rp_ HO327.out) hb)
 replace HO335 := Aside0.mk (Kd.R_below (rp_ HO335.out) hb)
 replace BK289 := Aside0.mk (blk_below (hp_ BK289.out) hb)
 replace BK295 := Aside0.mk (blk_below (hp_ BK295.out) hb)
 replace BK309 := Aside0.mk (blk_below (hp_ BK309.out) hb)
 replace BK316 := Aside0.mk (blk_below (hp_ BK316.out) hb)
 replace BK329 := Aside0.mk (blk_below (hp_ BK329.out) hb)
 replace BK337 := Aside0.mk (blk_below (hp_ BK337.out) hb)
 replace HB := Aside0.mk (below_step bp_ hb)
 (try clear hb)
 (try clear hb2)
 (try clear hk)
 (try clear hi)
 refine hK.out _ _ ⟨(blk_cell BK295.out 0).trans rfl, (blk_cell BK295.out 1).trans rfl, (blk_cell BK295.out 2).trans rfl, (blk_cell BK316.out 0).trans rfl, (blk_cell BK316.out 1).trans rfl, (blk_cell BK316.out 2).trans rfl, (blk_cell BK329.out 0).trans rfl, (blk_cell BK329.out 1).trans rfl, (blk_cell BK329.out 2).trans rfl, (blk_cell BK337.out 0).trans rfl, (blk_cell BK337.out 1).trans rfl, (blk_cell BK337.out 2).trans rfl⟩ (fun hHeld => ?_)
 clear hK K
 refine norm_ (a' := ?_) ?_ ?_
 rotate_left
 · show Act.put _ (some 58) _ = _
   simp only [Act.put, List.setIfInBounds_toArray, List.set_cons_zero, List.set_cons_succ, i64_w, i32_w]
   rfl
 refine pur_ (i := 6) (N := some 59) #[true, true, true, true, true, true, true, false, false, false, false, false, false, false, false, false, false, false, false, false, false, false, false, false, false, false, false, false, false, false, false, false, false, false, false, false, false, false, false, false, false, false, false, false, false, false, false] (any_of HT_.out (by kernel_rfl)) ?_
 refine pur_ (i := 7) (N := some 60) #[true, true, true, true, true, true, true, true, false, false, false, false, false, false, false, false, false, false, false, false, false, false, false, false, false, false, false, false, false, false, false, false, false, false, false, false, false, false, false, false, false, false, false, false, false, false, false] (any_of HT_.out (by kernel_rfl)) ?_
 have H := HQ6.out
 clear HQ6
 by_cases c63 : t338 = t339
 · rw [if_pos c63] at H
   have c63b0 : (t338 == t339) = true := beq_iff_eq.mpr c63
   have c63b1 : (t338 != t339) = false := bne_eq_false_iff_eq.mpr c63
   (first | rw [c63b1] | (simp only [i64_w, i32_w]; rw [c63b1]) | skip)
   clear c63
   (first | rw [c63b0] | (simp only [i64_w, i32_w]; rw [c63b0]) | skip)
   replace H := Option.bind_eq_some_iff.mp H
   obtain ⟨t340, A640, H⟩ := H
   obtain rfl : t322 = t340 := Option.some.inj (A11.out.symm.trans A640)
   replace H : ((chequerref04_Then.f k t296 t297).bind fun t341 => (if t322 = t341 then ((turn_Back.f k a1).bind fun t342 => ((chequerref04_Back.f k a1).bind fun t343 => (if t342 = t343 then ((turn_Back.f k t296).bind fun t344 => ((chequerref04_Back.f k t296).bind fun t345 => (if t344 = t345 then ((chequerlaw04_as.f t310 t311 t312).bind fun bt346 => ((chequerlaw04_as.f t323 t324 t325).bind fun bt351 => ((chequerref03_Same.f k bt346.1 bt346.2.1 bt346.2.2 bt351.1 bt351.2.1 bt351.2.2).bind fun t356 => (if t356 = true then ((chequerlaw04_as.f t331 t332 t333).bind fun bt357 => ((chequerref03_Same.f k bt357.1 bt357.2.1 bt357.2.2 t290 t291 t292).bind fun t362 => (if t362 = true then ((chequerlaw04_lives.f k).bind fun t363 => (some t363)) else (some false)))) else (some false))))) else (some false)))) else (some false)))) else (some false))) = some r := H
   have A64 := Aside0.mk A640
   clear A640
   replace H := Option.bind_eq_some_iff.mp H
   obtain ⟨t341, A650, H⟩ := H
   replace H : (if t322 = t341 then ((turn_Back.f k a1).bind fun t342 => ((chequerref04_Back.f k a1).bind fun t343 => (if t342 = t343 then ((turn_Back.f k t296).bind fun t344 => ((chequerref04_Back.f k t296).bind fun t345 => (if t344 = t345 then ((chequerlaw04_as.f t310 t311 t312).bind fun bt346 => ((chequerlaw04_as.f t323 t324 t325).bind fun bt351 => ((chequerref03_Same.f k bt346.1 bt346.2.1 bt346.2.2 bt351.1 bt351.2.1 bt351.2.2).bind fun t356 => (if t356 = true then ((chequerlaw04_as.f t331 t332 t333).bind fun bt357 => ((chequerref03_Same.f k bt357.1 bt357.2.1 bt357.2.2 t290 t291 t292).bind fun t362 => (if t362 = true then ((chequerlaw04_lives.f k).bind fun t363 => (some t363)) else (some false)))) else (some false))))) else (some false)))) else (some false)))) else (some false)) = some r := H
   have A65 := Aside0.mk A650
   clear A650
   have HQ5 := Aside0.mk H
   clear H
   refine pur_ (i := 8) (N := some 61) Fl92 (any_of HT_.out (by kernel_rfl)) ?_
   refine pur_ (i := 9) (N := some 62) Fl93 (any_of HT_.out (by kernel_rfl)) ?_
   refine pur_ (i := 11) (N := some 64) #[true, true, true, true, true, true, true, true, true, true, false, true, false, false, false, false, false, false, false, false, false, false, false, false, false, false, false, false, false, false, false, false, false, false, false, false, false, false, false, false, false, false, false, false, false, false, false] (any_of HT_.out (by kernel_rfl)) ?_
   refine pur_ (i := 12) (N := some 65) #[true, true, true, true, true, true, true, true, true, true, false, true, true, false, false, false, false, false, false, false, false, false, false, false, false, false, false, false, false, false, false, false, false, false, false, false, false, false, false, false, false, false, false, false, false, false, false] (any_of HT_.out (by kernel_rfl)) ?_
   refine one_ (i := 10) (N := some 63) Fl94 rfl rfl (one_of HT_.out (by kernel_rfl)) (by decide) (fun K hK => ?_)
   refine goes_ Try.func24 (by kernel_rfl) rfl #[.int .i64 t296, .int .i64 t297] (by rfl) rfl rfl (by (try simp only [List.map_toArray, List.map_cons, List.map_nil]); first | done | rfl | (simp only [List.length_drop, List.length_take]; rfl)) ?_
   with_reducible refine (turn_Then.calls k t296 t297 t322 _ A64.out).mono ?_
   rintro e w' ⟨rfl, ⟨nd, rfl⟩⟩
   refine ⟨_, rfl, ?_⟩
   refine hK.out _ _ ⟨(blk_cell BK295.out 0).trans rfl, (blk_cell BK295.out 1).trans rfl, (blk_cell BK295.out 2).trans rfl, (blk_cell BK316.out 0).trans rfl, (blk_cell BK316.out 1).trans rfl, (blk_cell BK316.out 2).trans rfl, (blk_cell BK329.out 0).trans rfl, (blk_cell BK329.out 1).trans rfl, (blk_cell BK329.out 2).trans rfl, (blk_cell BK337.out 0).trans rfl, (blk_cell BK337.out 1).trans rfl, (blk_cell BK337.out 2).trans rfl⟩ (fun hHeld => ?_)
   clear hK K
   refine norm_ (a' := ?_) ?_ ?_
   rotate_left
   · show Act.put _ (some 63) _ = _
     simp only [Act.put, List.setIfInBounds_toArray, List.set_cons_zero, List.set_cons_succ, i64_w, i32_w]
     rfl
   refine one_ (i := 13) (N := some 66) Fl95 rfl rfl (one_of HT_.out (by kernel_rfl)) (by decide) (fun K hK => ?_)
   refine goes_ Try.func26 (by kernel_rfl) rfl #[.int .i64 t296, .int .i64 t297] (by rfl) rfl rfl (by (try simp only [List.map_toArray, List.map_cons, List.map_nil]); first | done | rfl | (simp only [List.length_drop, List.length_take]; rfl)) ?_
   with_reducible refine (chequerref04_Then.calls k t296 t297 t341 _ A65.out).mono ?_
   rintro e w84 ⟨rfl, hb⟩
   refine ⟨_, rfl, ?_⟩
   replace HO294 := Aside0.mk (Kd.R_below (rp_ HO294.out) hb)
   replace HO302 := Aside0.mk (Kd.V_below (vp_ HO302.out) hb)
   replace HO307 := Aside0.mk (Kd.R_below (rp_ HO307.out) hb)
   replace HO314 := Aside0.mk (Kd.R_below (rp_ HO314.out) hb)
   replace HO321 := Aside0.mk (Kd.V_below (vp_ HO321.out) hb)
   replace HO327 := Aside0.mk (Kd.R_below (rp_ HO327.out) hb)
   replace HO335 := Aside0.mk (Kd.R_below (rp_ HO335.out) hb)
   replace BK289 := Aside0.mk (blk_below (hp_ BK289.out) hb)
   replace BK295 := Aside0.mk (blk_below (hp_ BK295.out) hb)
   replace BK309 := Aside0.mk (blk_below (hp_ BK309.out) hb)
   replace BK316 := Aside0.mk (blk_below (hp_ BK316.out) hb)
   replace BK329 := Aside0.mk (blk_below (hp_ BK329.out) hb)
   replace BK337 := Aside0.mk (blk_below (hp_ BK337.out) hb)
   replace HB := Aside0.mk (below_step bp_ hb)
   (try clear hb)
   (try clear hb2)
   (try clear hk)
   (try clear hi)
   refine hK.out _ _ ⟨(blk_cell BK295.out 0).trans rfl, (blk_cell BK295.out 1).trans rfl, (blk_cell BK295.out 2).trans rfl, (blk_cell BK316.out 0).trans rfl, (blk_cell BK316.out 1).trans rfl, (blk_cell BK316.out 2).trans rfl, (blk_cell BK329.out 0).trans rfl, (blk_cell BK329.out 1).trans rfl, (blk_cell BK329.out 2).trans rfl, (blk_cell BK337.out 0).trans rfl, (blk_cell BK337.out 1).trans rfl, (blk_cell BK337.out 2).trans rfl⟩ (fun hHeld => ?_)
   clear hK K
   refine norm_ (a' := ?_) ?_ ?_
   rotate_left
   · show Act.put _ (some 66) _ = _
     simp only [Act.put, List.setIfInBounds_toArray, List.set_cons_zero, List.set_cons_succ, i64_w, i32_w]
     rfl
   refine pur_ (i := 14) (N := some 67) Fl96 (any_of HT_.out (by kernel_rfl)) ?_
   refine pur_ (i := 15) (N := some 68) Fl97 (any_of HT_.out (by kernel_rfl)) ?_
   refine pur_ (i := 16) (N := some 69) Fl98 (any_of HT_.out (by kernel_rfl)) ?_
   have H := HQ5.out
   clear HQ5
   by_cases c66 : t322 = t341
   · rw [if_pos c66] at H
     have c66b0 : (t322 == t341) = true := beq_iff_eq.mpr c66
     (first | rw [c66b0] | (simp only [i64_w, i32_w]; rw [c66b0]) | skip)
     have c66b1 : (t322 != t341) = false := bne_eq_false_iff_eq.mpr c66
     (first | rw [c66b1] | (simp only [i64_w, i32_w]; rw [c66b1]) | skip)
     clear c66
     replace H := Option.bind_eq_some_iff.mp H
     obtain ⟨t342, A670, H⟩ := H
     replace H : ((chequerref04_Back.f k a1).bind fun t343 => (if t342 = t343 then ((turn_Back.f k t296).bind fun t344 => ((chequerref04_Back.f k t296).bind fun t345 => (if t344 = t345 then ((chequerlaw04_as.f t310 t311 t312).bind fun bt346 => ((chequerlaw04_as.f t323 t324 t325).bind fun bt351 => ((chequerref03_Same.f k bt346.1 bt346.2.1 bt346.2.2 bt351.1 bt351.2.1 bt351.2.2).bind fun t356 => (if t356 = true then ((chequerlaw04_as.f t331 t332 t333).bind fun bt357 => ((chequerref03_Same.f k bt357.1 bt357.2.1 bt357.2.2 t290 t291 t292).bind fun t362 => (if t362 = true then ((chequerlaw04_lives.f k).bind fun t363 => (some t363)) else (some false)))) else (some false))))) else (some false)))) else (some false))) = some r := H
     have A67 := Aside0.mk A670
     clear A670
     replace H := Option.bind_eq_some_iff.mp H
     obtain ⟨t343, A680, H⟩ := H
     replace H : (if t342 = t343 then ((turn_Back.f k t296).bind fun t344 => ((chequerref04_Back.f k t296).bind fun t345 => (if t344 = t345 then ((chequerlaw04_as.f t310 t311 t312).bind fun bt346 => ((chequerlaw04_as.f t323 t324 t325).bind fun bt351 => ((chequerref03_Same.f k bt346.1 bt346.2.1 bt346.2.2 bt351.1 bt351.2.1 bt351.2.2).bind fun t356 => (if t356 = true then ((chequerlaw04_as.f t331 t332 t333).bind fun bt357 => ((chequerref03_Same.f k bt357.1 bt357.2.1 bt357.2.2 t290 t291 t292).bind fun t362 => (if t362 = true then ((chequerlaw04_lives.f k).bind fun t363 => (some t363)) else (some false)))) else (some false))))) else (some false)))) else (some false)) = some r := H
     have A68 := Aside0.mk A680
     clear A680
     have HQ4 := Aside0.mk H
     clear H
     refine pur_ (i := 17) (N := some 70) Fl81 (any_of HT_.out (by kernel_rfl)) ?_
     refine pur_ (i := 19) (N := some 72) #[true, true, true, true, true, true, true, true, true, true, true, true, true, true, true, true, true, true, false, true, false, false, false, false, false, false, false, false, false, false, false, false, false, false, false, false, false, false, false, false, false, false, false, false, false, false, false] (any_of HT_.out (by kernel_rfl)) ?_
     refine one_ (i := 18) (N := some 71) Fl82 rfl rfl (one_of HT_.out (by kernel_rfl)) (by decide) (fun K hK => ?_)
     refine goes_ Try.func25 (by kernel_rfl) rfl #[.int .i64 a1] (by rfl) rfl rfl (by (try simp only [List.map_toArray, List.map_cons, List.map_nil]); first | done | rfl | (simp only [List.length_drop, List.length_take]; rfl)) ?_
     with_reducible refine (turn_Back.calls k a1 t342 _ A67.out).mono ?_
     rintro e w' ⟨rfl, ⟨nd, rfl⟩⟩
     refine ⟨_, rfl, ?_⟩
     refine hK.out _ _ ⟨(blk_cell BK295.out 0).trans rfl, (blk_cell BK295.out 1).trans rfl, (blk_cell BK295.out 2).trans rfl, (blk_cell BK316.out 0).trans rfl, (blk_cell BK316.out 1).trans rfl, (blk_cell BK316.out 2).trans rfl, (blk_cell BK329.out 0).trans rfl, (blk_cell BK329.out 1).trans rfl, (blk_cell BK329.out 2).trans rfl, (blk_cell BK337.out 0).trans rfl, (blk_cell BK337.out 1).trans rfl, (blk_cell BK337.out 2).trans rfl⟩ (fun hHeld => ?_)
     clear hK K
     refine norm_ (a' := ?_) ?_ ?_
     rotate_left
     · show Act.put _ (some 71) _ = _
       simp only [Act.put, List.setIfInBounds_toArray, List.set_cons_zero, List.set_cons_succ, i64_w, i32_w]
       rfl
     refine one_ (i := 20) (N := some 73) Fl83 rfl rfl (one_of HT_.out (by kernel_rfl)) (by decide) (fun K hK => ?_)
     refine goes_ Try.func27 (by kernel_rfl) rfl #[.int .i64 a1] (by rfl) rfl rfl (by (try simp only [List.map_toArray, List.map_cons, List.map_nil]); first | done | rfl | (simp only [List.length_drop, List.length_take]; rfl)) ?_
     with_reducible refine (chequerref04_Back.calls k a1 t343 _ A68.out).mono ?_
     rintro e w85 ⟨rfl, hb⟩
     refine ⟨_, rfl, ?_⟩
     replace HO294 := Aside0.mk (Kd.R_below (rp_ HO294.out) hb)
     replace HO302 := Aside0.mk (Kd.V_below (vp_ HO302.out) hb)
     replace HO307 := Aside0.mk (Kd.R_below (rp_ HO307.out) hb)
     replace HO314 := Aside0.mk (Kd.R_below (rp_ HO314.out) hb)
     replace HO321 := Aside0.mk (Kd.V_below (vp_ HO321.out) hb)
     replace HO327 := Aside0.mk (Kd.R_below (rp_ HO327.out) hb)
     replace HO335 := Aside0.mk (Kd.R_below (rp_ HO335.out) hb)
     replace BK289 := Aside0.mk (blk_below (hp_ BK289.out) hb)
     replace BK295 := Aside0.mk (blk_below (hp_ BK295.out) hb)
     replace BK309 := Aside0.mk (blk_below (hp_ BK309.out) hb)
     replace BK316 := Aside0.mk (blk_below (hp_ BK316.out) hb)
     replace BK329 := Aside0.mk (blk_below (hp_ BK329.out) hb)
     replace BK337 := Aside0.mk (blk_below (hp_ BK337.out) hb)
     replace HB := Aside0.mk (below_step bp_ hb)
     (try clear hb)
     (try clear hb2)
     (try clear hk)
     (try clear hi)
     refine hK.out _ _ ⟨(blk_cell BK295.out 0).trans rfl, (blk_cell BK295.out 1).trans rfl, (blk_cell BK295.out 2).trans rfl, (blk_cell BK316.out 0).trans rfl, (blk_cell BK316.out 1).trans rfl, (blk_cell BK316.out 2).trans rfl, (blk_cell BK329.out 0).trans rfl, (blk_cell BK329.out 1).trans rfl, (blk_cell BK329.out 2).trans rfl, (blk_cell BK337.out 0).trans rfl, (blk_cell BK337.out 1).trans rfl, (blk_cell BK337.out 2).trans rfl⟩ (fun hHeld => ?_)
     clear hK K
     refine norm_ (a' := ?_) ?_ ?_
     rotate_left
     · show Act.put _ (some 73) _ = _
       simp only [Act.put, List.setIfInBounds_toArray, List.set_cons_zero, List.set_cons_succ, i64_w, i32_w]
       rfl
     refine pur_ (i := 21) (N := some 74) Fl84 (any_of HT_.out (by kernel_rfl)) ?_
     refine pur_ (i := 22) (N := some 75) Fl85 (any_of HT_.out (by kernel_rfl)) ?_
     refine pur_ (i := 23) (N := some 76) Fl86 (any_of HT_.out (by kernel_rfl)) ?_
     have H := HQ4.out
     clear HQ4
     by_cases c69 : t342 = t343
     · rw [if_pos c69] at H
       have c69b0 : (t342 == t343) = true := beq_iff_eq.mpr c69
       (first | rw [c69b0] | (simp only [i64_w, i32_w]; rw [c69b0]) | skip)
       have c69b1 : (t342 != t343) = false := bne_eq_false_iff_eq.mpr c69
       (first | rw [c69b1] | (simp only [i64_w, i32_w]; rw [c69b1]) | skip)
       clear c69
       replace H := Option.bind_eq_some_iff.mp H
       obtain ⟨t344, A700, H⟩ := H
       obtain rfl : t330 = t344 := Option.some.inj (A13.out.symm.trans A700)
       replace H : ((chequerref04_Back.f k t296).bind fun t345 => (if t330 = t345 then ((chequerlaw04_as.f t310 t311 t312).bind fun bt346 => ((chequerlaw04_as.f t323 t324 t325).bind fun bt351 => ((chequerref03_Same.f k bt346.1 bt346.2.1 bt346.2.2 bt351.1 bt351.2.1 bt351.2.2).bind fun t356 => (if t356 = true then ((chequerlaw04_as.f t331 t332 t333).bind fun bt357 => ((chequerref03_Same.f k bt357.1 bt357.2.1 bt357.2.2 t290 t291 t292).bind fun t362 => (if t362 = true then ((chequerlaw04_lives.f k).bind fun t363 => (some t363)) else (some false)))) else (some false))))) else (some false))) = some r := H
       have A70 := Aside0.mk A700
       clear A700
       replace H := Option.bind_eq_some_iff.mp H
       obtain ⟨t345, A710, H⟩ := H
       replace H : (if t330 = t345 then ((chequerlaw04_as.f t310 t311 t312).bind fun bt346 => ((chequerlaw04_as.f t323 t324 t325).bind fun bt351 => ((chequerref03_Same.f k bt346.1 bt346.2.1 bt346.2.2 bt351.1 bt351.2.1 bt351.2.2).bind fun t356 => (if t356 = true then ((chequerlaw04_as.f t331 t332 t333).bind fun bt357 => ((chequerref03_Same.f k bt357.1 bt357.2.1 bt357.2.2 t290 t291 t292).bind fun t362 => (if t362 = true then ((chequerlaw04_lives.f k).bind fun t363 => (some t363)) else (some false)))) else (some false))))) else (some false)) = some r := H
       have A71 := Aside0.mk A710
       clear A710
       have HQ3 := Aside0.mk H
       clear H
       refine pur_ (i := 24) (N := some 77) Fl74 (any_of HT_.out (by kernel_rfl)) ?_
       refine pur_ (i := 26) (N := some 79) #[true, true, true, true, true, true, true, true, true, true, true, true, true, true, true, true, true, true, true, true, true, true, true, true, true, false, true, false, false, false, false, false, false, false, false, false, false, false, false, false, false, false, false, false, false, false, false] (any_of HT_.out (by kernel_rfl)) ?_
       refine one_ (i := 25) (N := some 78) Fl75 rfl rfl (one_of HT_.out (by kernel_rfl)) (by decide) (fun K hK => ?_)
       refine goes_ Try.func25 (by kernel_rfl) rfl #[.int .i64 t296] (by rfl) rfl rfl (by (try simp only [List.map_toArray, List.map_cons, List.map_nil]); first | done | rfl | (simp only [List.length_drop, List.length_take]; rfl)) ?_
       with_reducible refine (turn_Back.calls k t296 t330 _ A70.out).mono ?_
       rintro e w' ⟨rfl, ⟨nd, rfl⟩⟩
       refine ⟨_, rfl, ?_⟩
       refine hK.out _ _ ⟨(blk_cell BK295.out 0).trans rfl, (blk_cell BK295.out 1).trans rfl, (blk_cell BK295.out 2).trans rfl, (blk_cell BK316.out 0).trans rfl, (blk_cell BK316.out 1).trans rfl, (blk_cell BK316.out 2).trans rfl, (blk_cell BK329.out 0).trans rfl, (blk_cell BK329.out 1).trans rfl, (blk_cell BK329.out 2).trans rfl, (blk_cell BK337.out 0).trans rfl, (blk_cell BK337.out 1).trans rfl, (blk_cell BK337.out 2).trans rfl⟩ (fun hHeld => ?_)
       clear hK K
       refine norm_ (a' := ?_) ?_ ?_
       rotate_left
       · show Act.put _ (some 78) _ = _
         simp only [Act.put, List.setIfInBounds_toArray, List.set_cons_zero, List.set_cons_succ, i64_w, i32_w]
         rfl
       refine one_ (i := 27) (N := some 80) Fl76 rfl rfl (one_of HT_.out (by kernel_rfl)) (by decide) (fun K hK => ?_)
       refine goes_ Try.func27 (by kernel_rfl) rfl #[.int .i64 t296] (by rfl) rfl rfl (by (try simp only [List.map_toArray, List.map_cons, List.map_nil]); first | done | rfl | (simp only [List.length_drop, List.length_take]; rfl)) ?_
       with_reducible refine (chequerref04_Back.calls k t296 t345 _ A71.out).mono ?_
       rintro e w86 ⟨rfl, hb⟩
       refine ⟨_, rfl, ?_⟩
       replace HO294 := Aside0.mk (Kd.R_below (rp_ HO294.out) hb)
       replace HO302 := Aside0.mk (Kd.V_below (vp_ HO302.out) hb)
       replace HO307 := Aside0.mk (Kd.R_below (rp_ HO307.out) hb)
       replace HO314 := Aside0.mk (Kd.R_below (rp_ HO314.out) hb)
       replace HO321 := Aside0.mk (Kd.V_below (vp_ HO321.out) hb)
       replace HO327 := Aside0.mk (Kd.R_below (rp_ HO327.out) hb)
       replace HO335 := Aside0.mk (Kd.R_below (rp_ HO335.out) hb)
       replace BK289 := Aside0.mk (blk_below (hp_ BK289.out) hb)
       replace BK295 := Aside0.mk (blk_below (hp_ BK295.out) hb)
       replace BK309 := Aside0.mk (blk_below (hp_ BK309.out) hb)
       replace BK316 := Aside0.mk (blk_below (hp_ BK316.out) hb)
       replace BK329 := Aside0.mk (blk_below (hp_ BK329.out) hb)
       replace BK337 := Aside0.mk (blk_below (hp_ BK337.out) hb)
       replace HB := Aside0.mk (below_step bp_ hb)
       (try clear hb)
       (try clear hb2)
       (try clear hk)
       (try clear hi)
       refine hK.out _ _ ⟨(blk_cell BK295.out 0).trans rfl, (blk_cell BK295.out 1).trans rfl, (blk_cell BK295.out 2).trans rfl, (blk_cell BK316.out 0).trans rfl, (blk_cell BK316.out 1).trans rfl, (blk_cell BK316.out 2).trans rfl, (blk_cell BK329.out 0).trans rfl, (blk_cell BK329.out 1).trans rfl, (blk_cell BK329.out 2).trans rfl, (blk_cell BK337.out 0).trans rfl, (blk_cell BK337.out 1).trans rfl, (blk_cell BK337.out 2).trans rfl⟩ (fun hHeld => ?_)
       clear hK K
       refine norm_ (a' := ?_) ?_ ?_
       rotate_left
       · show Act.put _ (some 80) _ = _
         simp only [Act.put, List.setIfInBounds_toArray, List.set_cons_zero, List.set_cons_succ, i64_w, i32_w]
         rfl
       refine pur_ (i := 28) (N := some 81) Fl77 (any_of HT_.out (by kernel_rfl)) ?_
       refine pur_ (i := 29) (N := some 82) Fl78 (any_of HT_.out (by kernel_rfl)) ?_
       refine pur_ (i := 30) (N := some 83) Fl79 (any_of HT_.out (by kernel_rfl)) ?_
       have H := HQ3.out
       clear HQ3
       by_cases c72 : t330 = t345
       · rw [if_pos c72] at H
         have c72b0 : (t330 == t345) = true := beq_iff_eq.mpr c72
         (first | rw [c72b0] | (simp only [i64_w, i32_w]; rw [c72b0]) | skip)
         have c72b1 : (t330 != t345) = false := bne_eq_false_iff_eq.mpr c72
         (first | rw [c72b1] | (simp only [i64_w, i32_w]; rw [c72b1]) | skip)
         clear c72
         replace H := Option.bind_eq_some_iff.mp H
         obtain ⟨⟨t346, t347, t348⟩, A730, H⟩ := H
         replace H : ((chequerlaw04_as.f t323 t324 t325).bind fun bt351 => ((chequerref03_Same.f k t346 t347 t348 bt351.1 bt351.2.1 bt351.2.2).bind fun t356 => (if t356 = true then ((chequerlaw04_as.f t331 t332 t333).bind fun bt357 => ((chequerref03_Same.f k bt357.1 bt357.2.1 bt357.2.2 t290 t291 t292).bind fun t362 => (if t362 = true then ((chequerlaw04_lives.f k).bind fun t363 => (some t363)) else (some false)))) else (some false)))) = some r := H
         have A73 := Aside0.mk A730
         clear A730
         replace H := Option.bind_eq_some_iff.mp H
         obtain ⟨⟨t351, t352, t353⟩, A740, H⟩ := H
         replace H : ((chequerref03_Same.f k t346 t347 t348 t351 t352 t353).bind fun t356 => (if t356 = true then ((chequerlaw04_as.f t331 t332 t333).bind fun bt357 => ((chequerref03_Same.f k bt357.1 bt357.2.1 bt357.2.2 t290 t291 t292).bind fun t362 => (if t362 = true then ((chequerlaw04_lives.f k).bind fun t363 => (some t363)) else (some false)))) else (some false))) = some r := H
         have A74 := Aside0.mk A740
         clear A740
         replace H := Option.bind_eq_some_iff.mp H
         obtain ⟨t356, A750, H⟩ := H
         replace H : (if t356 = true then ((chequerlaw04_as.f t331 t332 t333).bind fun bt357 => ((chequerref03_Same.f k bt357.1 bt357.2.1 bt357.2.2 t290 t291 t292).bind fun t362 => (if t362 = true then ((chequerlaw04_lives.f k).bind fun t363 => (some t363)) else (some false)))) else (some false)) = some r := H
         have A75 := Aside0.mk A750
         clear A750
         have HQ2 := Aside0.mk H
         clear H
         refine take_ (i := 31) (N := some 84) (v := ?_) (a' := ?_) Fl69 rfl rfl (take_ofW HT_.out HW_.out (by kernel_rfl)) (fun _ _ _ h => h) (Or.inl ⟨by rfl, ?_⟩) hHeld ?_ ?_
         rotate_left
         · rintro w' ⟨s0, s1, s2, s3, s4, s5, s6, s7, s8, s9, s10, s11⟩
           go_simp
           with_reducible rfl
         rotate_left
         · simp only [Act.put, List.setIfInBounds_toArray, List.set_cons_zero, List.set_cons_succ, i64_w, i32_w]
           rfl
         refine take_ (i := 33) (N := some 86) (v := ?_) (a' := ?_) #[true, true, true, true, true, true, true, true, true, true, true, true, true, true, true, true, true, true, true, true, true, true, true, true, true, true, true, true, true, true, true, true, false, true, false, false, false, false, false, false, false, false, false, false, false, false, false] rfl rfl (take_ofW HT_.out HW_.out (by kernel_rfl)) (fun _ _ _ h => h) (Or.inl ⟨by rfl, ?_⟩) hHeld ?_ ?_
         rotate_left
         · rintro w' ⟨s0, s1, s2, s3, s4, s5, s6, s7, s8, s9, s10, s11⟩
           go_simp
           with_reducible rfl
         rotate_left
         · simp only [Act.put, List.setIfInBounds_toArray, List.set_cons_zero, List.set_cons_succ, i64_w, i32_w]
           rfl
         refine one_ (i := 32) (N := some 85) Fl70 rfl rfl (one_of HT_.out (by kernel_rfl)) (by decide) (fun K hK => ?_)
         refine goes_ Try.func17 (by kernel_rfl) rfl #[.agg #[.int .i64 t310, .int .i64 t311, .slice Ao39 t312.length co39]] (by rfl) rfl rfl (by (try simp only [List.map_toArray, List.map_cons, List.map_nil]); first | done | rfl | (simp only [List.length_drop, List.length_take]; rfl)) ?_
         with_reducible refine (chequerlaw04_as.calls t310 t311 (fun k_ => some k_ = (.slice Ao39 t312.length co39 : Value).ownBlock) _ _ t312 t346 t347 t348 _ ?side1 A73.out).mono ?_
         (case side1 => exact Kd.R_V (Kd.R_tight rfl (Kd.R_types (Kd.R_types (Kd.R_types (Kd.R_types (Kd.R_types (Kd.R_types (HO314.out) BK289.out (by decide)) BK295.out (by decide)) BK309.out (by decide)) BK316.out (by decide)) BK329.out (by decide)) BK337.out (by decide))))
         rintro e w87 ⟨v349, rfl, ho0, hb⟩
         refine ⟨_, rfl, ?_⟩
         replace HO302 := Aside0.mk (Kd.V_below (vp_ HO302.out) hb)
         replace HO321 := Aside0.mk (Kd.V_below (vp_ HO321.out) hb)
         have HO350 := Aside0.mk (Kd.V_lower (Kd.V_mono (ok' := fun k_ => some k_ ≠ (.slice Ao22 t292.length co22 : Value).ownBlock ∧ some k_ ≠ (.slice Ao32 t305.length co32 : Value).ownBlock ∧ some k_ ≠ (.slice Ao51 t325.length co51 : Value).ownBlock ∧ some k_ ≠ (.slice Ao59 t333.length co59 : Value).ownBlock ∧ k_ ≠ gb289 ∧ k_ ≠ gb295 ∧ k_ ≠ gb309 ∧ k_ ≠ gb316 ∧ k_ ≠ gb329 ∧ k_ ≠ gb337) ho0 (fun k_ hk_ => ⟨Or.elim hk_ (fun hs_ => ((Kd.R_types (Kd.R_types (Kd.R_types (Kd.R_types (Kd.R_types (Kd.R_types (HO314.out) BK289.out (by decide)) BK295.out (by decide)) BK309.out (by decide)) BK316.out (by decide)) BK329.out (by decide)) BK337.out (by decide)).1 k_ hs_.symm).1.1.1.1.1.1.1) (fun hn_ => (Kd.fresh' (Kd.R_lt (rp_ HO294.out)) k_ hn_)), Or.elim hk_ (fun hs_ => ((Kd.R_types (Kd.R_types (Kd.R_types (Kd.R_types (Kd.R_types (Kd.R_types (HO314.out) BK289.out (by decide)) BK295.out (by decide)) BK309.out (by decide)) BK316.out (by decide)) BK329.out (by decide)) BK337.out (by decide)).1 k_ hs_.symm).1.1.1.1.1.1.2.1) (fun hn_ => (Kd.fresh' (Kd.R_lt (rp_ HO307.out)) k_ hn_)), Or.elim hk_ (fun hs_ => ((Kd.R_types (Kd.R_types (Kd.R_types (Kd.R_types (Kd.R_types (Kd.R_types (HO314.out) BK289.out (by decide)) BK295.out (by decide)) BK309.out (by decide)) BK316.out (by decide)) BK329.out (by decide)) BK337.out (by decide)).1 k_ hs_.symm).1.1.1.1.1.1.2.2.1) (fun hn_ => (Kd.fresh' (Kd.R_lt (rp_ HO327.out)) k_ hn_)), Or.elim hk_ (fun hs_ => ((Kd.R_types (Kd.R_types (Kd.R_types (Kd.R_types (Kd.R_types (Kd.R_types (HO314.out) BK289.out (by decide)) BK295.out (by decide)) BK309.out (by decide)) BK316.out (by decide)) BK329.out (by decide)) BK337.out (by decide)).1 k_ hs_.symm).1.1.1.1.1.1.2.2.2) (fun hn_ => (Kd.fresh' (Kd.R_lt (rp_ HO335.out)) k_ hn_)), Or.elim hk_ (fun hs_ => ((Kd.R_types (Kd.R_types (Kd.R_types (Kd.R_types (Kd.R_types (Kd.R_types (HO314.out) BK289.out (by decide)) BK295.out (by decide)) BK309.out (by decide)) BK316.out (by decide)) BK329.out (by decide)) BK337.out (by decide)).1 k_ hs_.symm).1.1.1.1.1.2) (fun hn_ => (Kd.freshB (g := gb289) (o := .cells #[.int .i64 a0_0, .int .i64 a0_1, .slice A0_2 l0_2.length c0_2] 24 (0, 0)) (hp_ BK289.out) k_ hn_)), Or.elim hk_ (fun hs_ => ((Kd.R_types (Kd.R_types (Kd.R_types (Kd.R_types (Kd.R_types (Kd.R_types (HO314.out) BK289.out (by decide)) BK295.out (by decide)) BK309.out (by decide)) BK316.out (by decide)) BK329.out (by decide)) BK337.out (by decide)).1 k_ hs_.symm).1.1.1.1.2) (fun hn_ => (Kd.freshB (g := gb295) (o := .cells #[.int .i64 t290, .int .i64 t291, .slice Ao22 t292.length co22] 24 (0, 0)) (hp_ BK295.out) k_ hn_)), Or.elim hk_ (fun hs_ => ((Kd.R_types (Kd.R_types (Kd.R_types (Kd.R_types (Kd.R_types (Kd.R_types (HO314.out) BK289.out (by decide)) BK295.out (by decide)) BK309.out (by decide)) BK316.out (by decide)) BK329.out (by decide)) BK337.out (by decide)).1 k_ hs_.symm).1.1.1.2) (fun hn_ => (Kd.freshB (g := gb309) (o := .cells #[.int .i64 t303, .int .i64 t304, .slice Ao32 t305.length co32] 26 (0, 0)) (hp_ BK309.out) k_ hn_)), Or.elim hk_ (fun hs_ => ((Kd.R_types (Kd.R_types (Kd.R_types (Kd.R_types (Kd.R_types (Kd.R_types (HO314.out) BK289.out (by decide)) BK295.out (by decide)) BK309.out (by decide)) BK316.out (by decide)) BK329.out (by decide)) BK337.out (by decide)).1 k_ hs_.symm).1.1.2) (fun hn_ => (Kd.freshB (g := gb316) (o := .cells #[.int .i64 t310, .int .i64 t311, .slice Ao39 t312.length co39] 26 (0, 0)) (hp_ BK316.out) k_ hn_)), Or.elim hk_ (fun hs_ => ((Kd.R_types (Kd.R_types (Kd.R_types (Kd.R_types (Kd.R_types (Kd.R_types (HO314.out) BK289.out (by decide)) BK295.out (by decide)) BK309.out (by decide)) BK316.out (by decide)) BK329.out (by decide)) BK337.out (by decide)).1 k_ hs_.symm).1.2) (fun hn_ => (Kd.freshB (g := gb329) (o := .cells #[.int .i64 t323, .int .i64 t324, .slice Ao51 t325.length co51] 26 (0, 0)) (hp_ BK329.out) k_ hn_)), Or.elim hk_ (fun hs_ => ((Kd.R_types (Kd.R_types (Kd.R_types (Kd.R_types (Kd.R_types (Kd.R_types (HO314.out) BK289.out (by decide)) BK295.out (by decide)) BK309.out (by decide)) BK316.out (by decide)) BK329.out (by decide)) BK337.out (by decide)).1 k_ hs_.symm).2) (fun hn_ => (Kd.freshB (g := gb337) (o := .cells #[.int .i64 t331, .int .i64 t332, .slice Ao59 t333.length co59] 26 (0, 0)) (hp_ BK337.out) k_ hn_))⟩)) (below_size bp_))
         replace HO294 := Aside0.mk (Kd.R_below (rp_ HO294.out) hb)
         replace HO307 := Aside0.mk (Kd.R_below (rp_ HO307.out) hb)
         replace HO314 := Aside0.mk (Kd.R_below (rp_ HO314.out) hb)
         replace HO327 := Aside0.mk (Kd.R_below (rp_ HO327.out) hb)
         replace HO335 := Aside0.mk (Kd.R_below (rp_ HO335.out) hb)
         replace BK289 := Aside0.mk (blk_below (hp_ BK289.out) hb)
         replace BK295 := Aside0.mk (blk_below (hp_ BK295.out) hb)
         replace BK309 := Aside0.mk (blk_below (hp_ BK309.out) hb)
         replace BK316 := Aside0.mk (blk_below (hp_ BK316.out) hb)
         replace BK329 := Aside0.mk (blk_below (hp_ BK329.out) hb)
         replace BK337 := Aside0.mk (blk_below (hp_ BK337.out) hb)
         replace HB := Aside0.mk (below_step bp_ hb)
         (try clear hb)
         (try clear hb2)
         (try clear hk)
         (try clear hi)
         (try clear ho0)
         refine hK.out _ _ ⟨(blk_cell BK295.out 0).trans rfl, (blk_cell BK295.out 1).trans rfl, (blk_cell BK295.out 2).trans rfl, (blk_cell BK316.out 0).trans rfl, (blk_cell BK316.out 1).trans rfl, (blk_cell BK316.out 2).trans rfl, (blk_cell BK329.out 0).trans rfl, (blk_cell BK329.out 1).trans rfl, (blk_cell BK329.out 2).trans rfl, (blk_cell BK337.out 0).trans rfl, (blk_cell BK337.out 1).trans rfl, (blk_cell BK337.out 2).trans rfl⟩ (fun hHeld => ?_)
         clear hK K
         refine norm_ (a' := ?_) ?_ ?_
         rotate_left
         · show Act.put _ (some 85) _ = _
           simp only [Act.put, List.setIfInBounds_toArray, List.set_cons_zero, List.set_cons_succ, i64_w, i32_w]
           rfl
         refine one_ (i := 34) (N := some 87) Fl71 rfl rfl (one_of HT_.out (by kernel_rfl)) (by decide) (fun K hK => ?_)
         refine goes_ Try.func17 (by kernel_rfl) rfl #[.agg #[.int .i64 t323, .int .i64 t324, .slice Ao51 t325.length co51]] (by rfl) rfl rfl (by (try simp only [List.map_toArray, List.map_cons, List.map_nil]); first | done | rfl | (simp only [List.length_drop, List.length_take]; rfl)) ?_
         with_reducible refine (chequerlaw04_as.calls t323 t324 (fun k_ => some k_ = (.slice Ao51 t325.length co51 : Value).ownBlock) _ _ t325 t351 t352 t353 _ ?side1 A74.out).mono ?_
         (case side1 => exact Kd.R_V (Kd.R_tight rfl (Kd.R_types (Kd.R_types (Kd.R_types (Kd.R_types (Kd.R_types (Kd.R_types (HO327.out) BK289.out (by decide)) BK295.out (by decide)) BK309.out (by decide)) BK316.out (by decide)) BK329.out (by decide)) BK337.out (by decide))))
         rintro e w88 ⟨v354, rfl, ho0, hb⟩
         refine ⟨_, rfl, ?_⟩
         replace HO302 := Aside0.mk (Kd.V_below (vp_ HO302.out) hb)
         replace HO321 := Aside0.mk (Kd.V_below (vp_ HO321.out) hb)
         replace HO350 := Aside0.mk (Kd.V_below (vp_ HO350.out) hb)
         have HO355 := Aside0.mk (Kd.V_lower (Kd.V_mono (ok' := fun k_ => some k_ ≠ (.slice Ao22 t292.length co22 : Value).ownBlock ∧ some k_ ≠ (.slice Ao32 t305.length co32 : Value).ownBlock ∧ some k_ ≠ (.slice Ao39 t312.length co39 : Value).ownBlock ∧ some k_ ≠ (.slice Ao59 t333.length co59 : Value).ownBlock ∧ k_ ≠ gb289 ∧ k_ ≠ gb295 ∧ k_ ≠ gb309 ∧ k_ ≠ gb316 ∧ k_ ≠ gb329 ∧ k_ ≠ gb337) ho0 (fun k_ hk_ => ⟨Or.elim hk_ (fun hs_ => ((Kd.R_types (Kd.R_types (Kd.R_types (Kd.R_types (Kd.R_types (Kd.R_types (HO327.out) BK289.out (by decide)) BK295.out (by decide)) BK309.out (by decide)) BK316.out (by decide)) BK329.out (by decide)) BK337.out (by decide)).1 k_ hs_.symm).1.1.1.1.1.1.1) (fun hn_ => (Kd.fresh' (Kd.R_lt (rp_ HO294.out)) k_ hn_)), Or.elim hk_ (fun hs_ => ((Kd.R_types (Kd.R_types (Kd.R_types (Kd.R_types (Kd.R_types (Kd.R_types (HO327.out) BK289.out (by decide)) BK295.out (by decide)) BK309.out (by decide)) BK316.out (by decide)) BK329.out (by decide)) BK337.out (by decide)).1 k_ hs_.symm).1.1.1.1.1.1.2.1) (fun hn_ => (Kd.fresh' (Kd.R_lt (rp_ HO307.out)) k_ hn_)), Or.elim hk_ (fun hs_ => ((Kd.R_types (Kd.R_types (Kd.R_types (Kd.R_types (Kd.R_types (Kd.R_types (HO327.out) BK289.out (by decide)) BK295.out (by decide)) BK309.out (by decide)) BK316.out (by decide)) BK329.out (by decide)) BK337.out (by decide)).1 k_ hs_.symm).1.1.1.1.1.1.2.2.1) (fun hn_ => (Kd.fresh' (Kd.R_lt (rp_ HO314.out)) k_ hn_)), Or.elim hk_ (fun hs_ => ((Kd.R_types (Kd.R_types (Kd.R_types (Kd.R_types (Kd.R_types (Kd.R_types (HO327.out) BK289.out (by decide)) BK295.out (by decide)) BK309.out (by decide)) BK316.out (by decide)) BK329.out (by decide)) BK337.out (by decide)).1 k_ hs_.symm).1.1.1.1.1.1.2.2.2) (fun hn_ => (Kd.fresh' (Kd.R_lt (rp_ HO335.out)) k_ hn_)), Or.elim hk_ (fun hs_ => ((Kd.R_types (Kd.R_types (Kd.R_types (Kd.R_types (Kd.R_types (Kd.R_types (HO327.out) BK289.out (by decide)) BK295.out (by decide)) BK309.out (by decide)) BK316.out (by decide)) BK329.out (by decide)) BK337.out (by decide)).1 k_ hs_.symm).1.1.1.1.1.2) (fun hn_ => (Kd.freshB (g := gb289) (o := .cells #[.int .i64 a0_0, .int .i64 a0_1, .slice A0_2 l0_2.length c0_2] 24 (0, 0)) (hp_ BK289.out) k_ hn_)), Or.elim hk_ (fun hs_ => ((Kd.R_types (Kd.R_types (Kd.R_types (Kd.R_types (Kd.R_types (Kd.R_types (HO327.out) BK289.out (by decide)) BK295.out (by decide)) BK309.out (by decide)) BK316.out (by decide)) BK329.out (by decide)) BK337.out (by decide)).1 k_ hs_.symm).1.1.1.1.2) (fun hn_ => (Kd.freshB (g := gb295) (o := .cells #[.int .i64 t290, .int .i64 t291, .slice Ao22 t292.length co22] 24 (0, 0)) (hp_ BK295.out) k_ hn_)), Or.elim hk_ (fun hs_ => ((Kd.R_types (Kd.R_types (Kd.R_types (Kd.R_types (Kd.R_types (Kd.R_types (HO327.out) BK289.out (by decide)) BK295.out (by decide)) BK309.out (by decide)) BK316.out (by decide)) BK329.out (by decide)) BK337.out (by decide)).1 k_ hs_.symm).1.1.1.2) (fun hn_ => (Kd.freshB (g := gb309) (o := .cells #[.int .i64 t303, .int .i64 t304, .slice Ao32 t305.length co32] 26 (0, 0)) (hp_ BK309.out) k_ hn_)), Or.elim hk_ (fun hs_ => ((Kd.R_types (Kd.R_types (Kd.R_types (Kd.R_types (Kd.R_types (Kd.R_types (HO327.out) BK289.out (by decide)) BK295.out (by decide)) BK309.out (by decide)) BK316.out (by decide)) BK329.out (by decide)) BK337.out (by decide)).1 k_ hs_.symm).1.1.2) (fun hn_ => (Kd.freshB (g := gb316) (o := .cells #[.int .i64 t310, .int .i64 t311, .slice Ao39 t312.length co39] 26 (0, 0)) (hp_ BK316.out) k_ hn_)), Or.elim hk_ (fun hs_ => ((Kd.R_types (Kd.R_types (Kd.R_types (Kd.R_types (Kd.R_types (Kd.R_types (HO327.out) BK289.out (by decide)) BK295.out (by decide)) BK309.out (by decide)) BK316.out (by decide)) BK329.out (by decide)) BK337.out (by decide)).1 k_ hs_.symm).1.2) (fun hn_ => (Kd.freshB (g := gb329) (o := .cells #[.int .i64 t323, .int .i64 t324, .slice Ao51 t325.length co51] 26 (0, 0)) (hp_ BK329.out) k_ hn_)), Or.elim hk_ (fun hs_ => ((Kd.R_types (Kd.R_types (Kd.R_types (Kd.R_types (Kd.R_types (Kd.R_types (HO327.out) BK289.out (by decide)) BK295.out (by decide)) BK309.out (by decide)) BK316.out (by decide)) BK329.out (by decide)) BK337.out (by decide)).1 k_ hs_.symm).2) (fun hn_ => (Kd.freshB (g := gb337) (o := .cells #[.int .i64 t331, .int .i64 t332, .slice Ao59 t333.length co59] 26 (0, 0)) (hp_ BK337.out) k_ hn_))⟩)) (below_size bp_))
         replace HO294 := Aside0.mk (Kd.R_below (rp_ HO294.out) hb)
         replace HO307 := Aside0.mk (Kd.R_below (rp_ HO307.out) hb)
         replace HO314 := Aside0.mk (Kd.R_below (rp_ HO314.out) hb)
         replace HO327 := Aside0.mk (Kd.R_below (rp_ HO327.out) hb)
         replace HO335 := Aside0.mk (Kd.R_below (rp_ HO335.out) hb)
         replace BK289 := Aside0.mk (blk_below (hp_ BK289.out) hb)
         replace BK295 := Aside0.mk (blk_below (hp_ BK295.out) hb)
         replace BK309 := Aside0.mk (blk_below (hp_ BK309.out) hb)
         replace BK316 := Aside0.mk (blk_below (hp_ BK316.out) hb)
         replace BK329 := Aside0.mk (blk_below (hp_ BK329.out) hb)
         replace BK337 := Aside0.mk (blk_below (hp_ BK337.out) hb)
         replace HB := Aside0.mk (below_step bp_ hb)
         (try clear hb)
         (try clear hb2)
         (try clear hk)
         (try clear hi)
         (try clear ho0)
         obtain ⟨Ao89, co89, eo89⟩ := Kd.V_slice HO350.out
         (first | subst eo89 | (injection eo89 with f1_ f2_ f3_; have f4_ := f1_.symm; have f5_ := f3_.symm; clear f1_ f2_ f3_; subst f4_; subst f5_))
         obtain ⟨Ao90, co90, eo90⟩ := Kd.V_slice HO355.out
         (first | subst eo90 | (injection eo90 with f1_ f2_ f3_; have f4_ := f1_.symm; have f5_ := f3_.symm; clear f1_ f2_ f3_; subst f4_; subst f5_))
         refine hK.out _ _ ⟨(blk_cell BK295.out 0).trans rfl, (blk_cell BK295.out 1).trans rfl, (blk_cell BK295.out 2).trans rfl, (blk_cell BK316.out 0).trans rfl, (blk_cell BK316.out 1).trans rfl, (blk_cell BK316.out 2).trans rfl, (blk_cell BK329.out 0).trans rfl, (blk_cell BK329.out 1).trans rfl, (blk_cell BK329.out 2).trans rfl, (blk_cell BK337.out 0).trans rfl, (blk_cell BK337.out 1).trans rfl, (blk_cell BK337.out 2).trans rfl⟩ (fun hHeld => ?_)
         clear hK K
         refine norm_ (a' := ?_) ?_ ?_
         rotate_left
         · show Act.put _ (some 87) _ = _
           simp only [Act.put, List.setIfInBounds_toArray, List.set_cons_zero, List.set_cons_succ, i64_w, i32_w]
           rfl
         have H := HQ2.out
         clear HQ2
         by_cases c76 : t356 = true
         · subst c76
           have H1 : ((chequerlaw04_as.f t331 t332 t333).bind fun bt357 => ((chequerref03_Same.f k bt357.1 bt357.2.1 bt357.2.2 t290 t291 t292).bind fun t362 => (if t362 = true then ((chequerlaw04_lives.f k).bind fun t363 => (some t363)) else (some false)))) = some r := by rw [if_pos rfl] at H; exact H
           clear H
           have H := H1
           clear H1
           replace H := Option.bind_eq_some_iff.mp H
           obtain ⟨⟨t357, t358, t359⟩, A770, H⟩ := H
           replace H : ((chequerref03_Same.f k t357 t358 t359 t290 t291 t292).bind fun t362 => (if t362 = true then ((chequerlaw04_lives.f k).bind fun t363 => (some t363)) else (some false))) = some r := H
           have A77 := Aside0.mk A770
           clear A770
           replace H := Option.bind_eq_some_iff.mp H
           obtain ⟨t362, A780, H⟩ := H
           replace H : (if t362 = true then ((chequerlaw04_lives.f k).bind fun t363 => (some t363)) else (some false)) = some r := H
           have A78 := Aside0.mk A780
           clear A780
           have HQ1 := Aside0.mk H
           clear H
           refine one_ (i := 35) (N := some 88) Fl64 rfl rfl (one_of HT_.out (by kernel_rfl)) (by decide) (fun K hK => ?_)
           refine goes_ Try.func16 (by kernel_rfl) rfl #[.agg #[.int .i64 t346, .int .i64 t347, .slice Ao89 t348.length co89], .agg #[.int .i64 t351, .int .i64 t352, .slice Ao90 t353.length co90]] (by rfl) rfl rfl (by (try simp only [List.map_toArray, List.map_cons, List.map_nil]); first | done | rfl | (simp only [List.length_drop, List.length_take]; rfl)) ?_
           with_reducible refine (chequerref03_Same.calls k t346 t347 _ _ t348 t351 t352 _ _ t353 true _ ?side1 ?side2 ?side3 ?side4 A75.out).mono ?_
           (case side1 => exact cp_ (Kd.V_reads' HO350.out).2.2)
           (case side2 => exact (Kd.V_reads' HO350.out).2.1)
           (case side3 => exact cp_ (Kd.V_reads' HO355.out).2.2)
           (case side4 => exact (Kd.V_reads' HO355.out).2.1)
           rintro e w91 ⟨rfl, hb⟩
           refine ⟨_, rfl, ?_⟩
           replace HO294 := Aside0.mk (Kd.R_below (rp_ HO294.out) hb)
           replace HO302 := Aside0.mk (Kd.V_below (vp_ HO302.out) hb)
           replace HO307 := Aside0.mk (Kd.R_below (rp_ HO307.out) hb)
           replace HO314 := Aside0.mk (Kd.R_below (rp_ HO314.out) hb)
           replace HO321 := Aside0.mk (Kd.V_below (vp_ HO321.out) hb)
           replace HO327 := Aside0.mk (Kd.R_below (rp_ HO327.out) hb)
           replace HO335 := Aside0.mk (Kd.R_below (rp_ HO335.out) hb)
           replace HO350 := Aside0.mk (Kd.V_below (vp_ HO350.out) hb)
           replace HO355 := Aside0.mk (Kd.V_below (vp_ HO355.out) hb)
           replace BK289 := Aside0.mk (blk_below (hp_ BK289.out) hb)
           replace BK295 := Aside0.mk (blk_below (hp_ BK295.out) hb)
           replace BK309 := Aside0.mk (blk_below (hp_ BK309.out) hb)
           replace BK316 := Aside0.mk (blk_below (hp_ BK316.out) hb)
           replace BK329 := Aside0.mk (blk_below (hp_ BK329.out) hb)
           replace BK337 := Aside0.mk (blk_below (hp_ BK337.out) hb)
           replace HB := Aside0.mk (below_step bp_ hb)
           (try clear hb)
           (try clear hb2)
           (try clear hk)
           (try clear hi)
           refine hK.out _ _ ⟨(blk_cell BK295.out 0).trans rfl, (blk_cell BK295.out 1).trans rfl, (blk_cell BK295.out 2).trans rfl, (blk_cell BK316.out 0).trans rfl, (blk_cell BK316.out 1).trans rfl, (blk_cell BK316.out 2).trans rfl, (blk_cell BK329.out 0).trans rfl, (blk_cell BK329.out 1).trans rfl, (blk_cell BK329.out 2).trans rfl, (blk_cell BK337.out 0).trans rfl, (blk_cell BK337.out 1).trans rfl, (blk_cell BK337.out 2).trans rfl⟩ (fun hHeld => ?_)
           clear hK K
           refine norm_ (a' := ?_) ?_ ?_
           rotate_left
           · show Act.put _ (some 88) _ = _
             simp only [Act.put, List.setIfInBounds_toArray, List.set_cons_zero, List.set_cons_succ, i64_w, i32_w]
             rfl
           refine pur_ (i := 36) (N := some 89) Fl65 (any_of HT_.out (by kernel_rfl)) ?_
           refine pur_ (i := 37) (N := some 90) Fl66 (any_of HT_.out (by kernel_rfl)) ?_
           refine take_ (i := 38) (N := some 91) (v := ?_) (a' := ?_) Fl67 rfl rfl (take_ofW HT_.out HW_.out (by kernel_rfl)) (fun _ _ _ h => h) (Or.inl ⟨by rfl, ?_⟩) hHeld ?_ ?_
           rotate_left
           · rintro w' ⟨s0, s1, s2, s3, s4, s5, s6, s7, s8, s9, s10, s11⟩
             go_simp
             with_reducible rfl
           rotate_left
           · simp only [Act.put, List.setIfInBounds_toArray, List.set_cons_zero, List.set_cons_succ, i64_w, i32_w]
             rfl
           refine take_ (i := 40) (N := some 93) (v := ?_) (a' := ?_) #[true, true, true, true, true, true, true, true, true, true, true, true, true, true, true, true, true, true, true, true, true, true, true, true, true, true, true, true, true, true, true, true, true, true, true, true, true, true, true, false, true, false, false, false, false, false, false] rfl rfl (take_ofW HT_.out HW_.out (by kernel_rfl)) (fun _ _ _ h => h) (Or.inl ⟨by rfl, ?_⟩) hHeld ?_ ?_
           rotate_left
           · rintro w' ⟨s0, s1, s2, s3, s4, s5, s6, s7, s8, s9, s10, s11⟩
             go_simp
             with_reducible rfl
           rotate_left
           · simp only [Act.put, List.setIfInBounds_toArray, List.set_cons_zero, List.set_cons_succ, i64_w, i32_w]
             rfl
           refine one_ (i := 39) (N := some 92) Fl68 rfl rfl (one_of HT_.out (by kernel_rfl)) (by decide) (fun K hK => ?_)
           refine goes_ Try.func17 (by kernel_rfl) rfl #[.agg #[.int .i64 t331, .int .i64 t332, .slice Ao59 t333.length co59]] (by rfl) rfl rfl (by (try simp only [List.map_toArray, List.map_cons, List.map_nil]); first | done | rfl | (simp only [List.length_drop, List.length_take]; rfl)) ?_
           with_reducible refine (chequerlaw04_as.calls t331 t332 (fun k_ => some k_ = (.slice Ao59 t333.length co59 : Value).ownBlock) _ _ t333 t357 t358 t359 _ ?side1 A77.out).mono ?_
           (case side1 => exact Kd.R_V (Kd.R_tight rfl (Kd.R_types (Kd.R_types (Kd.R_types (Kd.R_types (Kd.R_types (Kd.R_types (HO335.out) BK289.out (by decide)) BK295.out (by decide)) BK309.out (by decide)) BK316.out (by decide)) BK329.out (by decide)) BK337.out (by decide))))
           rintro e w92 ⟨v360, rfl, ho0, hb⟩
           refine ⟨_, rfl, ?_⟩
           replace HO302 := Aside0.mk (Kd.V_below (vp_ HO302.out) hb)
           replace HO321 := Aside0.mk (Kd.V_below (vp_ HO321.out) hb)
           replace HO350 := Aside0.mk (Kd.V_below (vp_ HO350.out) hb)
           replace HO355 := Aside0.mk (Kd.V_below (vp_ HO355.out) hb)
           have HO361 := Aside0.mk (Kd.V_lower (Kd.V_mono (ok' := fun k_ => some k_ ≠ (.slice Ao22 t292.length co22 : Value).ownBlock ∧ some k_ ≠ (.slice Ao32 t305.length co32 : Value).ownBlock ∧ some k_ ≠ (.slice Ao39 t312.length co39 : Value).ownBlock ∧ some k_ ≠ (.slice Ao51 t325.length co51 : Value).ownBlock ∧ k_ ≠ gb289 ∧ k_ ≠ gb295 ∧ k_ ≠ gb309 ∧ k_ ≠ gb316 ∧ k_ ≠ gb329 ∧ k_ ≠ gb337) ho0 (fun k_ hk_ => ⟨Or.elim hk_ (fun hs_ => ((Kd.R_types (Kd.R_types (Kd.R_types (Kd.R_types (Kd.R_types (Kd.R_types (HO335.out) BK289.out (by decide)) BK295.out (by decide)) BK309.out (by decide)) BK316.out (by decide)) BK329.out (by decide)) BK337.out (by decide)).1 k_ hs_.symm).1.1.1.1.1.1.1) (fun hn_ => (Kd.fresh' (Kd.R_lt (rp_ HO294.out)) k_ hn_)), Or.elim hk_ (fun hs_ => ((Kd.R_types (Kd.R_types (Kd.R_types (Kd.R_types (Kd.R_types (Kd.R_types (HO335.out) BK289.out (by decide)) BK295.out (by decide)) BK309.out (by decide)) BK316.out (by decide)) BK329.out (by decide)) BK337.out (by decide)).1 k_ hs_.symm).1.1.1.1.1.1.2.1) (fun hn_ => (Kd.fresh' (Kd.R_lt (rp_ HO307.out)) k_ hn_)), Or.elim hk_ (fun hs_ => ((Kd.R_types (Kd.R_types (Kd.R_types (Kd.R_types (Kd.R_types (Kd.R_types (HO335.out) BK289.out (by decide)) BK295.out (by decide)) BK309.out (by decide)) BK316.out (by decide)) BK329.out (by decide)) BK337.out (by decide)).1 k_ hs_.symm).1.1.1.1.1.1.2.2.1) (fun hn_ => (Kd.fresh' (Kd.R_lt (rp_ HO314.out)) k_ hn_)), Or.elim hk_ (fun hs_ => ((Kd.R_types (Kd.R_types (Kd.R_types (Kd.R_types (Kd.R_types (Kd.R_types (HO335.out) BK289.out (by decide)) BK295.out (by decide)) BK309.out (by decide)) BK316.out (by decide)) BK329.out (by decide)) BK337.out (by decide)).1 k_ hs_.symm).1.1.1.1.1.1.2.2.2) (fun hn_ => (Kd.fresh' (Kd.R_lt (rp_ HO327.out)) k_ hn_)), Or.elim hk_ (fun hs_ => ((Kd.R_types (Kd.R_types (Kd.R_types (Kd.R_types (Kd.R_types (Kd.R_types (HO335.out) BK289.out (by decide)) BK295.out (by decide)) BK309.out (by decide)) BK316.out (by decide)) BK329.out (by decide)) BK337.out (by decide)).1 k_ hs_.symm).1.1.1.1.1.2) (fun hn_ => (Kd.freshB (g := gb289) (o := .cells #[.int .i64 a0_0, .int .i64 a0_1, .slice A0_2 l0_2.length c0_2] 24 (0, 0)) (hp_ BK289.out) k_ hn_)), Or.elim hk_ (fun hs_ => ((Kd.R_types (Kd.R_types (Kd.R_types (Kd.R_types (Kd.R_types (Kd.R_types (HO335.out) BK289.out (by decide)) BK295.out (by decide)) BK309.out (by decide)) BK316.out (by decide)) BK329.out (by decide)) BK337.out (by decide)).1 k_ hs_.symm).1.1.1.1.2) (fun hn_ => (Kd.freshB (g := gb295) (o := .cells #[.int .i64 t290, .int .i64 t291, .slice Ao22 t292.length co22] 24 (0, 0)) (hp_ BK295.out) k_ hn_)), Or.elim hk_ (fun hs_ => ((Kd.R_types (Kd.R_types (Kd.R_types (Kd.R_types (Kd.R_types (Kd.R_types (HO335.out) BK289.out (by decide)) BK295.out (by decide)) BK309.out (by decide)) BK316.out (by decide)) BK329.out (by decide)) BK337.out (by decide)).1 k_ hs_.symm).1.1.1.2) (fun hn_ => (Kd.freshB (g := gb309) (o := .cells #[.int .i64 t303, .int .i64 t304, .slice Ao32 t305.length co32] 26 (0, 0)) (hp_ BK309.out) k_ hn_)), Or.elim hk_ (fun hs_ => ((Kd.R_types (Kd.R_types (Kd.R_types (Kd.R_types (Kd.R_types (Kd.R_types (HO335.out) BK289.out (by decide)) BK295.out (by decide)) BK309.out (by decide)) BK316.out (by decide)) BK329.out (by decide)) BK337.out (by decide)).1 k_ hs_.symm).1.1.2) (fun hn_ => (Kd.freshB (g := gb316) (o := .cells #[.int .i64 t310, .int .i64 t311, .slice Ao39 t312.length co39] 26 (0, 0)) (hp_ BK316.out) k_ hn_)), Or.elim hk_ (fun hs_ => ((Kd.R_types (Kd.R_types (Kd.R_types (Kd.R_types (Kd.R_types (Kd.R_types (HO335.out) BK289.out (by decide)) BK295.out (by decide)) BK309.out (by decide)) BK316.out (by decide)) BK329.out (by decide)) BK337.out (by decide)).1 k_ hs_.symm).1.2) (fun hn_ => (Kd.freshB (g := gb329) (o := .cells #[.int .i64 t323, .int .i64 t324, .slice Ao51 t325.length co51] 26 (0, 0)) (hp_ BK329.out) k_ hn_)), Or.elim hk_ (fun hs_ => ((Kd.R_types (Kd.R_types (Kd.R_types (Kd.R_types (Kd.R_types (Kd.R_types (HO335.out) BK289.out (by decide)) BK295.out (by decide)) BK309.out (by decide)) BK316.out (by decide)) BK329.out (by decide)) BK337.out (by decide)).1 k_ hs_.symm).2) (fun hn_ => (Kd.freshB (g := gb337) (o := .cells #[.int .i64 t331, .int .i64 t332, .slice Ao59 t333.length co59] 26 (0, 0)) (hp_ BK337.out) k_ hn_))⟩)) (below_size bp_))
           replace HO294 := Aside0.mk (Kd.R_below (rp_ HO294.out) hb)
           replace HO307 := Aside0.mk (Kd.R_below (rp_ HO307.out) hb)
           replace HO314 := Aside0.mk (Kd.R_below (rp_ HO314.out) hb)
           replace HO327 := Aside0.mk (Kd.R_below (rp_ HO327.out) hb)
           replace HO335 := Aside0.mk (Kd.R_below (rp_ HO335.out) hb)
           replace BK289 := Aside0.mk (blk_below (hp_ BK289.out) hb)
           replace BK295 := Aside0.mk (blk_below (hp_ BK295.out) hb)
           replace BK309 := Aside0.mk (blk_below (hp_ BK309.out) hb)
           replace BK316 := Aside0.mk (blk_below (hp_ BK316.out) hb)
           replace BK329 := Aside0.mk (blk_below (hp_ BK329.out) hb)
           replace BK337 := Aside0.mk (blk_below (hp_ BK337.out) hb)
           replace HB := Aside0.mk (below_step bp_ hb)
           (try clear hb)
           (try clear hb2)
           (try clear hk)
           (try clear hi)
           (try clear ho0)
           obtain ⟨Ao93, co93, eo93⟩ := Kd.V_slice HO361.out
           (first | subst eo93 | (injection eo93 with f1_ f2_ f3_; have f4_ := f1_.symm; have f5_ := f3_.symm; clear f1_ f2_ f3_; subst f4_; subst f5_))
           refine hK.out _ _ ⟨(blk_cell BK295.out 0).trans rfl, (blk_cell BK295.out 1).trans rfl, (blk_cell BK295.out 2).trans rfl, (blk_cell BK316.out 0).trans rfl, (blk_cell BK316.out 1).trans rfl, (blk_cell BK316.out 2).trans rfl, (blk_cell BK329.out 0).trans rfl, (blk_cell BK329.out 1).trans rfl, (blk_cell BK329.out 2).trans rfl, (blk_cell BK337.out 0).trans rfl, (blk_cell BK337.out 1).trans rfl, (blk_cell BK337.out 2).trans rfl⟩ (fun hHeld => ?_)
           clear hK K
           refine norm_ (a' := ?_) ?_ ?_
           rotate_left
           · show Act.put _ (some 92) _ = _
             simp only [Act.put, List.setIfInBounds_toArray, List.set_cons_zero, List.set_cons_succ, i64_w, i32_w]
             rfl
           have H := HQ1.out
           clear HQ1
           by_cases c79 : t362 = true
           · subst c79
             have H1 : ((chequerlaw04_lives.f k).bind fun t363 => (some t363)) = some r := by rw [if_pos rfl] at H; exact H
             clear H
             have H := H1
             clear H1
             replace H := Option.bind_eq_some_iff.mp H
             obtain ⟨t363, A800, H⟩ := H
             replace H : (some t363) = some r := H
             have A80 := Aside0.mk A800
             clear A800
             obtain rfl := Option.some.inj H
             refine one_ (i := 41) (N := some 94) Fl58 rfl rfl (one_of HT_.out (by kernel_rfl)) (by decide) (fun K hK => ?_)
             refine goes_ Try.func16 (by kernel_rfl) rfl #[.agg #[.int .i64 t357, .int .i64 t358, .slice Ao93 t359.length co93], .agg #[.int .i64 t290, .int .i64 t291, .slice Ao22 t292.length co22]] (by rfl) rfl rfl (by (try simp only [List.map_toArray, List.map_cons, List.map_nil]); first | done | rfl | (simp only [List.length_drop, List.length_take]; rfl)) ?_
             with_reducible refine (chequerref03_Same.calls k t357 t358 _ _ t359 t290 t291 _ _ t292 true _ ?side1 ?side2 ?side3 ?side4 A78.out).mono ?_
             (case side1 => exact cp_ (Kd.V_reads' HO361.out).2.2)
             (case side2 => exact (Kd.V_reads' HO361.out).2.1)
             (case side3 => exact cp_ (Kd.R_reads' HO294.out).2.2)
             (case side4 => exact (Kd.R_reads' HO294.out).2.1)
             rintro e w94 ⟨rfl, hb⟩
             refine ⟨_, rfl, ?_⟩
             replace HO294 := Aside0.mk (Kd.R_below (rp_ HO294.out) hb)
             replace HO302 := Aside0.mk (Kd.V_below (vp_ HO302.out) hb)
             replace HO307 := Aside0.mk (Kd.R_below (rp_ HO307.out) hb)
             replace HO314 := Aside0.mk (Kd.R_below (rp_ HO314.out) hb)
             replace HO321 := Aside0.mk (Kd.V_below (vp_ HO321.out) hb)
             replace HO327 := Aside0.mk (Kd.R_below (rp_ HO327.out) hb)
             replace HO335 := Aside0.mk (Kd.R_below (rp_ HO335.out) hb)
             replace HO350 := Aside0.mk (Kd.V_below (vp_ HO350.out) hb)
             replace HO355 := Aside0.mk (Kd.V_below (vp_ HO355.out) hb)
             replace HO361 := Aside0.mk (Kd.V_below (vp_ HO361.out) hb)
             replace BK289 := Aside0.mk (blk_below (hp_ BK289.out) hb)
             replace BK295 := Aside0.mk (blk_below (hp_ BK295.out) hb)
             replace BK309 := Aside0.mk (blk_below (hp_ BK309.out) hb)
             replace BK316 := Aside0.mk (blk_below (hp_ BK316.out) hb)
             replace BK329 := Aside0.mk (blk_below (hp_ BK329.out) hb)
             replace BK337 := Aside0.mk (blk_below (hp_ BK337.out) hb)
             replace HB := Aside0.mk (below_step bp_ hb)
             (try clear hb)
             (try clear hb2)
             (try clear hk)
             (try clear hi)
             refine hK.out _ _ ⟨(blk_cell BK295.out 0).trans rfl, (blk_cell BK295.out 1).trans rfl, (blk_cell BK295.out 2).trans rfl, (blk_cell BK316.out 0).trans rfl, (blk_cell BK316.out 1).trans rfl, (blk_cell BK316.out 2).trans rfl, (blk_cell BK329.out 0).trans rfl, (blk_cell BK329.out 1).trans rfl, (blk_cell BK329.out 2).trans rfl, (blk_cell BK337.out 0).trans rfl, (blk_cell BK337.out 1).trans rfl, (blk_cell BK337.out 2).trans rfl⟩ (fun hHeld => ?_)
             clear hK K
             refine norm_ (a' := ?_) ?_ ?_
             rotate_left
             · show Act.put _ (some 94) _ = _
               simp only [Act.put, List.setIfInBounds_toArray, List.set_cons_zero, List.set_cons_succ, i64_w, i32_w]
               rfl
             refine pur_ (i := 42) (N := some 95) Fl59 (any_of HT_.out (by kernel_rfl)) ?_
             refine pur_ (i := 43) (N := some 96) Fl60 (any_of HT_.out (by kernel_rfl)) ?_
             refine one_ (i := 44) (N := some 97) Fl61 rfl rfl (one_of HT_.out (by kernel_rfl)) (by decide) (fun K hK => ?_)
             refine goes_ Try.func22 (by kernel_rfl) rfl #[] (by rfl) rfl rfl (by (try simp only [List.map_toArray, List.map_cons, List.map_nil]); first | done | rfl | (simp only [List.length_drop, List.length_take]; rfl)) ?_
             with_reducible refine (chequerlaw04_lives.calls k  t363 _ A80.out).mono ?_
             rintro e w95 ⟨rfl, hb⟩
             refine ⟨_, rfl, ?_⟩
             replace HO294 := Aside0.mk (Kd.R_below (rp_ HO294.out) hb)
             replace HO302 := Aside0.mk (Kd.V_below (vp_ HO302.out) hb)
             replace HO307 := Aside0.mk (Kd.R_below (rp_ HO307.out) hb)
             replace HO314 := Aside0.mk (Kd.R_below (rp_ HO314.out) hb)
             replace HO321 := Aside0.mk (Kd.V_below (vp_ HO321.out) hb)
             replace HO327 := Aside0.mk (Kd.R_below (rp_ HO327.out) hb)
             replace HO335 := Aside0.mk (Kd.R_below (rp_ HO335.out) hb)
             replace HO350 := Aside0.mk (Kd.V_below (vp_ HO350.out) hb)
             replace HO355 := Aside0.mk (Kd.V_below (vp_ HO355.out) hb)
             replace HO361 := Aside0.mk (Kd.V_below (vp_ HO361.out) hb)
             replace BK289 := Aside0.mk (blk_below (hp_ BK289.out) hb)
             replace BK295 := Aside0.mk (blk_below (hp_ BK295.out) hb)
             replace BK309 := Aside0.mk (blk_below (hp_ BK309.out) hb)
             replace BK316 := Aside0.mk (blk_below (hp_ BK316.out) hb)
             replace BK329 := Aside0.mk (blk_below (hp_ BK329.out) hb)
             replace BK337 := Aside0.mk (blk_below (hp_ BK337.out) hb)
             replace HB := Aside0.mk (below_step bp_ hb)
             (try clear hb)
             (try clear hb2)
             (try clear hk)
             (try clear hi)
             refine hK.out _ _ ⟨(blk_cell BK295.out 0).trans rfl, (blk_cell BK295.out 1).trans rfl, (blk_cell BK295.out 2).trans rfl, (blk_cell BK316.out 0).trans rfl, (blk_cell BK316.out 1).trans rfl, (blk_cell BK316.out 2).trans rfl, (blk_cell BK329.out 0).trans rfl, (blk_cell BK329.out 1).trans rfl, (blk_cell BK329.out 2).trans rfl, (blk_cell BK337.out 0).trans rfl, (blk_cell BK337.out 1).trans rfl, (blk_cell BK337.out 2).trans rfl⟩ (fun hHeld => ?_)
             clear hK K
             refine norm_ (a' := ?_) ?_ ?_
             rotate_left
             · show Act.put _ (some 97) _ = _
               simp only [Act.put, List.setIfInBounds_toArray, List.set_cons_zero, List.set_cons_succ, i64_w, i32_w]
               rfl
             refine pur_ (i := 45) (N := some 98) Fl62 (any_of HT_.out (by kernel_rfl)) ?_
             refine pur_ (i := 46) (N := some 6) Fl63 (any_of HT_.out (by kernel_rfl)) ?_
             refine done_ (done_of HT_.out (by kernel_rfl)) ?_
             try go_wp2
             go_ret
             exact ⟨by first | rfl | (simp [errW_none, errW_some] <;> rfl) | (simp [*, errW_none, errW_some] <;> rfl), bp_⟩
           · replace c79 := Bool.eq_false_iff.mpr c79
             subst c79
             have H1 : (some false) = some r := by rw [if_neg (show ¬ (false = true) by decide)] at H; exact H
             clear H
             have H := H1
             clear H1
             obtain rfl := Option.some.inj H
             refine one_ (i := 41) (N := some 94) Fl58 rfl rfl (one_of HT_.out (by kernel_rfl)) (by decide) (fun K hK => ?_)
             refine goes_ Try.func16 (by kernel_rfl) rfl #[.agg #[.int .i64 t357, .int .i64 t358, .slice Ao93 t359.length co93], .agg #[.int .i64 t290, .int .i64 t291, .slice Ao22 t292.length co22]] (by rfl) rfl rfl (by (try simp only [List.map_toArray, List.map_cons, List.map_nil]); first | done | rfl | (simp only [List.length_drop, List.length_take]; rfl)) ?_
             with_reducible refine (chequerref03_Same.calls k t357 t358 _ _ t359 t290 t291 _ _ t292 false _ ?side1 ?side2 ?side3 ?side4 A78.out).mono ?_
             (case side1 => exact cp_ (Kd.V_reads' HO361.out).2.2)
             (case side2 => exact (Kd.V_reads' HO361.out).2.1)
             (case side3 => exact cp_ (Kd.R_reads' HO294.out).2.2)
             (case side4 => exact (Kd.R_reads' HO294.out).2.1)
             rintro e w109 ⟨rfl, hb⟩
             refine ⟨_, rfl, ?_⟩
             replace HO294 := Aside0.mk (Kd.R_below (rp_ HO294.out) hb)
             replace HO302 := Aside0.mk (Kd.V_below (vp_ HO302.out) hb)
             replace HO307 := Aside0.mk (Kd.R_below (rp_ HO307.out) hb)
             replace HO314 := Aside0.mk (Kd.R_below (rp_ HO314.out) hb)
             replace HO321 := Aside0.mk (Kd.V_below (vp_ HO321.out) hb)
             replace HO327 := Aside0.mk (Kd.R_below (rp_ HO327.out) hb)
             replace HO335 := Aside0.mk (Kd.R_below (rp_ HO335.out) hb)
             replace HO350 := Aside0.mk (Kd.V_below (vp_ HO350.out) hb)
             replace HO355 := Aside0.mk (Kd.V_below (vp_ HO355.out) hb)
             replace HO361 := Aside0.mk (Kd.V_below (vp_ HO361.out) hb)
             replace BK289 := Aside0.mk (blk_below (hp_ BK289.out) hb)
             replace BK295 := Aside0.mk (blk_below (hp_ BK295.out) hb)
             replace BK309 := Aside0.mk (blk_below (hp_ BK309.out) hb)
             replace BK316 := Aside0.mk (blk_below (hp_ BK316.out) hb)
             replace BK329 := Aside0.mk (blk_below (hp_ BK329.out) hb)
             replace BK337 := Aside0.mk (blk_below (hp_ BK337.out) hb)
             replace HB := Aside0.mk (below_step bp_ hb)
             (try clear hb)
             (try clear hb2)
             (try clear hk)
             (try clear hi)
             refine hK.out _ _ ⟨(blk_cell BK295.out 0).trans rfl, (blk_cell BK295.out 1).trans rfl, (blk_cell BK295.out 2).trans rfl, (blk_cell BK316.out 0).trans rfl, (blk_cell BK316.out 1).trans rfl, (blk_cell BK316.out 2).trans rfl, (blk_cell BK329.out 0).trans rfl, (blk_cell BK329.out 1).trans rfl, (blk_cell BK329.out 2).trans rfl, (blk_cell BK337.out 0).trans rfl, (blk_cell BK337.out 1).trans rfl, (blk_cell BK337.out 2).trans rfl⟩ (fun hHeld => ?_)
             clear hK K
             refine norm_ (a' := ?_) ?_ ?_
             rotate_left
             · show Act.put _ (some 94) _ = _
               simp only [Act.put, List.setIfInBounds_toArray, List.set_cons_zero, List.set_cons_succ, i64_w, i32_w]
               rfl
             refine pur_ (i := 42) (N := some 95) Fl59 (any_of HT_.out (by kernel_rfl)) ?_
             refine pur_ (i := 43) (N := some 96) Fl60 (any_of HT_.out (by kernel_rfl)) ?_
             refine pun_ (i := 44) (N := some 97) Fl61 (any_of HT_.out (by kernel_rfl)) ?_
             refine pur_ (i := 45) (N := some 98) Fl62 (any_of HT_.out (by kernel_rfl)) ?_
             refine pur_ (i := 46) (N := some 6) Fl63 (any_of HT_.out (by kernel_rfl)) ?_
             refine done_ (done_of HT_.out (by kernel_rfl)) ?_
             try go_wp2
             go_ret
             exact ⟨by first | rfl | (simp [errW_none, errW_some] <;> rfl) | (simp [*, errW_none, errW_some] <;> rfl), bp_⟩
         · replace c76 := Bool.eq_false_iff.mpr c76
           subst c76
           have H1 : (some false) = some r := by rw [if_neg (show ¬ (false = true) by decide)] at H; exact H
           clear H
           have H := H1
           clear H1
           obtain rfl := Option.some.inj H
           refine one_ (i := 35) (N := some 88) Fl64 rfl rfl (one_of HT_.out (by kernel_rfl)) (by decide) (fun K hK => ?_)
           refine goes_ Try.func16 (by kernel_rfl) rfl #[.agg #[.int .i64 t346, .int .i64 t347, .slice Ao89 t348.length co89], .agg #[.int .i64 t351, .int .i64 t352, .slice Ao90 t353.length co90]] (by rfl) rfl rfl (by (try simp only [List.map_toArray, List.map_cons, List.map_nil]); first | done | rfl | (simp only [List.length_drop, List.length_take]; rfl)) ?_
           with_reducible refine (chequerref03_Same.calls k t346 t347 _ _ t348 t351 t352 _ _ t353 false _ ?side1 ?side2 ?side3 ?side4 A75.out).mono ?_
           (case side1 => exact cp_ (Kd.V_reads' HO350.out).2.2)
           (case side2 => exact (Kd.V_reads' HO350.out).2.1)
           (case side3 => exact cp_ (Kd.V_reads' HO355.out).2.2)
           (case side4 => exact (Kd.V_reads' HO355.out).2.1)
           rintro e w120 ⟨rfl, hb⟩
           refine ⟨_, rfl, ?_⟩
           replace HO294 := Aside0.mk (Kd.R_below (rp_ HO294.out) hb)
           replace HO302 := Aside0.mk (Kd.V_below (vp_ HO302.out) hb)
           replace HO307 := Aside0.mk (Kd.R_below (rp_ HO307.out) hb)
           replace HO314 := Aside0.mk (Kd.R_below (rp_ HO314.out) hb)
           replace HO321 := Aside0.mk (Kd.V_below (vp_ HO321.out) hb)
           replace HO327 := Aside0.mk (Kd.R_below (rp_ HO327.out) hb)
           replace HO335 := Aside0.mk (Kd.R_below (rp_ HO335.out) hb)
           replace HO350 := Aside0.mk (Kd.V_below (vp_ HO350.out) hb)
           replace HO355 := Aside0.mk (Kd.V_below (vp_ HO355.out) hb)
           replace BK289 := Aside0.mk (blk_below (hp_ BK289.out) hb)
           replace BK295 := Aside0.mk (blk_below (hp_ BK295.out) hb)
           replace BK309 := Aside0.mk (blk_below (hp_ BK309.out) hb)
           replace BK316 := Aside0.mk (blk_below (hp_ BK316.out) hb)
           replace BK329 := Aside0.mk (blk_below (hp_ BK329.out) hb)
           replace BK337 := Aside0.mk (blk_below (hp_ BK337.out) hb)
           replace HB := Aside0.mk (below_step bp_ hb)
           (try clear hb)
           (try clear hb2)
           (try clear hk)
           (try clear hi)
           refine hK.out _ _ ⟨(blk_cell BK295.out 0).trans rfl, (blk_cell BK295.out 1).trans rfl, (blk_cell BK295.out 2).trans rfl, (blk_cell BK316.out 0).trans rfl, (blk_cell BK316.out 1).trans rfl, (blk_cell BK316.out 2).trans rfl, (blk_cell BK329.out 0).trans rfl, (blk_cell BK329.out 1).trans rfl, (blk_cell BK329.out 2).trans rfl, (blk_cell BK337.out 0).trans rfl, (blk_cell BK337.out 1).trans rfl, (blk_cell BK337.out 2).trans rfl⟩ (fun hHeld => ?_)
           clear hK K
           refine norm_ (a' := ?_) ?_ ?_
           rotate_left
           · show Act.put _ (some 88) _ = _
             simp only [Act.put, List.setIfInBounds_toArray, List.set_cons_zero, List.set_cons_succ, i64_w, i32_w]
             rfl
           refine pur_ (i := 36) (N := some 89) Fl65 (any_of HT_.out (by kernel_rfl)) ?_
           refine pur_ (i := 37) (N := some 90) Fl66 (any_of HT_.out (by kernel_rfl)) ?_
           refine pun_ (i := 38) (N := some 91) Fl67 (any_of HT_.out (by kernel_rfl)) ?_
           refine pun_ (i := 39) (N := some 92) Fl72 (any_of HT_.out (by kernel_rfl)) ?_
           refine pun_ (i := 40) (N := some 93) Fl68 (any_of HT_.out (by kernel_rfl)) ?_
           refine pun_ (i := 41) (N := some 94) Fl58 (any_of HT_.out (by kernel_rfl)) ?_
           refine pur_ (i := 42) (N := some 95) Fl59 (any_of HT_.out (by kernel_rfl)) ?_
           refine pur_ (i := 43) (N := some 96) Fl60 (any_of HT_.out (by kernel_rfl)) ?_
           refine pun_ (i := 44) (N := some 97) Fl61 (any_of HT_.out (by kernel_rfl)) ?_
           refine pur_ (i := 45) (N := some 98) Fl62 (any_of HT_.out (by kernel_rfl)) ?_
           refine pur_ (i := 46) (N := some 6) Fl63 (any_of HT_.out (by kernel_rfl)) ?_
           refine done_ (done_of HT_.out (by kernel_rfl)) ?_
           try go_wp2
           go_ret
           exact ⟨by first | rfl | (simp [errW_none, errW_some] <;> rfl) | (simp [*, errW_none, errW_some] <;> rfl), bp_⟩
       · rw [if_neg c72] at H
         have c72b0 : (t330 == t345) = false := beq_eq_false_iff_ne.mpr c72
         (first | rw [c72b0] | (simp only [i64_w, i32_w]; rw [c72b0]) | skip)
         have c72b1 : (t330 != t345) = true := bne_iff_ne.mpr c72
         (first | rw [c72b1] | (simp only [i64_w, i32_w]; rw [c72b1]) | skip)
         obtain rfl := Option.some.inj H
         refine pun_ (i := 31) (N := some 84) Fl69 (any_of HT_.out (by kernel_rfl)) ?_
         refine pun_ (i := 32) (N := some 85) Fl80 (any_of HT_.out (by kernel_rfl)) ?_
         refine pun_ (i := 33) (N := some 86) Fl70 (any_of HT_.out (by kernel_rfl)) ?_
         refine pun_ (i := 34) (N := some 87) Fl71 (any_of HT_.out (by kernel_rfl)) ?_
         refine pun_ (i := 35) (N := some 88) Fl64 (any_of HT_.out (by kernel_rfl)) ?_
         refine pur_ (i := 36) (N := some 89) Fl65 (any_of HT_.out (by kernel_rfl)) ?_
         refine pur_ (i := 37) (N := some 90) Fl66 (any_of HT_.out (by kernel_rfl)) ?_
         refine pun_ (i := 38) (N := some 91) Fl67 (any_of HT_.out (by kernel_rfl)) ?_
         refine pun_ (i := 39) (N := some 92) Fl72 (any_of HT_.out (by kernel_rfl)) ?_
         refine pun_ (i := 40) (N := some 93) Fl68 (any_of HT_.out (by kernel_rfl)) ?_
         refine pun_ (i := 41) (N := some 94) Fl58 (any_of HT_.out (by kernel_rfl)) ?_
         refine pur_ (i := 42) (N := some 95) Fl59 (any_of HT_.out (by kernel_rfl)) ?_
         refine pur_ (i := 43) (N := some 96) Fl60 (any_of HT_.out (by kernel_rfl)) ?_
         refine pun_ (i := 44) (N := some 97) Fl61 (any_of HT_.out (by kernel_rfl)) ?_
         refine pur_ (i := 45) (N := some 98) Fl62 (any_of HT_.out (by kernel_rfl)) ?_
         refine pur_ (i := 46) (N := some 6) Fl63 (any_of HT_.out (by kernel_rfl)) ?_
         refine done_ (done_of HT_.out (by kernel_rfl)) ?_
         try go_wp2
         go_ret
         exact ⟨by first | rfl | (simp [errW_none, errW_some] <;> rfl) | (simp [*, errW_none, errW_some] <;> rfl), bp_⟩
     · rw [if_neg c69] at H
       have c69b0 : (t342 == t343) = false := beq_eq_false_iff_ne.mpr c69
       (first | rw [c69b0] | (simp only [i64_w, i32_w]; rw [c69b0]) | skip)
       have c69b1 : (t342 != t343) = true := bne_iff_ne.mpr c69
       (first | rw [c69b1] | (simp only [i64_w, i32_w]; rw [c69b1]) | skip)
       obtain rfl := Option.some.inj H
       refine pun_ (i := 24) (N := some 77) Fl74 (any_of HT_.out (by kernel_rfl)) ?_
       refine pun_ (i := 25) (N := some 78) Fl87 (any_of HT_.out (by kernel_rfl)) ?_
       refine pun_ (i := 26) (N := some 79) Fl75 (any_of HT_.out (by kernel_rfl)) ?_
       refine pun_ (i := 27) (N := some 80) Fl76 (any_of HT_.out (by kernel_rfl)) ?_
       refine pun_ (i := 28) (N := some 81) Fl77 (any_of HT_.out (by kernel_rfl)) ?_
       refine pur_ (i := 29) (N := some 82) Fl78 (any_of HT_.out (by kernel_rfl)) ?_
       refine pur_ (i := 30) (N := some 83) Fl79 (any_of HT_.out (by kernel_rfl)) ?_
       refine pun_ (i := 31) (N := some 84) Fl69 (any_of HT_.out (by kernel_rfl)) ?_
       refine pun_ (i := 32) (N := some 85) Fl80 (any_of HT_.out (by kernel_rfl)) ?_
       refine pun_ (i := 33) (N := some 86) Fl70 (any_of HT_.out (by kernel_rfl)) ?_
       refine pun_ (i := 34) (N := some 87) Fl71 (any_of HT_.out (by kernel_rfl)) ?_
       refine pun_ (i := 35) (N := some 88) Fl64 (any_of HT_.out (by kernel_rfl)) ?_
       refine pur_ (i := 36) (N := some 89) Fl65 (any_of HT_.out (by kernel_rfl)) ?_
       refine pur_ (i := 37) (N := some 90) Fl66 (any_of HT_.out (by kernel_rfl)) ?_
       refine pun_ (i := 38) (N := some 91) Fl67 (any_of HT_.out (by kernel_rfl)) ?_
       refine pun_ (i := 39) (N := some 92) Fl72 (any_of HT_.out (by kernel_rfl)) ?_
       refine pun_ (i := 40) (N := some 93) Fl68 (any_of HT_.out (by kernel_rfl)) ?_
       refine pun_ (i := 41) (N := some 94) Fl58 (any_of HT_.out (by kernel_rfl)) ?_
       refine pur_ (i := 42) (N := some 95) Fl59 (any_of HT_.out (by kernel_rfl)) ?_
       refine pur_ (i := 43) (N := some 96) Fl60 (any_of HT_.out (by kernel_rfl)) ?_
       refine pun_ (i := 44) (N := some 97) Fl61 (any_of HT_.out (by kernel_rfl)) ?_
       refine pur_ (i := 45) (N := some 98) Fl62 (any_of HT_.out (by kernel_rfl)) ?_
       refine pur_ (i := 46) (N := some 6) Fl63 (any_of HT_.out (by kernel_rfl)) ?_
       refine done_ (done_of HT_.out (by kernel_rfl)) ?_
       try go_wp2
       go_ret
       exact ⟨by first | rfl | (simp [errW_none, errW_some] <;> rfl) | (simp [*, errW_none, errW_some] <;> rfl), bp_⟩
   · rw [if_neg c66] at H
     have c66b0 : (t322 == t341) = false := beq_eq_false_iff_ne.mpr c66
     (first | rw [c66b0] | (simp only [i64_w, i32_w]; rw [c66b0]) | skip)
     have c66b1 : (t322 != t341) = true := bne_iff_ne.mpr c66
     (first | rw [c66b1] | (simp only [i64_w, i32_w]; rw [c66b1]) | skip)
     obtain rfl := Option.some.inj H
     refine pun_ (i := 17) (N := some 70) Fl81 (any_of HT_.out (by kernel_rfl)) ?_
     refine pun_ (i := 18) (N := some 71) Fl99 (any_of HT_.out (by kernel_rfl)) ?_
     refine pun_ (i := 19) (N := some 72) Fl82 (any_of HT_.out (by kernel_rfl)) ?_
     refine pun_ (i := 20) (N := some 73) Fl83 (any_of HT_.out (by kernel_rfl)) ?_
     refine pun_ (i := 21) (N := some 74) Fl84 (any_of HT_.out (by kernel_rfl)) ?_
     refine pur_ (i := 22) (N := some 75) Fl85 (any_of HT_.out (by kernel_rfl)) ?_
     refine pur_ (i := 23) (N := some 76) Fl86 (any_of HT_.out (by kernel_rfl)) ?_
     refine pun_ (i := 24) (N := some 77) Fl74 (any_of HT_.out (by kernel_rfl)) ?_
     refine pun_ (i := 25) (N := some 78) Fl87 (any_of HT_.out (by kernel_rfl)) ?_
     refine pun_ (i := 26) (N := some 79) Fl75 (any_of HT_.out (by kernel_rfl)) ?_
     refine pun_ (i := 27) (N := some 80) Fl76 (any_of HT_.out (by kernel_rfl)) ?_
     refine pun_ (i := 28) (N := some 81) Fl77 (any_of HT_.out (by kernel_rfl)) ?_
     refine pur_ (i := 29) (N := some 82) Fl78 (any_of HT_.out (by kernel_rfl)) ?_
     refine pur_ (i := 30) (N := some 83) Fl79 (any_of HT_.out (by kernel_rfl)) ?_
     refine pun_ (i := 31) (N := some 84) Fl69 (any_of HT_.out (by kernel_rfl)) ?_
     refine pun_ (i := 32) (N := some 85) Fl80 (any_of HT_.out (by kernel_rfl)) ?_
     refine pun_ (i := 33) (N := some 86) Fl70 (any_of HT_.out (by kernel_rfl)) ?_
     refine pun_ (i := 34) (N := some 87) Fl71 (any_of HT_.out (by kernel_rfl)) ?_
     refine pun_ (i := 35) (N := some 88) Fl64 (any_of HT_.out (by kernel_rfl)) ?_
     refine pur_ (i := 36) (N := some 89) Fl65 (any_of HT_.out (by kernel_rfl)) ?_
     refine pur_ (i := 37) (N := some 90) Fl66 (any_of HT_.out (by kernel_rfl)) ?_
     refine pun_ (i := 38) (N := some 91) Fl67 (any_of HT_.out (by kernel_rfl)) ?_
     refine pun_ (i := 39) (N := some 92) Fl72 (any_of HT_.out (by kernel_rfl)) ?_
     refine pun_ (i := 40) (N := some 93) Fl68 (any_of HT_.out (by kernel_rfl)) ?_
     refine pun_ (i := 41) (N := some 94) Fl58 (any_of HT_.out (by kernel_rfl)) ?_
     refine pur_ (i := 42) (N := some 95) Fl59 (any_of HT_.out (by kernel_rfl)) ?_
     refine pur_ (i := 43) (N := some 96) Fl60 (any_of HT_.out (by kernel_rfl)) ?_
     refine pun_ (i := 44) (N := some 97) Fl61 (any_of HT_.out (by kernel_rfl)) ?_
     refine pur_ (i := 45) (N := some 98) Fl62 (any_of HT_.out (by kernel_rfl)) ?_
     refine pur_ (i := 46) (N := some 6) Fl63 (any_of HT_.out (by kernel_rfl)) ?_
     refine done_ (done_of HT_.out (by kernel_rfl)) ?_
     try go_wp2
     go_ret
     exact ⟨by first | rfl | (simp [errW_none, errW_some] <;> rfl) | (simp [*, errW_none, errW_some] <;> rfl), bp_⟩
 · rw [if_neg c63] at H
   have c63b0 : (t338 == t339) = false := beq_eq_false_iff_ne.mpr c63
   have c63b1 : (t338 != t339) = true := bne_iff_ne.mpr c63
   (first | rw [c63b1] | (simp only [i64_w, i32_w]; rw [c63b1]) | skip)
   (first | rw [c63b0] | (simp only [i64_w, i32_w]; rw [c63b0]) | skip)
   obtain rfl := Option.some.inj H
   refine pun_ (i := 8) (N := some 61) Fl92 (any_of HT_.out (by kernel_rfl)) ?_
   refine pun_ (i := 9) (N := some 62) Fl93 (any_of HT_.out (by kernel_rfl)) ?_
   refine pun_ (i := 10) (N := some 63) #[true, true, true, true, true, true, true, true, true, true, true, false, false, false, false, false, false, false, false, false, false, false, false, false, false, false, false, false, false, false, false, false, false, false, false, false, false, false, false, false, false, false, false, false, false, false, false] (any_of HT_.out (by kernel_rfl)) ?_
   refine pun_ (i := 11) (N := some 64) #[true, true, true, true, true, true, true, true, true, true, true, true, false, false, false, false, false, false, false, false, false, false, false, false, false, false, false, false, false, false, false, false, false, false, false, false, false, false, false, false, false, false, false, false, false, false, false] (any_of HT_.out (by kernel_rfl)) ?_
   refine pun_ (i := 12) (N := some 65) Fl94 (any_of HT_.out (by kernel_rfl)) ?_
   refine pun_ (i := 13) (N := some 66) Fl95 (any_of HT_.out (by kernel_rfl)) ?_
   refine pun_ (i := 14) (N := some 67) Fl96 (any_of HT_.out (by kernel_rfl)) ?_
   refine pur_ (i := 15) (N := some 68) Fl97 (any_of HT_.out (by kernel_rfl)) ?_
   refine pur_ (i := 16) (N := some 69) Fl98 (any_of HT_.out (by kernel_rfl)) ?_
   refine pun_ (i := 17) (N := some 70) Fl81 (any_of HT_.out (by kernel_rfl)) ?_
   refine pun_ (i := 18) (N := some 71) Fl99 (any_of HT_.out (by kernel_rfl)) ?_
   refine pun_ (i := 19) (N := some 72) Fl82 (any_of HT_.out (by kernel_rfl)) ?_
   refine pun_ (i := 20) (N := some 73) Fl83 (any_of HT_.out (by kernel_rfl)) ?_
   refine pun_ (i := 21) (N := some 74) Fl84 (any_of HT_.out (by kernel_rfl)) ?_
   refine pur_ (i := 22) (N := some 75) Fl85 (any_of HT_.out (by kernel_rfl)) ?_
   refine pur_ (i := 23) (N := some 76) Fl86 (any_of HT_.out (by kernel_rfl)) ?_
   refine pun_ (i := 24) (N := some 77) Fl74 (any_of HT_.out (by kernel_rfl)) ?_
   refine pun_ (i := 25) (N := some 78) Fl87 (any_of HT_.out (by kernel_rfl)) ?_
   refine pun_ (i := 26) (N := some 79) Fl75 (any_of HT_.out (by kernel_rfl)) ?_
   refine pun_ (i := 27) (N := some 80) Fl76 (any_of HT_.out (by kernel_rfl)) ?_
   refine pun_ (i := 28) (N := some 81) Fl77 (any_of HT_.out (by kernel_rfl)) ?_
   refine pur_ (i := 29) (N := some 82) Fl78 (any_of HT_.out (by kernel_rfl)) ?_
   refine pur_ (i := 30) (N := some 83) Fl79 (any_of HT_.out (by kernel_rfl)) ?_
   refine pun_ (i := 31) (N := some 84) Fl69 (any_of HT_.out (by kernel_rfl)) ?_
   refine pun_ (i := 32) (N := some 85) Fl80 (any_of HT_.out (by kernel_rfl)) ?_
   refine pun_ (i := 33) (N := some 86) Fl70 (any_of HT_.out (by kernel_rfl)) ?_
   refine pun_ (i := 34) (N := some 87) Fl71 (any_of HT_.out (by kernel_rfl)) ?_
   refine pun_ (i := 35) (N := some 88) Fl64 (any_of HT_.out (by kernel_rfl)) ?_
   refine pur_ (i := 36) (N := some 89) Fl65 (any_of HT_.out (by kernel_rfl)) ?_
   refine pur_ (i := 37) (N := some 90) Fl66 (any_of HT_.out (by kernel_rfl)) ?_
   refine pun_ (i := 38) (N := some 91) Fl67 (any_of HT_.out (by kernel_rfl)) ?_
   refine pun_ (i := 39) (N := some 92) Fl72 (any_of HT_.out (by kernel_rfl)) ?_
   refine pun_ (i := 40) (N := some 93) Fl68 (any_of HT_.out (by kernel_rfl)) ?_
   refine pun_ (i := 41) (N := some 94) Fl58 (any_of HT_.out (by kernel_rfl)) ?_
   refine pur_ (i := 42) (N := some 95) Fl59 (any_of HT_.out (by kernel_rfl)) ?_
   refine pur_ (i := 43) (N := some 96) Fl60 (any_of HT_.out (by kernel_rfl)) ?_
   refine pun_ (i := 44) (N := some 97) Fl61 (any_of HT_.out (by kernel_rfl)) ?_
   refine pur_ (i := 45) (N := some 98) Fl62 (any_of HT_.out (by kernel_rfl)) ?_
   refine pur_ (i := 46) (N := some 6) Fl63 (any_of HT_.out (by kernel_rfl)) ?_
   refine done_ (done_of HT_.out (by kernel_rfl)) ?_
   try go_wp2
   go_ret
   exact ⟨by first | rfl | (simp [errW_none, errW_some] <;> rfl) | (simp [*, errW_none, errW_some] <;> rfl), bp_⟩

/-- THE ONE PURE STATEMENT of chequerlaw04_TurnThen. -/
def chequerlaw04_TurnThen.Pure : Prop := ∀ (a0_0 : Int) (a0_1 : Int) (l0_2 : List Int) (a1 : Int) (a2 : Int), (Lit.int .i64 a0_0).wf = true → (Lit.int .i64 a0_1).wf = true → l0_2.length ≤ maxLen → (∀ x ∈ l0_2, (Lit.int .u64 x).wf = true) → (Lit.int .i64 a1).wf = true → (Lit.int .i64 a2).wf = true → ∃ k, chequerlaw04_TurnThen.f k a0_0 a0_1 l0_2 a1 a2 = some true
theorem chequerlaw04_TurnThen.walk (P : chequerlaw04_TurnThen.Pure) (a0_0 : Int) (a0_1 : Int) (a0_2 : Option Addr) (len0_2 cap0_2 : Nat) (z0_2 : List Int) (a1 : Int) (a2 : Int) (w : World) (w0_0 : (Lit.int .i64 a0_0).wf = true) (w0_1 : (Lit.int .i64 a0_1).wf = true) (w0_2 : (a0_2 = none ∧ len0_2 = 0 ∧ cap0_2 = 0 ∧ z0_2 = []) ∨ ∃ x, a0_2 = some x ∧ len0_2 ≤ cap0_2 ∧ cap0_2 ≤ maxLen ∧ z0_2.length = cap0_2 ∧ (∀ i, i < z0_2.length → w.cell? (x.add i) = some (.int .u64 (z0_2.getD i 0))) ∧ ∀ n ∈ z0_2, (Lit.int .u64 n).wf = true) (w1 : (Lit.int .i64 a1).wf = true) (w2 : (Lit.int .i64 a2).wf = true) :
 Calls Try.prog 5 #[.agg #[.int .i64 a0_0, .int .i64 a0_1, .slice a0_2 len0_2 cap0_2], .int .i64 a1, .int .i64 a2] w fun e w' => e = .returned (.bool true) ∧ Below w.heap.size w w' := by
 obtain ⟨l0_2, rfl, hr0_2, hm0_2, hw0_2, hc0_2⟩ := ReadsInt.ofRowC w0_2
 obtain ⟨k, h⟩ := P a0_0 a0_1 l0_2 a1 a2 w0_0 w0_1 hm0_2 hw0_2 w1 w2
 refine (chequerlaw04_TurnThen.calls k a0_0 a0_1 _ _ l0_2 a1 a2 true w (Kd.C_of_reads (d := (0 : Int)) (h1 := fun _ => rfl) hr0_2) hc0_2 h).mono ?_
 rintro e w' ⟨rfl, hd⟩
 exact ⟨rfl, hd⟩

end Go.Proofs.Ytehjnekljodmgaa.Q
