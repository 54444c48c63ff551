-- written by our own program (wip/tools/myprint.py) out of the translation, by the kit's print; Lean checks it
import Derived.Test.YtdjonaajfhbfhaaQ0
import Derived.Test.YtdjonaajfhbfhaaQ1
import Derived.Test.YtdjonaajfhbfhaaQ3
import Derived.Test.YtdjonaajfhbfhaaQ4
import Derived.Test.YtdjonaajfhbfhaaIraw_New
import Derived.Test.YtdjonaajfhbfhaaQ11
import Derived.Test.YtdjonaajfhbfhaaIraw_Reader_Put
import Derived.Test.YtdjonaajfhbfhaaIraw_Read
import Derived.Test.YtdjonaajfhbfhaaQ20
import Derived.Test.YtdjonaajfhbfhaaIraw_Reader_Left
import Derived.Test.YtdjonaajfhbfhaaIraw_Reader_Rows
namespace Go.Proofs.Ytdjonaajfhbfhaa.Q
open Go.RowKit Go.Proofs.YtdjonaajfhbfhaaW.PrintWords Go.Proofs.YtdjonaajfhbfhaaW.PrintLast Go.Proofs.YtdjonaajfhbfhaaW.PrintMore
attribute [local go_sem] max2_int min2_int max_two min_two max_three min_three max_four min_four   -- for this text's walks alone
set_option linter.unusedVariables false
set_option linter.unusedSimpArgs false

abbrev Fl59 : Array Bool := #[false, false, false, false, false, false, false, false, false, false, false, false, false, false, false, false, false, false, false, false, false, false, false, false, false, false, false, false, false, false, false, false, false]
abbrev Fl60 : Array Bool := #[false, false, false, false, false, false, false, false, false, false]
abbrev Fl61 : Array Bool := #[true, false, false, false, false, false, false, false, false, false, false, false, false, false, false, false, false, false, false, false, false, false, false, false, false, false, false, false, false, false, false, false, false]
abbrev Fl62 : Array Bool := #[true, false, false, false, false, false, false, false, false, false]
abbrev Fl63 : Array Bool := #[true, false, true, false, false, false, false, false, false, false, false, false, false, false, false, false, false, false, false, false, false, false, false, false, false, false, false, false, false, false, false, false, false]
abbrev Fl64 : Array Bool := #[true, false, true, true, false, false, false, false, false, false, false, false, false, false, false, false, false, false, false, false, false, false, false, false, false, false, false, false, false, false, false, false, false]
abbrev Fl65 : Array Bool := #[true, false, true, true, true, false, false, false, false, false, false, false, false, false, false, false, false, false, false, false, false, false, false, false, false, false, false, false, false, false, false, false, false]
abbrev Fl66 : Array Bool := #[true, false, true, true, true, true, false, false, false, false, false, false, false, false, false, false, false, false, false, false, false, false, false, false, false, false, false, false, false, false, false, false, false]
abbrev Fl67 : Array Bool := #[true, true, false, false, false, false, false, false, false, false]
abbrev Fl68 : Array Bool := #[true, true, true, false, false, false, false, false, false, false]
abbrev Fl69 : Array Bool := #[true, true, true, true, false, false, false, false, false, false]
abbrev Fl70 : Array Bool := #[true, true, true, true, true, false, false, false, false, false]
abbrev Fl71 : Array Bool := #[true, true, true, true, true, true, false, false, false, false, false, false, false, false, false, false, false, false, false, false, false, false, false, false, false, false, false, false, false, false, false, false, false]
abbrev Fl72 : Array Bool := #[true, true, true, true, true, true, false, false, false, false]
abbrev Fl73 : Array Bool := #[true, true, true, true, true, true, true, false, false, false, false, false, false, false, false, false, false, false, false, false, false, false, false, false, false, false, false, false, false, false, false, false, false]
abbrev Fl74 : Array Bool := #[true, true, true, true, true, true, true, false, false, false]
abbrev Fl75 : Array Bool := #[true, true, true, true, true, true, true, true, false, false, false, false, false, false, false, false, false, false, false, false, false, false, false, false, false, false, false, false, false, false, false, false, false]
abbrev Fl76 : Array Bool := #[true, true, true, true, true, true, true, true, false, false]
abbrev Fl77 : Array Bool := #[true, true, true, true, true, true, true, true, true, false, false, false, false, false, false, false, false, false, false, false, false, false, false, false, false, false, false, false, false, false, false, false, false]
abbrev Fl78 : Array Bool := #[true, true, true, true, true, true, true, true, true, false]
abbrev Fl79 : Array Bool := #[true, true, true, true, true, true, true, true, true, true, false, false, false, false, false, false, false, false, false, false, false, false, false, false, false, false, false, false, false, false, false, false, false]
abbrev Fl80 : Array Bool := #[true, true, true, true, true, true, true, true, true, true, true, true, true, false, false, false, false, false, false, false, false, false, false, false, false, false, false, false, false, false, false, false, false]
abbrev Fl81 : Array Bool := #[true, true, true, true, true, true, true, true, true, true, true, true, true, true, false, false, false, false, false, false, false, false, false, false, false, false, false, false, false, false, false, false, false]
abbrev Fl82 : Array Bool := #[true, true, true, true, true, true, true, true, true, true, true, true, true, true, true, false, false, false, false, false, false, false, false, false, false, false, false, false, false, false, false, false, false]
abbrev Fl83 : Array Bool := #[true, true, true, true, true, true, true, true, true, true, true, true, true, true, true, true, false, false, false, false, false, false, false, false, false, false, false, false, false, false, false, false, false]
abbrev Fl84 : Array Bool := #[true, true, true, true, true, true, true, true, true, true, true, true, true, true, true, true, true, false, false, false, false, false, false, false, false, false, false, false, false, false, false, false, false]
abbrev Fl85 : Array Bool := #[true, true, true, true, true, true, true, true, true, true, true, true, true, true, true, true, true, true, false, false, false, false, false, false, false, false, false, false, false, false, false, false, false]
abbrev Fl86 : Array Bool := #[true, true, true, true, true, true, true, true, true, true, true, true, true, true, true, true, true, true, true, true, true, false, false, false, false, false, false, false, false, false, false, false, false]
abbrev Fl87 : Array Bool := #[true, true, true, true, true, true, true, true, true, true, true, true, true, true, true, true, true, true, true, true, true, true, false, false, false, false, false, false, false, false, false, false, false]
abbrev Fl88 : Array Bool := #[true, true, true, true, true, true, true, true, true, true, true, true, true, true, true, true, true, true, true, true, true, true, true, false, false, false, false, false, false, false, false, false, false]
abbrev Fl89 : Array Bool := #[true, true, true, true, true, true, true, true, true, true, true, true, true, true, true, true, true, true, true, true, true, true, true, true, false, false, false, false, false, false, false, false, false]
abbrev Fl90 : Array Bool := #[true, true, true, true, true, true, true, true, true, true, true, true, true, true, true, true, true, true, true, true, true, true, true, true, true, false, false, false, false, false, false, false, false]
abbrev Fl91 : Array Bool := #[true, true, true, true, true, true, true, true, true, true, true, true, true, true, true, true, true, true, true, true, true, true, true, true, true, true, false, false, false, false, false, false, false]
abbrev Fl92 : Array Bool := #[true, true, true, true, true, true, true, true, true, true, true, true, true, true, true, true, true, true, true, true, true, true, true, true, true, true, true, false, false, false, false, false, false]
abbrev Fl93 : Array Bool := #[true, true, true, true, true, true, true, true, true, true, true, true, true, true, true, true, true, true, true, true, true, true, true, true, true, true, true, true, false, false, false, false, false]
abbrev Fl94 : Array Bool := #[true, true, true, true, true, true, true, true, true, true, true, true, true, true, true, true, true, true, true, true, true, true, true, true, true, true, true, true, true, false, false, false, false]
abbrev Fl95 : Array Bool := #[true, true, true, true, true, true, true, true, true, true, true, true, true, true, true, true, true, true, true, true, true, true, true, true, true, true, true, true, true, true, false, false, false]
abbrev Fl96 : Array Bool := #[true, true, true, true, true, true, true, true, true, true, true, true, true, true, true, true, true, true, true, true, true, true, true, true, true, true, true, true, true, true, true, false, false]
abbrev Fl97 : Array Bool := #[true, true, true, true, true, true, true, true, true, true, true, true, true, true, true, true, true, true, true, true, true, true, true, true, true, true, true, true, true, true, true, true, false]
abbrev Fl98 : Array Bool := #[true, true, true, true, true, true, true, true, true, true, true, true, true, true, true, true, true, true, true, true, true, true, true, true, true, true, true, true, true, true, true, true, true]
abbrev Fl99 : Array Bool := #[true, true, true, true, true, true, true, true, true, true]
abbrev Fl100 : Array Bool := #[true, true, true, true, true, true, true, true, true, true, false, true, false, false, false, false, false, false, false, false, false, false, false, false, false, false, false, false, false, false, false, false, false]
abbrev Fl101 : Array Bool := #[true, true, true, true, true, true, true, true, true, true, false, true, true, false, false, false, false, false, false, false, false, false, false, false, false, false, false, false, false, false, false, false, false]
abbrev Fl102 : Array Bool := #[true, true, true, true, true, true, true, true, true, true, true, true, true, true, true, true, true, true, false, true, false, false, false, false, false, false, false, false, false, false, false, false, false]
abbrev Fl103 : Array Bool := #[true, true, true, true, true, true, true, true, true, true, true, true, true, true, true, true, true, true, false, true, true, false, false, false, false, false, false, false, false, false, false, false, false]
abbrev Fl104 : Array Bool := #[true, true, true, true, true, true, true, true, true, true, true, true, true, true, true, true, true, true, true, false, false, false, false, false, false, false, false, false, false, false, false, false, false]
abbrev Fl105 : Array Bool := #[true, true, true, true, true, true, true, true, true, true, true, true, true, true, true, true, true, true, true, true, false, false, false, false, false, false, false, false, false, false, false, false, false]
/-! ### chequerlaw09_RawCuts: function 5 -/
def chequerlaw09_RawCuts.l0 : Nat → List Int → Int → Int → Int → Int → Int → Int → Int → Int → Int → Int → Int → Int → Int → Int → Int → Int → Option (Bool)
 | 0, _, _, _, _, _, _, _, _, _, _, _, _, _, _, _, _, _ => none
 | k + 1, x9, x11, x14, x15, x363000, x363001, x363002, x363003, x381000, x381001, x381002, x381003, x381004, x381005, x381006, x381007, x381008 => if x15 < x11 then (if 0 ≤ x15 then (if x15 < (x9.length : Int) then ((raw_Reader_Put.f x381000 x381001 x381002 x381003 x381004 x381005 x381006 x381007 x381008 (rd x9 x15)).bind fun bt383 => (if bt383.2.1 = 0 then (chequerlaw09_RawCuts.l0 k x9 x11 (wrap64 (x14 + (bt383.1.length : Int))) (wrap64 (x15 + 1)) x363000 x363001 x363002 x363003 bt383.2.2.1 bt383.2.2.2.1 bt383.2.2.2.2.1 bt383.2.2.2.2.2.1 bt383.2.2.2.2.2.2.1 bt383.2.2.2.2.2.2.2.1 bt383.2.2.2.2.2.2.2.2.1 bt383.2.2.2.2.2.2.2.2.2.1 bt383.2.2.2.2.2.2.2.2.2.2) else (some false))) else (none)) else (none)) else (if 0 ≤ x11 then (if x11 ≤ (x9.length : Int) then ((raw_Read.f (x9.take (x11 : Int).toNat) x363000 x363001 x363002 x363003).bind fun bt400 => ((raw_Reader_Left.f x381000 x381001 x381002 x381003 x381004 x381005 x381006 x381007 x381008).bind fun bt404 => (if bt404.1 = (wrap64 ((x9.length : Int) - x11)) then ((raw_Reader_Rows.f bt404.2.1 bt404.2.2.1 bt404.2.2.2.1 bt404.2.2.2.2.1 bt404.2.2.2.2.2.1 bt404.2.2.2.2.2.2.1 bt404.2.2.2.2.2.2.2.1 bt404.2.2.2.2.2.2.2.2.1 bt404.2.2.2.2.2.2.2.2.2).bind fun bt414 => (if x14 = (wrap64 (bt414.1 * x363001)) then ((raw_Reader_Rows.f bt414.2.1 bt414.2.2.1 bt414.2.2.2.1 bt414.2.2.2.2.1 bt414.2.2.2.2.2.1 bt414.2.2.2.2.2.2.1 bt414.2.2.2.2.2.2.2.1 bt414.2.2.2.2.2.2.2.2.1 bt414.2.2.2.2.2.2.2.2.2).bind fun bt424 => ((chequerref09_Stride.f x363000 x363001 x363002 x363003).bind fun t434 => (if t434 = 0 then (none) else (if bt424.1 = (wrap64 (Int.tdiv x11 t434)) then (if bt400.2 = 6 then ((chequerlaw09_lives.f k).bind fun t435 => (some t435)) else (some false)) else (some false))))) else (some false))) else (some false)))) else (none)) else (none))
def chequerlaw09_RawCuts.f (k : Nat) (a0_0 : Int) (a0_1 : Int) (a0_2 : Int) (a0_3 : Int) (l1 : List Int) (a2 : Int) : Option (Bool) := (chequerref09_Head.f a0_0 a0_1 a0_2 a0_3 4).bind fun bt358 => ((chequerref08_Pixels.f k l1 bt358.1 bt358.2.1 bt358.2.2.1 bt358.2.2.2).bind fun t363 => ((chequerref09_Write.f k t363 bt358.1 bt358.2.1 bt358.2.2.1 bt358.2.2.2).bind fun bt366 => ((chequerref01_Around.f a2 (bt366.1.length : Int)).bind fun t370 => ((raw_New.f bt358.1 bt358.2.1 bt358.2.2.1 bt358.2.2.2).bind fun bt371 => (if bt371.2.2.2.2.2.2.2.2.2 = 0 then (chequerlaw09_RawCuts.l0 k bt366.1 t370 0 0 bt358.1 bt358.2.1 bt358.2.2.1 bt358.2.2.2 bt371.1 bt371.2.1 bt371.2.2.1 bt371.2.2.2.1 bt371.2.2.2.2.1 bt371.2.2.2.2.2.1 bt371.2.2.2.2.2.2.1 bt371.2.2.2.2.2.2.2.1 bt371.2.2.2.2.2.2.2.2.1) else (some false))))))
theorem chequerlaw09_RawCuts.mono_l : ∀ k, (∀ y0 y1 y2 y3 y4 y5 y6 y7 y8 y9 y10 y11 y12 y13 y14 y15 y16, LeO (chequerlaw09_RawCuts.l0 k y0 y1 y2 y3 y4 y5 y6 y7 y8 y9 y10 y11 y12 y13 y14 y15 y16) (chequerlaw09_RawCuts.l0 (k + 1) y0 y1 y2 y3 y4 y5 y6 y7 y8 y9 y10 y11 y12 y13 y14 y15 y16))
 | 0 => fun _ _ _ _ _ _ _ _ _ _ _ _ _ _ _ _ _ r h => by simp [chequerlaw09_RawCuts.l0] at h
 | k + 1 => by
  have ih0 := chequerlaw09_RawCuts.mono_l k
  · intro y0 y1 y2 y3 y4 y5 y6 y7 y8 y9 y10 y11 y12 y13 y14 y15 y16
    unfold chequerlaw09_RawCuts.l0
    repeat' first
    | (with_reducible exact ih0 _ _ _ _ _ _ _ _ _ _ _ _ _ _ _ _ _)
    | (with_reducible exact chequerlaw09_lives.mono _)
    | (with_reducible exact chequerref08_Pixels.mono _ _ _ _ _ _)
    | (with_reducible exact chequerref09_Write.mono _ _ _ _ _ _)
    | (with_reducible exact LeO.refl _)
    | (with_reducible exact LeO.none _)
    | (with_reducible refine LeO.ite ?_ ?_)
    | (with_reducible refine LeO.bind ?_ (fun _ => ?_))
    | exact ih0 _ _ _ _ _ _ _ _ _ _ _ _ _ _ _ _ _
    | exact chequerlaw09_lives.mono _
    | exact chequerref08_Pixels.mono _ _ _ _ _ _
    | exact chequerref09_Write.mono _ _ _ _ _ _
    | exact LeO.none _
    | refine LeO.ite ?_ ?_
    | refine LeO.bind ?_ (fun _ => ?_)
theorem chequerlaw09_RawCuts.mono : ∀ a0 a1 a2 a3 a4 a5 k, LeO (chequerlaw09_RawCuts.f k a0 a1 a2 a3 a4 a5) (chequerlaw09_RawCuts.f (k + 1) a0 a1 a2 a3 a4 a5) := by
 intro a0 a1 a2 a3 a4 a5 k
 have ih0 := chequerlaw09_RawCuts.mono_l k
 unfold chequerlaw09_RawCuts.f
 repeat' first
  | (with_reducible exact ih0 _ _ _ _ _ _ _ _ _ _ _ _ _ _ _ _ _)
  | (with_reducible exact chequerlaw09_lives.mono _)
  | (with_reducible exact chequerref08_Pixels.mono _ _ _ _ _ _)
  | (with_reducible exact chequerref09_Write.mono _ _ _ _ _ _)
  | (with_reducible exact LeO.refl _)
  | (with_reducible exact LeO.none _)
  | (with_reducible refine LeO.ite ?_ ?_)
  | (with_reducible refine LeO.bind ?_ (fun _ => ?_))
  | exact ih0 _ _ _ _ _ _ _ _ _ _ _ _ _ _ _ _ _
  | exact chequerlaw09_lives.mono _
  | exact chequerref08_Pixels.mono _ _ _ _ _ _
  | exact chequerref09_Write.mono _ _ _ _ _ _
  | exact LeO.none _
  | refine LeO.ite ?_ ?_
  | refine LeO.bind ?_ (fun _ => ?_)
def chequerlaw09_RawCuts.T16 : Bool × List (List Nat × List Nat) := (true, [([], []), ([], []), ([0, 1], [0, 1]), ([], []), ([2, 3], [2, 3]), ([4], [4]), ([5], [5]), ([5], [5]), ([6, 4, 0, 1, 2, 3, 4, 5, 6], [6]), ([7, 8, 0, 1, 2, 3, 4, 5, 6, 7, 8], [7])])
def chequerlaw09_RawCuts.B16 : List Nat := [0, 0, 3, 0, 15, 31, 63, 63, 127, 511]
theorem chequerlaw09_RawCuts.tab16 : rtab .any (opsOf Try.f5 16) = chequerlaw09_RawCuts.T16 := by kernel_rfl
theorem chequerlaw09_RawCuts.bits16 : waitsOk chequerlaw09_RawCuts.T16.2 chequerlaw09_RawCuts.B16 = true := by kernel_rfl
def chequerlaw09_RawCuts.T17 : Bool × List (List Nat × List Nat) := (true, [([], []), ([0], [0]), ([], []), ([2], [2]), ([], []), ([3, 4], [3, 4]), ([1, 5], [1, 5]), ([6, 1], [6]), ([7], [7]), ([7], [7]), ([9, 7, 7], [7, 9]), ([7], [7]), ([11, 7], [7, 11]), ([10, 12, 7], [7, 10, 12]), ([8, 13, 7], [7, 8, 13]), ([7, 14], [7, 14]), ([15, 10], [15]), ([16], [16]), ([17, 16, 16], [16, 17]), ([16], [16]), ([16], [16]), ([20, 18, 16], [16, 20]), ([19, 21, 16], [16, 19, 21]), ([18, 22, 16], [16, 18, 22]), ([16, 23], [16, 23]), ([24, 21], [24]), ([25], [25]), ([26, 25], [25, 26]), ([25, 27], [25, 27]), ([28, 25], [28]), ([29, 29], [29]), ([29, 30], [29, 30]), ([31, 30, 0, 1, 2, 3, 4, 5, 6, 7, 8, 9, 10, 11, 12, 13, 14, 15, 16, 17, 18, 19, 20, 21, 22, 23, 24, 25, 26, 27, 28, 29, 30, 31], [31])])
def chequerlaw09_RawCuts.B17 : List Nat := [0, 1, 0, 4, 0, 28, 63, 127, 255, 255, 767, 255, 2303, 7935, 16383, 32767, 65535, 131071, 262143, 131071, 131071, 1572863, 4194303, 8388607, 16777215, 33554431, 67108863, 134217727, 268435455, 536870911, 1073741823, 2147483647, 4294967295]
theorem chequerlaw09_RawCuts.tab17 : rtab .any (opsOf Try.f5 17) = chequerlaw09_RawCuts.T17 := by kernel_rfl
theorem chequerlaw09_RawCuts.bits17 : waitsOk chequerlaw09_RawCuts.T17.2 chequerlaw09_RawCuts.B17 = true := by kernel_rfl
set_option maxHeartbeats 8000000 in
set_option maxRecDepth 100000 in
theorem chequerlaw09_RawCuts.calls (k : Nat) (a0_0 : Int) (a0_1 : Int) (a0_2 : Int) (a0_3 : Int) (A1 : Option Addr) (c1 : Nat) (l1 : List Int) (a2 : Int) (r : Bool) (w : World) (hr1 : Kd.C (Kd.int .i64) w A1 l1.length l1) (hc1 : l1.length ≤ c1) (h : chequerlaw09_RawCuts.f k a0_0 a0_1 a0_2 a0_3 l1 a2 = some r) :
 Calls Try.prog 5 #[.agg #[.int .i64 a0_0, .int .i64 a0_1, .int .i64 a0_2, .int .i64 a0_3], .slice A1 l1.length c1, .int .i64 a2] w fun e w' => e = .returned (.bool r) ∧ Below w.heap.size w w' := by
 have hu23 := Try.underlying23
 have HR1 := Aside0.mk hr1
 have HC1 := Aside0.mk hc1
 clear hr1 hc1
 have HB := Aside0.mk (Below.refl w.heap.size w)
 have H : ((chequerref09_Head.f a0_0 a0_1 a0_2 a0_3 4).bind fun bt358 => ((chequerref08_Pixels.f k l1 bt358.1 bt358.2.1 bt358.2.2.1 bt358.2.2.2).bind fun t363 => ((chequerref09_Write.f k t363 bt358.1 bt358.2.1 bt358.2.2.1 bt358.2.2.2).bind fun bt366 => ((chequerref01_Around.f a2 (bt366.1.length : Int)).bind fun t370 => ((raw_New.f bt358.1 bt358.2.1 bt358.2.2.1 bt358.2.2.2).bind fun bt371 => (if bt371.2.2.2.2.2.2.2.2.2 = 0 then (chequerlaw09_RawCuts.l0 k bt366.1 t370 0 0 bt358.1 bt358.2.1 bt358.2.2.1 bt358.2.2.2 bt371.1 bt371.2.1 bt371.2.2.1 bt371.2.2.2.1 bt371.2.2.2.2.1 bt371.2.2.2.2.2.1 bt371.2.2.2.2.2.2.1 bt371.2.2.2.2.2.2.2.1 bt371.2.2.2.2.2.2.2.2.1) else (some false))))))) = some r := h
 clear h
 replace H := Option.bind_eq_some_iff.mp H
 obtain ⟨⟨t358, t359, t360, t361⟩, A40, H⟩ := H
 replace H : ((chequerref08_Pixels.f k l1 t358 t359 t360 t361).bind fun t363 => ((chequerref09_Write.f k t363 t358 t359 t360 t361).bind fun bt366 => ((chequerref01_Around.f a2 (bt366.1.length : Int)).bind fun t370 => ((raw_New.f t358 t359 t360 t361).bind fun bt371 => (if bt371.2.2.2.2.2.2.2.2.2 = 0 then (chequerlaw09_RawCuts.l0 k bt366.1 t370 0 0 t358 t359 t360 t361 bt371.1 bt371.2.1 bt371.2.2.1 bt371.2.2.2.1 bt371.2.2.2.2.1 bt371.2.2.2.2.2.1 bt371.2.2.2.2.2.2.1 bt371.2.2.2.2.2.2.2.1 bt371.2.2.2.2.2.2.2.2.1) else (some false)))))) = some r := H
 have A4 := Aside0.mk A40
 clear A40
 replace H := Option.bind_eq_some_iff.mp H
 obtain ⟨t363, A50, H⟩ := H
 replace H : ((chequerref09_Write.f k t363 t358 t359 t360 t361).bind fun bt366 => ((chequerref01_Around.f a2 (bt366.1.length : Int)).bind fun t370 => ((raw_New.f t358 t359 t360 t361).bind fun bt371 => (if bt371.2.2.2.2.2.2.2.2.2 = 0 then (chequerlaw09_RawCuts.l0 k bt366.1 t370 0 0 t358 t359 t360 t361 bt371.1 bt371.2.1 bt371.2.2.1 bt371.2.2.2.1 bt371.2.2.2.2.1 bt371.2.2.2.2.2.1 bt371.2.2.2.2.2.2.1 bt371.2.2.2.2.2.2.2.1 bt371.2.2.2.2.2.2.2.2.1) else (some false))))) = some r := H
 have A5 := Aside0.mk A50
 clear A50
 replace H := Option.bind_eq_some_iff.mp H
 obtain ⟨⟨t366, t369⟩, A60, H⟩ := H
 replace H : ((chequerref01_Around.f a2 (t366.length : Int)).bind fun t370 => ((raw_New.f t358 t359 t360 t361).bind fun bt371 => (if bt371.2.2.2.2.2.2.2.2.2 = 0 then (chequerlaw09_RawCuts.l0 k t366 t370 0 0 t358 t359 t360 t361 bt371.1 bt371.2.1 bt371.2.2.1 bt371.2.2.2.1 bt371.2.2.2.2.1 bt371.2.2.2.2.2.1 bt371.2.2.2.2.2.2.1 bt371.2.2.2.2.2.2.2.1 bt371.2.2.2.2.2.2.2.2.1) else (some false)))) = some r := H
 have A6 := Aside0.mk A60
 clear A60
 replace H := Option.bind_eq_some_iff.mp H
 obtain ⟨t370, A70, H⟩ := H
 replace H : ((raw_New.f t358 t359 t360 t361).bind fun bt371 => (if bt371.2.2.2.2.2.2.2.2.2 = 0 then (chequerlaw09_RawCuts.l0 k t366 t370 0 0 t358 t359 t360 t361 bt371.1 bt371.2.1 bt371.2.2.1 bt371.2.2.2.1 bt371.2.2.2.2.1 bt371.2.2.2.2.2.1 bt371.2.2.2.2.2.2.1 bt371.2.2.2.2.2.2.2.1 bt371.2.2.2.2.2.2.2.2.1) else (some false))) = some r := H
 have A7 := Aside0.mk A70
 clear A70
 replace H := Option.bind_eq_some_iff.mp H
 obtain ⟨⟨t371, t372, t373, t374, t375, t376, t377, t378, t379, t381⟩, A80, H⟩ := H
 replace H : (if t381 = 0 then (chequerlaw09_RawCuts.l0 k t366 t370 0 0 t358 t359 t360 t361 t371 t372 t373 t374 t375 t376 t377 t378 t379) else (some false)) = some r := H
 have A8 := Aside0.mk A80
 clear A80
 by_cases c9 : t381 = 0
 · rw [if_pos c9] at H
   have c9b0 : (t381 == 0) = true := beq_iff_eq.mpr c9
   have c9b1 : (t381 != 0) = false := bne_eq_false_iff_eq.mpr c9
   clear c9
   have H' := Aside0.mk H
   clear H
   go_enter Try.func5, Try.ntmps5
   go_wp2_with (first | ((with_reducible refine gate_dst (N := 3) rfl ?_); refine box_event ?hg (N := 3) ?hd (cs := #[.int .i64 a0_0, .int .i64 a0_1, .int .i64 a0_2, .int .i64 a0_3]) (t := 23) ?hr ?_; (case hd => rfl); (case hg => rfl); (case hr => first | (go_simp; done) | (go_simp; rfl)); intro gb357 hg w10 hbox hb; have BK357 := Aside0.mk (hbox); have GW357 := Aside0.mk ((by rw [hg]; exact (below_size bp_) : w.heap.size ≤ gb357)); have GE357 := Aside0.mk ((by rw [hg]; exact (below_size bp_) : w.heap.size ≤ gb357)); replace HB := Aside0.mk (below_step bp_ hb); clear hb hbox hg; have hcz11_0 : w10.cell? ⟨gb357, 0, none⟩ = some (.int .i64 a0_0) := (blk_cell BK357.out 0).trans rfl; have hcz11_1 : w10.cell? ⟨gb357, 1, none⟩ = some (.int .i64 a0_1) := (blk_cell BK357.out 1).trans rfl; have hcz11_2 : w10.cell? ⟨gb357, 2, none⟩ = some (.int .i64 a0_2) := (blk_cell BK357.out 2).trans rfl; have hcz11_3 : w10.cell? ⟨gb357, 3, none⟩ = some (.int .i64 a0_3) := (blk_cell BK357.out 3).trans rfl; have hfz11_0 := blk_frozen BK357.out 0; have hfz11_1 := blk_frozen BK357.out 1; have hfz11_2 := blk_frozen BK357.out 2; have hfz11_3 := blk_frozen BK357.out 3) | ((with_reducible refine gate_callee (f := 8) rfl ?_); refine goQ_ (some 21) Try.func8 #[.agg #[.int .i64 a0_0, .int .i64 a0_1, .int .i64 a0_2, .int .i64 a0_3], .int .i64 4] ?_; (with_reducible refine (chequerref09_Head.calls a0_0 a0_1 a0_2 a0_3 4 t358 t359 t360 t361 _ A4.out).mono ?_); rintro e w12 ⟨rfl, hb⟩; refine ⟨_, rfl, ?_⟩; replace HB := Aside0.mk (below_step bp_ hb); (try clear hb); (try clear hb2); (try clear hk); (try clear hi)) | ((with_reducible refine gate_dst (N := 7) rfl ?_); refine box_event ?hg (N := 7) ?hd (cs := #[.int .i64 0, .int .i64 0, .int .i64 0, .int .i64 0]) (t := 23) ?hr ?_; (case hd => rfl); (case hg => rfl); (case hr => first | (go_simp; done) | (go_simp; rfl)); intro gb362 hg w13 hbox hb; have BK362 := Aside0.mk (hbox); have GW362 := Aside0.mk ((by rw [hg]; exact (below_size bp_) : w.heap.size ≤ gb362)); have GE362 := Aside0.mk ((by rw [hg]; exact (below_size bp_) : w.heap.size ≤ gb362)); replace HB := Aside0.mk (below_step bp_ hb); clear hb hbox hg; have hcz14_0 : w13.cell? ⟨gb362, 0, none⟩ = some (.int .i64 0) := (blk_cell BK362.out 0).trans rfl; have hcz14_1 : w13.cell? ⟨gb362, 1, none⟩ = some (.int .i64 0) := (blk_cell BK362.out 1).trans rfl; have hcz14_2 : w13.cell? ⟨gb362, 2, none⟩ = some (.int .i64 0) := (blk_cell BK362.out 2).trans rfl; have hcz14_3 : w13.cell? ⟨gb362, 3, none⟩ = some (.int .i64 0) := (blk_cell BK362.out 3).trans rfl; have hfz14_0 := blk_frozen BK362.out 0; have hfz14_1 := blk_frozen BK362.out 1; have hfz14_2 := blk_frozen BK362.out 2; have hfz14_3 := blk_frozen BK362.out 3) | ((with_reducible refine gate_callee (f := 9) rfl ?_); refine goQ_ (some 24) Try.func9 #[.slice A1 l1.length c1, .agg #[.int .i64 t358, .int .i64 t359, .int .i64 t360, .int .i64 t361]] ?_; (with_reducible refine (chequerref08_Pixels.calls k _ _ l1 t358 t359 t360 t361 t363 _ ?side1 ?side2 A5.out).mono ?_); (case side1 => exact Kd.C_below HR1.out bp_); (case side2 => exact HC1.out); rintro e w15 ⟨v364, rfl, ho0, hb⟩; refine ⟨_, rfl, ?_⟩; have HO365 := Aside0.mk (Kd.R_lower ho0 (below_size bp_)); replace BK362 := Aside0.mk (blk_below (g := gb362) (o := .cells #[.int .i64 t358, .int .i64 t359, .int .i64 t360, .int .i64 t361] 23 (0, 0)) (by (with_reducible repeat (first | refine blk_drewN ?_ _ | refine blk_drew ?_ | refine blk_alloc ?_ _)); refine blk_put (cs := #[.int .i64 t358, .int .i64 t359, .int .i64 t360, .int .i64 0]) ?_ 3 _ rfl; (with_reducible repeat (first | refine blk_drewN ?_ _ | refine blk_drew ?_ | refine blk_alloc ?_ _)); refine blk_put (cs := #[.int .i64 t358, .int .i64 t359, .int .i64 0, .int .i64 0]) ?_ 2 _ rfl; (with_reducible repeat (first | refine blk_drewN ?_ _ | refine blk_drew ?_ | refine blk_alloc ?_ _)); refine blk_put (cs := #[.int .i64 t358, .int .i64 0, .int .i64 0, .int .i64 0]) ?_ 1 _ rfl; (with_reducible repeat (first | refine blk_drewN ?_ _ | refine blk_drew ?_ | refine blk_alloc ?_ _)); refine blk_put (cs := #[.int .i64 0, .int .i64 0, .int .i64 0, .int .i64 0]) ?_ 0 _ rfl; (with_reducible repeat (first | refine blk_drewN ?_ _ | refine blk_drew ?_ | refine blk_alloc ?_ _)); exact BK362.out) hb); replace HB := Aside0.mk (below_step bp_ hb); (try clear hb); (try clear hb2); (try clear hk); (try clear hi); (try clear ho0); have hcz16_0 : w15.cell? ⟨gb362, 0, none⟩ = some (.int .i64 t358) := (blk_cell BK362.out 0).trans rfl; have hcz16_1 : w15.cell? ⟨gb362, 1, none⟩ = some (.int .i64 t359) := (blk_cell BK362.out 1).trans rfl; have hcz16_2 : w15.cell? ⟨gb362, 2, none⟩ = some (.int .i64 t360) := (blk_cell BK362.out 2).trans rfl; have hcz16_3 : w15.cell? ⟨gb362, 3, none⟩ = some (.int .i64 t361) := (blk_cell BK362.out 3).trans rfl; have hfz16_0 := blk_frozen BK362.out 0; have hfz16_1 := blk_frozen BK362.out 1; have hfz16_2 := blk_frozen BK362.out 2; have hfz16_3 := blk_frozen BK362.out 3; obtain ⟨Ao17, co17, eo17⟩ := Kd.R_slice HO365.out; subst eo17) | ((with_reducible refine gate_callee (f := 11) rfl ?_); refine goQ_ (some 28) Try.func11 #[.slice Ao17 t363.length co17, .agg #[.int .i64 t358, .int .i64 t359, .int .i64 t360, .int .i64 t361]] ?_; (with_reducible refine (chequerref09_Write.calls k _ _ t363 t358 t359 t360 t361 t366 t369 _ ?side1 ?side2 A6.out).mono ?_); (case side1 => exact cp_ (Kd.R_reads' HO365.out).2.2); (case side2 => exact (Kd.R_reads' HO365.out).2.1); rintro e w18 ⟨v367, rfl, ho0, hb⟩; refine ⟨_, rfl, ?_⟩; replace HO365 := Aside0.mk (Kd.R_below (rp_ HO365.out) hb); have HO368 := Aside0.mk (Kd.R_lower ho0 (below_size bp_)); replace BK362 := Aside0.mk (blk_below (hp_ BK362.out) hb); replace HB := Aside0.mk (below_step bp_ hb); (try clear hb); (try clear hb2); (try clear hk); (try clear hi); (try clear ho0); obtain ⟨Ao19, co19, eo19⟩ := Kd.R_slice HO368.out; subst eo19) | ((with_reducible refine gate_callee (f := 15) rfl ?_); refine goQ_ (some 34) Try.func15 #[.int .i64 a2, .int .i64 (t366.length : Int)] ?_; (with_reducible refine (chequerref01_Around.calls a2 (t366.length : Int) t370 _ A7.out).mono ?_); rintro e w' ⟨rfl, ⟨nd, rfl⟩⟩; refine ⟨_, rfl, ?_⟩; have hcz20_0 : w18.cell? ⟨gb362, 0, none⟩ = some (.int .i64 t358) := (blk_cell BK362.out 0).trans rfl; have hcz20_1 : w18.cell? ⟨gb362, 1, none⟩ = some (.int .i64 t359) := (blk_cell BK362.out 1).trans rfl; have hcz20_2 : w18.cell? ⟨gb362, 2, none⟩ = some (.int .i64 t360) := (blk_cell BK362.out 2).trans rfl; have hcz20_3 : w18.cell? ⟨gb362, 3, none⟩ = some (.int .i64 t361) := (blk_cell BK362.out 3).trans rfl; have hfz20_0 := blk_frozen BK362.out 0; have hfz20_1 := blk_frozen BK362.out 1; have hfz20_2 := blk_frozen BK362.out 2; have hfz20_3 := blk_frozen BK362.out 3) | ((with_reducible refine gate_callee (f := 18) rfl ?_); refine goQ_ (some 37) Try.func18 #[.agg #[.int .i64 t358, .int .i64 t359, .int .i64 t360, .int .i64 t361]] ?_; (with_reducible refine (raw_New.calls2 t358 t359 t360 t361 t371 t372 t373 t374 t375 t376 t377 t378 t379 t381 w _ ?side1 A8.out).mono ?_); (case side1 => repeat (first | (with_reducible first | exact HB.out | apply below_alloc | apply pw_below_drewN | apply below_drew1 | refine below_set ?_ GE362.out) | exact HB.out)); rintro e w21 ⟨g380, rfl, hi, hb, hb2, hgt⟩; refine ⟨_, rfl, ?_⟩; replace HO365 := Aside0.mk (Kd.R_below (rp_ HO365.out) hb2); replace HO368 := Aside0.mk (raw_bytes_apart (rp_ HO368.out) hb2 hgt); clear hgt; replace HB := Aside0.mk (hb); have HI380 := Aside0.mk (hi); have NB380_362 := Aside0.mk (IsS71.ne_blk hi (blk_below (hp_ BK362.out) hb2) (by decide)); have NB362_380 := Aside0.mk (Ne.symm (IsS71.ne_blk hi (blk_below (hp_ BK362.out) hb2) (by decide))); replace BK362 := Aside0.mk (blk_below (hp_ BK362.out) hb2); (try clear hb); (try clear hb2); (try clear hk); (try clear hi)))
   go_loopg [14, 15] k (fun kq v14 v15 w' => ∃ (x14_1 : Int) (x15_1 : Int) (x381000_1 : Int) (x381001_1 : Int) (x381002_1 : Int) (x381003_1 : Int) (x381004_1 : Int) (x381005_1 : Int) (x381006_1 : Int) (x381007_1 : Int) (x381008_1 : Int), v14 = .int .i64 x14_1 ∧ v15 = .int .i64 x15_1 ∧ Aside0 (chequerlaw09_RawCuts.l0 kq t366 t370 x14_1 x15_1 t358 t359 t360 t361 x381000_1 x381001_1 x381002_1 x381003_1 x381004_1 x381005_1 x381006_1 x381007_1 x381008_1 = some r) ∧ Aside0 (kq ≤ k) ∧ Aside0 (Kd.R (Kd.int .u8) 5 w' w.heap.size (fun k_ => k_ ≠ g380 ∧ k_ ≠ g380 - 1) (.slice Ao19 t366.length co19) t366) ∧ Aside0 (w'.heap[gb362]? = some (.cells #[.int .i64 t358, .int .i64 t359, .int .i64 t360, .int .i64 t361] 23 (0, 0))) ∧ Aside0 (IsS71 w w' g380 x381000_1 x381001_1 x381002_1 x381003_1 x381004_1 x381005_1 x381006_1 x381007_1 x381008_1) ∧ Aside0 (Below w.heap.size w w'))
   case atStart => exact ⟨(0), (0), (t371), (t372), (t373), (t374), (t375), (t376), (t377), (t378), (t379), (by first | rfl | (simp; done) | (simp [*]; done)), (by first | rfl | (simp; done) | (simp [*]; done)), H', ⟨Nat.le_refl _⟩, ⟨rp_ HO368.out⟩, ⟨hp_ BK362.out⟩, ⟨by repeat (first | (with_reducible first | exact HI380.out | apply IsS71.alloc | apply IsS71.drewN | apply IsS71.drew | apply IsS71.set_0 | apply IsS71.set_1 | apply IsS71.set_2 | apply IsS71.set_3 | apply IsS71.set_4 | apply IsS71.set_5 | apply IsS71.set_6 | apply IsS71.set_7 | apply IsS71.set_8 | refine IsS71.far ?_ NB380_362.out _) | exact HI380.out)⟩, ⟨by repeat (first | (with_reducible first | exact HB.out | apply below_alloc | apply pw_below_drewN | apply below_drew1 | refine below_set ?_ (IsS71.ge HI380.out) | refine below_set ?_ GE362.out) | exact HB.out)⟩⟩
   case round =>
    clear H'
    try clear c1
    try clear p2
    try clear c5
    try clear c8
    try clear c9
    try clear c9b0
    try clear c9b1
    try clear c11
    try clear c15
    try clear c18
    try clear hcz11_0
    try clear hcz11_1
    try clear hcz11_2
    try clear hcz11_3
    try clear hcz14_0
    try clear hcz14_1
    try clear hcz14_2
    try clear hcz14_3
    try clear hcz16_0
    try clear hcz16_1
    try clear hcz16_2
    try clear hcz16_3
    try clear hcz20_0
    try clear hcz20_1
    try clear hcz20_2
    try clear hcz20_3
    try clear hfz11_0
    try clear hfz11_1
    try clear hfz11_2
    try clear hfz11_3
    try clear hfz14_0
    try clear hfz14_1
    try clear hfz14_2
    try clear hfz14_3
    try clear hfz16_0
    try clear hfz16_1
    try clear hfz16_2
    try clear hfz16_3
    try clear hfz20_0
    try clear hfz20_1
    try clear hfz20_2
    try clear hfz20_3
    obtain ⟨x14_1, x15_1, x381000_1, x381001_1, x381002_1, x381003_1, x381004_1, x381005_1, x381006_1, x381007_1, x381008_1, rfl, rfl, HA, HK1, HO_9, BK362, HI380, HB⟩ := hrel
    cases gk with
    | zero => exact absurd HA.out (by simp [chequerlaw09_RawCuts.l0])
    | succ k1 =>
     have H := HA.out
     clear HA
     simp only [chequerlaw09_RawCuts.l0] at H
     by_cases c22 : x15_1 < t370
     · rw [if_pos c22] at H
       have c22b0 : decide (x15_1 < t370) = true := decide_eq_true c22
       clear c22
       by_cases c23 : 0 ≤ x15_1
       · rw [if_pos c23] at H
         have c23b0 : decide (0 ≤ x15_1) = true := decide_eq_true c23
         clear c23
         by_cases c24 : x15_1 < (t366.length : Int)
         · rw [if_pos c24] at H
           have c24b0 : decide (x15_1 < (t366.length : Int)) = true := decide_eq_true c24
           clear c24
           replace H := Option.bind_eq_some_iff.mp H
           obtain ⟨⟨t383, t386, t387, t388, t389, t390, t391, t392, t393, t394, t395⟩, A250, H⟩ := H
           replace H : (if t386 = 0 then (chequerlaw09_RawCuts.l0 k1 t366 t370 (wrap64 (x14_1 + (t383.length : Int))) (wrap64 (x15_1 + 1)) t358 t359 t360 t361 t387 t388 t389 t390 t391 t392 t393 t394 t395) else (some false)) = some r := H
           have A25 := Aside0.mk A250
           clear A250
           by_cases c26 : t386 = 0
           · rw [if_pos c26] at H
             have c26b0 : (t386 == 0) = true := beq_iff_eq.mpr c26
             have c26b1 : (t386 != 0) = false := bne_eq_false_iff_eq.mpr c26
             clear c26
             have H' := Aside0.mk H
             clear H
             have p382 : 0 ≤ (x15_1 : Int) := of_decide_eq_true (by first | (with_reducible assumption) | assumption)
             have q382 : x15_1 < (t366.length : Int) := of_decide_eq_true (by first | (with_reducible assumption) | assumption)
             obtain ⟨ad382, e382, hx382_0⟩ := Kd.at_int (Kd.R_reads' HO_9.out).2.2 x15_1 p382 q382
             cases e382
             replace p382 := eq_true p382
             replace q382 := eq_true q382
             go_wp2_with (first | ((with_reducible refine gate_callee (f := 19) rfl ?_); refine goQ_ (some 57) Try.func19 #[.pointer (some ⟨g380, 0, none⟩), .int .u8 (rd t366 x15_1)] ?_; (with_reducible refine (raw_Reader_Put.calls g380 x381000_1 x381001_1 x381002_1 x381003_1 x381004_1 x381005_1 x381006_1 x381007_1 x381008_1 (rd t366 x15_1) t383 t386 t387 t388 t389 t390 t391 t392 t393 t394 t395 w _ ?side1 ?side2 A25.out).mono ?_); (case side1 => repeat (first | (with_reducible first | exact HI380.out | apply IsS71.alloc | apply IsS71.drewN | apply IsS71.drew | apply IsS71.set_0 | apply IsS71.set_1 | apply IsS71.set_2 | apply IsS71.set_3 | apply IsS71.set_4 | apply IsS71.set_5 | apply IsS71.set_6 | apply IsS71.set_7 | apply IsS71.set_8 | refine IsS71.far ?_ NB380_362.out _) | exact HI380.out)); (case side2 => repeat (first | (with_reducible first | exact HB.out | apply below_alloc | apply pw_below_drewN | apply below_drew1 | refine below_set ?_ (IsS71.ge HI380.out) | refine below_set ?_ GE362.out) | exact HB.out)); rintro e w27 ⟨v384, rfl, ho0, hi, hb, hk⟩; refine ⟨_, rfl, ?_⟩; replace HO_9 := Aside0.mk (raw_bytes_keep (rp_ HO_9.out) hk); replace BK362 := Aside0.mk (KeepBut.blk hk (g' := gb362) (o := .cells #[.int .i64 t358, .int .i64 t359, .int .i64 t360, .int .i64 t361] 23 (0, 0)) (hp_ BK362.out) NB362_380.out (raw_hr HI380.out BK362.out (by decide))); have HO385 := Aside0.mk (Kd.R_lower ho0 (below_size (by repeat (first | (with_reducible first | exact HB.out | apply below_alloc | apply pw_below_drewN | apply below_drew1 | refine below_set ?_ (IsS71.ge HI380.out) | refine below_set ?_ GE362.out) | exact HB.out)))); replace HB := Aside0.mk (hb); replace HI380 := Aside0.mk (hi); (try clear hb); (try clear hb2); (try clear hk); (try clear hi); (try clear ho0); obtain ⟨Ao28, co28, eo28⟩ := Kd.R_slice HO385.out; subst eo28))
             go_roundg k1
             case measure => have := HK1.out; omega
             case rel => exact ⟨(wrap64 (x14_1 + (t383.length : Int))), (wrap64 (x15_1 + 1)), (t387), (t388), (t389), (t390), (t391), (t392), (t393), (t394), (t395), (by first | rfl | (simp; done) | (simp [*]; done)), (by first | rfl | (simp; done) | (simp [*]; done)), H', ⟨by have := HK1.out; omega⟩, ⟨rp_ HO_9.out⟩, ⟨hp_ BK362.out⟩, ⟨by repeat (first | (with_reducible first | exact HI380.out | apply IsS71.alloc | apply IsS71.drewN | apply IsS71.drew | apply IsS71.set_0 | apply IsS71.set_1 | apply IsS71.set_2 | apply IsS71.set_3 | apply IsS71.set_4 | apply IsS71.set_5 | apply IsS71.set_6 | apply IsS71.set_7 | apply IsS71.set_8 | refine IsS71.far ?_ NB380_362.out _) | exact HI380.out)⟩, ⟨by repeat (first | (with_reducible first | exact HB.out | apply below_alloc | apply pw_below_drewN | apply below_drew1 | refine below_set ?_ (IsS71.ge HI380.out) | refine below_set ?_ GE362.out) | exact HB.out)⟩⟩
           · rw [if_neg c26] at H
             have c26b0 : (t386 == 0) = false := beq_eq_false_iff_ne.mpr c26
             have c26b1 : (t386 != 0) = true := bne_iff_ne.mpr c26
             obtain rfl := Option.some.inj H
             have p382 : 0 ≤ (x15_1 : Int) := of_decide_eq_true (by first | (with_reducible assumption) | assumption)
             have q382 : x15_1 < (t366.length : Int) := of_decide_eq_true (by first | (with_reducible assumption) | assumption)
             obtain ⟨ad382, e382, hx382_0⟩ := Kd.at_int (Kd.R_reads' HO_9.out).2.2 x15_1 p382 q382
             cases e382
             replace p382 := eq_true p382
             replace q382 := eq_true q382
             go_wp2_with (first | ((with_reducible refine gate_callee (f := 19) rfl ?_); refine goQ_ (some 57) Try.func19 #[.pointer (some ⟨g380, 0, none⟩), .int .u8 (rd t366 x15_1)] ?_; (with_reducible refine (raw_Reader_Put.calls g380 x381000_1 x381001_1 x381002_1 x381003_1 x381004_1 x381005_1 x381006_1 x381007_1 x381008_1 (rd t366 x15_1) t383 t386 t387 t388 t389 t390 t391 t392 t393 t394 t395 w _ ?side1 ?side2 A25.out).mono ?_); (case side1 => repeat (first | (with_reducible first | exact HI380.out | apply IsS71.alloc | apply IsS71.drewN | apply IsS71.drew | apply IsS71.set_0 | apply IsS71.set_1 | apply IsS71.set_2 | apply IsS71.set_3 | apply IsS71.set_4 | apply IsS71.set_5 | apply IsS71.set_6 | apply IsS71.set_7 | apply IsS71.set_8) | exact HI380.out)); (case side2 => repeat (first | (with_reducible first | exact HB.out | apply below_alloc | apply pw_below_drewN | apply below_drew1 | refine below_set ?_ (IsS71.ge HI380.out)) | exact HB.out)); rintro e w29 ⟨v384, rfl, ho0, hi, hb, hk⟩; refine ⟨_, rfl, ?_⟩; replace HO_9 := Aside0.mk (raw_bytes_keep (rp_ HO_9.out) hk); have HO385 := Aside0.mk (Kd.R_lower ho0 (below_size (by repeat (first | (with_reducible first | exact HB.out | apply below_alloc | apply pw_below_drewN | apply below_drew1 | refine below_set ?_ (IsS71.ge HI380.out)) | exact HB.out)))); replace HB := Aside0.mk (hb); replace HI380 := Aside0.mk (hi); (try clear hb); (try clear hb2); (try clear hk); (try clear hi); (try clear ho0); obtain ⟨Ao30, co30, eo30⟩ := Kd.R_slice HO385.out; subst eo30))
             go_ret
             exact ⟨by first | rfl | (simp [errW_none, errW_some] <;> rfl) | (simp [*, errW_none, errW_some] <;> rfl), by repeat (first | (with_reducible first | exact HB.out | apply below_alloc | apply pw_below_drewN | apply below_drew1 | refine below_set ?_ (IsS71.ge HI380.out)) | exact HB.out)⟩
         · rw [if_neg c24] at H
           exact absurd H (by simp)
       · rw [if_neg c23] at H
         exact absurd H (by simp)
     · rw [if_neg c22] at H
       have c22b0 : decide (x15_1 < t370) = false := decide_eq_false c22
       clear c22
       by_cases c31 : 0 ≤ t370
       · rw [if_pos c31] at H
         have c31b0 := eq_true c31
         have c31b1 : decide (0 ≤ t370) = true := decide_eq_true c31
         clear c31
         by_cases c32 : t370 ≤ (t366.length : Int)
         · rw [if_pos c32] at H
           have c32b0 := eq_true c32
           have c32b1 : decide (t370 ≤ (t366.length : Int)) = true := decide_eq_true c32
           clear c32
           obtain ⟨y396, hy396⟩ : ∃ y_ : List Int, y_ = (t366.take (t370 : Int).toNat) := ⟨_, rfl⟩
           replace H : ((raw_Read.f y396 t358 t359 t360 t361).bind fun bt400 => ((raw_Reader_Left.f x381000_1 x381001_1 x381002_1 x381003_1 x381004_1 x381005_1 x381006_1 x381007_1 x381008_1).bind fun bt404 => (if bt404.1 = (wrap64 ((t366.length : Int) - t370)) then ((raw_Reader_Rows.f bt404.2.1 bt404.2.2.1 bt404.2.2.2.1 bt404.2.2.2.2.1 bt404.2.2.2.2.2.1 bt404.2.2.2.2.2.2.1 bt404.2.2.2.2.2.2.2.1 bt404.2.2.2.2.2.2.2.2.1 bt404.2.2.2.2.2.2.2.2.2).bind fun bt414 => (if x14_1 = (wrap64 (bt414.1 * t359)) then ((raw_Reader_Rows.f bt414.2.1 bt414.2.2.1 bt414.2.2.2.1 bt414.2.2.2.2.1 bt414.2.2.2.2.2.1 bt414.2.2.2.2.2.2.1 bt414.2.2.2.2.2.2.2.1 bt414.2.2.2.2.2.2.2.2.1 bt414.2.2.2.2.2.2.2.2.2).bind fun bt424 => ((chequerref09_Stride.f t358 t359 t360 t361).bind fun t434 => (if t434 = 0 then (none) else (if bt424.1 = (wrap64 (Int.tdiv t370 t434)) then (if bt400.2 = 6 then ((chequerlaw09_lives.f k1).bind fun t435 => (some t435)) else (some false)) else (some false))))) else (some false))) else (some false)))) = some r := by first | (rw [hy396]; with_reducible exact H) | (have H2_ := (Option.bind_some _ _).symm.trans H; rw [hy396]; with_reducible exact H2_) | (have H2_ := (Option.bind_some _ _).symm.trans H; with_reducible exact H2_) | with_reducible exact H | (rw [hy396]; exact H) | exact H
           have Ny396 := Aside0.mk hy396
           clear hy396
           replace H := Option.bind_eq_some_iff.mp H
           obtain ⟨⟨t400, t403⟩, A330, H⟩ := H
           replace H : ((raw_Reader_Left.f x381000_1 x381001_1 x381002_1 x381003_1 x381004_1 x381005_1 x381006_1 x381007_1 x381008_1).bind fun bt404 => (if bt404.1 = (wrap64 ((t366.length : Int) - t370)) then ((raw_Reader_Rows.f bt404.2.1 bt404.2.2.1 bt404.2.2.2.1 bt404.2.2.2.2.1 bt404.2.2.2.2.2.1 bt404.2.2.2.2.2.2.1 bt404.2.2.2.2.2.2.2.1 bt404.2.2.2.2.2.2.2.2.1 bt404.2.2.2.2.2.2.2.2.2).bind fun bt414 => (if x14_1 = (wrap64 (bt414.1 * t359)) then ((raw_Reader_Rows.f bt414.2.1 bt414.2.2.1 bt414.2.2.2.1 bt414.2.2.2.2.1 bt414.2.2.2.2.2.1 bt414.2.2.2.2.2.2.1 bt414.2.2.2.2.2.2.2.1 bt414.2.2.2.2.2.2.2.2.1 bt414.2.2.2.2.2.2.2.2.2).bind fun bt424 => ((chequerref09_Stride.f t358 t359 t360 t361).bind fun t434 => (if t434 = 0 then (none) else (if bt424.1 = (wrap64 (Int.tdiv t370 t434)) then (if t403 = 6 then ((chequerlaw09_lives.f k1).bind fun t435 => (some t435)) else (some false)) else (some false))))) else (some false))) else (some false))) = some r := H
           have A33 := Aside0.mk A330
           clear A330
           replace H := Option.bind_eq_some_iff.mp H
           obtain ⟨⟨t404, t405, t406, t407, t408, t409, t410, t411, t412, t413⟩, A340, H⟩ := H
           replace H : (if t404 = (wrap64 ((t366.length : Int) - t370)) then ((raw_Reader_Rows.f t405 t406 t407 t408 t409 t410 t411 t412 t413).bind fun bt414 => (if x14_1 = (wrap64 (bt414.1 * t359)) then ((raw_Reader_Rows.f bt414.2.1 bt414.2.2.1 bt414.2.2.2.1 bt414.2.2.2.2.1 bt414.2.2.2.2.2.1 bt414.2.2.2.2.2.2.1 bt414.2.2.2.2.2.2.2.1 bt414.2.2.2.2.2.2.2.2.1 bt414.2.2.2.2.2.2.2.2.2).bind fun bt424 => ((chequerref09_Stride.f t358 t359 t360 t361).bind fun t434 => (if t434 = 0 then (none) else (if bt424.1 = (wrap64 (Int.tdiv t370 t434)) then (if t403 = 6 then ((chequerlaw09_lives.f k1).bind fun t435 => (some t435)) else (some false)) else (some false))))) else (some false))) else (some false)) = some r := H
           have A34 := Aside0.mk A340
           clear A340
           by_cases c35 : t404 = (wrap64 ((t366.length : Int) - t370))
           · rw [if_pos c35] at H
             have c35b0 : (t404 == (wrap64 ((t366.length : Int) - t370))) = true := beq_iff_eq.mpr c35
             have c35b1 : (t404 != (wrap64 ((t366.length : Int) - t370))) = false := bne_eq_false_iff_eq.mpr c35
             clear c35
             replace H := Option.bind_eq_some_iff.mp H
             obtain ⟨⟨t414, t415, t416, t417, t418, t419, t420, t421, t422, t423⟩, A360, H⟩ := H
             replace H : (if x14_1 = (wrap64 (t414 * t359)) then ((raw_Reader_Rows.f t415 t416 t417 t418 t419 t420 t421 t422 t423).bind fun bt424 => ((chequerref09_Stride.f t358 t359 t360 t361).bind fun t434 => (if t434 = 0 then (none) else (if bt424.1 = (wrap64 (Int.tdiv t370 t434)) then (if t403 = 6 then ((chequerlaw09_lives.f k1).bind fun t435 => (some t435)) else (some false)) else (some false))))) else (some false)) = some r := H
             have A36 := Aside0.mk A360
             clear A360
             by_cases c37 : x14_1 = (wrap64 (t414 * t359))
             · rw [if_pos c37] at H
               have c37b0 : (x14_1 == (wrap64 (t414 * t359))) = true := beq_iff_eq.mpr c37
               have c37b1 : (x14_1 != (wrap64 (t414 * t359))) = false := bne_eq_false_iff_eq.mpr c37
               clear c37
               replace H := Option.bind_eq_some_iff.mp H
               obtain ⟨⟨t424, t425, t426, t427, t428, t429, t430, t431, t432, t433⟩, A380, H⟩ := H
               replace H : ((chequerref09_Stride.f t358 t359 t360 t361).bind fun t434 => (if t434 = 0 then (none) else (if t424 = (wrap64 (Int.tdiv t370 t434)) then (if t403 = 6 then ((chequerlaw09_lives.f k1).bind fun t435 => (some t435)) else (some false)) else (some false)))) = some r := H
               have A38 := Aside0.mk A380
               clear A380
               replace H := Option.bind_eq_some_iff.mp H
               obtain ⟨t434, A390, H⟩ := H
               replace H : (if t434 = 0 then (none) else (if t424 = (wrap64 (Int.tdiv t370 t434)) then (if t403 = 6 then ((chequerlaw09_lives.f k1).bind fun t435 => (some t435)) else (some false)) else (some false))) = some r := H
               have A39 := Aside0.mk A390
               clear A390
               by_cases c40 : t434 = 0
               · rw [if_pos c40] at H
                 exact absurd H (by simp)
               · rw [if_neg c40] at H
                 have c40b0 : (t434 == 0) = false := beq_eq_false_iff_ne.mpr c40
                 have c40b1 : (t434 != 0) = true := bne_iff_ne.mpr c40
                 by_cases c41 : t424 = (wrap64 (Int.tdiv t370 t434))
                 · rw [if_pos c41] at H
                   have c41b0 : (t424 == (wrap64 (Int.tdiv t370 t434))) = true := beq_iff_eq.mpr c41
                   have c41b1 : (t424 != (wrap64 (Int.tdiv t370 t434))) = false := bne_eq_false_iff_eq.mpr c41
                   clear c41
                   by_cases c42 : t403 = 6
                   · rw [if_pos c42] at H
                     have c42b0 : (t403 == 6) = true := beq_iff_eq.mpr c42
                     have c42b1 : (t403 != 6) = false := bne_eq_false_iff_eq.mpr c42
                     clear c42
                     replace H := Option.bind_eq_some_iff.mp H
                     obtain ⟨t435, A430, H⟩ := H
                     replace H : (some t435) = some r := H
                     have A43 := Aside0.mk A430
                     clear A430
                     obtain rfl := Option.some.inj H
                     try go_wp2
                     (try (rw [drewN_self wr]; generalize hq_ : World.drewN wr _ = wr; have n0_ := Aside0.mk (qrp_ hq_ HO_9.out); have n1_ := Aside0.mk (qhp_ hq_ BK362.out); have n2_ : Aside0 (IsS71 w wr g380 x381000_1 x381001_1 x381002_1 x381003_1 x381004_1 x381005_1 x381006_1 x381007_1 x381008_1) := ⟨by rw [← hq_]; exact (by repeat (first | (with_reducible first | exact HI380.out | apply IsS71.alloc | apply IsS71.drewN | apply IsS71.drew | apply IsS71.set_0 | apply IsS71.set_1 | apply IsS71.set_2 | apply IsS71.set_3 | apply IsS71.set_4 | apply IsS71.set_5 | apply IsS71.set_6 | apply IsS71.set_7 | apply IsS71.set_8 | refine IsS71.far ?_ NB380_362.out _) | exact HI380.out))⟩; have n3_ : Aside0 (Below w.heap.size w wr) := ⟨by rw [← hq_]; exact (by repeat (first | (with_reducible first | exact HB.out | apply below_alloc | apply pw_below_drewN | apply below_drew1 | refine below_set ?_ (IsS71.ge HI380.out) | refine below_set ?_ GE362.out) | exact HB.out))⟩; clear HO_9 BK362 HI380 HB hq_; have HO_9 := n0_; have BK362 := n1_; have HI380 := n2_; have HB := n3_; clear n0_ n1_ n2_ n3_))
                     replace HO_9 := Aside0.mk (Kd.R_drew HO_9.out)
                     replace BK362 := Aside0.mk (blk_drew BK362.out)
                     replace HI380 := Aside0.mk (IsS71.drew HI380.out)
                     replace HB := Aside0.mk (below_drew1 HB.out)
                     have q45 : (t370 : Int) ≤ ((t366.length : Int) : Int) := of_decide_eq_true (by first | (with_reducible assumption) | assumption)
                     obtain ⟨i045, hi045, _, hsz45, _⟩ := info_parts info5
                     have hroom45 : t366.length ≤ co19 := (Kd.R_reads' HO_9.out).2.1
                     have hC45 : Kd.C (Kd.int .u8) _ Ao19 t366.length t366 := (Kd.R_reads' HO_9.out).2.2
                     have hcut45 := cut_to (P := Try.prog) 27 5 .i64 Try.underlying27 hi045 Ao19 t366.length co19 t370 (of_decide_eq_true (by first | (with_reducible assumption) | assumption)) q45 hroom45
                     have hr45 := Kd.C_take (m := (t370 : Int).toNat) hC45 (by omega)
                     have hy45 : y396.length = (t370 : Int).toNat := (by rw [Ny396.out, List.length_take]; omega)
                     rw [← Ny396.out] at hr45
                     rw [← hy45] at hcut45
                     have HR399 := Aside0.mk hr45
                     have HC399 := Aside0.mk (show y396.length ≤ co19 from by omega)
                     clear hr45 hC45 hroom45 hi045 hsz45
                     have KY45 := Aside0.mk hy45
                     clear hy45
                     have KL45 := Aside0.mk (show (t370 : Int).toNat ≤ t366.length from by omega)
                     replace q45 := eq_true q45
                     refine start_ (n := 10) (S := fun w' => w'.cell? ⟨gb362, 0, none⟩ = some (.int .i64 t358) ∧ w'.cell? ⟨gb362, 1, none⟩ = some (.int .i64 t359) ∧ w'.cell? ⟨gb362, 2, none⟩ = some (.int .i64 t360) ∧ w'.cell? ⟨gb362, 3, none⟩ = some (.int .i64 t361)) (ds := []) Fl60 (by kernel_rfl) rfl rfl ⟨(blk_cell BK362.out 0).trans rfl, (blk_cell BK362.out 1).trans rfl, (blk_cell BK362.out 2).trans rfl, (blk_cell BK362.out 3).trans rfl⟩ (fun hHeld => ?_); refine with_tabW chequerlaw09_RawCuts.tab16 chequerlaw09_RawCuts.bits16 (fun HT_ HW_ => ?_)
                     generalize wr.drew = w44 at HO_9 BK362 HI380 HB HR399 hHeld ⊢
                     refine pur_ (i := 0) (N := some 67) Fl62 (any_of HT_.out (by kernel_rfl)) ?_
                     refine pur_ (i := 1) (N := some 68) Fl67 (any_of HT_.out (by kernel_rfl)) ?_
                     refine pur_ (i := 2) (N := some 69) Fl68 (any_of HT_.out (by kernel_rfl)) ?_
                     refine take_ (i := 3) (N := some 70) (v := ?_) (a' := ?_) Fl69 rfl rfl (take_ofW HT_.out HW_.out (by kernel_rfl)) (fun _ _ _ h => h) (Or.inl ⟨by rfl, ?_⟩) hHeld ?_ ?_
                     rotate_left
                     · rintro w' ⟨s0, s1, s2, s3⟩
                       go_simp
                       with_reducible rfl
                     rotate_left
                     · simp only [Act.put, List.setIfInBounds_toArray, List.set_cons_zero, List.set_cons_succ, i64_w, i32_w]
                       rfl
                     refine one_ (i := 4) (N := some 71) Fl70 rfl rfl (one_of HT_.out (by kernel_rfl)) (by decide) (fun K hK => ?_)
                     refine goes_ Try.func13 (by kernel_rfl) rfl #[.slice Ao19 y396.length co19, .agg #[.int .i64 t358, .int .i64 t359, .int .i64 t360, .int .i64 t361]] (by rfl) rfl rfl (by (try simp only [List.map_toArray, List.map_cons, List.map_nil]); first | done | rfl | (simp only [List.length_drop, List.length_take]; rfl)) ?_
                     with_reducible refine (raw_Read.calls _ _ y396 t358 t359 t360 t361 t400 t403 _ ?side1 ?side2 A33.out).mono ?_
                     (case side1 => repeat (first | exact (by repeat (first | (with_reducible exact HR399.out) | (with_reducible refine Kd.C_alloc ?_ _) | (with_reducible refine Kd.C_drewN ?_ _) | (with_reducible refine Kd.C_drew ?_) | exact HR399.out)) | (with_reducible refine Kd.C_alloc ?_ _) | (with_reducible refine Kd.C_drewN ?_ _) | (with_reducible refine Kd.C_drew ?_)))
                     (case side2 => exact HC399.out)
                     rintro e w46 ⟨v401, rfl, ho0, hb⟩
                     refine ⟨_, rfl, ?_⟩
                     replace HO_9 := Aside0.mk (Kd.R_below (rp_ HO_9.out) hb)
                     have HO402 := Aside0.mk (Kd.R_lower ho0 (below_size (by repeat (first | (with_reducible first | exact HB.out | apply below_alloc | apply pw_below_drewN | apply below_drew1 | refine below_set ?_ (IsS71.ge HI380.out) | refine below_set ?_ GE362.out) | exact HB.out))))
                     replace BK362 := Aside0.mk (blk_below (hp_ BK362.out) hb)
                     replace HR399 := Aside0.mk (Kd.C_below (by repeat (first | (with_reducible exact HR399.out) | (with_reducible refine Kd.C_alloc ?_ _) | (with_reducible refine Kd.C_drewN ?_ _) | (with_reducible refine Kd.C_drew ?_) | exact HR399.out)) hb)
                     replace HB := Aside0.mk (below_step (by repeat (first | (with_reducible first | exact HB.out | apply below_alloc | apply pw_below_drewN | apply below_drew1 | refine below_set ?_ (IsS71.ge HI380.out) | refine below_set ?_ GE362.out) | exact HB.out)) hb)
                     replace HI380 := Aside0.mk (IsS71.below (by repeat (first | (with_reducible first | exact HI380.out | apply IsS71.alloc | apply IsS71.drewN | apply IsS71.drew | apply IsS71.set_0 | apply IsS71.set_1 | apply IsS71.set_2 | apply IsS71.set_3 | apply IsS71.set_4 | apply IsS71.set_5 | apply IsS71.set_6 | apply IsS71.set_7 | apply IsS71.set_8 | refine IsS71.far ?_ NB380_362.out _) | exact HI380.out)) hb)
                     (try clear hb)
                     (try clear hb2)
                     (try clear hk)
                     (try clear hi)
                     (try clear ho0)
                     refine hK.out _ _ ⟨(blk_cell BK362.out 0).trans rfl, (blk_cell BK362.out 1).trans rfl, (blk_cell BK362.out 2).trans rfl, (blk_cell BK362.out 3).trans rfl⟩ (fun hHeld => ?_)
                     clear hK K
                     refine norm_ (a' := ?_) ?_ ?_
                     rotate_left
                     · show Act.put _ (some 71) _ = _
                       simp only [Act.put, List.setIfInBounds_toArray, List.set_cons_zero, List.set_cons_succ, i64_w, i32_w]
                       rfl
                     refine pur_ (i := 5) (N := some 66) Fl72 (any_of HT_.out (by kernel_rfl)) ?_
                     refine pur_ (i := 6) (N := some 72) Fl74 (any_of HT_.out (by kernel_rfl)) ?_
                     refine pur_ (i := 7) (N := some 73) Fl76 (any_of HT_.out (by kernel_rfl)) ?_
                     refine pur_ (i := 8) (N := some 18) Fl78 (any_of HT_.out (by kernel_rfl)) ?_
                     refine pur_ (i := 9) (N := some 19) Fl99 (any_of HT_.out (by kernel_rfl)) ?_
                     refine done_ (done_of HT_.out (by kernel_rfl)) ?_
                     try go_wp2
                     replace HO_9 := Aside0.mk (Kd.R_drew HO_9.out)
                     replace HO402 := Aside0.mk (Kd.R_drew HO402.out)
                     replace BK362 := Aside0.mk (blk_drew BK362.out)
                     replace HR399 := Aside0.mk (Kd.C_drew HR399.out)
                     replace HI380 := Aside0.mk (IsS71.drew HI380.out)
                     replace HB := Aside0.mk (below_drew1 HB.out)
                     refine start_ (n := 33) (S := fun w' => w'.cell? ⟨gb362, 0, none⟩ = some (.int .i64 t358) ∧ w'.cell? ⟨gb362, 1, none⟩ = some (.int .i64 t359) ∧ w'.cell? ⟨gb362, 2, none⟩ = some (.int .i64 t360) ∧ w'.cell? ⟨gb362, 3, none⟩ = some (.int .i64 t361)) (ds := []) Fl59 (by kernel_rfl) rfl rfl ⟨(blk_cell BK362.out 0).trans rfl, (blk_cell BK362.out 1).trans rfl, (blk_cell BK362.out 2).trans rfl, (blk_cell BK362.out 3).trans rfl⟩ (fun hHeld => ?_); refine with_tabW chequerlaw09_RawCuts.tab17 chequerlaw09_RawCuts.bits17 (fun HT_ HW_ => ?_)
                     generalize w46.drew = w47 at HO_9 HO402 BK362 HR399 HI380 HB hHeld ⊢
                     refine pur_ (i := 0) (N := some 74) Fl61 (any_of HT_.out (by kernel_rfl)) ?_
                     refine pur_ (i := 2) (N := some 76) Fl63 (any_of HT_.out (by kernel_rfl)) ?_
                     refine pur_ (i := 3) (N := some 77) Fl64 (any_of HT_.out (by kernel_rfl)) ?_
                     refine pur_ (i := 4) (N := some 78) Fl65 (any_of HT_.out (by kernel_rfl)) ?_
                     refine pur_ (i := 5) (N := some 79) Fl66 (any_of HT_.out (by kernel_rfl)) ?_
                     refine one_ (i := 1) (N := some 75) Fl71 rfl rfl (one_of HT_.out (by kernel_rfl)) (by decide) (fun K hK => ?_)
                     refine goes_ Try.func20 (by kernel_rfl) rfl #[.pointer (some ⟨g380, 0, none⟩)] (by rfl) rfl rfl (by (try simp only [List.map_toArray, List.map_cons, List.map_nil]); first | done | rfl | (simp only [List.length_drop, List.length_take]; rfl)) ?_
                     with_reducible refine (raw_Reader_Left.calls g380 x381000_1 x381001_1 x381002_1 x381003_1 x381004_1 x381005_1 x381006_1 x381007_1 x381008_1 t404 t405 t406 t407 t408 t409 t410 t411 t412 t413 w _ ?side1 ?side2 A34.out).mono ?_
                     (case side1 => repeat (first | (with_reducible first | exact HI380.out | apply IsS71.alloc | apply IsS71.drewN | apply IsS71.drew | apply IsS71.set_0 | apply IsS71.set_1 | apply IsS71.set_2 | apply IsS71.set_3 | apply IsS71.set_4 | apply IsS71.set_5 | apply IsS71.set_6 | apply IsS71.set_7 | apply IsS71.set_8 | refine IsS71.far ?_ NB380_362.out _) | exact HI380.out))
                     (case side2 => repeat (first | (with_reducible first | exact HB.out | apply below_alloc | apply pw_below_drewN | apply below_drew1 | refine below_set ?_ (IsS71.ge HI380.out) | refine below_set ?_ GE362.out) | exact HB.out))
                     rintro e w48 ⟨rfl, hi, hb, hk⟩
                     refine ⟨_, rfl, ?_⟩
                     replace HO_9 := Aside0.mk (raw_bytes_keep (rp_ HO_9.out) hk)
                     replace BK362 := Aside0.mk (KeepBut.blk hk (g' := gb362) (o := .cells #[.int .i64 t358, .int .i64 t359, .int .i64 t360, .int .i64 t361] 23 (0, 0)) (hp_ BK362.out) NB362_380.out (raw_hr HI380.out BK362.out (by decide)))
                     replace HO402 := Aside0.mk (raw_row_keep (show IsS71 w _ g380 x381000_1 x381001_1 x381002_1 x381003_1 x381004_1 x381005_1 x381006_1 x381007_1 x381008_1 from by repeat (first | (with_reducible first | exact HI380.out | apply IsS71.alloc | apply IsS71.drewN | apply IsS71.drew | apply IsS71.set_0 | apply IsS71.set_1 | apply IsS71.set_2 | apply IsS71.set_3 | apply IsS71.set_4 | apply IsS71.set_5 | apply IsS71.set_6 | apply IsS71.set_7 | apply IsS71.set_8 | refine IsS71.far ?_ NB380_362.out _) | exact HI380.out)) (rp_ HO402.out) hk (by decide))
                     replace HB := Aside0.mk (hb)
                     replace HI380 := Aside0.mk (hi)
                     (try clear hb)
                     (try clear hb2)
                     (try clear hk)
                     (try clear hi)
                     refine hK.out _ _ ⟨(blk_cell BK362.out 0).trans rfl, (blk_cell BK362.out 1).trans rfl, (blk_cell BK362.out 2).trans rfl, (blk_cell BK362.out 3).trans rfl⟩ (fun hHeld => ?_)
                     clear hK K
                     refine norm_ (a' := ?_) ?_ ?_
                     rotate_left
                     · show Act.put _ (some 75) _ = _
                       simp only [Act.put, List.setIfInBounds_toArray, List.set_cons_zero, List.set_cons_succ, i64_w, i32_w]
                       rfl
                     refine pur_ (i := 6) (N := some 80) Fl73 (any_of HT_.out (by kernel_rfl)) ?_
                     refine pur_ (i := 7) (N := some 81) Fl75 (any_of HT_.out (by kernel_rfl)) ?_
                     refine pur_ (i := 8) (N := some 82) Fl77 (any_of HT_.out (by kernel_rfl)) ?_
                     refine pur_ (i := 9) (N := some 83) Fl79 (any_of HT_.out (by kernel_rfl)) ?_
                     refine pur_ (i := 11) (N := some 85) Fl100 (any_of HT_.out (by kernel_rfl)) ?_
                     refine take_ (i := 12) (N := some 86) (v := ?_) (a' := ?_) Fl101 rfl rfl (take_ofW HT_.out HW_.out (by kernel_rfl)) (fun _ _ _ h => h) (Or.inl ⟨by rfl, ?_⟩) hHeld ?_ ?_
                     rotate_left
                     · rintro w' ⟨s0, s1, s2, s3⟩
                       go_simp
                       with_reducible rfl
                     rotate_left
                     · simp only [Act.put, List.setIfInBounds_toArray, List.set_cons_zero, List.set_cons_succ, i64_w, i32_w]
                       rfl
                     refine one_ (i := 10) (N := some 84) Fl80 rfl rfl (one_of HT_.out (by kernel_rfl)) (by decide) (fun K hK => ?_)
                     refine goes_ Try.func21 (by kernel_rfl) rfl #[.pointer (some ⟨g380, 0, none⟩)] (by rfl) rfl rfl (by (try simp only [List.map_toArray, List.map_cons, List.map_nil]); first | done | rfl | (simp only [List.length_drop, List.length_take]; rfl)) ?_
                     with_reducible refine (raw_Reader_Rows.calls g380 t405 t406 t407 t408 t409 t410 t411 t412 t413 t414 t415 t416 t417 t418 t419 t420 t421 t422 t423 w _ ?side1 ?side2 A36.out).mono ?_
                     (case side1 => repeat (first | (with_reducible first | exact HI380.out | apply IsS71.alloc | apply IsS71.drewN | apply IsS71.drew | apply IsS71.set_0 | apply IsS71.set_1 | apply IsS71.set_2 | apply IsS71.set_3 | apply IsS71.set_4 | apply IsS71.set_5 | apply IsS71.set_6 | apply IsS71.set_7 | apply IsS71.set_8 | refine IsS71.far ?_ NB380_362.out _) | exact HI380.out))
                     (case side2 => repeat (first | (with_reducible first | exact HB.out | apply below_alloc | apply pw_below_drewN | apply below_drew1 | refine below_set ?_ (IsS71.ge HI380.out) | refine below_set ?_ GE362.out) | exact HB.out))
                     rintro e w49 ⟨rfl, hi, hb, hk⟩
                     refine ⟨_, rfl, ?_⟩
                     replace HO_9 := Aside0.mk (raw_bytes_keep (rp_ HO_9.out) hk)
                     replace BK362 := Aside0.mk (KeepBut.blk hk (g' := gb362) (o := .cells #[.int .i64 t358, .int .i64 t359, .int .i64 t360, .int .i64 t361] 23 (0, 0)) (hp_ BK362.out) NB362_380.out (raw_hr HI380.out BK362.out (by decide)))
                     replace HO402 := Aside0.mk (raw_row_keep (show IsS71 w _ g380 t405 t406 t407 t408 t409 t410 t411 t412 t413 from by repeat (first | (with_reducible first | exact HI380.out | apply IsS71.alloc | apply IsS71.drewN | apply IsS71.drew | apply IsS71.set_0 | apply IsS71.set_1 | apply IsS71.set_2 | apply IsS71.set_3 | apply IsS71.set_4 | apply IsS71.set_5 | apply IsS71.set_6 | apply IsS71.set_7 | apply IsS71.set_8 | refine IsS71.far ?_ NB380_362.out _) | exact HI380.out)) (rp_ HO402.out) hk (by decide))
                     replace HB := Aside0.mk (hb)
                     replace HI380 := Aside0.mk (hi)
                     (try clear hb)
                     (try clear hb2)
                     (try clear hk)
                     (try clear hi)
                     refine hK.out _ _ ⟨(blk_cell BK362.out 0).trans rfl, (blk_cell BK362.out 1).trans rfl, (blk_cell BK362.out 2).trans rfl, (blk_cell BK362.out 3).trans rfl⟩ (fun hHeld => ?_)
                     clear hK K
                     refine norm_ (a' := ?_) ?_ ?_
                     rotate_left
                     · show Act.put _ (some 84) _ = _
                       simp only [Act.put, List.setIfInBounds_toArray, List.set_cons_zero, List.set_cons_succ, i64_w, i32_w]
                       rfl
                     refine pur_ (i := 13) (N := some 87) Fl81 (any_of HT_.out (by kernel_rfl)) ?_
                     refine pur_ (i := 14) (N := some 88) Fl82 (any_of HT_.out (by kernel_rfl)) ?_
                     refine pur_ (i := 15) (N := some 89) Fl83 (any_of HT_.out (by kernel_rfl)) ?_
                     refine pur_ (i := 16) (N := some 90) Fl84 (any_of HT_.out (by kernel_rfl)) ?_
                     refine pur_ (i := 17) (N := some 91) Fl85 (any_of HT_.out (by kernel_rfl)) ?_
                     refine pur_ (i := 19) (N := some 93) Fl102 (any_of HT_.out (by kernel_rfl)) ?_
                     refine take_ (i := 20) (N := some 94) (v := ?_) (a' := ?_) Fl103 rfl rfl (take_ofW HT_.out HW_.out (by kernel_rfl)) (fun _ _ _ h => h) (Or.inl ⟨by rfl, ?_⟩) hHeld ?_ ?_
                     rotate_left
                     · rintro w' ⟨s0, s1, s2, s3⟩
                       go_simp
                       with_reducible rfl
                     rotate_left
                     · simp only [Act.put, List.setIfInBounds_toArray, List.set_cons_zero, List.set_cons_succ, i64_w, i32_w]
                       rfl
                     refine one_ (i := 18) (N := some 92) Fl86 rfl rfl (one_of HT_.out (by kernel_rfl)) (by decide) (fun K hK => ?_)
                     refine goes_ Try.func21 (by kernel_rfl) rfl #[.pointer (some ⟨g380, 0, none⟩)] (by rfl) rfl rfl (by (try simp only [List.map_toArray, List.map_cons, List.map_nil]); first | done | rfl | (simp only [List.length_drop, List.length_take]; rfl)) ?_
                     with_reducible refine (raw_Reader_Rows.calls g380 t415 t416 t417 t418 t419 t420 t421 t422 t423 t424 t425 t426 t427 t428 t429 t430 t431 t432 t433 w _ ?side1 ?side2 A38.out).mono ?_
                     (case side1 => repeat (first | (with_reducible first | exact HI380.out | apply IsS71.alloc | apply IsS71.drewN | apply IsS71.drew | apply IsS71.set_0 | apply IsS71.set_1 | apply IsS71.set_2 | apply IsS71.set_3 | apply IsS71.set_4 | apply IsS71.set_5 | apply IsS71.set_6 | apply IsS71.set_7 | apply IsS71.set_8 | refine IsS71.far ?_ NB380_362.out _) | exact HI380.out))
                     (case side2 => repeat (first | (with_reducible first | exact HB.out | apply below_alloc | apply pw_below_drewN | apply below_drew1 | refine below_set ?_ (IsS71.ge HI380.out) | refine below_set ?_ GE362.out) | exact HB.out))
                     rintro e w50 ⟨rfl, hi, hb, hk⟩
                     refine ⟨_, rfl, ?_⟩
                     replace HO_9 := Aside0.mk (raw_bytes_keep (rp_ HO_9.out) hk)
                     replace BK362 := Aside0.mk (KeepBut.blk hk (g' := gb362) (o := .cells #[.int .i64 t358, .int .i64 t359, .int .i64 t360, .int .i64 t361] 23 (0, 0)) (hp_ BK362.out) NB362_380.out (raw_hr HI380.out BK362.out (by decide)))
                     replace HO402 := Aside0.mk (raw_row_keep (show IsS71 w _ g380 t415 t416 t417 t418 t419 t420 t421 t422 t423 from by repeat (first | (with_reducible first | exact HI380.out | apply IsS71.alloc | apply IsS71.drewN | apply IsS71.drew | apply IsS71.set_0 | apply IsS71.set_1 | apply IsS71.set_2 | apply IsS71.set_3 | apply IsS71.set_4 | apply IsS71.set_5 | apply IsS71.set_6 | apply IsS71.set_7 | apply IsS71.set_8 | refine IsS71.far ?_ NB380_362.out _) | exact HI380.out)) (rp_ HO402.out) hk (by decide))
                     replace HB := Aside0.mk (hb)
                     replace HI380 := Aside0.mk (hi)
                     (try clear hb)
                     (try clear hb2)
                     (try clear hk)
                     (try clear hi)
                     refine hK.out _ _ ⟨(blk_cell BK362.out 0).trans rfl, (blk_cell BK362.out 1).trans rfl, (blk_cell BK362.out 2).trans rfl, (blk_cell BK362.out 3).trans rfl⟩ (fun hHeld => ?_)
                     clear hK K
                     refine norm_ (a' := ?_) ?_ ?_
                     rotate_left
                     · show Act.put _ (some 92) _ = _
                       simp only [Act.put, List.setIfInBounds_toArray, List.set_cons_zero, List.set_cons_succ, i64_w, i32_w]
                       rfl
                     refine one_ (i := 21) (N := some 95) Fl87 rfl rfl (one_of HT_.out (by kernel_rfl)) (by decide) (fun K hK => ?_)
                     refine goes_ Try.func22 (by kernel_rfl) rfl #[.agg #[.int .i64 t358, .int .i64 t359, .int .i64 t360, .int .i64 t361]] (by rfl) rfl rfl (by (try simp only [List.map_toArray, List.map_cons, List.map_nil]); first | done | rfl | (simp only [List.length_drop, List.length_take]; rfl)) ?_
                     with_reducible refine (chequerref09_Stride.calls t358 t359 t360 t361 t434 _ A39.out).mono ?_
                     rintro e w51 ⟨rfl, hb⟩
                     refine ⟨_, rfl, ?_⟩
                     replace HO_9 := Aside0.mk (Kd.R_below (rp_ HO_9.out) hb)
                     replace HO402 := Aside0.mk (Kd.R_below (rp_ HO402.out) hb)
                     replace BK362 := Aside0.mk (blk_below (hp_ BK362.out) hb)
                     replace HB := Aside0.mk (below_step (by repeat (first | (with_reducible first | exact HB.out | apply below_alloc | apply pw_below_drewN | apply below_drew1 | refine below_set ?_ (IsS71.ge HI380.out) | refine below_set ?_ GE362.out) | exact HB.out)) hb)
                     replace HI380 := Aside0.mk (IsS71.below (by repeat (first | (with_reducible first | exact HI380.out | apply IsS71.alloc | apply IsS71.drewN | apply IsS71.drew | apply IsS71.set_0 | apply IsS71.set_1 | apply IsS71.set_2 | apply IsS71.set_3 | apply IsS71.set_4 | apply IsS71.set_5 | apply IsS71.set_6 | apply IsS71.set_7 | apply IsS71.set_8 | refine IsS71.far ?_ NB380_362.out _) | exact HI380.out)) hb)
                     (try clear hb)
                     (try clear hb2)
                     (try clear hk)
                     (try clear hi)
                     refine hK.out _ _ ⟨(blk_cell BK362.out 0).trans rfl, (blk_cell BK362.out 1).trans rfl, (blk_cell BK362.out 2).trans rfl, (blk_cell BK362.out 3).trans rfl⟩ (fun hHeld => ?_)
                     clear hK K
                     refine norm_ (a' := ?_) ?_ ?_
                     rotate_left
                     · show Act.put _ (some 95) _ = _
                       simp only [Act.put, List.setIfInBounds_toArray, List.set_cons_zero, List.set_cons_succ, i64_w, i32_w]
                       rfl
                     refine pur_ (i := 22) (N := some 96) Fl88 (any_of HT_.out (by kernel_rfl)) ?_
                     refine pur_ (i := 23) (N := some 97) Fl89 (any_of HT_.out (by kernel_rfl)) ?_
                     refine pur_ (i := 24) (N := some 98) Fl90 (any_of HT_.out (by kernel_rfl)) ?_
                     refine pur_ (i := 25) (N := some 99) Fl91 (any_of HT_.out (by kernel_rfl)) ?_
                     refine pur_ (i := 26) (N := some 100) Fl92 (any_of HT_.out (by kernel_rfl)) ?_
                     refine pur_ (i := 27) (N := some 101) Fl93 (any_of HT_.out (by kernel_rfl)) ?_
                     refine pur_ (i := 28) (N := some 102) Fl94 (any_of HT_.out (by kernel_rfl)) ?_
                     refine pur_ (i := 29) (N := some 103) Fl95 (any_of HT_.out (by kernel_rfl)) ?_
                     refine one_ (i := 30) (N := some 104) Fl96 rfl rfl (one_of HT_.out (by kernel_rfl)) (by decide) (fun K hK => ?_)
                     refine goes_ Try.func16 (by kernel_rfl) rfl #[] (by rfl) rfl rfl (by (try simp only [List.map_toArray, List.map_cons, List.map_nil]); first | done | rfl | (simp only [List.length_drop, List.length_take]; rfl)) ?_
                     with_reducible refine (chequerlaw09_lives.calls k1  t435 _ A43.out).mono ?_
                     rintro e w52 ⟨rfl, hb⟩
                     refine ⟨_, rfl, ?_⟩
                     replace HO_9 := Aside0.mk (Kd.R_below (rp_ HO_9.out) hb)
                     replace HO402 := Aside0.mk (Kd.R_below (rp_ HO402.out) hb)
                     replace BK362 := Aside0.mk (blk_below (hp_ BK362.out) hb)
                     replace HB := Aside0.mk (below_step (by repeat (first | (with_reducible first | exact HB.out | apply below_alloc | apply pw_below_drewN | apply below_drew1 | refine below_set ?_ (IsS71.ge HI380.out) | refine below_set ?_ GE362.out) | exact HB.out)) hb)
                     replace HI380 := Aside0.mk (IsS71.below (by repeat (first | (with_reducible first | exact HI380.out | apply IsS71.alloc | apply IsS71.drewN | apply IsS71.drew | apply IsS71.set_0 | apply IsS71.set_1 | apply IsS71.set_2 | apply IsS71.set_3 | apply IsS71.set_4 | apply IsS71.set_5 | apply IsS71.set_6 | apply IsS71.set_7 | apply IsS71.set_8 | refine IsS71.far ?_ NB380_362.out _) | exact HI380.out)) hb)
                     (try clear hb)
                     (try clear hb2)
                     (try clear hk)
                     (try clear hi)
                     refine hK.out _ _ ⟨(blk_cell BK362.out 0).trans rfl, (blk_cell BK362.out 1).trans rfl, (blk_cell BK362.out 2).trans rfl, (blk_cell BK362.out 3).trans rfl⟩ (fun hHeld => ?_)
                     clear hK K
                     refine norm_ (a' := ?_) ?_ ?_
                     rotate_left
                     · show Act.put _ (some 104) _ = _
                       simp only [Act.put, List.setIfInBounds_toArray, List.set_cons_zero, List.set_cons_succ, i64_w, i32_w]
                       rfl
                     refine pur_ (i := 31) (N := some 105) Fl97 (any_of HT_.out (by kernel_rfl)) ?_
                     refine pur_ (i := 32) (N := some 6) Fl98 (any_of HT_.out (by kernel_rfl)) ?_
                     refine done_ (done_of HT_.out (by kernel_rfl)) ?_
                     try go_wp2
                     go_ret
                     exact ⟨by first | rfl | (simp [errW_none, errW_some] <;> rfl) | (simp [*, errW_none, errW_some] <;> rfl), by repeat (first | (with_reducible first | exact HB.out | apply below_alloc | apply pw_below_drewN | apply below_drew1 | refine below_set ?_ (IsS71.ge HI380.out) | refine below_set ?_ GE362.out) | exact HB.out)⟩
                   · rw [if_neg c42] at H
                     have c42b0 : (t403 == 6) = false := beq_eq_false_iff_ne.mpr c42
                     have c42b1 : (t403 != 6) = true := bne_iff_ne.mpr c42
                     obtain rfl := Option.some.inj H
                     try go_wp2
                     (try (rw [drewN_self wr]; generalize hq_ : World.drewN wr _ = wr; have n0_ := Aside0.mk (qrp_ hq_ HO_9.out); have n1_ := Aside0.mk (qhp_ hq_ BK362.out); have n2_ : Aside0 (IsS71 w wr g380 x381000_1 x381001_1 x381002_1 x381003_1 x381004_1 x381005_1 x381006_1 x381007_1 x381008_1) := ⟨by rw [← hq_]; exact (by repeat (first | (with_reducible first | exact HI380.out | apply IsS71.alloc | apply IsS71.drewN | apply IsS71.drew | apply IsS71.set_0 | apply IsS71.set_1 | apply IsS71.set_2 | apply IsS71.set_3 | apply IsS71.set_4 | apply IsS71.set_5 | apply IsS71.set_6 | apply IsS71.set_7 | apply IsS71.set_8 | refine IsS71.far ?_ NB380_362.out _) | exact HI380.out))⟩; have n3_ : Aside0 (Below w.heap.size w wr) := ⟨by rw [← hq_]; exact (by repeat (first | (with_reducible first | exact HB.out | apply below_alloc | apply pw_below_drewN | apply below_drew1 | refine below_set ?_ (IsS71.ge HI380.out) | refine below_set ?_ GE362.out) | exact HB.out))⟩; clear HO_9 BK362 HI380 HB hq_; have HO_9 := n0_; have BK362 := n1_; have HI380 := n2_; have HB := n3_; clear n0_ n1_ n2_ n3_))
                     replace HO_9 := Aside0.mk (Kd.R_drew HO_9.out)
                     replace BK362 := Aside0.mk (blk_drew BK362.out)
                     replace HI380 := Aside0.mk (IsS71.drew HI380.out)
                     replace HB := Aside0.mk (below_drew1 HB.out)
                     have q54 : (t370 : Int) ≤ ((t366.length : Int) : Int) := of_decide_eq_true (by first | (with_reducible assumption) | assumption)
                     obtain ⟨i054, hi054, _, hsz54, _⟩ := info_parts info5
                     have hroom54 : t366.length ≤ co19 := (Kd.R_reads' HO_9.out).2.1
                     have hC54 : Kd.C (Kd.int .u8) _ Ao19 t366.length t366 := (Kd.R_reads' HO_9.out).2.2
                     have hcut54 := cut_to (P := Try.prog) 27 5 .i64 Try.underlying27 hi054 Ao19 t366.length co19 t370 (of_decide_eq_true (by first | (with_reducible assumption) | assumption)) q54 hroom54
                     have hr54 := Kd.C_take (m := (t370 : Int).toNat) hC54 (by omega)
                     have hy54 : y396.length = (t370 : Int).toNat := (by rw [Ny396.out, List.length_take]; omega)
                     rw [← Ny396.out] at hr54
                     rw [← hy54] at hcut54
                     have HR399 := Aside0.mk hr54
                     have HC399 := Aside0.mk (show y396.length ≤ co19 from by omega)
                     clear hr54 hC54 hroom54 hi054 hsz54
                     have KY54 := Aside0.mk hy54
                     clear hy54
                     have KL54 := Aside0.mk (show (t370 : Int).toNat ≤ t366.length from by omega)
                     replace q54 := eq_true q54
                     refine start_ (n := 10) (S := fun w' => w'.cell? ⟨gb362, 0, none⟩ = some (.int .i64 t358) ∧ w'.cell? ⟨gb362, 1, none⟩ = some (.int .i64 t359) ∧ w'.cell? ⟨gb362, 2, none⟩ = some (.int .i64 t360) ∧ w'.cell? ⟨gb362, 3, none⟩ = some (.int .i64 t361)) (ds := []) Fl60 (by kernel_rfl) rfl rfl ⟨(blk_cell BK362.out 0).trans rfl, (blk_cell BK362.out 1).trans rfl, (blk_cell BK362.out 2).trans rfl, (blk_cell BK362.out 3).trans rfl⟩ (fun hHeld => ?_); refine with_tabW chequerlaw09_RawCuts.tab16 chequerlaw09_RawCuts.bits16 (fun HT_ HW_ => ?_)
                     generalize wr.drew = w53 at HO_9 BK362 HI380 HB HR399 hHeld ⊢
                     refine pur_ (i := 0) (N := some 67) Fl62 (any_of HT_.out (by kernel_rfl)) ?_
                     refine pur_ (i := 1) (N := some 68) Fl67 (any_of HT_.out (by kernel_rfl)) ?_
                     refine pur_ (i := 2) (N := some 69) Fl68 (any_of HT_.out (by kernel_rfl)) ?_
                     refine take_ (i := 3) (N := some 70) (v := ?_) (a' := ?_) Fl69 rfl rfl (take_ofW HT_.out HW_.out (by kernel_rfl)) (fun _ _ _ h => h) (Or.inl ⟨by rfl, ?_⟩) hHeld ?_ ?_
                     rotate_left
                     · rintro w' ⟨s0, s1, s2, s3⟩
                       go_simp
                       with_reducible rfl
                     rotate_left
                     · simp only [Act.put, List.setIfInBounds_toArray, List.set_cons_zero, List.set_cons_succ, i64_w, i32_w]
                       rfl
                     refine one_ (i := 4) (N := some 71) Fl70 rfl rfl (one_of HT_.out (by kernel_rfl)) (by decide) (fun K hK => ?_)
                     refine goes_ Try.func13 (by kernel_rfl) rfl #[.slice Ao19 y396.length co19, .agg #[.int .i64 t358, .int .i64 t359, .int .i64 t360, .int .i64 t361]] (by rfl) rfl rfl (by (try simp only [List.map_toArray, List.map_cons, List.map_nil]); first | done | rfl | (simp only [List.length_drop, List.length_take]; rfl)) ?_
                     with_reducible refine (raw_Read.calls _ _ y396 t358 t359 t360 t361 t400 t403 _ ?side1 ?side2 A33.out).mono ?_
                     (case side1 => repeat (first | exact (by repeat (first | (with_reducible exact HR399.out) | (with_reducible refine Kd.C_alloc ?_ _) | (with_reducible refine Kd.C_drewN ?_ _) | (with_reducible refine Kd.C_drew ?_) | exact HR399.out)) | (with_reducible refine Kd.C_alloc ?_ _) | (with_reducible refine Kd.C_drewN ?_ _) | (with_reducible refine Kd.C_drew ?_)))
                     (case side2 => exact HC399.out)
                     rintro e w55 ⟨v401, rfl, ho0, hb⟩
                     refine ⟨_, rfl, ?_⟩
                     replace HO_9 := Aside0.mk (Kd.R_below (rp_ HO_9.out) hb)
                     have HO402 := Aside0.mk (Kd.R_lower ho0 (below_size (by repeat (first | (with_reducible first | exact HB.out | apply below_alloc | apply pw_below_drewN | apply below_drew1 | refine below_set ?_ (IsS71.ge HI380.out) | refine below_set ?_ GE362.out) | exact HB.out))))
                     replace BK362 := Aside0.mk (blk_below (hp_ BK362.out) hb)
                     replace HR399 := Aside0.mk (Kd.C_below (by repeat (first | (with_reducible exact HR399.out) | (with_reducible refine Kd.C_alloc ?_ _) | (with_reducible refine Kd.C_drewN ?_ _) | (with_reducible refine Kd.C_drew ?_) | exact HR399.out)) hb)
                     replace HB := Aside0.mk (below_step (by repeat (first | (with_reducible first | exact HB.out | apply below_alloc | apply pw_below_drewN | apply below_drew1 | refine below_set ?_ (IsS71.ge HI380.out) | refine below_set ?_ GE362.out) | exact HB.out)) hb)
                     replace HI380 := Aside0.mk (IsS71.below (by repeat (first | (with_reducible first | exact HI380.out | apply IsS71.alloc | apply IsS71.drewN | apply IsS71.drew | apply IsS71.set_0 | apply IsS71.set_1 | apply IsS71.set_2 | apply IsS71.set_3 | apply IsS71.set_4 | apply IsS71.set_5 | apply IsS71.set_6 | apply IsS71.set_7 | apply IsS71.set_8 | refine IsS71.far ?_ NB380_362.out _) | exact HI380.out)) hb)
                     (try clear hb)
                     (try clear hb2)
                     (try clear hk)
                     (try clear hi)
                     (try clear ho0)
                     refine hK.out _ _ ⟨(blk_cell BK362.out 0).trans rfl, (blk_cell BK362.out 1).trans rfl, (blk_cell BK362.out 2).trans rfl, (blk_cell BK362.out 3).trans rfl⟩ (fun hHeld => ?_)
                     clear hK K
                     refine norm_ (a' := ?_) ?_ ?_
                     rotate_left
                     · show Act.put _ (some 71) _ = _
                       simp only [Act.put, List.setIfInBounds_toArray, List.set_cons_zero, List.set_cons_succ, i64_w, i32_w]
                       rfl
                     refine pur_ (i := 5) (N := some 66) Fl72 (any_of HT_.out (by kernel_rfl)) ?_
                     refine pur_ (i := 6) (N := some 72) Fl74 (any_of HT_.out (by kernel_rfl)) ?_
                     refine pur_ (i := 7) (N := some 73) Fl76 (any_of HT_.out (by kernel_rfl)) ?_
                     refine pur_ (i := 8) (N := some 18) Fl78 (any_of HT_.out (by kernel_rfl)) ?_
                     refine pur_ (i := 9) (N := some 19) Fl99 (any_of HT_.out (by kernel_rfl)) ?_
                     refine done_ (done_of HT_.out (by kernel_rfl)) ?_
                     try go_wp2
                     replace HO_9 := Aside0.mk (Kd.R_drew HO_9.out)
                     replace HO402 := Aside0.mk (Kd.R_drew HO402.out)
                     replace BK362 := Aside0.mk (blk_drew BK362.out)
                     replace HR399 := Aside0.mk (Kd.C_drew HR399.out)
                     replace HI380 := Aside0.mk (IsS71.drew HI380.out)
                     replace HB := Aside0.mk (below_drew1 HB.out)
                     refine start_ (n := 33) (S := fun w' => w'.cell? ⟨gb362, 0, none⟩ = some (.int .i64 t358) ∧ w'.cell? ⟨gb362, 1, none⟩ = some (.int .i64 t359) ∧ w'.cell? ⟨gb362, 2, none⟩ = some (.int .i64 t360) ∧ w'.cell? ⟨gb362, 3, none⟩ = some (.int .i64 t361)) (ds := []) Fl59 (by kernel_rfl) rfl rfl ⟨(blk_cell BK362.out 0).trans rfl, (blk_cell BK362.out 1).trans rfl, (blk_cell BK362.out 2).trans rfl, (blk_cell BK362.out 3).trans rfl⟩ (fun hHeld => ?_); refine with_tabW chequerlaw09_RawCuts.tab17 chequerlaw09_RawCuts.bits17 (fun HT_ HW_ => ?_)
                     generalize w55.drew = w56 at HO_9 HO402 BK362 HR399 HI380 HB hHeld ⊢
                     refine pur_ (i := 0) (N := some 74) Fl61 (any_of HT_.out (by kernel_rfl)) ?_
                     refine pur_ (i := 2) (N := some 76) Fl63 (any_of HT_.out (by kernel_rfl)) ?_
                     refine pur_ (i := 3) (N := some 77) Fl64 (any_of HT_.out (by kernel_rfl)) ?_
                     refine pur_ (i := 4) (N := some 78) Fl65 (any_of HT_.out (by kernel_rfl)) ?_
                     refine pur_ (i := 5) (N := some 79) Fl66 (any_of HT_.out (by kernel_rfl)) ?_
                     refine one_ (i := 1) (N := some 75) Fl71 rfl rfl (one_of HT_.out (by kernel_rfl)) (by decide) (fun K hK => ?_)
                     refine goes_ Try.func20 (by kernel_rfl) rfl #[.pointer (some ⟨g380, 0, none⟩)] (by rfl) rfl rfl (by (try simp only [List.map_toArray, List.map_cons, List.map_nil]); first | done | rfl | (simp only [List.length_drop, List.length_take]; rfl)) ?_
                     with_reducible refine (raw_Reader_Left.calls g380 x381000_1 x381001_1 x381002_1 x381003_1 x381004_1 x381005_1 x381006_1 x381007_1 x381008_1 t404 t405 t406 t407 t408 t409 t410 t411 t412 t413 w _ ?side1 ?side2 A34.out).mono ?_
                     (case side1 => repeat (first | (with_reducible first | exact HI380.out | apply IsS71.alloc | apply IsS71.drewN | apply IsS71.drew | apply IsS71.set_0 | apply IsS71.set_1 | apply IsS71.set_2 | apply IsS71.set_3 | apply IsS71.set_4 | apply IsS71.set_5 | apply IsS71.set_6 | apply IsS71.set_7 | apply IsS71.set_8 | refine IsS71.far ?_ NB380_362.out _) | exact HI380.out))
                     (case side2 => repeat (first | (with_reducible first | exact HB.out | apply below_alloc | apply pw_below_drewN | apply below_drew1 | refine below_set ?_ (IsS71.ge HI380.out) | refine below_set ?_ GE362.out) | exact HB.out))
                     rintro e w57 ⟨rfl, hi, hb, hk⟩
                     refine ⟨_, rfl, ?_⟩
                     replace HO_9 := Aside0.mk (raw_bytes_keep (rp_ HO_9.out) hk)
                     replace BK362 := Aside0.mk (KeepBut.blk hk (g' := gb362) (o := .cells #[.int .i64 t358, .int .i64 t359, .int .i64 t360, .int .i64 t361] 23 (0, 0)) (hp_ BK362.out) NB362_380.out (raw_hr HI380.out BK362.out (by decide)))
                     replace HO402 := Aside0.mk (raw_row_keep (show IsS71 w _ g380 x381000_1 x381001_1 x381002_1 x381003_1 x381004_1 x381005_1 x381006_1 x381007_1 x381008_1 from by repeat (first | (with_reducible first | exact HI380.out | apply IsS71.alloc | apply IsS71.drewN | apply IsS71.drew | apply IsS71.set_0 | apply IsS71.set_1 | apply IsS71.set_2 | apply IsS71.set_3 | apply IsS71.set_4 | apply IsS71.set_5 | apply IsS71.set_6 | apply IsS71.set_7 | apply IsS71.set_8 | refine IsS71.far ?_ NB380_362.out _) | exact HI380.out)) (rp_ HO402.out) hk (by decide))
                     replace HB := Aside0.mk (hb)
                     replace HI380 := Aside0.mk (hi)
                     (try clear hb)
                     (try clear hb2)
                     (try clear hk)
                     (try clear hi)
                     refine hK.out _ _ ⟨(blk_cell BK362.out 0).trans rfl, (blk_cell BK362.out 1).trans rfl, (blk_cell BK362.out 2).trans rfl, (blk_cell BK362.out 3).trans rfl⟩ (fun hHeld => ?_)
                     clear hK K
                     refine norm_ (a' := ?_) ?_ ?_
                     rotate_left
                     · show Act.put _ (some 75) _ = _
                       simp only [Act.put, List.setIfInBounds_toArray, List.set_cons_zero, List.set_cons_succ, i64_w, i32_w]
                       rfl
                     refine pur_ (i := 6) (N := some 80) Fl73 (any_of HT_.out (by kernel_rfl)) ?_
                     refine pur_ (i := 7) (N := some 81) Fl75 (any_of HT_.out (by kernel_rfl)) ?_
                     refine pur_ (i := 8) (N := some 82) Fl77 (any_of HT_.out (by kernel_rfl)) ?_
                     refine pur_ (i := 9) (N := some 83) Fl79 (any_of HT_.out (by kernel_rfl)) ?_
                     refine pur_ (i := 11) (N := some 85) Fl100 (any_of HT_.out (by kernel_rfl)) ?_
                     refine take_ (i := 12) (N := some 86) (v := ?_) (a' := ?_) Fl101 rfl rfl (take_ofW HT_.out HW_.out (by kernel_rfl)) (fun _ _ _ h => h) (Or.inl ⟨by rfl, ?_⟩) hHeld ?_ ?_
                     rotate_left
                     · rintro w' ⟨s0, s1, s2, s3⟩
                       go_simp
                       with_reducible rfl
                     rotate_left
                     · simp only [Act.put, List.setIfInBounds_toArray, List.set_cons_zero, List.set_cons_succ, i64_w, i32_w]
                       rfl
                     refine one_ (i := 10) (N := some 84) Fl80 rfl rfl (one_of HT_.out (by kernel_rfl)) (by decide) (fun K hK => ?_)
                     refine goes_ Try.func21 (by kernel_rfl) rfl #[.pointer (some ⟨g380, 0, none⟩)] (by rfl) rfl rfl (by (try simp only [List.map_toArray, List.map_cons, List.map_nil]); first | done | rfl | (simp only [List.length_drop, List.length_take]; rfl)) ?_
                     with_reducible refine (raw_Reader_Rows.calls g380 t405 t406 t407 t408 t409 t410 t411 t412 t413 t414 t415 t416 t417 t418 t419 t420 t421 t422 t423 w _ ?side1 ?side2 A36.out).mono ?_
                     (case side1 => repeat (first | (with_reducible first | exact HI380.out | apply IsS71.alloc | apply IsS71.drewN | apply IsS71.drew | apply IsS71.set_0 | apply IsS71.set_1 | apply IsS71.set_2 | apply IsS71.set_3 | apply IsS71.set_4 | apply IsS71.set_5 | apply IsS71.set_6 | apply IsS71.set_7 | apply IsS71.set_8 | refine IsS71.far ?_ NB380_362.out _) | exact HI380.out))
                     (case side2 => repeat (first | (with_reducible first | exact HB.out | apply below_alloc | apply pw_below_drewN | apply below_drew1 | refine below_set ?_ (IsS71.ge HI380.out) | refine below_set ?_ GE362.out) | exact HB.out))
                     rintro e w58 ⟨rfl, hi, hb, hk⟩
                     refine ⟨_, rfl, ?_⟩
                     replace HO_9 := Aside0.mk (raw_bytes_keep (rp_ HO_9.out) hk)
                     replace BK362 := Aside0.mk (KeepBut.blk hk (g' := gb362) (o := .cells #[.int .i64 t358, .int .i64 t359, .int .i64 t360, .int .i64 t361] 23 (0, 0)) (hp_ BK362.out) NB362_380.out (raw_hr HI380.out BK362.out (by decide)))
                     replace HO402 := Aside0.mk (raw_row_keep (show IsS71 w _ g380 t405 t406 t407 t408 t409 t410 t411 t412 t413 from by repeat (first | (with_reducible first | exact HI380.out | apply IsS71.alloc | apply IsS71.drewN | apply IsS71.drew | apply IsS71.set_0 | apply IsS71.set_1 | apply IsS71.set_2 | apply IsS71.set_3 | apply IsS71.set_4 | apply IsS71.set_5 | apply IsS71.set_6 | apply IsS71.set_7 | apply IsS71.set_8 | refine IsS71.far ?_ NB380_362.out _) | exact HI380.out)) (rp_ HO402.out) hk (by decide))
                     replace HB := Aside0.mk (hb)
                     replace HI380 := Aside0.mk (hi)
                     (try clear hb)
                     (try clear hb2)
                     (try clear hk)
                     (try clear hi)
                     refine hK.out _ _ ⟨(blk_cell BK362.out 0).trans rfl, (blk_cell BK362.out 1).trans rfl, (blk_cell BK362.out 2).trans rfl, (blk_cell BK362.out 3).trans rfl⟩ (fun hHeld => ?_)
                     clear hK K
                     refine norm_ (a' := ?_) ?_ ?_
                     rotate_left
                     · show Act.put _ (some 84) _ = _
                       simp only [Act.put, List.setIfInBounds_toArray, List.set_cons_zero, List.set_cons_succ, i64_w, i32_w]
                       rfl
                     refine pur_ (i := 13) (N := some 87) Fl81 (any_of HT_.out (by kernel_rfl)) ?_
                     refine pur_ (i := 14) (N := some 88) Fl82 (any_of HT_.out (by kernel_rfl)) ?_
                     refine pur_ (i := 15) (N := some 89) Fl83 (any_of HT_.out (by kernel_rfl)) ?_
                     refine pur_ (i := 16) (N := some 90) Fl84 (any_of HT_.out (by kernel_rfl)) ?_
                     refine pur_ (i := 17) (N := some 91) Fl85 (any_of HT_.out (by kernel_rfl)) ?_
                     refine pur_ (i := 19) (N := some 93) Fl102 (any_of HT_.out (by kernel_rfl)) ?_
                     refine take_ (i := 20) (N := some 94) (v := ?_) (a' := ?_) Fl103 rfl rfl (take_ofW HT_.out HW_.out (by kernel_rfl)) (fun _ _ _ h => h) (Or.inl ⟨by rfl, ?_⟩) hHeld ?_ ?_
                     rotate_left
                     · rintro w' ⟨s0, s1, s2, s3⟩
                       go_simp
                       with_reducible rfl
                     rotate_left
                     · simp only [Act.put, List.setIfInBounds_toArray, List.set_cons_zero, List.set_cons_succ, i64_w, i32_w]
                       rfl
                     refine one_ (i := 18) (N := some 92) Fl86 rfl rfl (one_of HT_.out (by kernel_rfl)) (by decide) (fun K hK => ?_)
                     refine goes_ Try.func21 (by kernel_rfl) rfl #[.pointer (some ⟨g380, 0, none⟩)] (by rfl) rfl rfl (by (try simp only [List.map_toArray, List.map_cons, List.map_nil]); first | done | rfl | (simp only [List.length_drop, List.length_take]; rfl)) ?_
                     with_reducible refine (raw_Reader_Rows.calls g380 t415 t416 t417 t418 t419 t420 t421 t422 t423 t424 t425 t426 t427 t428 t429 t430 t431 t432 t433 w _ ?side1 ?side2 A38.out).mono ?_
                     (case side1 => repeat (first | (with_reducible first | exact HI380.out | apply IsS71.alloc | apply IsS71.drewN | apply IsS71.drew | apply IsS71.set_0 | apply IsS71.set_1 | apply IsS71.set_2 | apply IsS71.set_3 | apply IsS71.set_4 | apply IsS71.set_5 | apply IsS71.set_6 | apply IsS71.set_7 | apply IsS71.set_8 | refine IsS71.far ?_ NB380_362.out _) | exact HI380.out))
                     (case side2 => repeat (first | (with_reducible first | exact HB.out | apply below_alloc | apply pw_below_drewN | apply below_drew1 | refine below_set ?_ (IsS71.ge HI380.out) | refine below_set ?_ GE362.out) | exact HB.out))
                     rintro e w59 ⟨rfl, hi, hb, hk⟩
                     refine ⟨_, rfl, ?_⟩
                     replace HO_9 := Aside0.mk (raw_bytes_keep (rp_ HO_9.out) hk)
                     replace BK362 := Aside0.mk (KeepBut.blk hk (g' := gb362) (o := .cells #[.int .i64 t358, .int .i64 t359, .int .i64 t360, .int .i64 t361] 23 (0, 0)) (hp_ BK362.out) NB362_380.out (raw_hr HI380.out BK362.out (by decide)))
                     replace HO402 := Aside0.mk (raw_row_keep (show IsS71 w _ g380 t415 t416 t417 t418 t419 t420 t421 t422 t423 from by repeat (first | (with_reducible first | exact HI380.out | apply IsS71.alloc | apply IsS71.drewN | apply IsS71.drew | apply IsS71.set_0 | apply IsS71.set_1 | apply IsS71.set_2 | apply IsS71.set_3 | apply IsS71.set_4 | apply IsS71.set_5 | apply IsS71.set_6 | apply IsS71.set_7 | apply IsS71.set_8 | refine IsS71.far ?_ NB380_362.out _) | exact HI380.out)) (rp_ HO402.out) hk (by decide))
                     replace HB := Aside0.mk (hb)
                     replace HI380 := Aside0.mk (hi)
                     (try clear hb)
                     (try clear hb2)
                     (try clear hk)
                     (try clear hi)
                     refine hK.out _ _ ⟨(blk_cell BK362.out 0).trans rfl, (blk_cell BK362.out 1).trans rfl, (blk_cell BK362.out 2).trans rfl, (blk_cell BK362.out 3).trans rfl⟩ (fun hHeld => ?_)
                     clear hK K
                     refine norm_ (a' := ?_) ?_ ?_
                     rotate_left
                     · show Act.put _ (some 92) _ = _
                       simp only [Act.put, List.setIfInBounds_toArray, List.set_cons_zero, List.set_cons_succ, i64_w, i32_w]
                       rfl
                     refine one_ (i := 21) (N := some 95) Fl87 rfl rfl (one_of HT_.out (by kernel_rfl)) (by decide) (fun K hK => ?_)
                     refine goes_ Try.func22 (by kernel_rfl) rfl #[.agg #[.int .i64 t358, .int .i64 t359, .int .i64 t360, .int .i64 t361]] (by rfl) rfl rfl (by (try simp only [List.map_toArray, List.map_cons, List.map_nil]); first | done | rfl | (simp only [List.length_drop, List.length_take]; rfl)) ?_
                     with_reducible refine (chequerref09_Stride.calls t358 t359 t360 t361 t434 _ A39.out).mono ?_
                     rintro e w60 ⟨rfl, hb⟩
                     refine ⟨_, rfl, ?_⟩
                     replace HO_9 := Aside0.mk (Kd.R_below (rp_ HO_9.out) hb)
                     replace HO402 := Aside0.mk (Kd.R_below (rp_ HO402.out) hb)
                     replace BK362 := Aside0.mk (blk_below (hp_ BK362.out) hb)
                     replace HB := Aside0.mk (below_step (by repeat (first | (with_reducible first | exact HB.out | apply below_alloc | apply pw_below_drewN | apply below_drew1 | refine below_set ?_ (IsS71.ge HI380.out) | refine below_set ?_ GE362.out) | exact HB.out)) hb)
                     replace HI380 := Aside0.mk (IsS71.below (by repeat (first | (with_reducible first | exact HI380.out | apply IsS71.alloc | apply IsS71.drewN | apply IsS71.drew | apply IsS71.set_0 | apply IsS71.set_1 | apply IsS71.set_2 | apply IsS71.set_3 | apply IsS71.set_4 | apply IsS71.set_5 | apply IsS71.set_6 | apply IsS71.set_7 | apply IsS71.set_8 | refine IsS71.far ?_ NB380_362.out _) | exact HI380.out)) hb)
                     (try clear hb)
                     (try clear hb2)
                     (try clear hk)
                     (try clear hi)
                     refine hK.out _ _ ⟨(blk_cell BK362.out 0).trans rfl, (blk_cell BK362.out 1).trans rfl, (blk_cell BK362.out 2).trans rfl, (blk_cell BK362.out 3).trans rfl⟩ (fun hHeld => ?_)
                     clear hK K
                     refine norm_ (a' := ?_) ?_ ?_
                     rotate_left
                     · show Act.put _ (some 95) _ = _
                       simp only [Act.put, List.setIfInBounds_toArray, List.set_cons_zero, List.set_cons_succ, i64_w, i32_w]
                       rfl
                     refine pur_ (i := 22) (N := some 96) Fl88 (any_of HT_.out (by kernel_rfl)) ?_
                     refine pur_ (i := 23) (N := some 97) Fl89 (any_of HT_.out (by kernel_rfl)) ?_
                     refine pur_ (i := 24) (N := some 98) Fl90 (any_of HT_.out (by kernel_rfl)) ?_
                     refine pur_ (i := 25) (N := some 99) Fl91 (any_of HT_.out (by kernel_rfl)) ?_
                     refine pur_ (i := 26) (N := some 100) Fl92 (any_of HT_.out (by kernel_rfl)) ?_
                     refine pur_ (i := 27) (N := some 101) Fl93 (any_of HT_.out (by kernel_rfl)) ?_
                     refine pur_ (i := 28) (N := some 102) Fl94 (any_of HT_.out (by kernel_rfl)) ?_
                     refine pur_ (i := 29) (N := some 103) Fl95 (any_of HT_.out (by kernel_rfl)) ?_
                     refine pun_ (i := 30) (N := some 104) Fl96 (any_of HT_.out (by kernel_rfl)) ?_
                     refine pur_ (i := 31) (N := some 105) Fl97 (any_of HT_.out (by kernel_rfl)) ?_
                     refine pur_ (i := 32) (N := some 6) Fl98 (any_of HT_.out (by kernel_rfl)) ?_
                     refine done_ (done_of HT_.out (by kernel_rfl)) ?_
                     try go_wp2
                     go_ret
                     exact ⟨by first | rfl | (simp [errW_none, errW_some] <;> rfl) | (simp [*, errW_none, errW_some] <;> rfl), by repeat (first | (with_reducible first | exact HB.out | apply below_alloc | apply pw_below_drewN | apply below_drew1 | refine below_set ?_ (IsS71.ge HI380.out) | refine below_set ?_ GE362.out) | exact HB.out)⟩
                 · rw [if_neg c41] at H
                   have c41b0 : (t424 == (wrap64 (Int.tdiv t370 t434))) = false := beq_eq_false_iff_ne.mpr c41
                   have c41b1 : (t424 != (wrap64 (Int.tdiv t370 t434))) = true := bne_iff_ne.mpr c41
                   obtain rfl := Option.some.inj H
                   try go_wp2
                   (try (rw [drewN_self wr]; generalize hq_ : World.drewN wr _ = wr; have n0_ := Aside0.mk (qrp_ hq_ HO_9.out); have n1_ := Aside0.mk (qhp_ hq_ BK362.out); have n2_ : Aside0 (IsS71 w wr g380 x381000_1 x381001_1 x381002_1 x381003_1 x381004_1 x381005_1 x381006_1 x381007_1 x381008_1) := ⟨by rw [← hq_]; exact (by repeat (first | (with_reducible first | exact HI380.out | apply IsS71.alloc | apply IsS71.drewN | apply IsS71.drew | apply IsS71.set_0 | apply IsS71.set_1 | apply IsS71.set_2 | apply IsS71.set_3 | apply IsS71.set_4 | apply IsS71.set_5 | apply IsS71.set_6 | apply IsS71.set_7 | apply IsS71.set_8 | refine IsS71.far ?_ NB380_362.out _) | exact HI380.out))⟩; have n3_ : Aside0 (Below w.heap.size w wr) := ⟨by rw [← hq_]; exact (by repeat (first | (with_reducible first | exact HB.out | apply below_alloc | apply pw_below_drewN | apply below_drew1 | refine below_set ?_ (IsS71.ge HI380.out) | refine below_set ?_ GE362.out) | exact HB.out))⟩; clear HO_9 BK362 HI380 HB hq_; have HO_9 := n0_; have BK362 := n1_; have HI380 := n2_; have HB := n3_; clear n0_ n1_ n2_ n3_))
                   replace HO_9 := Aside0.mk (Kd.R_drew HO_9.out)
                   replace BK362 := Aside0.mk (blk_drew BK362.out)
                   replace HI380 := Aside0.mk (IsS71.drew HI380.out)
                   replace HB := Aside0.mk (below_drew1 HB.out)
                   have q62 : (t370 : Int) ≤ ((t366.length : Int) : Int) := of_decide_eq_true (by first | (with_reducible assumption) | assumption)
                   obtain ⟨i062, hi062, _, hsz62, _⟩ := info_parts info5
                   have hroom62 : t366.length ≤ co19 := (Kd.R_reads' HO_9.out).2.1
                   have hC62 : Kd.C (Kd.int .u8) _ Ao19 t366.length t366 := (Kd.R_reads' HO_9.out).2.2
                   have hcut62 := cut_to (P := Try.prog) 27 5 .i64 Try.underlying27 hi062 Ao19 t366.length co19 t370 (of_decide_eq_true (by first | (with_reducible assumption) | assumption)) q62 hroom62
                   have hr62 := Kd.C_take (m := (t370 : Int).toNat) hC62 (by omega)
                   have hy62 : y396.length = (t370 : Int).toNat := (by rw [Ny396.out, List.length_take]; omega)
                   rw [← Ny396.out] at hr62
                   rw [← hy62] at hcut62
                   have HR399 := Aside0.mk hr62
                   have HC399 := Aside0.mk (show y396.length ≤ co19 from by omega)
                   clear hr62 hC62 hroom62 hi062 hsz62
                   have KY62 := Aside0.mk hy62
                   clear hy62
                   have KL62 := Aside0.mk (show (t370 : Int).toNat ≤ t366.length from by omega)
                   replace q62 := eq_true q62
                   refine start_ (n := 10) (S := fun w' => w'.cell? ⟨gb362, 0, none⟩ = some (.int .i64 t358) ∧ w'.cell? ⟨gb362, 1, none⟩ = some (.int .i64 t359) ∧ w'.cell? ⟨gb362, 2, none⟩ = some (.int .i64 t360) ∧ w'.cell? ⟨gb362, 3, none⟩ = some (.int .i64 t361)) (ds := []) Fl60 (by kernel_rfl) rfl rfl ⟨(blk_cell BK362.out 0).trans rfl, (blk_cell BK362.out 1).trans rfl, (blk_cell BK362.out 2).trans rfl, (blk_cell BK362.out 3).trans rfl⟩ (fun hHeld => ?_); refine with_tabW chequerlaw09_RawCuts.tab16 chequerlaw09_RawCuts.bits16 (fun HT_ HW_ => ?_)
                   generalize wr.drew = w61 at HO_9 BK362 HI380 HB HR399 hHeld ⊢
                   refine pur_ (i := 0) (N := some 67) Fl62 (any_of HT_.out (by kernel_rfl)) ?_
                   refine pur_ (i := 1) (N := some 68) Fl67 (any_of HT_.out (by kernel_rfl)) ?_
                   refine pur_ (i := 2) (N := some 69) Fl68 (any_of HT_.out (by kernel_rfl)) ?_
                   refine take_ (i := 3) (N := some 70) (v := ?_) (a' := ?_) Fl69 rfl rfl (take_ofW HT_.out HW_.out (by kernel_rfl)) (fun _ _ _ h => h) (Or.inl ⟨by rfl, ?_⟩) hHeld ?_ ?_
                   rotate_left
                   · rintro w' ⟨s0, s1, s2, s3⟩
                     go_simp
                     with_reducible rfl
                   rotate_left
                   · simp only [Act.put, List.setIfInBounds_toArray, List.set_cons_zero, List.set_cons_succ, i64_w, i32_w]
                     rfl
                   refine one_ (i := 4) (N := some 71) Fl70 rfl rfl (one_of HT_.out (by kernel_rfl)) (by decide) (fun K hK => ?_)
                   refine goes_ Try.func13 (by kernel_rfl) rfl #[.slice Ao19 y396.length co19, .agg #[.int .i64 t358, .int .i64 t359, .int .i64 t360, .int .i64 t361]] (by rfl) rfl rfl (by (try simp only [List.map_toArray, List.map_cons, List.map_nil]); first | done | rfl | (simp only [List.length_drop, List.length_take]; rfl)) ?_
                   with_reducible refine (raw_Read.calls _ _ y396 t358 t359 t360 t361 t400 t403 _ ?side1 ?side2 A33.out).mono ?_
                   (case side1 => repeat (first | exact (by repeat (first | (with_reducible exact HR399.out) | (with_reducible refine Kd.C_alloc ?_ _) | (with_reducible refine Kd.C_drewN ?_ _) | (with_reducible refine Kd.C_drew ?_) | exact HR399.out)) | (with_reducible refine Kd.C_alloc ?_ _) | (with_reducible refine Kd.C_drewN ?_ _) | (with_reducible refine Kd.C_drew ?_)))
                   (case side2 => exact HC399.out)
                   rintro e w63 ⟨v401, rfl, ho0, hb⟩
                   refine ⟨_, rfl, ?_⟩
                   replace HO_9 := Aside0.mk (Kd.R_below (rp_ HO_9.out) hb)
                   have HO402 := Aside0.mk (Kd.R_lower ho0 (below_size (by repeat (first | (with_reducible first | exact HB.out | apply below_alloc | apply pw_below_drewN | apply below_drew1 | refine below_set ?_ (IsS71.ge HI380.out) | refine below_set ?_ GE362.out) | exact HB.out))))
                   replace BK362 := Aside0.mk (blk_below (hp_ BK362.out) hb)
                   replace HR399 := Aside0.mk (Kd.C_below (by repeat (first | (with_reducible exact HR399.out) | (with_reducible refine Kd.C_alloc ?_ _) | (with_reducible refine Kd.C_drewN ?_ _) | (with_reducible refine Kd.C_drew ?_) | exact HR399.out)) hb)
                   replace HB := Aside0.mk (below_step (by repeat (first | (with_reducible first | exact HB.out | apply below_alloc | apply pw_below_drewN | apply below_drew1 | refine below_set ?_ (IsS71.ge HI380.out) | refine below_set ?_ GE362.out) | exact HB.out)) hb)
                   replace HI380 := Aside0.mk (IsS71.below (by repeat (first | (with_reducible first | exact HI380.out | apply IsS71.alloc | apply IsS71.drewN | apply IsS71.drew | apply IsS71.set_0 | apply IsS71.set_1 | apply IsS71.set_2 | apply IsS71.set_3 | apply IsS71.set_4 | apply IsS71.set_5 | apply IsS71.set_6 | apply IsS71.set_7 | apply IsS71.set_8 | refine IsS71.far ?_ NB380_362.out _) | exact HI380.out)) hb)
                   (try clear hb)
                   (try clear hb2)
                   (try clear hk)
                   (try clear hi)
                   (try clear ho0)
                   refine hK.out _ _ ⟨(blk_cell BK362.out 0).trans rfl, (blk_cell BK362.out 1).trans rfl, (blk_cell BK362.out 2).trans rfl, (blk_cell BK362.out 3).trans rfl⟩ (fun hHeld => ?_)
                   clear hK K
                   refine norm_ (a' := ?_) ?_ ?_
                   rotate_left
                   · show Act.put _ (some 71) _ = _
                     simp only [Act.put, List.setIfInBounds_toArray, List.set_cons_zero, List.set_cons_succ, i64_w, i32_w]
                     rfl
                   refine pur_ (i := 5) (N := some 66) Fl72 (any_of HT_.out (by kernel_rfl)) ?_
                   refine pur_ (i := 6) (N := some 72) Fl74 (any_of HT_.out (by kernel_rfl)) ?_
                   refine pur_ (i := 7) (N := some 73) Fl76 (any_of HT_.out (by kernel_rfl)) ?_
                   refine pur_ (i := 8) (N := some 18) Fl78 (any_of HT_.out (by kernel_rfl)) ?_
                   refine pur_ (i := 9) (N := some 19) Fl99 (any_of HT_.out (by kernel_rfl)) ?_
                   refine done_ (done_of HT_.out (by kernel_rfl)) ?_
                   try go_wp2
                   replace HO_9 := Aside0.mk (Kd.R_drew HO_9.out)
                   replace HO402 := Aside0.mk (Kd.R_drew HO402.out)
                   replace BK362 := Aside0.mk (blk_drew BK362.out)
                   replace HR399 := Aside0.mk (Kd.C_drew HR399.out)
                   replace HI380 := Aside0.mk (IsS71.drew HI380.out)
                   replace HB := Aside0.mk (below_drew1 HB.out)
                   refine start_ (n := 33) (S := fun w' => w'.cell? ⟨gb362, 0, none⟩ = some (.int .i64 t358) ∧ w'.cell? ⟨gb362, 1, none⟩ = some (.int .i64 t359) ∧ w'.cell? ⟨gb362, 2, none⟩ = some (.int .i64 t360) ∧ w'.cell? ⟨gb362, 3, none⟩ = some (.int .i64 t361)) (ds := []) Fl59 (by kernel_rfl) rfl rfl ⟨(blk_cell BK362.out 0).trans rfl, (blk_cell BK362.out 1).trans rfl, (blk_cell BK362.out 2).trans rfl, (blk_cell BK362.out 3).trans rfl⟩ (fun hHeld => ?_); refine with_tabW chequerlaw09_RawCuts.tab17 chequerlaw09_RawCuts.bits17 (fun HT_ HW_ => ?_)
                   generalize w63.drew = w64 at HO_9 HO402 BK362 HR399 HI380 HB hHeld ⊢
                   refine pur_ (i := 0) (N := some 74) Fl61 (any_of HT_.out (by kernel_rfl)) ?_
                   refine pur_ (i := 2) (N := some 76) Fl63 (any_of HT_.out (by kernel_rfl)) ?_
                   refine pur_ (i := 3) (N := some 77) Fl64 (any_of HT_.out (by kernel_rfl)) ?_
                   refine pur_ (i := 4) (N := some 78) Fl65 (any_of HT_.out (by kernel_rfl)) ?_
                   refine pur_ (i := 5) (N := some 79) Fl66 (any_of HT_.out (by kernel_rfl)) ?_
                   refine one_ (i := 1) (N := some 75) Fl71 rfl rfl (one_of HT_.out (by kernel_rfl)) (by decide) (fun K hK => ?_)
                   refine goes_ Try.func20 (by kernel_rfl) rfl #[.pointer (some ⟨g380, 0, none⟩)] (by rfl) rfl rfl (by (try simp only [List.map_toArray, List.map_cons, List.map_nil]); first | done | rfl | (simp only [List.length_drop, List.length_take]; rfl)) ?_
                   with_reducible refine (raw_Reader_Left.calls g380 x381000_1 x381001_1 x381002_1 x381003_1 x381004_1 x381005_1 x381006_1 x381007_1 x381008_1 t404 t405 t406 t407 t408 t409 t410 t411 t412 t413 w _ ?side1 ?side2 A34.out).mono ?_
                   (case side1 => repeat (first | (with_reducible first | exact HI380.out | apply IsS71.alloc | apply IsS71.drewN | apply IsS71.drew | apply IsS71.set_0 | apply IsS71.set_1 | apply IsS71.set_2 | apply IsS71.set_3 | apply IsS71.set_4 | apply IsS71.set_5 | apply IsS71.set_6 | apply IsS71.set_7 | apply IsS71.set_8 | refine IsS71.far ?_ NB380_362.out _) | exact HI380.out))
                   (case side2 => repeat (first | (with_reducible first | exact HB.out | apply below_alloc | apply pw_below_drewN | apply below_drew1 | refine below_set ?_ (IsS71.ge HI380.out) | refine below_set ?_ GE362.out) | exact HB.out))
                   rintro e w65 ⟨rfl, hi, hb, hk⟩
                   refine ⟨_, rfl, ?_⟩
                   replace HO_9 := Aside0.mk (raw_bytes_keep (rp_ HO_9.out) hk)
                   replace BK362 := Aside0.mk (KeepBut.blk hk (g' := gb362) (o := .cells #[.int .i64 t358, .int .i64 t359, .int .i64 t360, .int .i64 t361] 23 (0, 0)) (hp_ BK362.out) NB362_380.out (raw_hr HI380.out BK362.out (by decide)))
                   replace HO402 := Aside0.mk (raw_row_keep (show IsS71 w _ g380 x381000_1 x381001_1 x381002_1 x381003_1 x381004_1 x381005_1 x381006_1 x381007_1 x381008_1 from by repeat (first | (with_reducible first | exact HI380.out | apply IsS71.alloc | apply IsS71.drewN | apply IsS71.drew | apply IsS71.set_0 | apply IsS71.set_1 | apply IsS71.set_2 | apply IsS71.set_3 | apply IsS71.set_4 | apply IsS71.set_5 | apply IsS71.set_6 | apply IsS71.set_7 | apply IsS71.set_8 | refine IsS71.far ?_ NB380_362.out _) | exact HI380.out)) (rp_ HO402.out) hk (by decide))
                   replace HB := Aside0.mk (hb)
                   replace HI380 := Aside0.mk (hi)
                   (try clear hb)
                   (try clear hb2)
                   (try clear hk)
                   (try clear hi)
                   refine hK.out _ _ ⟨(blk_cell BK362.out 0).trans rfl, (blk_cell BK362.out 1).trans rfl, (blk_cell BK362.out 2).trans rfl, (blk_cell BK362.out 3).trans rfl⟩ (fun hHeld => ?_)
                   clear hK K
                   refine norm_ (a' := ?_) ?_ ?_
                   rotate_left
                   · show Act.put _ (some 75) _ = _
                     simp only [Act.put, List.setIfInBounds_toArray, List.set_cons_zero, List.set_cons_succ, i64_w, i32_w]
                     rfl
                   refine pur_ (i := 6) (N := some 80) Fl73 (any_of HT_.out (by kernel_rfl)) ?_
                   refine pur_ (i := 7) (N := some 81) Fl75 (any_of HT_.out (by kernel_rfl)) ?_
                   refine pur_ (i := 8) (N := some 82) Fl77 (any_of HT_.out (by kernel_rfl)) ?_
                   refine pur_ (i := 9) (N := some 83) Fl79 (any_of HT_.out (by kernel_rfl)) ?_
                   refine pur_ (i := 11) (N := some 85) Fl100 (any_of HT_.out (by kernel_rfl)) ?_
                   refine take_ (i := 12) (N := some 86) (v := ?_) (a' := ?_) Fl101 rfl rfl (take_ofW HT_.out HW_.out (by kernel_rfl)) (fun _ _ _ h => h) (Or.inl ⟨by rfl, ?_⟩) hHeld ?_ ?_
                   rotate_left
                   · rintro w' ⟨s0, s1, s2, s3⟩
                     go_simp
                     with_reducible rfl
                   rotate_left
                   · simp only [Act.put, List.setIfInBounds_toArray, List.set_cons_zero, List.set_cons_succ, i64_w, i32_w]
                     rfl
                   refine one_ (i := 10) (N := some 84) Fl80 rfl rfl (one_of HT_.out (by kernel_rfl)) (by decide) (fun K hK => ?_)
                   refine goes_ Try.func21 (by kernel_rfl) rfl #[.pointer (some ⟨g380, 0, none⟩)] (by rfl) rfl rfl (by (try simp only [List.map_toArray, List.map_cons, List.map_nil]); first | done | rfl | (simp only [List.length_drop, List.length_take]; rfl)) ?_
                   with_reducible refine (raw_Reader_Rows.calls g380 t405 t406 t407 t408 t409 t410 t411 t412 t413 t414 t415 t416 t417 t418 t419 t420 t421 t422 t423 w _ ?side1 ?side2 A36.out).mono ?_
                   (case side1 => repeat (first | (with_reducible first | exact HI380.out | apply IsS71.alloc | apply IsS71.drewN | apply IsS71.drew | apply IsS71.set_0 | apply IsS71.set_1 | apply IsS71.set_2 | apply IsS71.set_3 | apply IsS71.set_4 | apply IsS71.set_5 | apply IsS71.set_6 | apply IsS71.set_7 | apply IsS71.set_8 | refine IsS71.far ?_ NB380_362.out _) | exact HI380.out))
                   (case side2 => repeat (first | (with_reducible first | exact HB.out | apply below_alloc | apply pw_below_drewN | apply below_drew1 | refine below_set ?_ (IsS71.ge HI380.out) | refine below_set ?_ GE362.out) | exact HB.out))
                   rintro e w66 ⟨rfl, hi, hb, hk⟩
                   refine ⟨_, rfl, ?_⟩
                   replace HO_9 := Aside0.mk (raw_bytes_keep (rp_ HO_9.out) hk)
                   replace BK362 := Aside0.mk (KeepBut.blk hk (g' := gb362) (o := .cells #[.int .i64 t358, .int .i64 t359, .int .i64 t360, .int .i64 t361] 23 (0, 0)) (hp_ BK362.out) NB362_380.out (raw_hr HI380.out BK362.out (by decide)))
                   replace HO402 := Aside0.mk (raw_row_keep (show IsS71 w _ g380 t405 t406 t407 t408 t409 t410 t411 t412 t413 from by repeat (first | (with_reducible first | exact HI380.out | apply IsS71.alloc | apply IsS71.drewN | apply IsS71.drew | apply IsS71.set_0 | apply IsS71.set_1 | apply IsS71.set_2 | apply IsS71.set_3 | apply IsS71.set_4 | apply IsS71.set_5 | apply IsS71.set_6 | apply IsS71.set_7 | apply IsS71.set_8 | refine IsS71.far ?_ NB380_362.out _) | exact HI380.out)) (rp_ HO402.out) hk (by decide))
                   replace HB := Aside0.mk (hb)
                   replace HI380 := Aside0.mk (hi)
                   (try clear hb)
                   (try clear hb2)
                   (try clear hk)
                   (try clear hi)
                   refine hK.out _ _ ⟨(blk_cell BK362.out 0).trans rfl, (blk_cell BK362.out 1).trans rfl, (blk_cell BK362.out 2).trans rfl, (blk_cell BK362.out 3).trans rfl⟩ (fun hHeld => ?_)
                   clear hK K
                   refine norm_ (a' := ?_) ?_ ?_
                   rotate_left
                   · show Act.put _ (some 84) _ = _
                     simp only [Act.put, List.setIfInBounds_toArray, List.set_cons_zero, List.set_cons_succ, i64_w, i32_w]
                     rfl
                   refine pur_ (i := 13) (N := some 87) Fl81 (any_of HT_.out (by kernel_rfl)) ?_
                   refine pur_ (i := 14) (N := some 88) Fl82 (any_of HT_.out (by kernel_rfl)) ?_
                   refine pur_ (i := 15) (N := some 89) Fl83 (any_of HT_.out (by kernel_rfl)) ?_
                   refine pur_ (i := 16) (N := some 90) Fl84 (any_of HT_.out (by kernel_rfl)) ?_
                   refine pur_ (i := 17) (N := some 91) Fl85 (any_of HT_.out (by kernel_rfl)) ?_
                   refine pur_ (i := 19) (N := some 93) Fl102 (any_of HT_.out (by kernel_rfl)) ?_
                   refine take_ (i := 20) (N := some 94) (v := ?_) (a' := ?_) Fl103 rfl rfl (take_ofW HT_.out HW_.out (by kernel_rfl)) (fun _ _ _ h => h) (Or.inl ⟨by rfl, ?_⟩) hHeld ?_ ?_
                   rotate_left
                   · rintro w' ⟨s0, s1, s2, s3⟩
                     go_simp
                     with_reducible rfl
                   rotate_left
                   · simp only [Act.put, List.setIfInBounds_toArray, List.set_cons_zero, List.set_cons_succ, i64_w, i32_w]
                     rfl
                   refine one_ (i := 18) (N := some 92) Fl86 rfl rfl (one_of HT_.out (by kernel_rfl)) (by decide) (fun K hK => ?_)
                   refine goes_ Try.func21 (by kernel_rfl) rfl #[.pointer (some ⟨g380, 0, none⟩)] (by rfl) rfl rfl (by (try simp only [List.map_toArray, List.map_cons, List.map_nil]); first | done | rfl | (simp only [List.length_drop, List.length_take]; rfl)) ?_
                   with_reducible refine (raw_Reader_Rows.calls g380 t415 t416 t417 t418 t419 t420 t421 t422 t423 t424 t425 t426 t427 t428 t429 t430 t431 t432 t433 w _ ?side1 ?side2 A38.out).mono ?_
                   (case side1 => repeat (first | (with_reducible first | exact HI380.out | apply IsS71.alloc | apply IsS71.drewN | apply IsS71.drew | apply IsS71.set_0 | apply IsS71.set_1 | apply IsS71.set_2 | apply IsS71.set_3 | apply IsS71.set_4 | apply IsS71.set_5 | apply IsS71.set_6 | apply IsS71.set_7 | apply IsS71.set_8 | refine IsS71.far ?_ NB380_362.out _) | exact HI380.out))
                   (case side2 => repeat (first | (with_reducible first | exact HB.out | apply below_alloc | apply pw_below_drewN | apply below_drew1 | refine below_set ?_ (IsS71.ge HI380.out) | refine below_set ?_ GE362.out) | exact HB.out))
                   rintro e w67 ⟨rfl, hi, hb, hk⟩
                   refine ⟨_, rfl, ?_⟩
                   replace HO_9 := Aside0.mk (raw_bytes_keep (rp_ HO_9.out) hk)
                   replace BK362 := Aside0.mk (KeepBut.blk hk (g' := gb362) (o := .cells #[.int .i64 t358, .int .i64 t359, .int .i64 t360, .int .i64 t361] 23 (0, 0)) (hp_ BK362.out) NB362_380.out (raw_hr HI380.out BK362.out (by decide)))
                   replace HO402 := Aside0.mk (raw_row_keep (show IsS71 w _ g380 t415 t416 t417 t418 t419 t420 t421 t422 t423 from by repeat (first | (with_reducible first | exact HI380.out | apply IsS71.alloc | apply IsS71.drewN | apply IsS71.drew | apply IsS71.set_0 | apply IsS71.set_1 | apply IsS71.set_2 | apply IsS71.set_3 | apply IsS71.set_4 | apply IsS71.set_5 | apply IsS71.set_6 | apply IsS71.set_7 | apply IsS71.set_8 | refine IsS71.far ?_ NB380_362.out _) | exact HI380.out)) (rp_ HO402.out) hk (by decide))
                   replace HB := Aside0.mk (hb)
                   replace HI380 := Aside0.mk (hi)
                   (try clear hb)
                   (try clear hb2)
                   (try clear hk)
                   (try clear hi)
                   refine hK.out _ _ ⟨(blk_cell BK362.out 0).trans rfl, (blk_cell BK362.out 1).trans rfl, (blk_cell BK362.out 2).trans rfl, (blk_cell BK362.out 3).trans rfl⟩ (fun hHeld => ?_)
                   clear hK K
                   refine norm_ (a' := ?_) ?_ ?_
                   rotate_left
                   · show Act.put _ (some 92) _ = _
                     simp only [Act.put, List.setIfInBounds_toArray, List.set_cons_zero, List.set_cons_succ, i64_w, i32_w]
                     rfl
                   refine one_ (i := 21) (N := some 95) Fl87 rfl rfl (one_of HT_.out (by kernel_rfl)) (by decide) (fun K hK => ?_)
                   refine goes_ Try.func22 (by kernel_rfl) rfl #[.agg #[.int .i64 t358, .int .i64 t359, .int .i64 t360, .int .i64 t361]] (by rfl) rfl rfl (by (try simp only [List.map_toArray, List.map_cons, List.map_nil]); first | done | rfl | (simp only [List.length_drop, List.length_take]; rfl)) ?_
                   with_reducible refine (chequerref09_Stride.calls t358 t359 t360 t361 t434 _ A39.out).mono ?_
                   rintro e w68 ⟨rfl, hb⟩
                   refine ⟨_, rfl, ?_⟩
                   replace HO_9 := Aside0.mk (Kd.R_below (rp_ HO_9.out) hb)
                   replace HO402 := Aside0.mk (Kd.R_below (rp_ HO402.out) hb)
                   replace BK362 := Aside0.mk (blk_below (hp_ BK362.out) hb)
                   replace HB := Aside0.mk (below_step (by repeat (first | (with_reducible first | exact HB.out | apply below_alloc | apply pw_below_drewN | apply below_drew1 | refine below_set ?_ (IsS71.ge HI380.out) | refine below_set ?_ GE362.out) | exact HB.out)) hb)
                   replace HI380 := Aside0.mk (IsS71.below (by repeat (first | (with_reducible first | exact HI380.out | apply IsS71.alloc | apply IsS71.drewN | apply IsS71.drew | apply IsS71.set_0 | apply IsS71.set_1 | apply IsS71.set_2 | apply IsS71.set_3 | apply IsS71.set_4 | apply IsS71.set_5 | apply IsS71.set_6 | apply IsS71.set_7 | apply IsS71.set_8 | refine IsS71.far ?_ NB380_362.out _) | exact HI380.out)) hb)
                   (try clear hb)
                   (try clear hb2)
                   (try clear hk)
                   (try clear hi)
                   refine hK.out _ _ ⟨(blk_cell BK362.out 0).trans rfl, (blk_cell BK362.out 1).trans rfl, (blk_cell BK362.out 2).trans rfl, (blk_cell BK362.out 3).trans rfl⟩ (fun hHeld => ?_)
                   clear hK K
                   refine norm_ (a' := ?_) ?_ ?_
                   rotate_left
                   · show Act.put _ (some 95) _ = _
                     simp only [Act.put, List.setIfInBounds_toArray, List.set_cons_zero, List.set_cons_succ, i64_w, i32_w]
                     rfl
                   refine pur_ (i := 22) (N := some 96) Fl88 (any_of HT_.out (by kernel_rfl)) ?_
                   refine pur_ (i := 23) (N := some 97) Fl89 (any_of HT_.out (by kernel_rfl)) ?_
                   refine pur_ (i := 24) (N := some 98) Fl90 (any_of HT_.out (by kernel_rfl)) ?_
                   refine pur_ (i := 25) (N := some 99) Fl91 (any_of HT_.out (by kernel_rfl)) ?_
                   refine pun_ (i := 26) (N := some 100) Fl92 (any_of HT_.out (by kernel_rfl)) ?_
                   refine pun_ (i := 27) (N := some 101) Fl93 (any_of HT_.out (by kernel_rfl)) ?_
                   refine pur_ (i := 28) (N := some 102) Fl94 (any_of HT_.out (by kernel_rfl)) ?_
                   refine pur_ (i := 29) (N := some 103) Fl95 (any_of HT_.out (by kernel_rfl)) ?_
                   refine pun_ (i := 30) (N := some 104) Fl96 (any_of HT_.out (by kernel_rfl)) ?_
                   refine pur_ (i := 31) (N := some 105) Fl97 (any_of HT_.out (by kernel_rfl)) ?_
                   refine pur_ (i := 32) (N := some 6) Fl98 (any_of HT_.out (by kernel_rfl)) ?_
                   refine done_ (done_of HT_.out (by kernel_rfl)) ?_
                   try go_wp2
                   go_ret
                   exact ⟨by first | rfl | (simp [errW_none, errW_some] <;> rfl) | (simp [*, errW_none, errW_some] <;> rfl), by repeat (first | (with_reducible first | exact HB.out | apply below_alloc | apply pw_below_drewN | apply below_drew1 | refine below_set ?_ (IsS71.ge HI380.out) | refine below_set ?_ GE362.out) | exact HB.out)⟩
             · rw [if_neg c37] at H
               have c37b0 : (x14_1 == (wrap64 (t414 * t359))) = false := beq_eq_false_iff_ne.mpr c37
               have c37b1 : (x14_1 != (wrap64 (t414 * t359))) = true := bne_iff_ne.mpr c37
               obtain rfl := Option.some.inj H
               try go_wp2
               (try (rw [drewN_self wr]; generalize hq_ : World.drewN wr _ = wr; have n0_ := Aside0.mk (qrp_ hq_ HO_9.out); have n1_ := Aside0.mk (qhp_ hq_ BK362.out); have n2_ : Aside0 (IsS71 w wr g380 x381000_1 x381001_1 x381002_1 x381003_1 x381004_1 x381005_1 x381006_1 x381007_1 x381008_1) := ⟨by rw [← hq_]; exact (by repeat (first | (with_reducible first | exact HI380.out | apply IsS71.alloc | apply IsS71.drewN | apply IsS71.drew | apply IsS71.set_0 | apply IsS71.set_1 | apply IsS71.set_2 | apply IsS71.set_3 | apply IsS71.set_4 | apply IsS71.set_5 | apply IsS71.set_6 | apply IsS71.set_7 | apply IsS71.set_8 | refine IsS71.far ?_ NB380_362.out _) | exact HI380.out))⟩; have n3_ : Aside0 (Below w.heap.size w wr) := ⟨by rw [← hq_]; exact (by repeat (first | (with_reducible first | exact HB.out | apply below_alloc | apply pw_below_drewN | apply below_drew1 | refine below_set ?_ (IsS71.ge HI380.out) | refine below_set ?_ GE362.out) | exact HB.out))⟩; clear HO_9 BK362 HI380 HB hq_; have HO_9 := n0_; have BK362 := n1_; have HI380 := n2_; have HB := n3_; clear n0_ n1_ n2_ n3_))
               replace HO_9 := Aside0.mk (Kd.R_drew HO_9.out)
               replace BK362 := Aside0.mk (blk_drew BK362.out)
               replace HI380 := Aside0.mk (IsS71.drew HI380.out)
               replace HB := Aside0.mk (below_drew1 HB.out)
               have q70 : (t370 : Int) ≤ ((t366.length : Int) : Int) := of_decide_eq_true (by first | (with_reducible assumption) | assumption)
               obtain ⟨i070, hi070, _, hsz70, _⟩ := info_parts info5
               have hroom70 : t366.length ≤ co19 := (Kd.R_reads' HO_9.out).2.1
               have hC70 : Kd.C (Kd.int .u8) _ Ao19 t366.length t366 := (Kd.R_reads' HO_9.out).2.2
               have hcut70 := cut_to (P := Try.prog) 27 5 .i64 Try.underlying27 hi070 Ao19 t366.length co19 t370 (of_decide_eq_true (by first | (with_reducible assumption) | assumption)) q70 hroom70
               have hr70 := Kd.C_take (m := (t370 : Int).toNat) hC70 (by omega)
               have hy70 : y396.length = (t370 : Int).toNat := (by rw [Ny396.out, List.length_take]; omega)
               rw [← Ny396.out] at hr70
               rw [← hy70] at hcut70
               have HR399 := Aside0.mk hr70
               have HC399 := Aside0.mk (show y396.length ≤ co19 from by omega)
               clear hr70 hC70 hroom70 hi070 hsz70
               have KY70 := Aside0.mk hy70
               clear hy70
               have KL70 := Aside0.mk (show (t370 : Int).toNat ≤ t366.length from by omega)
               replace q70 := eq_true q70
               refine start_ (n := 10) (S := fun w' => w'.cell? ⟨gb362, 0, none⟩ = some (.int .i64 t358) ∧ w'.cell? ⟨gb362, 1, none⟩ = some (.int .i64 t359) ∧ w'.cell? ⟨gb362, 2, none⟩ = some (.int .i64 t360) ∧ w'.cell? ⟨gb362, 3, none⟩ = some (.int .i64 t361)) (ds := []) Fl60 (by kernel_rfl) rfl rfl ⟨(blk_cell BK362.out 0).trans rfl, (blk_cell BK362.out 1).trans rfl, (blk_cell BK362.out 2).trans rfl, (blk_cell BK362.out 3).trans rfl⟩ (fun hHeld => ?_); refine with_tabW chequerlaw09_RawCuts.tab16 chequerlaw09_RawCuts.bits16 (fun HT_ HW_ => ?_)
               generalize wr.drew = w69 at HO_9 BK362 HI380 HB HR399 hHeld ⊢
               refine pur_ (i := 0) (N := some 67) Fl62 (any_of HT_.out (by kernel_rfl)) ?_
               refine pur_ (i := 1) (N := some 68) Fl67 (any_of HT_.out (by kernel_rfl)) ?_
               refine pur_ (i := 2) (N := some 69) Fl68 (any_of HT_.out (by kernel_rfl)) ?_
               refine take_ (i := 3) (N := some 70) (v := ?_) (a' := ?_) Fl69 rfl rfl (take_ofW HT_.out HW_.out (by kernel_rfl)) (fun _ _ _ h => h) (Or.inl ⟨by rfl, ?_⟩) hHeld ?_ ?_
               rotate_left
               · rintro w' ⟨s0, s1, s2, s3⟩
                 go_simp
                 with_reducible rfl
               rotate_left
               · simp only [Act.put, List.setIfInBounds_toArray, List.set_cons_zero, List.set_cons_succ, i64_w, i32_w]
                 rfl
               refine one_ (i := 4) (N := some 71) Fl70 rfl rfl (one_of HT_.out (by kernel_rfl)) (by decide) (fun K hK => ?_)
               refine goes_ Try.func13 (by kernel_rfl) rfl #[.slice Ao19 y396.length co19, .agg #[.int .i64 t358, .int .i64 t359, .int .i64 t360, .int .i64 t361]] (by rfl) rfl rfl (by (try simp only [List.map_toArray, List.map_cons, List.map_nil]); first | done | rfl | (simp only [List.length_drop, List.length_take]; rfl)) ?_
               with_reducible refine (raw_Read.calls _ _ y396 t358 t359 t360 t361 t400 t403 _ ?side1 ?side2 A33.out).mono ?_
               (case side1 => repeat (first | exact (by repeat (first | (with_reducible exact HR399.out) | (with_reducible refine Kd.C_alloc ?_ _) | (with_reducible refine Kd.C_drewN ?_ _) | (with_reducible refine Kd.C_drew ?_) | exact HR399.out)) | (with_reducible refine Kd.C_alloc ?_ _) | (with_reducible refine Kd.C_drewN ?_ _) | (with_reducible refine Kd.C_drew ?_)))
               (case side2 => exact HC399.out)
               rintro e w71 ⟨v401, rfl, ho0, hb⟩
               refine ⟨_, rfl, ?_⟩
               replace HO_9 := Aside0.mk (Kd.R_below (rp_ HO_9.out) hb)
               have HO402 := Aside0.mk (Kd.R_lower ho0 (below_size (by repeat (first | (with_reducible first | exact HB.out | apply below_alloc | apply pw_below_drewN | apply below_drew1 | refine below_set ?_ (IsS71.ge HI380.out) | refine below_set ?_ GE362.out) | exact HB.out))))
               replace BK362 := Aside0.mk (blk_below (hp_ BK362.out) hb)
               replace HR399 := Aside0.mk (Kd.C_below (by repeat (first | (with_reducible exact HR399.out) | (with_reducible refine Kd.C_alloc ?_ _) | (with_reducible refine Kd.C_drewN ?_ _) | (with_reducible refine Kd.C_drew ?_) | exact HR399.out)) hb)
               replace HB := Aside0.mk (below_step (by repeat (first | (with_reducible first | exact HB.out | apply below_alloc | apply pw_below_drewN | apply below_drew1 | refine below_set ?_ (IsS71.ge HI380.out) | refine below_set ?_ GE362.out) | exact HB.out)) hb)
               replace HI380 := Aside0.mk (IsS71.below (by repeat (first | (with_reducible first | exact HI380.out | apply IsS71.alloc | apply IsS71.drewN | apply IsS71.drew | apply IsS71.set_0 | apply IsS71.set_1 | apply IsS71.set_2 | apply IsS71.set_3 | apply IsS71.set_4 | apply IsS71.set_5 | apply IsS71.set_6 | apply IsS71.set_7 | apply IsS71.set_8 | refine IsS71.far ?_ NB380_362.out _) | exact HI380.out)) hb)
               (try clear hb)
               (try clear hb2)
               (try clear hk)
               (try clear hi)
               (try clear ho0)
               refine hK.out _ _ ⟨(blk_cell BK362.out 0).trans rfl, (blk_cell BK362.out 1).trans rfl, (blk_cell BK362.out 2).trans rfl, (blk_cell BK362.out 3).trans rfl⟩ (fun hHeld => ?_)
               clear hK K
               refine norm_ (a' := ?_) ?_ ?_
               rotate_left
               · show Act.put _ (some 71) _ = _
                 simp only [Act.put, List.setIfInBounds_toArray, List.set_cons_zero, List.set_cons_succ, i64_w, i32_w]
                 rfl
               refine pur_ (i := 5) (N := some 66) Fl72 (any_of HT_.out (by kernel_rfl)) ?_
               refine pur_ (i := 6) (N := some 72) Fl74 (any_of HT_.out (by kernel_rfl)) ?_
               refine pur_ (i := 7) (N := some 73) Fl76 (any_of HT_.out (by kernel_rfl)) ?_
               refine pur_ (i := 8) (N := some 18) Fl78 (any_of HT_.out (by kernel_rfl)) ?_
               refine pur_ (i := 9) (N := some 19) Fl99 (any_of HT_.out (by kernel_rfl)) ?_
               refine done_ (done_of HT_.out (by kernel_rfl)) ?_
               try go_wp2
               replace HO_9 := Aside0.mk (Kd.R_drew HO_9.out)
               replace HO402 := Aside0.mk (Kd.R_drew HO402.out)
               replace BK362 := Aside0.mk (blk_drew BK362.out)
               replace HR399 := Aside0.mk (Kd.C_drew HR399.out)
               replace HI380 := Aside0.mk (IsS71.drew HI380.out)
               replace HB := Aside0.mk (below_drew1 HB.out)
               refine start_ (n := 33) (S := fun w' => w'.cell? ⟨gb362, 0, none⟩ = some (.int .i64 t358) ∧ w'.cell? ⟨gb362, 1, none⟩ = some (.int .i64 t359) ∧ w'.cell? ⟨gb362, 2, none⟩ = some (.int .i64 t360) ∧ w'.cell? ⟨gb362, 3, none⟩ = some (.int .i64 t361)) (ds := []) Fl59 (by kernel_rfl) rfl rfl ⟨(blk_cell BK362.out 0).trans rfl, (blk_cell BK362.out 1).trans rfl, (blk_cell BK362.out 2).trans rfl, (blk_cell BK362.out 3).trans rfl⟩ (fun hHeld => ?_); refine with_tabW chequerlaw09_RawCuts.tab17 chequerlaw09_RawCuts.bits17 (fun HT_ HW_ => ?_)
               generalize w71.drew = w72 at HO_9 HO402 BK362 HR399 HI380 HB hHeld ⊢
               refine pur_ (i := 0) (N := some 74) Fl61 (any_of HT_.out (by kernel_rfl)) ?_
               refine pur_ (i := 2) (N := some 76) Fl63 (any_of HT_.out (by kernel_rfl)) ?_
               refine pur_ (i := 3) (N := some 77) Fl64 (any_of HT_.out (by kernel_rfl)) ?_
               refine pur_ (i := 4) (N := some 78) Fl65 (any_of HT_.out (by kernel_rfl)) ?_
               refine pur_ (i := 5) (N := some 79) Fl66 (any_of HT_.out (by kernel_rfl)) ?_
               refine one_ (i := 1) (N := some 75) Fl71 rfl rfl (one_of HT_.out (by kernel_rfl)) (by decide) (fun K hK => ?_)
               refine goes_ Try.func20 (by kernel_rfl) rfl #[.pointer (some ⟨g380, 0, none⟩)] (by rfl) rfl rfl (by (try simp only [List.map_toArray, List.map_cons, List.map_nil]); first | done | rfl | (simp only [List.length_drop, List.length_take]; rfl)) ?_
               with_reducible refine (raw_Reader_Left.calls g380 x381000_1 x381001_1 x381002_1 x381003_1 x381004_1 x381005_1 x381006_1 x381007_1 x381008_1 t404 t405 t406 t407 t408 t409 t410 t411 t412 t413 w _ ?side1 ?side2 A34.out).mono ?_
               (case side1 => repeat (first | (with_reducible first | exact HI380.out | apply IsS71.alloc | apply IsS71.drewN | apply IsS71.drew | apply IsS71.set_0 | apply IsS71.set_1 | apply IsS71.set_2 | apply IsS71.set_3 | apply IsS71.set_4 | apply IsS71.set_5 | apply IsS71.set_6 | apply IsS71.set_7 | apply IsS71.set_8 | refine IsS71.far ?_ NB380_362.out _) | exact HI380.out))
               (case side2 => repeat (first | (with_reducible first | exact HB.out | apply below_alloc | apply pw_below_drewN | apply below_drew1 | refine below_set ?_ (IsS71.ge HI380.out) | refine below_set ?_ GE362.out) | exact HB.out))
               rintro e w73 ⟨rfl, hi, hb, hk⟩
               refine ⟨_, rfl, ?_⟩
               replace HO_9 := Aside0.mk (raw_bytes_keep (rp_ HO_9.out) hk)
               replace BK362 := Aside0.mk (KeepBut.blk hk (g' := gb362) (o := .cells #[.int .i64 t358, .int .i64 t359, .int .i64 t360, .int .i64 t361] 23 (0, 0)) (hp_ BK362.out) NB362_380.out (raw_hr HI380.out BK362.out (by decide)))
               replace HO402 := Aside0.mk (raw_row_keep (show IsS71 w _ g380 x381000_1 x381001_1 x381002_1 x381003_1 x381004_1 x381005_1 x381006_1 x381007_1 x381008_1 from by repeat (first | (with_reducible first | exact HI380.out | apply IsS71.alloc | apply IsS71.drewN | apply IsS71.drew | apply IsS71.set_0 | apply IsS71.set_1 | apply IsS71.set_2 | apply IsS71.set_3 | apply IsS71.set_4 | apply IsS71.set_5 | apply IsS71.set_6 | apply IsS71.set_7 | apply IsS71.set_8 | refine IsS71.far ?_ NB380_362.out _) | exact HI380.out)) (rp_ HO402.out) hk (by decide))
               replace HB := Aside0.mk (hb)
               replace HI380 := Aside0.mk (hi)
               (try clear hb)
               (try clear hb2)
               (try clear hk)
               (try clear hi)
               refine hK.out _ _ ⟨(blk_cell BK362.out 0).trans rfl, (blk_cell BK362.out 1).trans rfl, (blk_cell BK362.out 2).trans rfl, (blk_cell BK362.out 3).trans rfl⟩ (fun hHeld => ?_)
               clear hK K
               refine norm_ (a' := ?_) ?_ ?_
               rotate_left
               · show Act.put _ (some 75) _ = _
                 simp only [Act.put, List.setIfInBounds_toArray, List.set_cons_zero, List.set_cons_succ, i64_w, i32_w]
                 rfl
               refine pur_ (i := 6) (N := some 80) Fl73 (any_of HT_.out (by kernel_rfl)) ?_
               refine pur_ (i := 7) (N := some 81) Fl75 (any_of HT_.out (by kernel_rfl)) ?_
               refine pur_ (i := 8) (N := some 82) Fl77 (any_of HT_.out (by kernel_rfl)) ?_
               refine pur_ (i := 9) (N := some 83) Fl79 (any_of HT_.out (by kernel_rfl)) ?_
               refine pur_ (i := 11) (N := some 85) Fl100 (any_of HT_.out (by kernel_rfl)) ?_
               refine take_ (i := 12) (N := some 86) (v := ?_) (a' := ?_) Fl101 rfl rfl (take_ofW HT_.out HW_.out (by kernel_rfl)) (fun _ _ _ h => h) (Or.inl ⟨by rfl, ?_⟩) hHeld ?_ ?_
               rotate_left
               · rintro w' ⟨s0, s1, s2, s3⟩
                 go_simp
                 with_reducible rfl
               rotate_left
               · simp only [Act.put, List.setIfInBounds_toArray, List.set_cons_zero, List.set_cons_succ, i64_w, i32_w]
                 rfl
               refine one_ (i := 10) (N := some 84) Fl80 rfl rfl (one_of HT_.out (by kernel_rfl)) (by decide) (fun K hK => ?_)
               refine goes_ Try.func21 (by kernel_rfl) rfl #[.pointer (some ⟨g380, 0, none⟩)] (by rfl) rfl rfl (by (try simp only [List.map_toArray, List.map_cons, List.map_nil]); first | done | rfl | (simp only [List.length_drop, List.length_take]; rfl)) ?_
               with_reducible refine (raw_Reader_Rows.calls g380 t405 t406 t407 t408 t409 t410 t411 t412 t413 t414 t415 t416 t417 t418 t419 t420 t421 t422 t423 w _ ?side1 ?side2 A36.out).mono ?_
               (case side1 => repeat (first | (with_reducible first | exact HI380.out | apply IsS71.alloc | apply IsS71.drewN | apply IsS71.drew | apply IsS71.set_0 | apply IsS71.set_1 | apply IsS71.set_2 | apply IsS71.set_3 | apply IsS71.set_4 | apply IsS71.set_5 | apply IsS71.set_6 | apply IsS71.set_7 | apply IsS71.set_8 | refine IsS71.far ?_ NB380_362.out _) | exact HI380.out))
               (case side2 => repeat (first | (with_reducible first | exact HB.out | apply below_alloc | apply pw_below_drewN | apply below_drew1 | refine below_set ?_ (IsS71.ge HI380.out) | refine below_set ?_ GE362.out) | exact HB.out))
               rintro e w74 ⟨rfl, hi, hb, hk⟩
               refine ⟨_, rfl, ?_⟩
               replace HO_9 := Aside0.mk (raw_bytes_keep (rp_ HO_9.out) hk)
               replace BK362 := Aside0.mk (KeepBut.blk hk (g' := gb362) (o := .cells #[.int .i64 t358, .int .i64 t359, .int .i64 t360, .int .i64 t361] 23 (0, 0)) (hp_ BK362.out) NB362_380.out (raw_hr HI380.out BK362.out (by decide)))
               replace HO402 := Aside0.mk (raw_row_keep (show IsS71 w _ g380 t405 t406 t407 t408 t409 t410 t411 t412 t413 from by repeat (first | (with_reducible first | exact HI380.out | apply IsS71.alloc | apply IsS71.drewN | apply IsS71.drew | apply IsS71.set_0 | apply IsS71.set_1 | apply IsS71.set_2 | apply IsS71.set_3 | apply IsS71.set_4 | apply IsS71.set_5 | apply IsS71.set_6 | apply IsS71.set_7 | apply IsS71.set_8 | refine IsS71.far ?_ NB380_362.out _) | exact HI380.out)) (rp_ HO402.out) hk (by decide))
               replace HB := Aside0.mk (hb)
               replace HI380 := Aside0.mk (hi)
               (try clear hb)
               (try clear hb2)
               (try clear hk)
               (try clear hi)
               refine hK.out _ _ ⟨(blk_cell BK362.out 0).trans rfl, (blk_cell BK362.out 1).trans rfl, (blk_cell BK362.out 2).trans rfl, (blk_cell BK362.out 3).trans rfl⟩ (fun hHeld => ?_)
               clear hK K
               refine norm_ (a' := ?_) ?_ ?_
               rotate_left
               · show Act.put _ (some 84) _ = _
                 simp only [Act.put, List.setIfInBounds_toArray, List.set_cons_zero, List.set_cons_succ, i64_w, i32_w]
                 rfl
               refine pur_ (i := 13) (N := some 87) Fl81 (any_of HT_.out (by kernel_rfl)) ?_
               refine pur_ (i := 14) (N := some 88) Fl82 (any_of HT_.out (by kernel_rfl)) ?_
               refine pur_ (i := 15) (N := some 89) Fl83 (any_of HT_.out (by kernel_rfl)) ?_
               refine pur_ (i := 16) (N := some 90) Fl84 (any_of HT_.out (by kernel_rfl)) ?_
               refine pun_ (i := 17) (N := some 91) Fl85 (any_of HT_.out (by kernel_rfl)) ?_
               refine pun_ (i := 18) (N := some 92) Fl104 (any_of HT_.out (by kernel_rfl)) ?_
               refine pun_ (i := 19) (N := some 93) Fl105 (any_of HT_.out (by kernel_rfl)) ?_
               refine pun_ (i := 20) (N := some 94) Fl86 (any_of HT_.out (by kernel_rfl)) ?_
               refine pun_ (i := 21) (N := some 95) Fl87 (any_of HT_.out (by kernel_rfl)) ?_
               refine pun_ (i := 22) (N := some 96) Fl88 (any_of HT_.out (by kernel_rfl)) ?_
               refine pun_ (i := 23) (N := some 97) Fl89 (any_of HT_.out (by kernel_rfl)) ?_
               refine pur_ (i := 24) (N := some 98) Fl90 (any_of HT_.out (by kernel_rfl)) ?_
               refine pur_ (i := 25) (N := some 99) Fl91 (any_of HT_.out (by kernel_rfl)) ?_
               refine pun_ (i := 26) (N := some 100) Fl92 (any_of HT_.out (by kernel_rfl)) ?_
               refine pun_ (i := 27) (N := some 101) Fl93 (any_of HT_.out (by kernel_rfl)) ?_
               refine pur_ (i := 28) (N := some 102) Fl94 (any_of HT_.out (by kernel_rfl)) ?_
               refine pur_ (i := 29) (N := some 103) Fl95 (any_of HT_.out (by kernel_rfl)) ?_
               refine pun_ (i := 30) (N := some 104) Fl96 (any_of HT_.out (by kernel_rfl)) ?_
               refine pur_ (i := 31) (N := some 105) Fl97 (any_of HT_.out (by kernel_rfl)) ?_
               refine pur_ (i := 32) (N := some 6) Fl98 (any_of HT_.out (by kernel_rfl)) ?_
               refine done_ (done_of HT_.out (by kernel_rfl)) ?_
               try go_wp2
               go_ret
               exact ⟨by first | rfl | (simp [errW_none, errW_some] <;> rfl) | (simp [*, errW_none, errW_some] <;> rfl), by repeat (first | (with_reducible first | exact HB.out | apply below_alloc | apply pw_below_drewN | apply below_drew1 | refine below_set ?_ (IsS71.ge HI380.out) | refine below_set ?_ GE362.out) | exact HB.out)⟩
           · rw [if_neg c35] at H
             have c35b0 : (t404 == (wrap64 ((t366.length : Int) - t370))) = false := beq_eq_false_iff_ne.mpr c35
             have c35b1 : (t404 != (wrap64 ((t366.length : Int) - t370))) = true := bne_iff_ne.mpr c35
             obtain rfl := Option.some.inj H
             try go_wp2
             (try (rw [drewN_self wr]; generalize hq_ : World.drewN wr _ = wr; have n0_ := Aside0.mk (qrp_ hq_ HO_9.out); have n1_ := Aside0.mk (qhp_ hq_ BK362.out); have n2_ : Aside0 (IsS71 w wr g380 x381000_1 x381001_1 x381002_1 x381003_1 x381004_1 x381005_1 x381006_1 x381007_1 x381008_1) := ⟨by rw [← hq_]; exact (by repeat (first | (with_reducible first | exact HI380.out | apply IsS71.alloc | apply IsS71.drewN | apply IsS71.drew | apply IsS71.set_0 | apply IsS71.set_1 | apply IsS71.set_2 | apply IsS71.set_3 | apply IsS71.set_4 | apply IsS71.set_5 | apply IsS71.set_6 | apply IsS71.set_7 | apply IsS71.set_8 | refine IsS71.far ?_ NB380_362.out _) | exact HI380.out))⟩; have n3_ : Aside0 (Below w.heap.size w wr) := ⟨by rw [← hq_]; exact (by repeat (first | (with_reducible first | exact HB.out | apply below_alloc | apply pw_below_drewN | apply below_drew1 | refine below_set ?_ (IsS71.ge HI380.out) | refine below_set ?_ GE362.out) | exact HB.out))⟩; clear HO_9 BK362 HI380 HB hq_; have HO_9 := n0_; have BK362 := n1_; have HI380 := n2_; have HB := n3_; clear n0_ n1_ n2_ n3_))
             replace HO_9 := Aside0.mk (Kd.R_drew HO_9.out)
             replace BK362 := Aside0.mk (blk_drew BK362.out)
             replace HI380 := Aside0.mk (IsS71.drew HI380.out)
             replace HB := Aside0.mk (below_drew1 HB.out)
             have q76 : (t370 : Int) ≤ ((t366.length : Int) : Int) := of_decide_eq_true (by first | (with_reducible assumption) | assumption)
             obtain ⟨i076, hi076, _, hsz76, _⟩ := info_parts info5
             have hroom76 : t366.length ≤ co19 := (Kd.R_reads' HO_9.out).2.1
             have hC76 : Kd.C (Kd.int .u8) _ Ao19 t366.length t366 := (Kd.R_reads' HO_9.out).2.2
             have hcut76 := cut_to (P := Try.prog) 27 5 .i64 Try.underlying27 hi076 Ao19 t366.length co19 t370 (of_decide_eq_true (by first | (with_reducible assumption) | assumption)) q76 hroom76
             have hr76 := Kd.C_take (m := (t370 : Int).toNat) hC76 (by omega)
             have hy76 : y396.length = (t370 : Int).toNat := (by rw [Ny396.out, List.length_take]; omega)
             rw [← Ny396.out] at hr76
             rw [← hy76] at hcut76
             have HR399 := Aside0.mk hr76
             have HC399 := Aside0.mk (show y396.length ≤ co19 from by omega)
             clear hr76 hC76 hroom76 hi076 hsz76
             have KY76 := Aside0.mk hy76
             clear hy76
             have KL76 := Aside0.mk (show (t370 : Int).toNat ≤ t366.length from by omega)
             replace q76 := eq_true q76
             refine start_ (n := 10) (S := fun w' => w'.cell? ⟨gb362, 0, none⟩ = some (.int .i64 t358) ∧ w'.cell? ⟨gb362, 1, none⟩ = some (.int .i64 t359) ∧ w'.cell? ⟨gb362, 2, none⟩ = some (.int .i64 t360) ∧ w'.cell? ⟨gb362, 3, none⟩ = some (.int .i64 t361)) (ds := []) Fl60 (by kernel_rfl) rfl rfl ⟨(blk_cell BK362.out 0).trans rfl, (blk_cell BK362.out 1).trans rfl, (blk_cell BK362.out 2).trans rfl, (blk_cell BK362.out 3).trans rfl⟩ (fun hHeld => ?_); refine with_tabW chequerlaw09_RawCuts.tab16 chequerlaw09_RawCuts.bits16 (fun HT_ HW_ => ?_)
             generalize wr.drew = w75 at HO_9 BK362 HI380 HB HR399 hHeld ⊢
             refine pur_ (i := 0) (N := some 67) Fl62 (any_of HT_.out (by kernel_rfl)) ?_
             refine pur_ (i := 1) (N := some 68) Fl67 (any_of HT_.out (by kernel_rfl)) ?_
             refine pur_ (i := 2) (N := some 69) Fl68 (any_of HT_.out (by kernel_rfl)) ?_
             refine take_ (i := 3) (N := some 70) (v := ?_) (a' := ?_) Fl69 rfl rfl (take_ofW HT_.out HW_.out (by kernel_rfl)) (fun _ _ _ h => h) (Or.inl ⟨by rfl, ?_⟩) hHeld ?_ ?_
             rotate_left
             · rintro w' ⟨s0, s1, s2, s3⟩
               go_simp
               with_reducible rfl
             rotate_left
             · simp only [Act.put, List.setIfInBounds_toArray, List.set_cons_zero, List.set_cons_succ, i64_w, i32_w]
               rfl
             refine one_ (i := 4) (N := some 71) Fl70 rfl rfl (one_of HT_.out (by kernel_rfl)) (by decide) (fun K hK => ?_)
             refine goes_ Try.func13 (by kernel_rfl) rfl #[.slice Ao19 y396.length co19, .agg #[.int .i64 t358, .int .i64 t359, .int .i64 t360, .int .i64 t361]] (by rfl) rfl rfl (by (try simp only [List.map_toArray, List.map_cons, List.map_nil]); first | done | rfl | (simp only [List.length_drop, List.length_take]; rfl)) ?_
             with_reducible refine (raw_Read.calls _ _ y396 t358 t359 t360 t361 t400 t403 _ ?side1 ?side2 A33.out).mono ?_
             (case side1 => repeat (first | exact (by repeat (first | (with_reducible exact HR399.out) | (with_reducible refine Kd.C_alloc ?_ _) | (with_reducible refine Kd.C_drewN ?_ _) | (with_reducible refine Kd.C_drew ?_) | exact HR399.out)) | (with_reducible refine Kd.C_alloc ?_ _) | (with_reducible refine Kd.C_drewN ?_ _) | (with_reducible refine Kd.C_drew ?_)))
             (case side2 => exact HC399.out)
             rintro e w77 ⟨v401, rfl, ho0, hb⟩
             refine ⟨_, rfl, ?_⟩
             replace HO_9 := Aside0.mk (Kd.R_below (rp_ HO_9.out) hb)
             have HO402 := Aside0.mk (Kd.R_lower ho0 (below_size (by repeat (first | (with_reducible first | exact HB.out | apply below_alloc | apply pw_below_drewN | apply below_drew1 | refine below_set ?_ (IsS71.ge HI380.out) | refine below_set ?_ GE362.out) | exact HB.out))))
             replace BK362 := Aside0.mk (blk_below (hp_ BK362.out) hb)
             replace HR399 := Aside0.mk (Kd.C_below (by repeat (first | (with_reducible exact HR399.out) | (with_reducible refine Kd.C_alloc ?_ _) | (with_reducible refine Kd.C_drewN ?_ _) | (with_reducible refine Kd.C_drew ?_) | exact HR399.out)) hb)
             replace HB := Aside0.mk (below_step (by repeat (first | (with_reducible first | exact HB.out | apply below_alloc | apply pw_below_drewN | apply below_drew1 | refine below_set ?_ (IsS71.ge HI380.out) | refine below_set ?_ GE362.out) | exact HB.out)) hb)
             replace HI380 := Aside0.mk (IsS71.below (by repeat (first | (with_reducible first | exact HI380.out | apply IsS71.alloc | apply IsS71.drewN | apply IsS71.drew | apply IsS71.set_0 | apply IsS71.set_1 | apply IsS71.set_2 | apply IsS71.set_3 | apply IsS71.set_4 | apply IsS71.set_5 | apply IsS71.set_6 | apply IsS71.set_7 | apply IsS71.set_8 | refine IsS71.far ?_ NB380_362.out _) | exact HI380.out)) hb)
             (try clear hb)
             (try clear hb2)
             (try clear hk)
             (try clear hi)
             (try clear ho0)
             refine hK.out _ _ ⟨(blk_cell BK362.out 0).trans rfl, (blk_cell BK362.out 1).trans rfl, (blk_cell BK362.out 2).trans rfl, (blk_cell BK362.out 3).trans rfl⟩ (fun hHeld => ?_)
             clear hK K
             refine norm_ (a' := ?_) ?_ ?_
             rotate_left
             · show Act.put _ (some 71) _ = _
               simp only [Act.put, List.setIfInBounds_toArray, List.set_cons_zero, List.set_cons_succ, i64_w, i32_w]
               rfl
             refine pur_ (i := 5) (N := some 66) Fl72 (any_of HT_.out (by kernel_rfl)) ?_
             refine pur_ (i := 6) (N := some 72) Fl74 (any_of HT_.out (by kernel_rfl)) ?_
             refine pur_ (i := 7) (N := some 73) Fl76 (any_of HT_.out (by kernel_rfl)) ?_
             refine pur_ (i := 8) (N := some 18) Fl78 (any_of HT_.out (by kernel_rfl)) ?_
             refine pur_ (i := 9) (N := some 19) Fl99 (any_of HT_.out (by kernel_rfl)) ?_
             refine done_ (done_of HT_.out (by kernel_rfl)) ?_
             try go_wp2
             replace HO_9 := Aside0.mk (Kd.R_drew HO_9.out)
             replace HO402 := Aside0.mk (Kd.R_drew HO402.out)
             replace HR399 := Aside0.mk (Kd.C_drew HR399.out)
             replace HI380 := Aside0.mk (IsS71.drew HI380.out)
             replace HB := Aside0.mk (below_drew1 HB.out)
             refine start_ (n := 33) (S := fun w' => True) (ds := []) Fl59 (by kernel_rfl) rfl rfl trivial (fun hHeld => ?_); refine with_tabW chequerlaw09_RawCuts.tab17 chequerlaw09_RawCuts.bits17 (fun HT_ HW_ => ?_)
             generalize w77.drew = w78 at HO_9 HO402 HR399 HI380 HB hHeld ⊢
             refine pur_ (i := 0) (N := some 74) Fl61 (any_of HT_.out (by kernel_rfl)) ?_
             refine pur_ (i := 2) (N := some 76) Fl63 (any_of HT_.out (by kernel_rfl)) ?_
             refine pur_ (i := 3) (N := some 77) Fl64 (any_of HT_.out (by kernel_rfl)) ?_
             refine pur_ (i := 4) (N := some 78) Fl65 (any_of HT_.out (by kernel_rfl)) ?_
             refine pur_ (i := 5) (N := some 79) Fl66 (any_of HT_.out (by kernel_rfl)) ?_
             refine one_ (i := 1) (N := some 75) Fl71 rfl rfl (one_of HT_.out (by kernel_rfl)) (by decide) (fun K hK => ?_)
             refine goes_ Try.func20 (by kernel_rfl) rfl #[.pointer (some ⟨g380, 0, none⟩)] (by rfl) rfl rfl (by (try simp only [List.map_toArray, List.map_cons, List.map_nil]); first | done | rfl | (simp only [List.length_drop, List.length_take]; rfl)) ?_
             with_reducible refine (raw_Reader_Left.calls g380 x381000_1 x381001_1 x381002_1 x381003_1 x381004_1 x381005_1 x381006_1 x381007_1 x381008_1 t404 t405 t406 t407 t408 t409 t410 t411 t412 t413 w _ ?side1 ?side2 A34.out).mono ?_
             (case side1 => repeat (first | (with_reducible first | exact HI380.out | apply IsS71.alloc | apply IsS71.drewN | apply IsS71.drew | apply IsS71.set_0 | apply IsS71.set_1 | apply IsS71.set_2 | apply IsS71.set_3 | apply IsS71.set_4 | apply IsS71.set_5 | apply IsS71.set_6 | apply IsS71.set_7 | apply IsS71.set_8) | exact HI380.out))
             (case side2 => repeat (first | (with_reducible first | exact HB.out | apply below_alloc | apply pw_below_drewN | apply below_drew1 | refine below_set ?_ (IsS71.ge HI380.out)) | exact HB.out))
             rintro e w79 ⟨rfl, hi, hb, hk⟩
             refine ⟨_, rfl, ?_⟩
             replace HO_9 := Aside0.mk (raw_bytes_keep (rp_ HO_9.out) hk)
             replace HO402 := Aside0.mk (raw_row_keep (show IsS71 w _ g380 x381000_1 x381001_1 x381002_1 x381003_1 x381004_1 x381005_1 x381006_1 x381007_1 x381008_1 from by repeat (first | (with_reducible first | exact HI380.out | apply IsS71.alloc | apply IsS71.drewN | apply IsS71.drew | apply IsS71.set_0 | apply IsS71.set_1 | apply IsS71.set_2 | apply IsS71.set_3 | apply IsS71.set_4 | apply IsS71.set_5 | apply IsS71.set_6 | apply IsS71.set_7 | apply IsS71.set_8) | exact HI380.out)) (rp_ HO402.out) hk (by decide))
             replace HB := Aside0.mk (hb)
             replace HI380 := Aside0.mk (hi)
             (try clear hb)
             (try clear hb2)
             (try clear hk)
             (try clear hi)
             refine hK.out _ _ trivial (fun hHeld => ?_)
             clear hK K
             refine norm_ (a' := ?_) ?_ ?_
             rotate_left
             · show Act.put _ (some 75) _ = _
               simp only [Act.put, List.setIfInBounds_toArray, List.set_cons_zero, List.set_cons_succ, i64_w, i32_w]
               rfl
             refine pur_ (i := 6) (N := some 80) Fl73 (any_of HT_.out (by kernel_rfl)) ?_
             refine pur_ (i := 7) (N := some 81) Fl75 (any_of HT_.out (by kernel_rfl)) ?_
             refine pun_ (i := 8) (N := some 82) Fl77 (any_of HT_.out (by kernel_rfl)) ?_
             refine pun_ (i := 9) (N := some 83) Fl79 (any_of HT_.out (by kernel_rfl)) ?_
             refine pun_ (i := 10) (N := some 84) #[true, true, true, true, true, true, true, true, true, true, true, false, false, false, false, false, false, false, false, false, false, false, false, false, false, false, false, false, false, false, false, false, false] (any_of HT_.out (by kernel_rfl)) ?_
             refine pun_ (i := 11) (N := some 85) #[true, true, true, true, true, true, true, true, true, true, true, true, false, false, false, false, false, false, false, false, false, false, false, false, false, false, false, false, false, false, false, false, false] (any_of HT_.out (by kernel_rfl)) ?_
             refine pun_ (i := 12) (N := some 86) Fl80 (any_of HT_.out (by kernel_rfl)) ?_
             refine pun_ (i := 13) (N := some 87) Fl81 (any_of HT_.out (by kernel_rfl)) ?_
             refine pun_ (i := 14) (N := some 88) Fl82 (any_of HT_.out (by kernel_rfl)) ?_
             refine pur_ (i := 15) (N := some 89) Fl83 (any_of HT_.out (by kernel_rfl)) ?_
             refine pur_ (i := 16) (N := some 90) Fl84 (any_of HT_.out (by kernel_rfl)) ?_
             refine pun_ (i := 17) (N := some 91) Fl85 (any_of HT_.out (by kernel_rfl)) ?_
             refine pun_ (i := 18) (N := some 92) Fl104 (any_of HT_.out (by kernel_rfl)) ?_
             refine pun_ (i := 19) (N := some 93) Fl105 (any_of HT_.out (by kernel_rfl)) ?_
             refine pun_ (i := 20) (N := some 94) Fl86 (any_of HT_.out (by kernel_rfl)) ?_
             refine pun_ (i := 21) (N := some 95) Fl87 (any_of HT_.out (by kernel_rfl)) ?_
             refine pun_ (i := 22) (N := some 96) Fl88 (any_of HT_.out (by kernel_rfl)) ?_
             refine pun_ (i := 23) (N := some 97) Fl89 (any_of HT_.out (by kernel_rfl)) ?_
             refine pur_ (i := 24) (N := some 98) Fl90 (any_of HT_.out (by kernel_rfl)) ?_
             refine pur_ (i := 25) (N := some 99) Fl91 (any_of HT_.out (by kernel_rfl)) ?_
             refine pun_ (i := 26) (N := some 100) Fl92 (any_of HT_.out (by kernel_rfl)) ?_
             refine pun_ (i := 27) (N := some 101) Fl93 (any_of HT_.out (by kernel_rfl)) ?_
             refine pur_ (i := 28) (N := some 102) Fl94 (any_of HT_.out (by kernel_rfl)) ?_
             refine pur_ (i := 29) (N := some 103) Fl95 (any_of HT_.out (by kernel_rfl)) ?_
             refine pun_ (i := 30) (N := some 104) Fl96 (any_of HT_.out (by kernel_rfl)) ?_
             refine pur_ (i := 31) (N := some 105) Fl97 (any_of HT_.out (by kernel_rfl)) ?_
             refine pur_ (i := 32) (N := some 6) Fl98 (any_of HT_.out (by kernel_rfl)) ?_
             refine done_ (done_of HT_.out (by kernel_rfl)) ?_
             try go_wp2
             go_ret
             exact ⟨by first | rfl | (simp [errW_none, errW_some] <;> rfl) | (simp [*, errW_none, errW_some] <;> rfl), by repeat (first | (with_reducible first | exact HB.out | apply below_alloc | apply pw_below_drewN | apply below_drew1 | refine below_set ?_ (IsS71.ge HI380.out)) | exact HB.out)⟩
         · rw [if_neg c32] at H
           exact absurd H (by simp)
       · rw [if_neg c31] at H
         exact absurd H (by simp)
 · rw [if_neg c9] at H
   have c9b0 : (t381 == 0) = false := beq_eq_false_iff_ne.mpr c9
   have c9b1 : (t381 != 0) = true := bne_iff_ne.mpr c9
   obtain rfl := Option.some.inj H
   go_enter Try.func5, Try.ntmps5
   go_wp2_with (first | ((with_reducible refine gate_dst (N := 3) rfl ?_); refine box_event ?hg (N := 3) ?hd (cs := #[.int .i64 a0_0, .int .i64 a0_1, .int .i64 a0_2, .int .i64 a0_3]) (t := 23) ?hr ?_; (case hd => rfl); (case hg => rfl); (case hr => first | (go_simp; done) | (go_simp; rfl)); intro gb357 hg w80 hbox hb; have BK357 := Aside0.mk (hbox); have GW357 := Aside0.mk ((by rw [hg]; exact (below_size bp_) : w.heap.size ≤ gb357)); have GE357 := Aside0.mk ((by rw [hg]; exact (below_size bp_) : w.heap.size ≤ gb357)); replace HB := Aside0.mk (below_step bp_ hb); clear hb hbox hg; have hcz81_0 : w80.cell? ⟨gb357, 0, none⟩ = some (.int .i64 a0_0) := (blk_cell BK357.out 0).trans rfl; have hcz81_1 : w80.cell? ⟨gb357, 1, none⟩ = some (.int .i64 a0_1) := (blk_cell BK357.out 1).trans rfl; have hcz81_2 : w80.cell? ⟨gb357, 2, none⟩ = some (.int .i64 a0_2) := (blk_cell BK357.out 2).trans rfl; have hcz81_3 : w80.cell? ⟨gb357, 3, none⟩ = some (.int .i64 a0_3) := (blk_cell BK357.out 3).trans rfl; have hfz81_0 := blk_frozen BK357.out 0; have hfz81_1 := blk_frozen BK357.out 1; have hfz81_2 := blk_frozen BK357.out 2; have hfz81_3 := blk_frozen BK357.out 3) | ((with_reducible refine gate_callee (f := 8) rfl ?_); refine goQ_ (some 21) Try.func8 #[.agg #[.int .i64 a0_0, .int .i64 a0_1, .int .i64 a0_2, .int .i64 a0_3], .int .i64 4] ?_; (with_reducible refine (chequerref09_Head.calls a0_0 a0_1 a0_2 a0_3 4 t358 t359 t360 t361 _ A4.out).mono ?_); rintro e w82 ⟨rfl, hb⟩; refine ⟨_, rfl, ?_⟩; replace HB := Aside0.mk (below_step bp_ hb); (try clear hb); (try clear hb2); (try clear hk); (try clear hi)) | ((with_reducible refine gate_dst (N := 7) rfl ?_); refine box_event ?hg (N := 7) ?hd (cs := #[.int .i64 0, .int .i64 0, .int .i64 0, .int .i64 0]) (t := 23) ?hr ?_; (case hd => rfl); (case hg => rfl); (case hr => first | (go_simp; done) | (go_simp; rfl)); intro gb362 hg w83 hbox hb; have BK362 := Aside0.mk (hbox); have GW362 := Aside0.mk ((by rw [hg]; exact (below_size bp_) : w.heap.size ≤ gb362)); have GE362 := Aside0.mk ((by rw [hg]; exact (below_size bp_) : w.heap.size ≤ gb362)); replace HB := Aside0.mk (below_step bp_ hb); clear hb hbox hg; have hcz84_0 : w83.cell? ⟨gb362, 0, none⟩ = some (.int .i64 0) := (blk_cell BK362.out 0).trans rfl; have hcz84_1 : w83.cell? ⟨gb362, 1, none⟩ = some (.int .i64 0) := (blk_cell BK362.out 1).trans rfl; have hcz84_2 : w83.cell? ⟨gb362, 2, none⟩ = some (.int .i64 0) := (blk_cell BK362.out 2).trans rfl; have hcz84_3 : w83.cell? ⟨gb362, 3, none⟩ = some (.int .i64 0) := (blk_cell BK362.out 3).trans rfl; have hfz84_0 := blk_frozen BK362.out 0; have hfz84_1 := blk_frozen BK362.out 1; have hfz84_2 := blk_frozen BK362.out 2; have hfz84_3 := blk_frozen BK362.out 3) | ((with_reducible refine gate_callee (f := 9) rfl ?_); refine goQ_ (some 24) Try.func9 #[.slice A1 l1.length c1, .agg #[.int .i64 t358, .int .i64 t359, .int .i64 t360, .int .i64 t361]] ?_; (with_reducible refine (chequerref08_Pixels.calls k _ _ l1 t358 t359 t360 t361 t363 _ ?side1 ?side2 A5.out).mono ?_); (case side1 => exact Kd.C_below HR1.out bp_); (case side2 => exact HC1.out); rintro e w85 ⟨v364, rfl, ho0, hb⟩; refine ⟨_, rfl, ?_⟩; have HO365 := Aside0.mk (Kd.R_lower ho0 (below_size bp_)); replace BK362 := Aside0.mk (blk_below (g := gb362) (o := .cells #[.int .i64 t358, .int .i64 t359, .int .i64 t360, .int .i64 t361] 23 (0, 0)) (by (with_reducible repeat (first | refine blk_drewN ?_ _ | refine blk_drew ?_ | refine blk_alloc ?_ _)); refine blk_put (cs := #[.int .i64 t358, .int .i64 t359, .int .i64 t360, .int .i64 0]) ?_ 3 _ rfl; (with_reducible repeat (first | refine blk_drewN ?_ _ | refine blk_drew ?_ | refine blk_alloc ?_ _)); refine blk_put (cs := #[.int .i64 t358, .int .i64 t359, .int .i64 0, .int .i64 0]) ?_ 2 _ rfl; (with_reducible repeat (first | refine blk_drewN ?_ _ | refine blk_drew ?_ | refine blk_alloc ?_ _)); refine blk_put (cs := #[.int .i64 t358, .int .i64 0, .int .i64 0, .int .i64 0]) ?_ 1 _ rfl; (with_reducible repeat (first | refine blk_drewN ?_ _ | refine blk_drew ?_ | refine blk_alloc ?_ _)); refine blk_put (cs := #[.int .i64 0, .int .i64 0, .int .i64 0, .int .i64 0]) ?_ 0 _ rfl; (with_reducible repeat (first | refine blk_drewN ?_ _ | refine blk_drew ?_ | refine blk_alloc ?_ _)); exact BK362.out) hb); replace HB := Aside0.mk (below_step bp_ hb); (try clear hb); (try clear hb2); (try clear hk); (try clear hi); (try clear ho0); have hcz86_0 : w85.cell? ⟨gb362, 0, none⟩ = some (.int .i64 t358) := (blk_cell BK362.out 0).trans rfl; have hcz86_1 : w85.cell? ⟨gb362, 1, none⟩ = some (.int .i64 t359) := (blk_cell BK362.out 1).trans rfl; have hcz86_2 : w85.cell? ⟨gb362, 2, none⟩ = some (.int .i64 t360) := (blk_cell BK362.out 2).trans rfl; have hcz86_3 : w85.cell? ⟨gb362, 3, none⟩ = some (.int .i64 t361) := (blk_cell BK362.out 3).trans rfl; have hfz86_0 := blk_frozen BK362.out 0; have hfz86_1 := blk_frozen BK362.out 1; have hfz86_2 := blk_frozen BK362.out 2; have hfz86_3 := blk_frozen BK362.out 3; obtain ⟨Ao87, co87, eo87⟩ := Kd.R_slice HO365.out; subst eo87) | ((with_reducible refine gate_callee (f := 11) rfl ?_); refine goQ_ (some 28) Try.func11 #[.slice Ao87 t363.length co87, .agg #[.int .i64 t358, .int .i64 t359, .int .i64 t360, .int .i64 t361]] ?_; (with_reducible refine (chequerref09_Write.calls k _ _ t363 t358 t359 t360 t361 t366 t369 _ ?side1 ?side2 A6.out).mono ?_); (case side1 => exact cp_ (Kd.R_reads' HO365.out).2.2); (case side2 => exact (Kd.R_reads' HO365.out).2.1); rintro e w88 ⟨v367, rfl, ho0, hb⟩; refine ⟨_, rfl, ?_⟩; replace HO365 := Aside0.mk (Kd.R_below (rp_ HO365.out) hb); have HO368 := Aside0.mk (Kd.R_lower ho0 (below_size bp_)); replace BK362 := Aside0.mk (blk_below (hp_ BK362.out) hb); replace HB := Aside0.mk (below_step bp_ hb); (try clear hb); (try clear hb2); (try clear hk); (try clear hi); (try clear ho0); obtain ⟨Ao89, co89, eo89⟩ := Kd.R_slice HO368.out; subst eo89) | ((with_reducible refine gate_callee (f := 15) rfl ?_); refine goQ_ (some 34) Try.func15 #[.int .i64 a2, .int .i64 (t366.length : Int)] ?_; (with_reducible refine (chequerref01_Around.calls a2 (t366.length : Int) t370 _ A7.out).mono ?_); rintro e w' ⟨rfl, ⟨nd, rfl⟩⟩; refine ⟨_, rfl, ?_⟩; have hcz90_0 : w88.cell? ⟨gb362, 0, none⟩ = some (.int .i64 t358) := (blk_cell BK362.out 0).trans rfl; have hcz90_1 : w88.cell? ⟨gb362, 1, none⟩ = some (.int .i64 t359) := (blk_cell BK362.out 1).trans rfl; have hcz90_2 : w88.cell? ⟨gb362, 2, none⟩ = some (.int .i64 t360) := (blk_cell BK362.out 2).trans rfl; have hcz90_3 : w88.cell? ⟨gb362, 3, none⟩ = some (.int .i64 t361) := (blk_cell BK362.out 3).trans rfl; have hfz90_0 := blk_frozen BK362.out 0; have hfz90_1 := blk_frozen BK362.out 1; have hfz90_2 := blk_frozen BK362.out 2; have hfz90_3 := blk_frozen BK362.out 3) | ((with_reducible refine gate_callee (f := 18) rfl ?_); refine goQ_ (some 37) Try.func18 #[.agg #[.int .i64 t358, .int .i64 t359, .int .i64 t360, .int .i64 t361]] ?_; (with_reducible refine (raw_New.calls2 t358 t359 t360 t361 t371 t372 t373 t374 t375 t376 t377 t378 t379 t381 w _ ?side1 A8.out).mono ?_); (case side1 => repeat (first | (with_reducible first | exact HB.out | apply below_alloc | apply pw_below_drewN | apply below_drew1) | exact HB.out)); rintro e w91 ⟨g380, rfl, hi, hb, hb2, hgt⟩; refine ⟨_, rfl, ?_⟩; replace HO365 := Aside0.mk (Kd.R_below (rp_ HO365.out) hb2); replace HO368 := Aside0.mk (raw_bytes_apart (rp_ HO368.out) hb2 hgt); clear hgt; replace HB := Aside0.mk (hb); have HI380 := Aside0.mk (hi); (try clear hb); (try clear hb2); (try clear hk); (try clear hi)))
   go_ret
   exact ⟨by first | rfl | (simp [errW_none, errW_some] <;> rfl) | (simp [*, errW_none, errW_some] <;> rfl), by repeat (first | (with_reducible first | exact HB.out | apply below_alloc | apply pw_below_drewN | apply below_drew1 | refine below_set ?_ (IsS71.ge HI380.out)) | exact HB.out)⟩

/-- THE ONE PURE STATEMENT of chequerlaw09_RawCuts. -/
def chequerlaw09_RawCuts.Pure : Prop := ∀ (a0_0 : Int) (a0_1 : Int) (a0_2 : Int) (a0_3 : Int) (l1 : List Int) (a2 : Int), (Lit.int .i64 a0_0).wf = true → (Lit.int .i64 a0_1).wf = true → (Lit.int .i64 a0_2).wf = true → (Lit.int .i64 a0_3).wf = true → l1.length ≤ maxLen → l1.length * 8 ≤ 140737488351232 → (∀ x ∈ l1, (Lit.int .i64 x).wf = true) → (Lit.int .i64 a2).wf = true → ∃ k, chequerlaw09_RawCuts.f k a0_0 a0_1 a0_2 a0_3 l1 a2 = some true
theorem chequerlaw09_RawCuts.walk (P : chequerlaw09_RawCuts.Pure) (a0_0 : Int) (a0_1 : Int) (a0_2 : Int) (a0_3 : Int) (a1 : Option Addr) (len1 cap1 : Nat) (z1 : List Int) (a2 : Int) (w : World) (w0_0 : (Lit.int .i64 a0_0).wf = true) (w0_1 : (Lit.int .i64 a0_1).wf = true) (w0_2 : (Lit.int .i64 a0_2).wf = true) (w0_3 : (Lit.int .i64 a0_3).wf = true) (w1 : (a1 = none ∧ len1 = 0 ∧ cap1 = 0 ∧ z1 = []) ∨ ∃ x, a1 = some x ∧ len1 ≤ cap1 ∧ cap1 ≤ maxLen ∧ z1.length = cap1 ∧ (∀ i, i < z1.length → w.cell? (x.add i) = some (.int .i64 (z1.getD i 0))) ∧ ∀ n ∈ z1, (Lit.int .i64 n).wf = true) (y1 : len1 * 8 ≤ 140737488351232) (w2 : (Lit.int .i64 a2).wf = true) :
 Calls Try.prog 5 #[.agg #[.int .i64 a0_0, .int .i64 a0_1, .int .i64 a0_2, .int .i64 a0_3], .slice a1 len1 cap1, .int .i64 a2] w fun e w' => e = .returned (.bool true) ∧ Below w.heap.size w w' := by
 obtain ⟨l1, rfl, hr1, hm1, hw1, hc1⟩ := ReadsInt.ofRowC w1
 obtain ⟨k, h⟩ := P a0_0 a0_1 a0_2 a0_3 l1 a2 w0_0 w0_1 w0_2 w0_3 hm1 y1 hw1 w2
 refine (chequerlaw09_RawCuts.calls k a0_0 a0_1 a0_2 a0_3 _ _ l1 a2 true w (Kd.C_of_reads (d := (0 : Int)) (h1 := fun _ => rfl) hr1) hc1 h).mono ?_
 rintro e w' ⟨rfl, hd⟩
 exact ⟨rfl, hd⟩

end Go.Proofs.Ytdjonaajfhbfhaa.Q
