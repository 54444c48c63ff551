-- written by our own program (wip/tools/myprint.py) out of the translation, by the kit's print; Lean checks it
import Derived.Test.YtidpaaemfiopkaaQ0
import Derived.Test.YtidpaaemfiopkaaQ2
import Derived.Test.YtidpaaemfiopkaaQ3
import Derived.Test.YtidpaaemfiopkaaQ5
import Derived.Test.YtidpaaemfiopkaaQ7
import Derived.Test.YtidpaaemfiopkaaQ9
import Derived.Test.YtidpaaemfiopkaaQ11
namespace Go.Proofs.Ytidpaaemfiopkaa.Q
open Go.RowKit Go.Proofs.YtidpaaemfiopkaaW.PrintWords Go.Proofs.YtidpaaemfiopkaaW.PrintLast Go.Proofs.YtidpaaemfiopkaaW.PrintMore
attribute [local go_sem] max2_int min2_int max_two min_two max_three min_three max_four min_four   -- for this text's walks alone
set_option linter.unusedVariables false
set_option linter.unusedSimpArgs false

abbrev Fl55 : Array Bool := #[false, false, false, false, false, false, false, false, false, false, false, false, false, false, false, false, false, false, false, false, false, false, false, false, false]
abbrev Fl56 : Array Bool := #[true, false, false, false, false, false, false, false, false, false, false, false, false, false, false, false, false, false, false, false, false, false, false, false, false]
abbrev Fl57 : Array Bool := #[true, true, false, false, false, false, false, false, false, false, false, false, false, false, false, false, false, false, false, false, false, false, false, false, false]
abbrev Fl58 : Array Bool := #[true, true, true, false, false, false, false, false, false, false, false, false, false, false, false, false, false, false, false, false, false, false, false, false, false]
abbrev Fl59 : Array Bool := #[true, true, true, true, false, false, false, false, false, false, false, false, false, false, false, false, false, false, false, false, false, false, false, false, false]
abbrev Fl60 : Array Bool := #[true, true, true, true, true, false, false, false, false, false, false, false, false, false, false, false, false, false, false, false, false, false, false, false, false]
abbrev Fl61 : Array Bool := #[true, true, true, true, true, true, false, false, false, false, false, false, false, false, false, false, false, false, false, false, false, false, false, false, false]
abbrev Fl62 : Array Bool := #[true, true, true, true, true, true, true, false, false, false, false, false, false, false, false, false, false, false, false, false, false, false, false, false, false]
abbrev Fl63 : Array Bool := #[true, true, true, true, true, true, true, true, false, false, false, false, false, false, false, false, false, false, false, false, false, false, false, false, false]
abbrev Fl64 : Array Bool := #[true, true, true, true, true, true, true, true, true, false, false, false, false, false, false, false, false, false, false, false, false, false, false, false, false]
abbrev Fl65 : Array Bool := #[true, true, true, true, true, true, true, true, true, true, false, false, false, false, false, false, false, false, false, false, false, false, false, false, false]
abbrev Fl66 : Array Bool := #[true, true, true, true, true, true, true, true, true, true, true, true, true, true, true, true, true, true, true, false, false, false, false, false, false]
abbrev Fl67 : Array Bool := #[true, true, true, true, true, true, true, true, true, true, true, true, true, true, true, true, true, true, true, true, false, false, false, false, false]
abbrev Fl68 : Array Bool := #[true, true, true, true, true, true, true, true, true, true, true, true, true, true, true, true, true, true, true, true, true, false, false, false, false]
abbrev Fl69 : Array Bool := #[true, true, true, true, true, true, true, true, true, true, true, true, true, true, true, true, true, true, true, true, true, true, false, false, false]
abbrev Fl70 : Array Bool := #[true, true, true, true, true, true, true, true, true, true, true, true, true, true, true, true, true, true, true, true, true, true, true, false, false]
abbrev Fl71 : Array Bool := #[true, true, true, true, true, true, true, true, true, true, true, true, true, true, true, true, true, true, true, true, true, true, true, true, false]
abbrev Fl72 : Array Bool := #[true, true, true, true, true, true, true, true, true, true, true, true, true, true, true, true, true, true, true, true, true, true, true, true, true]
abbrev Fl73 : Array Bool := #[true, true, true, true, true, true, true, true, true, true, false, false, true, true, true, true, true, true, false, false, false, false, false, false, true, false, false]
abbrev Fl74 : Array Bool := #[true, true, true, true, true, true, true, true, true, true, true, false, false, false, false, false, false, false, false, false, false, false, false, false, false]
abbrev Fl75 : Array Bool := #[true, true, true, true, true, true, true, true, true, true, true, true, false, false, false, false, false, false, false, false, false, false, false, false, false]
abbrev Fl76 : Array Bool := #[true, true, true, true, true, true, true, true, true, true, true, true, true, false, false, false, false, false, false, false, false, false, false, false, false]
abbrev Fl77 : Array Bool := #[true, true, true, true, true, true, true, true, true, true, true, true, true, true, false, false, false, false, false, false, false, false, false, false, false]
abbrev Fl78 : Array Bool := #[true, true, true, true, true, true, true, true, true, true, true, true, true, true, true, false, false, false, false, false, false, false, false, false, false]
abbrev Fl79 : Array Bool := #[true, true, true, true, true, true, true, true, true, true, true, true, true, true, true, true, false, false, false, false, false, false, false, false, false]
abbrev Fl80 : Array Bool := #[true, true, true, true, true, true, true, true, true, true, true, true, true, true, true, true, true, false, false, false, false, false, false, false, false]
abbrev Fl81 : Array Bool := #[true, true, true, true, true, true, true, true, true, true, true, true, true, true, true, true, true, true, false, false, false, false, false, false, false]
abbrev Fl82 : Array Bool := #[true, true, true, true, true, true, true, true, true, true, true, true, true, true, true, true, true, true, false, false, false, false, false, false, true, false, false]
abbrev Fl83 : Array Bool := #[true, true, true, true, true, true, true, true, true, true, true, true, true, true, true, true, true, true, true, true, false, false, false, false, true, false, false]
abbrev Fl84 : Array Bool := #[true, true, true, true, true, true, true, true, true, true, true, true, true, true, true, true, true, true, true, true, true, true, true, true, true, false, false]
abbrev Fl85 : Array Bool := #[true, false, true, true, true, true, true, true, true, true, false, false, true, true, true, true, true, true, false, false, false, false, false, false, true, false, false]
abbrev Fl86 : Array Bool := #[true, true, true, true, true, true, true, true, true, true, false, false, false, true, false, false, false, false, false, false, false, false, false, false, false]
abbrev Fl87 : Array Bool := #[true, true, true, true, true, true, true, true, true, true, false, false, false, true, true, false, false, false, false, false, false, false, false, false, false]
abbrev Fl88 : Array Bool := #[true, true, true, true, true, true, true, true, true, true, false, false, false, true, true, true, false, false, false, false, false, false, false, false, false]
abbrev Fl89 : Array Bool := #[true, true, true, true, true, true, true, true, true, true, false, false, false, true, true, true, true, false, false, false, false, false, false, false, false]
abbrev Fl90 : Array Bool := #[true, true, true, true, true, true, true, true, true, true, false, false, false, true, true, true, true, true, false, false, false, false, false, false, false]
abbrev Fl91 : Array Bool := #[true, true, true, true, true, true, true, true, true, true, false, false, false, true, true, true, true, true, true, false, false, false, false, false, false]
abbrev Fl92 : Array Bool := #[true, true, true, true, true, true, true, true, true, true, false, false, true, true, true, true, true, true, false, false, false, false, false, false, false, false, false]
abbrev Fl93 : Array Bool := #[true, true, true, true, true, true, true, true, true, true, true, false, false, true, true, true, true, true, true, false, false, false, false, false, false]
abbrev Fl94 : Array Bool := #[true, true, true, true, true, true, true, true, true, true, true, false, true, true, true, true, true, true, true, false, false, false, false, false, false]
abbrev Fl95 : Array Bool := #[true, true, true, true, true, true, true, true, true, true, true, true, true, true, true, true, true, true, false, false, false, false, false, false, false, false, false]
abbrev Fl96 : Array Bool := #[true, true, true, true, true, true, true, true, true, true, true, true, true, true, true, true, true, true, true, true, false, false, false, false, false, false, false]
abbrev Fl97 : Array Bool := #[true, true, true, true, true, true, true, true, true, true, true, true, true, true, true, true, true, true, true, true, true, true, true, true, false, false, false]
/-! ### chequerlaw03_RectSubs: function 5 -/
def chequerlaw03_RectSubs.j0 : Nat → Int → Int → Bool → Int → Int → Int → Int → Int → Int → List Int → Int → Int → List Int → Option (Bool)
 | 0, _, _, _, _, _, _, _, _, _, _, _, _, _ => none
 | k + 1, x8, x9, x62, x309000, x309001, x309002, x309003, x315000, x315001, x315002, x331000, x331001, x331002 => if x62 = true then (some false) else ((chequerref01_Around.f x309000 x331000).bind fun t332 => ((chequerref01_Around.f x309001 x331001).bind fun t333 => ((chequerref01_Around.f x309002 (wrap64 (x331000 - t332))).bind fun t334 => ((chequerref01_Around.f x309003 (wrap64 (x331001 - t333))).bind fun t335 => ((rect_Matrix_Sub.f k x331000 x331001 x331002 t332 t333 (wrap64 (1 + t334)) (wrap64 (1 + t335))).bind fun bt336 => ((chequerlaw03_of.f x315000 x315001 x315002).bind fun bt343 => ((rect_Matrix_Sub.f k bt343.1 bt343.2.1 bt343.2.2 (wrap64 (x8 + t332)) (wrap64 (x9 + t333)) (wrap64 (1 + t334)) (wrap64 (1 + t335))).bind fun bt348 => (if bt336.2.2.2 = true then (if bt348.2.2.2 = true then ((rect_Same.f k bt336.1 bt336.2.1 bt336.2.2.1 bt348.1 bt348.2.1 bt348.2.2.1).bind fun t355 => (if t355 = true then ((chequerlaw03_of.f x315000 x315001 x315002).bind fun bt356 => ((rect_Matrix_Has.f k bt356.1 bt356.2.1 bt356.2.2 bt336.1 bt336.2.1 bt336.2.2.1 (wrap64 (x8 + t332)) (wrap64 (x9 + t333))).bind fun t361 => (if t361 = true then ((chequerlaw03_lives.f k).bind fun t362 => (some t362)) else (some false)))) else (some false))) else (some false)) else (some false)))))))))
def chequerlaw03_RectSubs.f (k : Nat) (a0_0 : Int) (a0_1 : Int) (l0_2 : List Int) (a1_0 : Int) (a1_1 : Int) (a1_2 : Int) (a1_3 : Int) (a2_0 : Int) (a2_1 : Int) (a2_2 : Int) (a2_3 : Int) : Option (Bool) := (chequerref03_Good.f k a0_0 a0_1 l0_2 8).bind fun bt309 => ((chequerref01_Around.f a1_0 bt309.1).bind fun t315 => ((chequerref01_Around.f a1_1 bt309.2.1).bind fun t316 => ((chequerlaw03_of.f bt309.1 bt309.2.1 bt309.2.2).bind fun bt317 => ((chequerref01_Around.f a1_2 (wrap64 (bt309.1 - t315))).bind fun t322 => ((chequerref01_Around.f a1_3 (wrap64 (bt309.2.1 - t316))).bind fun t323 => ((rect_Matrix_Sub.f k bt317.1 bt317.2.1 bt317.2.2 t315 t316 (wrap64 (1 + t322)) (wrap64 (1 + t323))).bind fun bt324 => (if bt324.2.2.2 = true then ((rect_May.f bt324.1 bt324.2.1 bt324.2.2.1).bind fun t331 => (chequerlaw03_RectSubs.j0 k t315 t316 (!t331) a2_0 a2_1 a2_2 a2_3 bt309.1 bt309.2.1 bt309.2.2 bt324.1 bt324.2.1 bt324.2.2.1)) else (chequerlaw03_RectSubs.j0 k t315 t316 true a2_0 a2_1 a2_2 a2_3 bt309.1 bt309.2.1 bt309.2.2 bt324.1 bt324.2.1 bt324.2.2.1))))))))
theorem chequerlaw03_RectSubs.mono_l : ∀ k, (∀ y0 y1 y2 y3 y4 y5 y6 y7 y8 y9 y10 y11 y12, LeO (chequerlaw03_RectSubs.j0 k y0 y1 y2 y3 y4 y5 y6 y7 y8 y9 y10 y11 y12) (chequerlaw03_RectSubs.j0 (k + 1) y0 y1 y2 y3 y4 y5 y6 y7 y8 y9 y10 y11 y12))
 | 0 => fun _ _ _ _ _ _ _ _ _ _ _ _ _ r h => by simp [chequerlaw03_RectSubs.j0] at h
 | k + 1 => by
  have ih0 := chequerlaw03_RectSubs.mono_l k
  · intro y0 y1 y2 y3 y4 y5 y6 y7 y8 y9 y10 y11 y12
    unfold chequerlaw03_RectSubs.j0
    repeat' first
    | (with_reducible exact ih0 _ _ _ _ _ _ _ _ _ _ _ _ _)
    | (with_reducible exact chequerlaw03_lives.mono _)
    | (with_reducible exact chequerref03_Good.mono _ _ _ _ _)
    | (with_reducible exact rect_Matrix_Has.mono _ _ _ _ _ _ _ _ _)
    | (with_reducible exact rect_Matrix_Sub.mono _ _ _ _ _ _ _ _)
    | (with_reducible exact rect_Same.mono _ _ _ _ _ _ _)
    | (with_reducible exact LeO.refl _)
    | (with_reducible exact LeO.none _)
    | (with_reducible refine LeO.ite ?_ ?_)
    | (with_reducible refine LeO.bind ?_ (fun _ => ?_))
    | exact ih0 _ _ _ _ _ _ _ _ _ _ _ _ _
    | exact chequerlaw03_lives.mono _
    | exact chequerref03_Good.mono _ _ _ _ _
    | exact rect_Matrix_Has.mono _ _ _ _ _ _ _ _ _
    | exact rect_Matrix_Sub.mono _ _ _ _ _ _ _ _
    | exact rect_Same.mono _ _ _ _ _ _ _
    | exact LeO.none _
    | refine LeO.ite ?_ ?_
    | refine LeO.bind ?_ (fun _ => ?_)
theorem chequerlaw03_RectSubs.mono : ∀ a0 a1 a2 a3 a4 a5 a6 a7 a8 a9 a10 k, LeO (chequerlaw03_RectSubs.f k a0 a1 a2 a3 a4 a5 a6 a7 a8 a9 a10) (chequerlaw03_RectSubs.f (k + 1) a0 a1 a2 a3 a4 a5 a6 a7 a8 a9 a10) := by
 intro a0 a1 a2 a3 a4 a5 a6 a7 a8 a9 a10 k
 have ih0 := chequerlaw03_RectSubs.mono_l k
 unfold chequerlaw03_RectSubs.f
 repeat' first
  | (with_reducible exact ih0 _ _ _ _ _ _ _ _ _ _ _ _ _)
  | (with_reducible exact chequerlaw03_lives.mono _)
  | (with_reducible exact chequerref03_Good.mono _ _ _ _ _)
  | (with_reducible exact rect_Matrix_Has.mono _ _ _ _ _ _ _ _ _)
  | (with_reducible exact rect_Matrix_Sub.mono _ _ _ _ _ _ _ _)
  | (with_reducible exact rect_Same.mono _ _ _ _ _ _ _)
  | (with_reducible exact LeO.refl _)
  | (with_reducible exact LeO.none _)
  | (with_reducible refine LeO.ite ?_ ?_)
  | (with_reducible refine LeO.bind ?_ (fun _ => ?_))
  | exact ih0 _ _ _ _ _ _ _ _ _ _ _ _ _
  | exact chequerlaw03_lives.mono _
  | exact chequerref03_Good.mono _ _ _ _ _
  | exact rect_Matrix_Has.mono _ _ _ _ _ _ _ _ _
  | exact rect_Matrix_Sub.mono _ _ _ _ _ _ _ _
  | exact rect_Same.mono _ _ _ _ _ _ _
  | exact LeO.none _
  | refine LeO.ite ?_ ?_
  | refine LeO.bind ?_ (fun _ => ?_)
def chequerlaw03_RectSubs.T4 : Bool × List (List Nat × List Nat) := (true, [([], []), ([0], [0]), ([], []), ([], []), ([], []), ([4], [4]), ([], []), ([6], [6]), ([], []), ([7, 8], [7, 8]), ([5, 9, 1], [5, 9]), ([10], [10]), ([], []), ([12], [12]), ([], []), ([14], [14]), ([], []), ([15, 16], [15, 16]), ([13, 17, 10], [13, 17]), ([18], [18]), ([1, 2, 3, 11, 19, 18], [1, 2, 3, 11, 19]), ([20], [20]), ([21], [21]), ([21], [21]), ([], []), ([24, 22, 20, 0, 1, 2, 3, 4, 5, 6, 7, 8, 9, 10, 11, 12, 13, 14, 15, 16, 17, 18, 19, 20, 21, 22, 24], [22, 24]), ([23, 25, 0, 1, 2, 3, 4, 5, 6, 7, 8, 9, 10, 11, 12, 13, 14, 15, 16, 17, 18, 19, 20, 21, 22, 23, 24, 25], [23])])
def chequerlaw03_RectSubs.B4 : List Nat := [0, 1, 0, 0, 0, 16, 0, 64, 0, 448, 1011, 2035, 0, 4096, 0, 16384, 0, 114688, 260083, 522227, 1048575, 2097151, 4194303, 4194303, 0, 25165823, 67108863]
theorem chequerlaw03_RectSubs.tab4 : rtab .any (opsOf Try.f5 4) = chequerlaw03_RectSubs.T4 := by kernel_rfl
theorem chequerlaw03_RectSubs.bits4 : waitsOk chequerlaw03_RectSubs.T4.2 chequerlaw03_RectSubs.B4 = true := by kernel_rfl
def chequerlaw03_RectSubs.T13 : Bool × List (List Nat × List Nat) := (true, [([], []), ([0], [0]), ([1], [1]), ([1, 2], [1, 2]), ([3, 1], [3]), ([4], [4]), ([4], [4]), ([5, 6, 4, 4], [4, 5, 6]), ([4, 7], [4, 7]), ([8, 7], [8]), ([9], [9]), ([10, 9, 9], [9, 10]), ([9], [9]), ([9], [9]), ([9], [9]), ([13, 14, 9], [9, 13, 14]), ([9], [9]), ([9], [9]), ([16, 17, 9], [9, 16, 17]), ([11, 12, 15, 18, 11, 9], [9, 11, 12, 15, 18]), ([9, 19], [9, 19]), ([20, 19], [20]), ([21, 21], [21]), ([21, 22], [21, 22]), ([23, 22, 0, 1, 2, 3, 4, 5, 6, 7, 8, 9, 10, 11, 12, 13, 14, 15, 16, 17, 18, 19, 20, 21, 22, 23], [23])])
def chequerlaw03_RectSubs.B13 : List Nat := [0, 1, 3, 7, 15, 31, 31, 127, 255, 511, 1023, 2047, 1023, 1023, 1023, 25599, 1023, 1023, 197631, 524287, 1048575, 2097151, 4194303, 8388607, 16777215]
theorem chequerlaw03_RectSubs.tab13 : rtab .any (opsOf Try.f5 13) = chequerlaw03_RectSubs.T13 := by kernel_rfl
theorem chequerlaw03_RectSubs.bits13 : waitsOk chequerlaw03_RectSubs.T13.2 chequerlaw03_RectSubs.B13 = true := by kernel_rfl
set_option maxHeartbeats 8000000 in
set_option maxRecDepth 100000 in
theorem chequerlaw03_RectSubs.calls (k : Nat) (a0_0 : Int) (a0_1 : Int) (A0_2 : Option Addr) (c0_2 : Nat) (l0_2 : List Int) (a1_0 : Int) (a1_1 : Int) (a1_2 : Int) (a1_3 : Int) (a2_0 : Int) (a2_1 : Int) (a2_2 : Int) (a2_3 : Int) (r : Bool) (w : World) (hr0_2 : Kd.C (Kd.int .u64) w A0_2 l0_2.length l0_2) (hc0_2 : l0_2.length ≤ c0_2) (h : chequerlaw03_RectSubs.f k a0_0 a0_1 l0_2 a1_0 a1_1 a1_2 a1_3 a2_0 a2_1 a2_2 a2_3 = some r) :
 Calls Try.prog 5 #[.agg #[.int .i64 a0_0, .int .i64 a0_1, .slice A0_2 l0_2.length c0_2], .agg #[.int .i64 a1_0, .int .i64 a1_1, .int .i64 a1_2, .int .i64 a1_3], .agg #[.int .i64 a2_0, .int .i64 a2_1, .int .i64 a2_2, .int .i64 a2_3]] w fun e w' => e = .returned (.bool r) ∧ Below w.heap.size w w' := by
 have hu24 := Try.underlying24
 have hu25 := Try.underlying25
 have hu32 := Try.underlying32
 have HR0_2 := Aside0.mk hr0_2
 have HC0_2 := Aside0.mk hc0_2
 clear hr0_2 hc0_2
 have HB := Aside0.mk (Below.refl w.heap.size w)
 have H : ((chequerref03_Good.f k a0_0 a0_1 l0_2 8).bind fun bt309 => ((chequerref01_Around.f a1_0 bt309.1).bind fun t315 => ((chequerref01_Around.f a1_1 bt309.2.1).bind fun t316 => ((chequerlaw03_of.f bt309.1 bt309.2.1 bt309.2.2).bind fun bt317 => ((chequerref01_Around.f a1_2 (wrap64 (bt309.1 - t315))).bind fun t322 => ((chequerref01_Around.f a1_3 (wrap64 (bt309.2.1 - t316))).bind fun t323 => ((rect_Matrix_Sub.f k bt317.1 bt317.2.1 bt317.2.2 t315 t316 (wrap64 (1 + t322)) (wrap64 (1 + t323))).bind fun bt324 => (if bt324.2.2.2 = true then ((rect_May.f bt324.1 bt324.2.1 bt324.2.2.1).bind fun t331 => (chequerlaw03_RectSubs.j0 k t315 t316 (!t331) a2_0 a2_1 a2_2 a2_3 bt309.1 bt309.2.1 bt309.2.2 bt324.1 bt324.2.1 bt324.2.2.1)) else (chequerlaw03_RectSubs.j0 k t315 t316 true a2_0 a2_1 a2_2 a2_3 bt309.1 bt309.2.1 bt309.2.2 bt324.1 bt324.2.1 bt324.2.2.1))))))))) = some r := h
 clear h
 replace H := Option.bind_eq_some_iff.mp H
 obtain ⟨⟨t309, t310, t311⟩, A40, H⟩ := H
 replace H : ((chequerref01_Around.f a1_0 t309).bind fun t315 => ((chequerref01_Around.f a1_1 t310).bind fun t316 => ((chequerlaw03_of.f t309 t310 t311).bind fun bt317 => ((chequerref01_Around.f a1_2 (wrap64 (t309 - t315))).bind fun t322 => ((chequerref01_Around.f a1_3 (wrap64 (t310 - t316))).bind fun t323 => ((rect_Matrix_Sub.f k bt317.1 bt317.2.1 bt317.2.2 t315 t316 (wrap64 (1 + t322)) (wrap64 (1 + t323))).bind fun bt324 => (if bt324.2.2.2 = true then ((rect_May.f bt324.1 bt324.2.1 bt324.2.2.1).bind fun t331 => (chequerlaw03_RectSubs.j0 k t315 t316 (!t331) a2_0 a2_1 a2_2 a2_3 t309 t310 t311 bt324.1 bt324.2.1 bt324.2.2.1)) else (chequerlaw03_RectSubs.j0 k t315 t316 true a2_0 a2_1 a2_2 a2_3 t309 t310 t311 bt324.1 bt324.2.1 bt324.2.2.1)))))))) = some r := H
 have A4 := Aside0.mk A40
 clear A40
 replace H := Option.bind_eq_some_iff.mp H
 obtain ⟨t315, A50, H⟩ := H
 replace H : ((chequerref01_Around.f a1_1 t310).bind fun t316 => ((chequerlaw03_of.f t309 t310 t311).bind fun bt317 => ((chequerref01_Around.f a1_2 (wrap64 (t309 - t315))).bind fun t322 => ((chequerref01_Around.f a1_3 (wrap64 (t310 - t316))).bind fun t323 => ((rect_Matrix_Sub.f k bt317.1 bt317.2.1 bt317.2.2 t315 t316 (wrap64 (1 + t322)) (wrap64 (1 + t323))).bind fun bt324 => (if bt324.2.2.2 = true then ((rect_May.f bt324.1 bt324.2.1 bt324.2.2.1).bind fun t331 => (chequerlaw03_RectSubs.j0 k t315 t316 (!t331) a2_0 a2_1 a2_2 a2_3 t309 t310 t311 bt324.1 bt324.2.1 bt324.2.2.1)) else (chequerlaw03_RectSubs.j0 k t315 t316 true a2_0 a2_1 a2_2 a2_3 t309 t310 t311 bt324.1 bt324.2.1 bt324.2.2.1))))))) = some r := H
 have A5 := Aside0.mk A50
 clear A50
 replace H := Option.bind_eq_some_iff.mp H
 obtain ⟨t316, A60, H⟩ := H
 replace H : ((chequerlaw03_of.f t309 t310 t311).bind fun bt317 => ((chequerref01_Around.f a1_2 (wrap64 (t309 - t315))).bind fun t322 => ((chequerref01_Around.f a1_3 (wrap64 (t310 - t316))).bind fun t323 => ((rect_Matrix_Sub.f k bt317.1 bt317.2.1 bt317.2.2 t315 t316 (wrap64 (1 + t322)) (wrap64 (1 + t323))).bind fun bt324 => (if bt324.2.2.2 = true then ((rect_May.f bt324.1 bt324.2.1 bt324.2.2.1).bind fun t331 => (chequerlaw03_RectSubs.j0 k t315 t316 (!t331) a2_0 a2_1 a2_2 a2_3 t309 t310 t311 bt324.1 bt324.2.1 bt324.2.2.1)) else (chequerlaw03_RectSubs.j0 k t315 t316 true a2_0 a2_1 a2_2 a2_3 t309 t310 t311 bt324.1 bt324.2.1 bt324.2.2.1)))))) = some r := H
 have A6 := Aside0.mk A60
 clear A60
 replace H := Option.bind_eq_some_iff.mp H
 obtain ⟨⟨t317, t318, t319⟩, A70, H⟩ := H
 replace H : ((chequerref01_Around.f a1_2 (wrap64 (t309 - t315))).bind fun t322 => ((chequerref01_Around.f a1_3 (wrap64 (t310 - t316))).bind fun t323 => ((rect_Matrix_Sub.f k t317 t318 t319 t315 t316 (wrap64 (1 + t322)) (wrap64 (1 + t323))).bind fun bt324 => (if bt324.2.2.2 = true then ((rect_May.f bt324.1 bt324.2.1 bt324.2.2.1).bind fun t331 => (chequerlaw03_RectSubs.j0 k t315 t316 (!t331) a2_0 a2_1 a2_2 a2_3 t309 t310 t311 bt324.1 bt324.2.1 bt324.2.2.1)) else (chequerlaw03_RectSubs.j0 k t315 t316 true a2_0 a2_1 a2_2 a2_3 t309 t310 t311 bt324.1 bt324.2.1 bt324.2.2.1))))) = some r := H
 have A7 := Aside0.mk A70
 clear A70
 replace H := Option.bind_eq_some_iff.mp H
 obtain ⟨t322, A80, H⟩ := H
 replace H : ((chequerref01_Around.f a1_3 (wrap64 (t310 - t316))).bind fun t323 => ((rect_Matrix_Sub.f k t317 t318 t319 t315 t316 (wrap64 (1 + t322)) (wrap64 (1 + t323))).bind fun bt324 => (if bt324.2.2.2 = true then ((rect_May.f bt324.1 bt324.2.1 bt324.2.2.1).bind fun t331 => (chequerlaw03_RectSubs.j0 k t315 t316 (!t331) a2_0 a2_1 a2_2 a2_3 t309 t310 t311 bt324.1 bt324.2.1 bt324.2.2.1)) else (chequerlaw03_RectSubs.j0 k t315 t316 true a2_0 a2_1 a2_2 a2_3 t309 t310 t311 bt324.1 bt324.2.1 bt324.2.2.1)))) = some r := H
 have A8 := Aside0.mk A80
 clear A80
 replace H := Option.bind_eq_some_iff.mp H
 obtain ⟨t323, A90, H⟩ := H
 replace H : ((rect_Matrix_Sub.f k t317 t318 t319 t315 t316 (wrap64 (1 + t322)) (wrap64 (1 + t323))).bind fun bt324 => (if bt324.2.2.2 = true then ((rect_May.f bt324.1 bt324.2.1 bt324.2.2.1).bind fun t331 => (chequerlaw03_RectSubs.j0 k t315 t316 (!t331) a2_0 a2_1 a2_2 a2_3 t309 t310 t311 bt324.1 bt324.2.1 bt324.2.2.1)) else (chequerlaw03_RectSubs.j0 k t315 t316 true a2_0 a2_1 a2_2 a2_3 t309 t310 t311 bt324.1 bt324.2.1 bt324.2.2.1))) = some r := H
 have A9 := Aside0.mk A90
 clear A90
 replace H := Option.bind_eq_some_iff.mp H
 obtain ⟨⟨t324, t325, t326, t329⟩, A100, H⟩ := H
 replace H : (if t329 = true then ((rect_May.f t324 t325 t326).bind fun t331 => (chequerlaw03_RectSubs.j0 k t315 t316 (!t331) a2_0 a2_1 a2_2 a2_3 t309 t310 t311 t324 t325 t326)) else (chequerlaw03_RectSubs.j0 k t315 t316 true a2_0 a2_1 a2_2 a2_3 t309 t310 t311 t324 t325 t326)) = some r := H
 have A10 := Aside0.mk A100
 clear A100
 have HC11 := Aside0.mk H
 clear H
 go_enter Try.func5, Try.ntmps5
 try go_wp2_with (first | ((with_reducible refine gate_dst (N := 3) rfl ?_); refine box_event ?hg (N := 3) ?hd (cs := #[.int .i64 a0_0, .int .i64 a0_1, .slice A0_2 l0_2.length c0_2]) (t := 24) ?hr ?_; (case hd => rfl); (case hg => rfl); (case hr => first | (go_simp; done) | (go_simp; rfl)); intro gb306 hg w12 hbox hb; have BK306 := Aside0.mk (hbox); have GW306 := Aside0.mk ((by rw [hg]; exact (below_size bp_) : w.heap.size ≤ gb306)); have GE306 := Aside0.mk ((by rw [hg]; exact (below_size bp_) : w.heap.size ≤ gb306)); replace HB := Aside0.mk (below_step bp_ hb); clear hb hbox hg) | ((with_reducible refine gate_dst (N := 4) rfl ?_); refine box_event ?hg (N := 4) ?hd (cs := #[.int .i64 a1_0, .int .i64 a1_1, .int .i64 a1_2, .int .i64 a1_3]) (t := 25) ?hr ?_; (case hd => rfl); (case hg => rfl); (case hr => first | (go_simp; done) | (go_simp; rfl)); intro gb307 hg w13 hbox hb; have BK307 := Aside0.mk (hbox); have GW307 := Aside0.mk ((by rw [hg]; exact (below_size bp_) : w.heap.size ≤ gb307)); have GE307 := Aside0.mk ((by rw [hg]; exact (below_size bp_) : w.heap.size ≤ gb307)); replace HB := Aside0.mk (below_step bp_ hb); have NB306_307 := Aside0.mk ((nlt_ hg (hp_ BK306.out))); have NB307_306 := Aside0.mk ((ngt_ hg (hp_ BK306.out))); replace BK306 := Aside0.mk (blk_below (hp_ BK306.out) hb); clear hb hbox hg) | ((with_reducible refine gate_dst (N := 5) rfl ?_); refine box_event ?hg (N := 5) ?hd (cs := #[.int .i64 a2_0, .int .i64 a2_1, .int .i64 a2_2, .int .i64 a2_3]) (t := 25) ?hr ?_; (case hd => rfl); (case hg => rfl); (case hr => first | (go_simp; done) | (go_simp; rfl)); intro gb308 hg w14 hbox hb; have BK308 := Aside0.mk (hbox); have GW308 := Aside0.mk ((by rw [hg]; exact (below_size bp_) : w.heap.size ≤ gb308)); have GE308 := Aside0.mk ((by rw [hg]; exact (below_size bp_) : w.heap.size ≤ gb308)); replace HB := Aside0.mk (below_step bp_ hb); have NB306_308 := Aside0.mk ((nlt_ hg (hp_ BK306.out))); have NB308_306 := Aside0.mk ((ngt_ hg (hp_ BK306.out))); replace BK306 := Aside0.mk (blk_below (hp_ BK306.out) hb); have NB307_308 := Aside0.mk ((nlt_ hg (hp_ BK307.out))); have NB308_307 := Aside0.mk ((ngt_ hg (hp_ BK307.out))); replace BK307 := Aside0.mk (blk_below (hp_ BK307.out) hb); clear hb hbox hg; have hnb15 := NB306_307.out; have hnc15 := NB307_306.out; have hnb16 := NB306_308.out; have hnc16 := NB308_306.out; have hcz17_0 : w14.cell? ⟨gb306, 0, none⟩ = some (.int .i64 a0_0) := (blk_cell BK306.out 0).trans rfl; have hcz17_1 : w14.cell? ⟨gb306, 1, none⟩ = some (.int .i64 a0_1) := (blk_cell BK306.out 1).trans rfl; have hcz17_2 : w14.cell? ⟨gb306, 2, none⟩ = some (.slice A0_2 l0_2.length c0_2) := (blk_cell BK306.out 2).trans rfl; have hfz17_0 := blk_frozen BK306.out 0; have hfz17_1 := blk_frozen BK306.out 1; have hfz17_2 := blk_frozen BK306.out 2) | ((with_reducible refine gate_callee (f := 10) rfl ?_); refine goQ_ (some 21) Try.func10 #[.agg #[.int .i64 a0_0, .int .i64 a0_1, .slice A0_2 l0_2.length c0_2], .int .i64 8] ?_; (with_reducible refine (chequerref03_Good.calls k a0_0 a0_1 _ _ l0_2 8 t309 t310 t311 _ ?side1 ?side2 A4.out).mono ?_); (case side1 => repeat (first | exact (Kd.C_below HR0_2.out HB.out) | (with_reducible refine Kd.C_alloc ?_ _) | (with_reducible refine Kd.C_drewN ?_ _) | (with_reducible refine Kd.C_drew ?_))); (case side2 => exact HC0_2.out); rintro e w18 ⟨v312, rfl, ho0, hb⟩; refine ⟨_, rfl, ?_⟩; have HO313 := Aside0.mk (Kd.R_lower ho0 (below_size bp_)); replace BK307 := Aside0.mk (blk_below (hp_ BK307.out) hb); replace BK308 := Aside0.mk (blk_below (hp_ BK308.out) hb); replace HB := Aside0.mk (below_step bp_ hb); (try clear hb); (try clear hb2); (try clear hk); (try clear hi); (try clear ho0)) | ((with_reducible refine gate_dst (N := 7) rfl ?_); refine box_event ?hg (N := 7) ?hd (cs := #[.int .i64 0, .int .i64 0, .slice none 0 0]) (t := 24) ?hr ?_; (case hd => rfl); (case hg => rfl); (case hr => first | (go_simp; done) | (go_simp; rfl)); intro gb314 hg w19 hbox hb; replace HO313 := Aside0.mk (Kd.R_below (rp_ HO313.out) hb); have BK314 := Aside0.mk (hbox); have GW314 := Aside0.mk ((by rw [hg]; exact (below_size bp_) : w.heap.size ≤ gb314)); have GE314 := Aside0.mk ((by rw [hg]; exact (below_size bp_) : w.heap.size ≤ gb314)); replace HB := Aside0.mk (below_step bp_ hb); have NB307_314 := Aside0.mk ((nlt_ hg (hp_ BK307.out))); have NB314_307 := Aside0.mk ((ngt_ hg (hp_ BK307.out))); replace BK307 := Aside0.mk (blk_below (hp_ BK307.out) hb); have NB308_314 := Aside0.mk ((nlt_ hg (hp_ BK308.out))); have NB314_308 := Aside0.mk ((ngt_ hg (hp_ BK308.out))); replace BK308 := Aside0.mk (blk_below (hp_ BK308.out) hb); clear hb hbox hg; have hnb20 := NB314_307.out; have hnc20 := NB307_314.out; have hnb21 := NB314_308.out; have hnc21 := NB308_314.out; have hcz22_0 : w19.cell? ⟨gb314, 0, none⟩ = some (.int .i64 0) := (blk_cell BK314.out 0).trans rfl; have hcz22_1 : w19.cell? ⟨gb314, 1, none⟩ = some (.int .i64 0) := (blk_cell BK314.out 1).trans rfl; have hcz22_2 : w19.cell? ⟨gb314, 2, none⟩ = some (.slice none 0 0) := (blk_cell BK314.out 2).trans rfl; have hfz22_0 := blk_frozen BK314.out 0; have hfz22_1 := blk_frozen BK314.out 1; have hfz22_2 := blk_frozen BK314.out 2; obtain ⟨Ao23, co23, eo23⟩ := Kd.R_slice HO313.out; subst eo23; have hnb24 := NB307_308.out; have hnc24 := NB308_307.out; have hcz25_0 : w19.cell? ⟨gb307, 0, none⟩ = some (.int .i64 a1_0) := (blk_cell BK307.out 0).trans rfl; have hcz25_1 : w19.cell? ⟨gb307, 1, none⟩ = some (.int .i64 a1_1) := (blk_cell BK307.out 1).trans rfl; have hcz25_2 : w19.cell? ⟨gb307, 2, none⟩ = some (.int .i64 a1_2) := (blk_cell BK307.out 2).trans rfl; have hcz25_3 : w19.cell? ⟨gb307, 3, none⟩ = some (.int .i64 a1_3) := (blk_cell BK307.out 3).trans rfl; have hfz25_0 := blk_frozen BK307.out 0; have hfz25_1 := blk_frozen BK307.out 1; have hfz25_2 := blk_frozen BK307.out 2; have hfz25_3 := blk_frozen BK307.out 3) | ((with_reducible refine gate_callee (f := 11) rfl ?_); refine goQ_ (some 26) Try.func11 #[.int .i64 a1_0, .int .i64 t309] ?_; (with_reducible refine (chequerref01_Around.calls a1_0 t309 t315 _ A5.out).mono ?_); rintro e w' ⟨rfl, ⟨nd, rfl⟩⟩; refine ⟨_, rfl, ?_⟩) | ((with_reducible refine gate_callee (f := 11) rfl ?_); refine goQ_ (some 31) Try.func11 #[.int .i64 a1_1, .int .i64 t310] ?_; (with_reducible refine (chequerref01_Around.calls a1_1 t310 t316 _ A6.out).mono ?_); rintro e w' ⟨rfl, ⟨nd, rfl⟩⟩; refine ⟨_, rfl, ?_⟩))
 have n0_ : Aside0 (Kd.R (Kd.int .u64) 46 (((w19.setCell ⟨gb314, 0, none⟩ (.int .i64 t309)).setCell ⟨gb314, 1, none⟩ (.int .i64 t310)).setCell ⟨gb314, 2, none⟩ (.slice Ao23 t311.length co23)) w.heap.size (fun _ => True) (.slice Ao23 t311.length co23) t311) := ⟨rf_ HO313.out BK314.out (by decide) (fun _ hk => trivial)⟩
 have n1_ : Aside0 ((((w19.setCell ⟨gb314, 0, none⟩ (.int .i64 t309)).setCell ⟨gb314, 1, none⟩ (.int .i64 t310)).setCell ⟨gb314, 2, none⟩ (.slice Ao23 t311.length co23)).heap[gb307]? = some (.cells #[.int .i64 a1_0, .int .i64 a1_1, .int .i64 a1_2, .int .i64 a1_3] 25 (0, 0))) := ⟨hf_ BK307.out NB307_314.out⟩
 have n2_ : Aside0 ((((w19.setCell ⟨gb314, 0, none⟩ (.int .i64 t309)).setCell ⟨gb314, 1, none⟩ (.int .i64 t310)).setCell ⟨gb314, 2, none⟩ (.slice Ao23 t311.length co23)).heap[gb308]? = some (.cells #[.int .i64 a2_0, .int .i64 a2_1, .int .i64 a2_2, .int .i64 a2_3] 25 (0, 0))) := ⟨hf_ BK308.out NB308_314.out⟩
 have n3_ : Aside0 ((((w19.setCell ⟨gb314, 0, none⟩ (.int .i64 t309)).setCell ⟨gb314, 1, none⟩ (.int .i64 t310)).setCell ⟨gb314, 2, none⟩ (.slice Ao23 t311.length co23)).heap[gb314]? = some (.cells #[.int .i64 t309, .int .i64 t310, .slice Ao23 t311.length co23] 24 (0, 0))) := ⟨by (with_reducible repeat (first | refine blk_drewN ?_ _ | refine blk_drew ?_ | refine blk_alloc ?_ _)); refine blk_put (cs := #[.int .i64 t309, .int .i64 t310, .slice none 0 0]) ?_ 2 _ rfl; (with_reducible repeat (first | refine blk_drewN ?_ _ | refine blk_drew ?_ | refine blk_alloc ?_ _)); refine blk_put (cs := #[.int .i64 t309, .int .i64 0, .slice none 0 0]) ?_ 1 _ rfl; (with_reducible repeat (first | refine blk_drewN ?_ _ | refine blk_drew ?_ | refine blk_alloc ?_ _)); refine blk_put (cs := #[.int .i64 0, .int .i64 0, .slice none 0 0]) ?_ 0 _ rfl; (with_reducible repeat (first | refine blk_drewN ?_ _ | refine blk_drew ?_ | refine blk_alloc ?_ _)); exact BK314.out⟩
 have n4_ : Aside0 (Below w.heap.size w (((w19.setCell ⟨gb314, 0, none⟩ (.int .i64 t309)).setCell ⟨gb314, 1, none⟩ (.int .i64 t310)).setCell ⟨gb314, 2, none⟩ (.slice Ao23 t311.length co23))) := ⟨bp_⟩
 (try clear HO313)
 (try clear BK307)
 (try clear BK308)
 (try clear BK314)
 (try clear HB)
 generalize (((w19.setCell ⟨gb314, 0, none⟩ (.int .i64 t309)).setCell ⟨gb314, 1, none⟩ (.int .i64 t310)).setCell ⟨gb314, 2, none⟩ (.slice Ao23 t311.length co23)) = w26 at n0_ n1_ n2_ n3_ n4_ ⊢
 have HO313 := n0_
 have BK307 := n1_
 have BK308 := n2_
 have BK314 := n3_
 have HB := n4_
 clear n0_ n1_ n2_ n3_ n4_
 (try (rw [drewN_self w26]; generalize hq_ : World.drewN w26 _ = w26; have n0_ := Aside0.mk (qrp_ hq_ HO313.out); have n1_ := Aside0.mk (qhp_ hq_ BK307.out); have n2_ := Aside0.mk (qhp_ hq_ BK308.out); have n3_ := Aside0.mk (qhp_ hq_ BK314.out); have n4_ : Aside0 (Below w.heap.size w w26) := ⟨qbp_ hq_⟩; clear HO313 BK307 BK308 BK314 HB hq_; have HO313 := n0_; have BK307 := n1_; have BK308 := n2_; have BK314 := n3_; have HB := n4_; clear n0_ n1_ n2_ n3_ n4_))
 replace HO313 := Aside0.mk (Kd.R_drew HO313.out)
 replace BK307 := Aside0.mk (blk_drew BK307.out)
 replace BK308 := Aside0.mk (blk_drew BK308.out)
 replace BK314 := Aside0.mk (blk_drew BK314.out)
 replace HB := Aside0.mk (below_drew1 HB.out)
 refine start_ (n := 27) (S := fun w' => w'.cell? ⟨gb307, 0, none⟩ = some (.int .i64 a1_0) ∧ w'.cell? ⟨gb307, 1, none⟩ = some (.int .i64 a1_1) ∧ w'.cell? ⟨gb307, 2, none⟩ = some (.int .i64 a1_2) ∧ w'.cell? ⟨gb307, 3, none⟩ = some (.int .i64 a1_3) ∧ w'.cell? ⟨gb314, 0, none⟩ = some (.int .i64 t309) ∧ w'.cell? ⟨gb314, 1, none⟩ = some (.int .i64 t310) ∧ w'.cell? ⟨gb314, 2, none⟩ = some (.slice Ao23 t311.length co23)) (ds := []) #[false, false, false, false, false, false, false, false, false, false, false, false, false, false, false, false, false, false, false, false, false, false, false, false, false, false, false] (by kernel_rfl) rfl rfl ⟨(blk_cell BK307.out 0).trans rfl, (blk_cell BK307.out 1).trans rfl, (blk_cell BK307.out 2).trans rfl, (blk_cell BK307.out 3).trans rfl, (blk_cell BK314.out 0).trans rfl, (blk_cell BK314.out 1).trans rfl, (blk_cell BK314.out 2).trans rfl⟩ (fun hHeld => ?_); refine with_tabW chequerlaw03_RectSubs.tab4 chequerlaw03_RectSubs.bits4 (fun HT_ HW_ => ?_)
 generalize w26.drew = w27 at HO313 BK307 BK308 BK314 HB hHeld ⊢
 refine pur_ (i := 2) (N := some 35) #[false, false, true, false, false, false, false, false, false, false, false, false, false, false, false, false, false, false, false, false, false, false, false, false, false, false, false] (any_of HT_.out (by kernel_rfl)) ?_
 refine pur_ (i := 3) (N := some 36) #[false, false, true, true, false, false, false, false, false, false, false, false, false, false, false, false, false, false, false, false, false, false, false, false, false, false, false] (any_of HT_.out (by kernel_rfl)) ?_
 refine pur_ (i := 4) (N := some 37) #[false, false, true, true, true, false, false, false, false, false, false, false, false, false, false, false, false, false, false, false, false, false, false, false, false, false, false] (any_of HT_.out (by kernel_rfl)) ?_
 refine pur_ (i := 6) (N := some 39) #[false, false, true, true, true, false, true, false, false, false, false, false, false, false, false, false, false, false, false, false, false, false, false, false, false, false, false] (any_of HT_.out (by kernel_rfl)) ?_
 refine pur_ (i := 8) (N := some 41) #[false, false, true, true, true, false, true, false, true, false, false, false, false, false, false, false, false, false, false, false, false, false, false, false, false, false, false] (any_of HT_.out (by kernel_rfl)) ?_
 refine pur_ (i := 12) (N := some 45) #[false, false, true, true, true, false, true, false, true, false, false, false, true, false, false, false, false, false, false, false, false, false, false, false, false, false, false] (any_of HT_.out (by kernel_rfl)) ?_
 refine pur_ (i := 14) (N := some 47) #[false, false, true, true, true, false, true, false, true, false, false, false, true, false, true, false, false, false, false, false, false, false, false, false, false, false, false] (any_of HT_.out (by kernel_rfl)) ?_
 refine pur_ (i := 16) (N := some 49) #[false, false, true, true, true, false, true, false, true, false, false, false, true, false, true, false, true, false, false, false, false, false, false, false, false, false, false] (any_of HT_.out (by kernel_rfl)) ?_
 refine take_ (i := 0) (N := some 33) (v := ?_) (a' := ?_) #[true, false, true, true, true, false, true, false, true, false, false, false, true, false, true, false, true, false, false, false, false, false, false, false, false, false, false] rfl rfl (take_ofW HT_.out HW_.out (by kernel_rfl)) (fun _ _ _ h => h) (Or.inl ⟨by rfl, ?_⟩) hHeld ?_ ?_
 rotate_left
 · rintro w' ⟨s0, s1, s2, s3, s4, s5, s6⟩
   go_simp
   with_reducible rfl
 rotate_left
 · simp only [Act.put, List.setIfInBounds_toArray, List.set_cons_zero, List.set_cons_succ, i64_w, i32_w]
   rfl
 refine take_ (i := 5) (N := some 38) (v := ?_) (a' := ?_) #[true, false, true, true, true, true, true, false, true, false, false, false, true, false, true, false, true, false, false, false, false, false, false, false, false, false, false] rfl rfl (take_ofW HT_.out HW_.out (by kernel_rfl)) (fun _ _ _ h => h) (Or.inl ⟨by rfl, ?_⟩) hHeld ?_ ?_
 rotate_left
 · rintro w' ⟨s0, s1, s2, s3, s4, s5, s6⟩
   go_simp
   with_reducible rfl
 rotate_left
 · simp only [Act.put, List.setIfInBounds_toArray, List.set_cons_zero, List.set_cons_succ, i64_w, i32_w]
   rfl
 refine take_ (i := 7) (N := some 40) (v := ?_) (a' := ?_) #[true, false, true, true, true, true, true, true, true, false, false, false, true, false, true, false, true, false, false, false, false, false, false, false, false, false, false] rfl rfl (take_ofW HT_.out HW_.out (by kernel_rfl)) (fun _ _ _ h => h) (Or.inl ⟨by rfl, ?_⟩) hHeld ?_ ?_
 rotate_left
 · rintro w' ⟨s0, s1, s2, s3, s4, s5, s6⟩
   go_simp
   with_reducible rfl
 rotate_left
 · simp only [Act.put, List.setIfInBounds_toArray, List.set_cons_zero, List.set_cons_succ, i64_w, i32_w]
   rfl
 refine pur_ (i := 9) (N := some 42) #[true, false, true, true, true, true, true, true, true, true, false, false, true, false, true, false, true, false, false, false, false, false, false, false, false, false, false] (any_of HT_.out (by kernel_rfl)) ?_
 refine take_ (i := 13) (N := some 46) (v := ?_) (a' := ?_) #[true, false, true, true, true, true, true, true, true, true, false, false, true, true, true, false, true, false, false, false, false, false, false, false, false, false, false] rfl rfl (take_ofW HT_.out HW_.out (by kernel_rfl)) (fun _ _ _ h => h) (Or.inl ⟨by rfl, ?_⟩) hHeld ?_ ?_
 rotate_left
 · rintro w' ⟨s0, s1, s2, s3, s4, s5, s6⟩
   go_simp
   with_reducible rfl
 rotate_left
 · simp only [Act.put, List.setIfInBounds_toArray, List.set_cons_zero, List.set_cons_succ, i64_w, i32_w]
   rfl
 refine take_ (i := 15) (N := some 48) (v := ?_) (a' := ?_) #[true, false, true, true, true, true, true, true, true, true, false, false, true, true, true, true, true, false, false, false, false, false, false, false, false, false, false] rfl rfl (take_ofW HT_.out HW_.out (by kernel_rfl)) (fun _ _ _ h => h) (Or.inl ⟨by rfl, ?_⟩) hHeld ?_ ?_
 rotate_left
 · rintro w' ⟨s0, s1, s2, s3, s4, s5, s6⟩
   go_simp
   with_reducible rfl
 rotate_left
 · simp only [Act.put, List.setIfInBounds_toArray, List.set_cons_zero, List.set_cons_succ, i64_w, i32_w]
   rfl
 refine pur_ (i := 17) (N := some 50) #[true, false, true, true, true, true, true, true, true, true, false, false, true, true, true, true, true, true, false, false, false, false, false, false, false, false, false] (any_of HT_.out (by kernel_rfl)) ?_
 refine join_ (σ := Value × Value × Nat) 2 Fl84 (fun s_ => [(34, .agg #[.int .i64 t317, .int .i64 t318, s_.1]), (43, .int .i64 t322), (51, .int .i64 t323), (53, .tuple #[.agg #[.int .i64 t324, .int .i64 t325, s_.2.1], .bool t329]), (10, .pointer (some ⟨s_.2.2, 0, none⟩)), (44, .int .i64 (wrap64 (1 + t322))), (52, .int .i64 (wrap64 (1 + t323))), (32, .tuple #[.agg #[.int .i64 t324, .int .i64 t325, s_.2.1], .bool t329]), (54, .agg #[.int .i64 t324, .int .i64 t325, s_.2.1]), (55, .bool t329)]) (fun s_ w' => (w'.cell? ⟨gb307, 0, none⟩ = some (.int .i64 a1_0) ∧ w'.cell? ⟨gb307, 1, none⟩ = some (.int .i64 a1_1) ∧ w'.cell? ⟨gb307, 2, none⟩ = some (.int .i64 a1_2) ∧ w'.cell? ⟨gb307, 3, none⟩ = some (.int .i64 a1_3) ∧ w'.cell? ⟨gb314, 0, none⟩ = some (.int .i64 t309) ∧ w'.cell? ⟨gb314, 1, none⟩ = some (.int .i64 t310) ∧ w'.cell? ⟨gb314, 2, none⟩ = some (.slice Ao23 t311.length co23)) ∧ (Kd.R (Kd.int .u64) 46 w' w.heap.size (fun k_ => some k_ ≠ (s_.2.1 : Value).ownBlock) (.slice Ao23 t311.length co23) t311) ∧ (Kd.V (Kd.int .u64) 46 w' w.heap.size (fun k_ => some k_ ≠ (s_.2.1 : Value).ownBlock ∧ k_ ≠ gb307 ∧ k_ ≠ gb308 ∧ k_ ≠ gb314 ∧ k_ ≠ s_.2.2) s_.1 t319) ∧ (Kd.R (Kd.int .u64) 46 w' w.heap.size (fun k_ => some k_ ≠ (.slice Ao23 t311.length co23 : Value).ownBlock) s_.2.1 t326) ∧ (w'.heap[gb307]? = some (.cells #[.int .i64 a1_0, .int .i64 a1_1, .int .i64 a1_2, .int .i64 a1_3] 25 (0, 0))) ∧ (w'.heap[gb308]? = some (.cells #[.int .i64 a2_0, .int .i64 a2_1, .int .i64 a2_2, .int .i64 a2_3] 25 (0, 0))) ∧ (w'.heap[gb314]? = some (.cells #[.int .i64 t309, .int .i64 t310, .slice Ao23 t311.length co23] 24 (0, 0))) ∧ (w'.heap[s_.2.2]? = some (.cells #[.int .i64 0, .int .i64 0, .slice none 0 0] 32 (0, 0))) ∧ (w.heap.size ≤ s_.2.2) ∧ (w.heap.size ≤ s_.2.2) ∧ (gb307 ≠ s_.2.2) ∧ (s_.2.2 ≠ gb307) ∧ (gb308 ≠ s_.2.2) ∧ (s_.2.2 ≠ gb308) ∧ (gb314 ≠ s_.2.2) ∧ (s_.2.2 ≠ gb314) ∧ (Below w.heap.size w w')) ?_ ?_
 rotate_left
 · intro hJ1_10_18_20_24
   refine join_ (σ := Value × Value) 3 Fl97 (fun s_ => [(34, .agg #[.int .i64 t317, .int .i64 t318, s_.1]), (43, .int .i64 t322), (51, .int .i64 t323), (53, .tuple #[.agg #[.int .i64 t324, .int .i64 t325, s_.2], .bool t329]), (44, .int .i64 (wrap64 (1 + t322))), (52, .int .i64 (wrap64 (1 + t323))), (32, .tuple #[.agg #[.int .i64 t324, .int .i64 t325, s_.2], .bool t329]), (54, .agg #[.int .i64 t324, .int .i64 t325, s_.2]), (55, .bool t329)]) (fun s_ w' => (w'.cell? ⟨gb307, 0, none⟩ = some (.int .i64 a1_0) ∧ w'.cell? ⟨gb307, 1, none⟩ = some (.int .i64 a1_1) ∧ w'.cell? ⟨gb307, 2, none⟩ = some (.int .i64 a1_2) ∧ w'.cell? ⟨gb307, 3, none⟩ = some (.int .i64 a1_3) ∧ w'.cell? ⟨gb314, 0, none⟩ = some (.int .i64 t309) ∧ w'.cell? ⟨gb314, 1, none⟩ = some (.int .i64 t310) ∧ w'.cell? ⟨gb314, 2, none⟩ = some (.slice Ao23 t311.length co23)) ∧ (Kd.R (Kd.int .u64) 46 w' w.heap.size (fun k_ => some k_ ≠ (s_.2 : Value).ownBlock) (.slice Ao23 t311.length co23) t311) ∧ (Kd.V (Kd.int .u64) 46 w' w.heap.size (fun k_ => some k_ ≠ (s_.2 : Value).ownBlock ∧ k_ ≠ gb307 ∧ k_ ≠ gb308 ∧ k_ ≠ gb314) s_.1 t319) ∧ (Kd.R (Kd.int .u64) 46 w' w.heap.size (fun k_ => some k_ ≠ (.slice Ao23 t311.length co23 : Value).ownBlock) s_.2 t326) ∧ (w'.heap[gb307]? = some (.cells #[.int .i64 a1_0, .int .i64 a1_1, .int .i64 a1_2, .int .i64 a1_3] 25 (0, 0))) ∧ (w'.heap[gb308]? = some (.cells #[.int .i64 a2_0, .int .i64 a2_1, .int .i64 a2_2, .int .i64 a2_3] 25 (0, 0))) ∧ (w'.heap[gb314]? = some (.cells #[.int .i64 t309, .int .i64 t310, .slice Ao23 t311.length co23] 24 (0, 0))) ∧ (Below w.heap.size w w')) ?_ ?_
   rotate_left
   · intro hJ1_10_18_20
     refine join_ (σ := Value × Nat) 6 Fl83 (fun s_ => [(34, .agg #[.int .i64 t317, .int .i64 t318, s_.1]), (43, .int .i64 t322), (51, .int .i64 t323), (10, .pointer (some ⟨s_.2, 0, none⟩)), (44, .int .i64 (wrap64 (1 + t322))), (52, .int .i64 (wrap64 (1 + t323)))]) (fun s_ w' => (w'.cell? ⟨gb307, 0, none⟩ = some (.int .i64 a1_0) ∧ w'.cell? ⟨gb307, 1, none⟩ = some (.int .i64 a1_1) ∧ w'.cell? ⟨gb307, 2, none⟩ = some (.int .i64 a1_2) ∧ w'.cell? ⟨gb307, 3, none⟩ = some (.int .i64 a1_3) ∧ w'.cell? ⟨gb314, 0, none⟩ = some (.int .i64 t309) ∧ w'.cell? ⟨gb314, 1, none⟩ = some (.int .i64 t310) ∧ w'.cell? ⟨gb314, 2, none⟩ = some (.slice Ao23 t311.length co23)) ∧ (Kd.R (Kd.int .u64) 46 w' w.heap.size (fun _ => True) (.slice Ao23 t311.length co23) t311) ∧ (Kd.V (Kd.int .u64) 46 w' w.heap.size (fun k_ => k_ ≠ gb307 ∧ k_ ≠ gb308 ∧ k_ ≠ gb314 ∧ k_ ≠ s_.2) s_.1 t319) ∧ (w'.heap[gb307]? = some (.cells #[.int .i64 a1_0, .int .i64 a1_1, .int .i64 a1_2, .int .i64 a1_3] 25 (0, 0))) ∧ (w'.heap[gb308]? = some (.cells #[.int .i64 a2_0, .int .i64 a2_1, .int .i64 a2_2, .int .i64 a2_3] 25 (0, 0))) ∧ (w'.heap[gb314]? = some (.cells #[.int .i64 t309, .int .i64 t310, .slice Ao23 t311.length co23] 24 (0, 0))) ∧ (w'.heap[s_.2]? = some (.cells #[.int .i64 0, .int .i64 0, .slice none 0 0] 32 (0, 0))) ∧ (w.heap.size ≤ s_.2) ∧ (w.heap.size ≤ s_.2) ∧ (gb307 ≠ s_.2) ∧ (s_.2 ≠ gb307) ∧ (gb308 ≠ s_.2) ∧ (s_.2 ≠ gb308) ∧ (gb314 ≠ s_.2) ∧ (s_.2 ≠ gb314) ∧ (Below w.heap.size w w')) ?_ ?_
     rotate_left
     · intro hJ1_10_18_24
       refine join_ (σ := Value) 7 Fl96 (fun s_ => [(34, .agg #[.int .i64 t317, .int .i64 t318, s_]), (43, .int .i64 t322), (51, .int .i64 t323), (44, .int .i64 (wrap64 (1 + t322))), (52, .int .i64 (wrap64 (1 + t323)))]) (fun s_ w' => (w'.cell? ⟨gb307, 0, none⟩ = some (.int .i64 a1_0) ∧ w'.cell? ⟨gb307, 1, none⟩ = some (.int .i64 a1_1) ∧ w'.cell? ⟨gb307, 2, none⟩ = some (.int .i64 a1_2) ∧ w'.cell? ⟨gb307, 3, none⟩ = some (.int .i64 a1_3) ∧ w'.cell? ⟨gb314, 0, none⟩ = some (.int .i64 t309) ∧ w'.cell? ⟨gb314, 1, none⟩ = some (.int .i64 t310) ∧ w'.cell? ⟨gb314, 2, none⟩ = some (.slice Ao23 t311.length co23)) ∧ (Kd.R (Kd.int .u64) 46 w' w.heap.size (fun _ => True) (.slice Ao23 t311.length co23) t311) ∧ (Kd.V (Kd.int .u64) 46 w' w.heap.size (fun k_ => k_ ≠ gb307 ∧ k_ ≠ gb308 ∧ k_ ≠ gb314) s_ t319) ∧ (w'.heap[gb307]? = some (.cells #[.int .i64 a1_0, .int .i64 a1_1, .int .i64 a1_2, .int .i64 a1_3] 25 (0, 0))) ∧ (w'.heap[gb308]? = some (.cells #[.int .i64 a2_0, .int .i64 a2_1, .int .i64 a2_2, .int .i64 a2_3] 25 (0, 0))) ∧ (w'.heap[gb314]? = some (.cells #[.int .i64 t309, .int .i64 t310, .slice Ao23 t311.length co23] 24 (0, 0))) ∧ (Below w.heap.size w w')) ?_ ?_
       rotate_left
       · intro hJ1_10_18
         refine join_ (σ := Value × Nat) 8 Fl82 (fun s_ => [(34, .agg #[.int .i64 t317, .int .i64 t318, s_.1]), (43, .int .i64 t322), (10, .pointer (some ⟨s_.2, 0, none⟩)), (44, .int .i64 (wrap64 (1 + t322)))]) (fun s_ w' => (w'.cell? ⟨gb307, 0, none⟩ = some (.int .i64 a1_0) ∧ w'.cell? ⟨gb307, 1, none⟩ = some (.int .i64 a1_1) ∧ w'.cell? ⟨gb307, 2, none⟩ = some (.int .i64 a1_2) ∧ w'.cell? ⟨gb307, 3, none⟩ = some (.int .i64 a1_3) ∧ w'.cell? ⟨gb314, 0, none⟩ = some (.int .i64 t309) ∧ w'.cell? ⟨gb314, 1, none⟩ = some (.int .i64 t310) ∧ w'.cell? ⟨gb314, 2, none⟩ = some (.slice Ao23 t311.length co23)) ∧ (Kd.R (Kd.int .u64) 46 w' w.heap.size (fun _ => True) (.slice Ao23 t311.length co23) t311) ∧ (Kd.V (Kd.int .u64) 46 w' w.heap.size (fun k_ => k_ ≠ gb307 ∧ k_ ≠ gb308 ∧ k_ ≠ gb314 ∧ k_ ≠ s_.2) s_.1 t319) ∧ (w'.heap[gb307]? = some (.cells #[.int .i64 a1_0, .int .i64 a1_1, .int .i64 a1_2, .int .i64 a1_3] 25 (0, 0))) ∧ (w'.heap[gb308]? = some (.cells #[.int .i64 a2_0, .int .i64 a2_1, .int .i64 a2_2, .int .i64 a2_3] 25 (0, 0))) ∧ (w'.heap[gb314]? = some (.cells #[.int .i64 t309, .int .i64 t310, .slice Ao23 t311.length co23] 24 (0, 0))) ∧ (w'.heap[s_.2]? = some (.cells #[.int .i64 0, .int .i64 0, .slice none 0 0] 32 (0, 0))) ∧ (w.heap.size ≤ s_.2) ∧ (w.heap.size ≤ s_.2) ∧ (gb307 ≠ s_.2) ∧ (s_.2 ≠ gb307) ∧ (gb308 ≠ s_.2) ∧ (s_.2 ≠ gb308) ∧ (gb314 ≠ s_.2) ∧ (s_.2 ≠ gb314) ∧ (Below w.heap.size w w')) ?_ ?_
         rotate_left
         · intro hJ1_10_24
           refine join_ (σ := Value) 9 Fl95 (fun s_ => [(34, .agg #[.int .i64 t317, .int .i64 t318, s_]), (43, .int .i64 t322), (44, .int .i64 (wrap64 (1 + t322)))]) (fun s_ w' => (w'.cell? ⟨gb307, 0, none⟩ = some (.int .i64 a1_0) ∧ w'.cell? ⟨gb307, 1, none⟩ = some (.int .i64 a1_1) ∧ w'.cell? ⟨gb307, 2, none⟩ = some (.int .i64 a1_2) ∧ w'.cell? ⟨gb307, 3, none⟩ = some (.int .i64 a1_3) ∧ w'.cell? ⟨gb314, 0, none⟩ = some (.int .i64 t309) ∧ w'.cell? ⟨gb314, 1, none⟩ = some (.int .i64 t310) ∧ w'.cell? ⟨gb314, 2, none⟩ = some (.slice Ao23 t311.length co23)) ∧ (Kd.R (Kd.int .u64) 46 w' w.heap.size (fun _ => True) (.slice Ao23 t311.length co23) t311) ∧ (Kd.V (Kd.int .u64) 46 w' w.heap.size (fun k_ => k_ ≠ gb307 ∧ k_ ≠ gb308 ∧ k_ ≠ gb314) s_ t319) ∧ (w'.heap[gb307]? = some (.cells #[.int .i64 a1_0, .int .i64 a1_1, .int .i64 a1_2, .int .i64 a1_3] 25 (0, 0))) ∧ (w'.heap[gb308]? = some (.cells #[.int .i64 a2_0, .int .i64 a2_1, .int .i64 a2_2, .int .i64 a2_3] 25 (0, 0))) ∧ (w'.heap[gb314]? = some (.cells #[.int .i64 t309, .int .i64 t310, .slice Ao23 t311.length co23] 24 (0, 0))) ∧ (Below w.heap.size w w')) ?_ ?_
           rotate_left
           · intro hJ1_10
             refine join_ (σ := Value × Nat) 10 Fl73 (fun s_ => [(34, .agg #[.int .i64 t317, .int .i64 t318, s_.1]), (10, .pointer (some ⟨s_.2, 0, none⟩))]) (fun s_ w' => (w'.cell? ⟨gb307, 0, none⟩ = some (.int .i64 a1_0) ∧ w'.cell? ⟨gb307, 1, none⟩ = some (.int .i64 a1_1) ∧ w'.cell? ⟨gb307, 2, none⟩ = some (.int .i64 a1_2) ∧ w'.cell? ⟨gb307, 3, none⟩ = some (.int .i64 a1_3) ∧ w'.cell? ⟨gb314, 0, none⟩ = some (.int .i64 t309) ∧ w'.cell? ⟨gb314, 1, none⟩ = some (.int .i64 t310) ∧ w'.cell? ⟨gb314, 2, none⟩ = some (.slice Ao23 t311.length co23)) ∧ (Kd.R (Kd.int .u64) 46 w' w.heap.size (fun _ => True) (.slice Ao23 t311.length co23) t311) ∧ (Kd.V (Kd.int .u64) 46 w' w.heap.size (fun k_ => k_ ≠ gb307 ∧ k_ ≠ gb308 ∧ k_ ≠ gb314 ∧ k_ ≠ s_.2) s_.1 t319) ∧ (w'.heap[gb307]? = some (.cells #[.int .i64 a1_0, .int .i64 a1_1, .int .i64 a1_2, .int .i64 a1_3] 25 (0, 0))) ∧ (w'.heap[gb308]? = some (.cells #[.int .i64 a2_0, .int .i64 a2_1, .int .i64 a2_2, .int .i64 a2_3] 25 (0, 0))) ∧ (w'.heap[gb314]? = some (.cells #[.int .i64 t309, .int .i64 t310, .slice Ao23 t311.length co23] 24 (0, 0))) ∧ (w'.heap[s_.2]? = some (.cells #[.int .i64 0, .int .i64 0, .slice none 0 0] 32 (0, 0))) ∧ (w.heap.size ≤ s_.2) ∧ (w.heap.size ≤ s_.2) ∧ (gb307 ≠ s_.2) ∧ (s_.2 ≠ gb307) ∧ (gb308 ≠ s_.2) ∧ (s_.2 ≠ gb308) ∧ (gb314 ≠ s_.2) ∧ (s_.2 ≠ gb314) ∧ (Below w.heap.size w w')) ?_ ?_
             rotate_left
             · intro hJ1_24
               refine join_ (σ := Value) 11 Fl92 (fun s_ => [(34, .agg #[.int .i64 t317, .int .i64 t318, s_])]) (fun s_ w' => (w'.cell? ⟨gb307, 0, none⟩ = some (.int .i64 a1_0) ∧ w'.cell? ⟨gb307, 1, none⟩ = some (.int .i64 a1_1) ∧ w'.cell? ⟨gb307, 2, none⟩ = some (.int .i64 a1_2) ∧ w'.cell? ⟨gb307, 3, none⟩ = some (.int .i64 a1_3) ∧ w'.cell? ⟨gb314, 0, none⟩ = some (.int .i64 t309) ∧ w'.cell? ⟨gb314, 1, none⟩ = some (.int .i64 t310) ∧ w'.cell? ⟨gb314, 2, none⟩ = some (.slice Ao23 t311.length co23)) ∧ (Kd.R (Kd.int .u64) 46 w' w.heap.size (fun _ => True) (.slice Ao23 t311.length co23) t311) ∧ (Kd.V (Kd.int .u64) 46 w' w.heap.size (fun k_ => k_ ≠ gb307 ∧ k_ ≠ gb308 ∧ k_ ≠ gb314) s_ t319) ∧ (w'.heap[gb307]? = some (.cells #[.int .i64 a1_0, .int .i64 a1_1, .int .i64 a1_2, .int .i64 a1_3] 25 (0, 0))) ∧ (w'.heap[gb308]? = some (.cells #[.int .i64 a2_0, .int .i64 a2_1, .int .i64 a2_2, .int .i64 a2_3] 25 (0, 0))) ∧ (w'.heap[gb314]? = some (.cells #[.int .i64 t309, .int .i64 t310, .slice Ao23 t311.length co23] 24 (0, 0))) ∧ (Below w.heap.size w w')) ?_ ?_
               rotate_left
               · intro hJ1
                 refine join_ (σ := Nat) 11 Fl85 (fun s_ => [(10, .pointer (some ⟨s_, 0, none⟩))]) (fun s_ w' => (w'.cell? ⟨gb307, 0, none⟩ = some (.int .i64 a1_0) ∧ w'.cell? ⟨gb307, 1, none⟩ = some (.int .i64 a1_1) ∧ w'.cell? ⟨gb307, 2, none⟩ = some (.int .i64 a1_2) ∧ w'.cell? ⟨gb307, 3, none⟩ = some (.int .i64 a1_3) ∧ w'.cell? ⟨gb314, 0, none⟩ = some (.int .i64 t309) ∧ w'.cell? ⟨gb314, 1, none⟩ = some (.int .i64 t310) ∧ w'.cell? ⟨gb314, 2, none⟩ = some (.slice Ao23 t311.length co23)) ∧ (Kd.R (Kd.int .u64) 46 w' w.heap.size (fun _ => True) (.slice Ao23 t311.length co23) t311) ∧ (w'.heap[gb307]? = some (.cells #[.int .i64 a1_0, .int .i64 a1_1, .int .i64 a1_2, .int .i64 a1_3] 25 (0, 0))) ∧ (w'.heap[gb308]? = some (.cells #[.int .i64 a2_0, .int .i64 a2_1, .int .i64 a2_2, .int .i64 a2_3] 25 (0, 0))) ∧ (w'.heap[gb314]? = some (.cells #[.int .i64 t309, .int .i64 t310, .slice Ao23 t311.length co23] 24 (0, 0))) ∧ (w'.heap[s_]? = some (.cells #[.int .i64 0, .int .i64 0, .slice none 0 0] 32 (0, 0))) ∧ (w.heap.size ≤ s_) ∧ (w.heap.size ≤ s_) ∧ (gb307 ≠ s_) ∧ (s_ ≠ gb307) ∧ (gb308 ≠ s_) ∧ (s_ ≠ gb308) ∧ (gb314 ≠ s_) ∧ (s_ ≠ gb314) ∧ (Below w.heap.size w w')) ?_ ?_
                 rotate_left
                 · intro hJ24
                   refine two_ (i := 1) (j := 24) (Ni := some 34) (Nj := some 10) Fl92 Fl85 rfl rfl rfl rfl (two_of HT_.out (by kernel_rfl)) (by decide) (by decide) (fun K hK => ?_) (fun K hK => ?_)
                   · skip
                     refine goes_ Try.func13 (by kernel_rfl) rfl #[.agg #[.int .i64 t309, .int .i64 t310, .slice Ao23 t311.length co23]] (by rfl) rfl rfl (by (try simp only [List.map_toArray, List.map_cons, List.map_nil]); first | done | rfl | (simp only [List.length_drop, List.length_take]; rfl)) ?_
                     with_reducible refine (chequerlaw03_of.calls t309 t310 (fun k_ => some k_ = (.slice Ao23 t311.length co23 : Value).ownBlock) _ _ t311 t317 t318 t319 _ ?side1 A7.out).mono ?_
                     (case side1 => exact Kd.R_V (Kd.R_tight rfl (Kd.R_types (Kd.R_types (Kd.R_types (HO313.out) BK307.out (by decide)) BK308.out (by decide)) BK314.out (by decide))))
                     rintro e w28 ⟨v320, rfl, ho0, hb⟩
                     refine ⟨_, rfl, ?_⟩
                     have HO321 := Aside0.mk (Kd.V_lower (Kd.V_mono (ok' := fun k_ => k_ ≠ gb307 ∧ k_ ≠ gb308 ∧ k_ ≠ gb314) ho0 (fun k_ hk_ => ⟨Or.elim hk_ (fun hs_ => ((Kd.R_types (Kd.R_types (Kd.R_types (HO313.out) BK307.out (by decide)) BK308.out (by decide)) BK314.out (by decide)).1 k_ hs_.symm).1.1.2) (fun hn_ => (Kd.freshB (g := gb307) (o := .cells #[.int .i64 a1_0, .int .i64 a1_1, .int .i64 a1_2, .int .i64 a1_3] 25 (0, 0)) (hp_ BK307.out) k_ hn_)), Or.elim hk_ (fun hs_ => ((Kd.R_types (Kd.R_types (Kd.R_types (HO313.out) BK307.out (by decide)) BK308.out (by decide)) BK314.out (by decide)).1 k_ hs_.symm).1.2) (fun hn_ => (Kd.freshB (g := gb308) (o := .cells #[.int .i64 a2_0, .int .i64 a2_1, .int .i64 a2_2, .int .i64 a2_3] 25 (0, 0)) (hp_ BK308.out) k_ hn_)), Or.elim hk_ (fun hs_ => ((Kd.R_types (Kd.R_types (Kd.R_types (HO313.out) BK307.out (by decide)) BK308.out (by decide)) BK314.out (by decide)).1 k_ hs_.symm).2) (fun hn_ => (Kd.freshB (g := gb314) (o := .cells #[.int .i64 t309, .int .i64 t310, .slice Ao23 t311.length co23] 24 (0, 0)) (hp_ BK314.out) k_ hn_))⟩)) (below_size bp_))
                     replace HO313 := Aside0.mk (Kd.R_below (rp_ HO313.out) hb)
                     replace BK307 := Aside0.mk (blk_below (hp_ BK307.out) hb)
                     replace BK308 := Aside0.mk (blk_below (hp_ BK308.out) hb)
                     replace BK314 := Aside0.mk (blk_below (hp_ BK314.out) hb)
                     replace HB := Aside0.mk (below_step bp_ hb)
                     (try clear hb)
                     (try clear hb2)
                     (try clear hk)
                     (try clear hi)
                     (try clear ho0)
                     refine hK.out _ _ ⟨(blk_cell BK307.out 0).trans rfl, (blk_cell BK307.out 1).trans rfl, (blk_cell BK307.out 2).trans rfl, (blk_cell BK307.out 3).trans rfl, (blk_cell BK314.out 0).trans rfl, (blk_cell BK314.out 1).trans rfl, (blk_cell BK314.out 2).trans rfl⟩ (fun hHeld => ?_)
                     clear hK K
                     refine norm_ (a' := ?_) ?_ ?_
                     rotate_left
                     · show Act.put _ (some 34) _ = _
                       simp only [Act.put, List.setIfInBounds_toArray, List.set_cons_zero, List.set_cons_succ, i64_w, i32_w]
                       rfl
                     exact norm_ (by first | (simp only [putAll, Act.put, List.setIfInBounds_toArray, List.set_cons_zero, List.set_cons_succ]; done) | (simp only [putAll, Act.put, List.setIfInBounds_toArray, List.set_cons_zero, List.set_cons_succ]; rfl)) (hJ1 (v320) _ ⟨hHeld, (rp_ HO313.out), (vp_ HO321.out), (hp_ BK307.out), (hp_ BK308.out), (hp_ BK314.out), bp_⟩)
                   · skip
                     refine box_step ?hg (N := 10) ?hd (cs := #[.int .i64 0, .int .i64 0, .slice none 0 0]) (t := 32) ?hr ?_; (case hd => rfl); (case hg => rfl); (case hr => first | (go_simp; done) | (go_simp; rfl))
                     intro gb330 hg w28 hbox hb
                     replace HO313 := Aside0.mk (Kd.R_below (rp_ HO313.out) hb)
                     have BK330 := Aside0.mk (hbox)
                     have GW330 := Aside0.mk ((by rw [hg]; exact (below_size bp_) : w.heap.size ≤ gb330))
                     have GE330 := Aside0.mk ((by rw [hg]; exact (below_size bp_) : w.heap.size ≤ gb330))
                     replace HB := Aside0.mk (below_step bp_ hb)
                     have NB307_330 := Aside0.mk ((nlt_ hg (hp_ BK307.out)))
                     have NB330_307 := Aside0.mk ((ngt_ hg (hp_ BK307.out)))
                     replace BK307 := Aside0.mk (blk_below (hp_ BK307.out) hb)
                     have NB308_330 := Aside0.mk ((nlt_ hg (hp_ BK308.out)))
                     have NB330_308 := Aside0.mk ((ngt_ hg (hp_ BK308.out)))
                     replace BK308 := Aside0.mk (blk_below (hp_ BK308.out) hb)
                     have NB314_330 := Aside0.mk ((nlt_ hg (hp_ BK314.out)))
                     have NB330_314 := Aside0.mk ((ngt_ hg (hp_ BK314.out)))
                     replace BK314 := Aside0.mk (blk_below (hp_ BK314.out) hb)
                     clear hb hbox hg
                     refine hK.out _ _ ⟨(blk_cell BK307.out 0).trans rfl, (blk_cell BK307.out 1).trans rfl, (blk_cell BK307.out 2).trans rfl, (blk_cell BK307.out 3).trans rfl, (blk_cell BK314.out 0).trans rfl, (blk_cell BK314.out 1).trans rfl, (blk_cell BK314.out 2).trans rfl⟩ (fun hHeld => ?_)
                     clear hK K
                     refine norm_ (a' := ?_) ?_ ?_
                     rotate_left
                     · show Act.put _ (some 10) _ = _
                       simp only [Act.put, List.setIfInBounds_toArray, List.set_cons_zero, List.set_cons_succ, i64_w, i32_w]
                       rfl
                     exact norm_ (by first | (simp only [putAll, Act.put, List.setIfInBounds_toArray, List.set_cons_zero, List.set_cons_succ]; done) | (simp only [putAll, Act.put, List.setIfInBounds_toArray, List.set_cons_zero, List.set_cons_succ]; rfl)) (hJ24 (gb330) _ ⟨hHeld, (rp_ HO313.out), (hp_ BK307.out), (hp_ BK308.out), (hp_ BK314.out), (hp_ BK330.out), GW330.out, GE330.out, NB307_330.out, NB330_307.out, NB308_330.out, NB330_308.out, NB314_330.out, NB330_314.out, bp_⟩)
                 · skip
                   rintro gb330 w29 ⟨hS_, h0_, h1_, h2_, h3_, h4_, h5_, h6_, h7_, h8_, h9_, h10_, h11_, h12_, h13_⟩
                   replace HO313 : Aside0 (Kd.R (Kd.int .u64) 46 w29 w.heap.size (fun _ => True) (.slice Ao23 t311.length co23) t311) := ⟨h0_⟩
                   replace BK307 : Aside0 (w29.heap[gb307]? = some (.cells #[.int .i64 a1_0, .int .i64 a1_1, .int .i64 a1_2, .int .i64 a1_3] 25 (0, 0))) := ⟨h1_⟩
                   replace BK308 : Aside0 (w29.heap[gb308]? = some (.cells #[.int .i64 a2_0, .int .i64 a2_1, .int .i64 a2_2, .int .i64 a2_3] 25 (0, 0))) := ⟨h2_⟩
                   replace BK314 : Aside0 (w29.heap[gb314]? = some (.cells #[.int .i64 t309, .int .i64 t310, .slice Ao23 t311.length co23] 24 (0, 0))) := ⟨h3_⟩
                   have BK330 : Aside0 (w29.heap[gb330]? = some (.cells #[.int .i64 0, .int .i64 0, .slice none 0 0] 32 (0, 0))) := ⟨h4_⟩
                   have GW330 : Aside0 (w.heap.size ≤ gb330) := ⟨h5_⟩
                   have GE330 : Aside0 (w.heap.size ≤ gb330) := ⟨h6_⟩
                   have NB307_330 : Aside0 (gb307 ≠ gb330) := ⟨h7_⟩
                   have NB330_307 : Aside0 (gb330 ≠ gb307) := ⟨h8_⟩
                   have NB308_330 : Aside0 (gb308 ≠ gb330) := ⟨h9_⟩
                   have NB330_308 : Aside0 (gb330 ≠ gb308) := ⟨h10_⟩
                   have NB314_330 : Aside0 (gb314 ≠ gb330) := ⟨h11_⟩
                   have NB330_314 : Aside0 (gb330 ≠ gb314) := ⟨h12_⟩
                   replace HB : Aside0 (Below w.heap.size w w29) := ⟨h13_⟩
                   clear h0_ h1_ h2_ h3_ h4_ h5_ h6_ h7_ h8_ h9_ h10_ h11_ h12_ h13_
                   have hHeld : w29.cell? ⟨gb307, 0, none⟩ = some (.int .i64 a1_0) ∧ w29.cell? ⟨gb307, 1, none⟩ = some (.int .i64 a1_1) ∧ w29.cell? ⟨gb307, 2, none⟩ = some (.int .i64 a1_2) ∧ w29.cell? ⟨gb307, 3, none⟩ = some (.int .i64 a1_3) ∧ w29.cell? ⟨gb314, 0, none⟩ = some (.int .i64 t309) ∧ w29.cell? ⟨gb314, 1, none⟩ = some (.int .i64 t310) ∧ w29.cell? ⟨gb314, 2, none⟩ = some (.slice Ao23 t311.length co23) := hS_
                   refine norm_ (a' := ?_) ?_ ?_
                   rotate_left
                   · simp only [putAll, Act.put, List.setIfInBounds_toArray, List.set_cons_zero, List.set_cons_succ]
                     rfl
                   refine one_ (i := 1) (N := some 34) Fl73 rfl rfl (one_of HT_.out (by kernel_rfl)) (by decide) (fun K hK => ?_)
                   refine goes_ Try.func13 (by kernel_rfl) rfl #[.agg #[.int .i64 t309, .int .i64 t310, .slice Ao23 t311.length co23]] (by rfl) rfl rfl (by (try simp only [List.map_toArray, List.map_cons, List.map_nil]); first | done | rfl | (simp only [List.length_drop, List.length_take]; rfl)) ?_
                   with_reducible refine (chequerlaw03_of.calls t309 t310 (fun k_ => some k_ = (.slice Ao23 t311.length co23 : Value).ownBlock) _ _ t311 t317 t318 t319 _ ?side1 A7.out).mono ?_
                   (case side1 => exact Kd.R_V (Kd.R_tight rfl (Kd.R_types (Kd.R_types (Kd.R_types (Kd.R_types (HO313.out) BK307.out (by decide)) BK308.out (by decide)) BK314.out (by decide)) BK330.out (by decide))))
                   rintro e w30 ⟨v320, rfl, ho0, hb⟩
                   refine ⟨_, rfl, ?_⟩
                   have HO321 := Aside0.mk (Kd.V_lower (Kd.V_mono (ok' := fun k_ => k_ ≠ gb307 ∧ k_ ≠ gb308 ∧ k_ ≠ gb314 ∧ k_ ≠ gb330) ho0 (fun k_ hk_ => ⟨Or.elim hk_ (fun hs_ => ((Kd.R_types (Kd.R_types (Kd.R_types (Kd.R_types (HO313.out) BK307.out (by decide)) BK308.out (by decide)) BK314.out (by decide)) BK330.out (by decide)).1 k_ hs_.symm).1.1.1.2) (fun hn_ => (Kd.freshB (g := gb307) (o := .cells #[.int .i64 a1_0, .int .i64 a1_1, .int .i64 a1_2, .int .i64 a1_3] 25 (0, 0)) (hp_ BK307.out) k_ hn_)), Or.elim hk_ (fun hs_ => ((Kd.R_types (Kd.R_types (Kd.R_types (Kd.R_types (HO313.out) BK307.out (by decide)) BK308.out (by decide)) BK314.out (by decide)) BK330.out (by decide)).1 k_ hs_.symm).1.1.2) (fun hn_ => (Kd.freshB (g := gb308) (o := .cells #[.int .i64 a2_0, .int .i64 a2_1, .int .i64 a2_2, .int .i64 a2_3] 25 (0, 0)) (hp_ BK308.out) k_ hn_)), Or.elim hk_ (fun hs_ => ((Kd.R_types (Kd.R_types (Kd.R_types (Kd.R_types (HO313.out) BK307.out (by decide)) BK308.out (by decide)) BK314.out (by decide)) BK330.out (by decide)).1 k_ hs_.symm).1.2) (fun hn_ => (Kd.freshB (g := gb314) (o := .cells #[.int .i64 t309, .int .i64 t310, .slice Ao23 t311.length co23] 24 (0, 0)) (hp_ BK314.out) k_ hn_)), Or.elim hk_ (fun hs_ => ((Kd.R_types (Kd.R_types (Kd.R_types (Kd.R_types (HO313.out) BK307.out (by decide)) BK308.out (by decide)) BK314.out (by decide)) BK330.out (by decide)).1 k_ hs_.symm).2) (fun hn_ => (Kd.freshB (g := gb330) (o := .cells #[.int .i64 0, .int .i64 0, .slice none 0 0] 32 (0, 0)) (hp_ BK330.out) k_ hn_))⟩)) (below_size bp_))
                   replace HO313 := Aside0.mk (Kd.R_below (rp_ HO313.out) hb)
                   replace BK307 := Aside0.mk (blk_below (hp_ BK307.out) hb)
                   replace BK308 := Aside0.mk (blk_below (hp_ BK308.out) hb)
                   replace BK314 := Aside0.mk (blk_below (hp_ BK314.out) hb)
                   replace BK330 := Aside0.mk (blk_below (hp_ BK330.out) hb)
                   replace HB := Aside0.mk (below_step bp_ hb)
                   (try clear hb)
                   (try clear hb2)
                   (try clear hk)
                   (try clear hi)
                   (try clear ho0)
                   refine hK.out _ _ ⟨(blk_cell BK307.out 0).trans rfl, (blk_cell BK307.out 1).trans rfl, (blk_cell BK307.out 2).trans rfl, (blk_cell BK307.out 3).trans rfl, (blk_cell BK314.out 0).trans rfl, (blk_cell BK314.out 1).trans rfl, (blk_cell BK314.out 2).trans rfl⟩ (fun hHeld => ?_)
                   clear hK K
                   refine norm_ (a' := ?_) ?_ ?_
                   rotate_left
                   · show Act.put _ (some 34) _ = _
                     simp only [Act.put, List.setIfInBounds_toArray, List.set_cons_zero, List.set_cons_succ, i64_w, i32_w]
                     rfl
                   exact norm_ (by first | (simp only [putAll, Act.put, List.setIfInBounds_toArray, List.set_cons_zero, List.set_cons_succ]; done) | (simp only [putAll, Act.put, List.setIfInBounds_toArray, List.set_cons_zero, List.set_cons_succ]; rfl)) (hJ1_24 (v320, gb330) _ ⟨hHeld, (rp_ HO313.out), (vp_ HO321.out), (hp_ BK307.out), (hp_ BK308.out), (hp_ BK314.out), (hp_ BK330.out), GW330.out, GE330.out, NB307_330.out, NB330_307.out, NB308_330.out, NB330_308.out, NB314_330.out, NB330_314.out, bp_⟩)
               · skip
                 rintro v320 w29 ⟨hS_, h0_, h1_, h2_, h3_, h4_, h5_⟩
                 replace HO313 : Aside0 (Kd.R (Kd.int .u64) 46 w29 w.heap.size (fun _ => True) (.slice Ao23 t311.length co23) t311) := ⟨h0_⟩
                 have HO321 : Aside0 (Kd.V (Kd.int .u64) 46 w29 w.heap.size (fun k_ => k_ ≠ gb307 ∧ k_ ≠ gb308 ∧ k_ ≠ gb314) v320 t319) := ⟨h1_⟩
                 replace BK307 : Aside0 (w29.heap[gb307]? = some (.cells #[.int .i64 a1_0, .int .i64 a1_1, .int .i64 a1_2, .int .i64 a1_3] 25 (0, 0))) := ⟨h2_⟩
                 replace BK308 : Aside0 (w29.heap[gb308]? = some (.cells #[.int .i64 a2_0, .int .i64 a2_1, .int .i64 a2_2, .int .i64 a2_3] 25 (0, 0))) := ⟨h3_⟩
                 replace BK314 : Aside0 (w29.heap[gb314]? = some (.cells #[.int .i64 t309, .int .i64 t310, .slice Ao23 t311.length co23] 24 (0, 0))) := ⟨h4_⟩
                 replace HB : Aside0 (Below w.heap.size w w29) := ⟨h5_⟩
                 clear h0_ h1_ h2_ h3_ h4_ h5_
                 have hHeld : w29.cell? ⟨gb307, 0, none⟩ = some (.int .i64 a1_0) ∧ w29.cell? ⟨gb307, 1, none⟩ = some (.int .i64 a1_1) ∧ w29.cell? ⟨gb307, 2, none⟩ = some (.int .i64 a1_2) ∧ w29.cell? ⟨gb307, 3, none⟩ = some (.int .i64 a1_3) ∧ w29.cell? ⟨gb314, 0, none⟩ = some (.int .i64 t309) ∧ w29.cell? ⟨gb314, 1, none⟩ = some (.int .i64 t310) ∧ w29.cell? ⟨gb314, 2, none⟩ = some (.slice Ao23 t311.length co23) := hS_
                 refine norm_ (a' := ?_) ?_ ?_
                 rotate_left
                 · simp only [putAll, Act.put, List.setIfInBounds_toArray, List.set_cons_zero, List.set_cons_succ]
                   rfl
                 refine two_ (i := 10) (j := 24) (Ni := some 43) (Nj := some 10) #[true, true, true, true, true, true, true, true, true, true, true, false, true, true, true, true, true, true, false, false, false, false, false, false, false, false, false] Fl73 rfl rfl rfl rfl (two_of HT_.out (by kernel_rfl)) (by decide) (by decide) (fun K hK => ?_) (fun K hK => ?_)
                 · skip
                   refine goes_ Try.func11 (by kernel_rfl) rfl #[.int .i64 a1_2, .int .i64 (wrap64 (t309 - t315))] (by rfl) rfl rfl (by (try simp only [List.map_toArray, List.map_cons, List.map_nil]); first | done | rfl | (simp only [List.length_drop, List.length_take]; rfl)) ?_
                   with_reducible refine (chequerref01_Around.calls a1_2 (wrap64 (t309 - t315)) t322 _ A8.out).mono ?_
                   rintro e w' ⟨rfl, ⟨nd, rfl⟩⟩
                   refine ⟨_, rfl, ?_⟩
                   refine hK.out _ _ ⟨(blk_cell BK307.out 0).trans rfl, (blk_cell BK307.out 1).trans rfl, (blk_cell BK307.out 2).trans rfl, (blk_cell BK307.out 3).trans rfl, (blk_cell BK314.out 0).trans rfl, (blk_cell BK314.out 1).trans rfl, (blk_cell BK314.out 2).trans rfl⟩ (fun hHeld => ?_)
                   clear hK K
                   refine norm_ (a' := ?_) ?_ ?_
                   rotate_left
                   · show Act.put _ (some 43) _ = _
                     simp only [Act.put, List.setIfInBounds_toArray, List.set_cons_zero, List.set_cons_succ, i64_w, i32_w]
                     rfl
                   refine pur_ (i := 11) (N := some 44) Fl95 (any_of HT_.out (by kernel_rfl)) ?_
                   exact norm_ (by first | (simp only [putAll, Act.put, List.setIfInBounds_toArray, List.set_cons_zero, List.set_cons_succ]; done) | (simp only [putAll, Act.put, List.setIfInBounds_toArray, List.set_cons_zero, List.set_cons_succ]; rfl)) (hJ1_10 (v320) _ ⟨hHeld, (rp_ HO313.out), (vp_ HO321.out), (hp_ BK307.out), (hp_ BK308.out), (hp_ BK314.out), bp_⟩)
                 · skip
                   refine box_step ?hg (N := 10) ?hd (cs := #[.int .i64 0, .int .i64 0, .slice none 0 0]) (t := 32) ?hr ?_; (case hd => rfl); (case hg => rfl); (case hr => first | (go_simp; done) | (go_simp; rfl))
                   intro gb330 hg w30 hbox hb
                   replace HO313 := Aside0.mk (Kd.R_below (rp_ HO313.out) hb)
                   replace HO321 := Aside0.mk (Kd.V_below (Kd.V_elderB (vp_ HO321.out) gb330 (Nat.le_of_eq hg.symm)) hb)
                   have BK330 := Aside0.mk (hbox)
                   have GW330 := Aside0.mk ((by rw [hg]; exact (below_size bp_) : w.heap.size ≤ gb330))
                   have GE330 := Aside0.mk ((by rw [hg]; exact (below_size bp_) : w.heap.size ≤ gb330))
                   replace HB := Aside0.mk (below_step bp_ hb)
                   have NB307_330 := Aside0.mk ((nlt_ hg (hp_ BK307.out)))
                   have NB330_307 := Aside0.mk ((ngt_ hg (hp_ BK307.out)))
                   replace BK307 := Aside0.mk (blk_below (hp_ BK307.out) hb)
                   have NB308_330 := Aside0.mk ((nlt_ hg (hp_ BK308.out)))
                   have NB330_308 := Aside0.mk ((ngt_ hg (hp_ BK308.out)))
                   replace BK308 := Aside0.mk (blk_below (hp_ BK308.out) hb)
                   have NB314_330 := Aside0.mk ((nlt_ hg (hp_ BK314.out)))
                   have NB330_314 := Aside0.mk ((ngt_ hg (hp_ BK314.out)))
                   replace BK314 := Aside0.mk (blk_below (hp_ BK314.out) hb)
                   clear hb hbox hg
                   refine hK.out _ _ ⟨(blk_cell BK307.out 0).trans rfl, (blk_cell BK307.out 1).trans rfl, (blk_cell BK307.out 2).trans rfl, (blk_cell BK307.out 3).trans rfl, (blk_cell BK314.out 0).trans rfl, (blk_cell BK314.out 1).trans rfl, (blk_cell BK314.out 2).trans rfl⟩ (fun hHeld => ?_)
                   clear hK K
                   refine norm_ (a' := ?_) ?_ ?_
                   rotate_left
                   · show Act.put _ (some 10) _ = _
                     simp only [Act.put, List.setIfInBounds_toArray, List.set_cons_zero, List.set_cons_succ, i64_w, i32_w]
                     rfl
                   exact norm_ (by first | (simp only [putAll, Act.put, List.setIfInBounds_toArray, List.set_cons_zero, List.set_cons_succ]; done) | (simp only [putAll, Act.put, List.setIfInBounds_toArray, List.set_cons_zero, List.set_cons_succ]; rfl)) (hJ1_24 (v320, gb330) _ ⟨hHeld, (rp_ HO313.out), (by (with_reducible repeat (first | apply Kd.V_alloc | apply Kd.V_drewN | apply Kd.V_drew)); exact Kd.V_mono HO321.out (fun _ hk => ⟨hk.1.1, ⟨hk.1.2.1, ⟨hk.1.2.2, hk.2⟩⟩⟩)), (hp_ BK307.out), (hp_ BK308.out), (hp_ BK314.out), (hp_ BK330.out), GW330.out, GE330.out, NB307_330.out, NB330_307.out, NB308_330.out, NB330_308.out, NB314_330.out, NB330_314.out, bp_⟩)
             · skip
               rintro ⟨v320, gb330⟩ w30 ⟨hS_, h0_, h1_, h2_, h3_, h4_, h5_, h6_, h7_, h8_, h9_, h10_, h11_, h12_, h13_, h14_⟩
               replace HO313 : Aside0 (Kd.R (Kd.int .u64) 46 w30 w.heap.size (fun _ => True) (.slice Ao23 t311.length co23) t311) := ⟨h0_⟩
               have HO321 : Aside0 (Kd.V (Kd.int .u64) 46 w30 w.heap.size (fun k_ => k_ ≠ gb307 ∧ k_ ≠ gb308 ∧ k_ ≠ gb314 ∧ k_ ≠ gb330) v320 t319) := ⟨h1_⟩
               replace BK307 : Aside0 (w30.heap[gb307]? = some (.cells #[.int .i64 a1_0, .int .i64 a1_1, .int .i64 a1_2, .int .i64 a1_3] 25 (0, 0))) := ⟨h2_⟩
               replace BK308 : Aside0 (w30.heap[gb308]? = some (.cells #[.int .i64 a2_0, .int .i64 a2_1, .int .i64 a2_2, .int .i64 a2_3] 25 (0, 0))) := ⟨h3_⟩
               replace BK314 : Aside0 (w30.heap[gb314]? = some (.cells #[.int .i64 t309, .int .i64 t310, .slice Ao23 t311.length co23] 24 (0, 0))) := ⟨h4_⟩
               have BK330 : Aside0 (w30.heap[gb330]? = some (.cells #[.int .i64 0, .int .i64 0, .slice none 0 0] 32 (0, 0))) := ⟨h5_⟩
               have GW330 : Aside0 (w.heap.size ≤ gb330) := ⟨h6_⟩
               have GE330 : Aside0 (w.heap.size ≤ gb330) := ⟨h7_⟩
               have NB307_330 : Aside0 (gb307 ≠ gb330) := ⟨h8_⟩
               have NB330_307 : Aside0 (gb330 ≠ gb307) := ⟨h9_⟩
               have NB308_330 : Aside0 (gb308 ≠ gb330) := ⟨h10_⟩
               have NB330_308 : Aside0 (gb330 ≠ gb308) := ⟨h11_⟩
               have NB314_330 : Aside0 (gb314 ≠ gb330) := ⟨h12_⟩
               have NB330_314 : Aside0 (gb330 ≠ gb314) := ⟨h13_⟩
               replace HB : Aside0 (Below w.heap.size w w30) := ⟨h14_⟩
               clear h0_ h1_ h2_ h3_ h4_ h5_ h6_ h7_ h8_ h9_ h10_ h11_ h12_ h13_ h14_
               have hHeld : w30.cell? ⟨gb307, 0, none⟩ = some (.int .i64 a1_0) ∧ w30.cell? ⟨gb307, 1, none⟩ = some (.int .i64 a1_1) ∧ w30.cell? ⟨gb307, 2, none⟩ = some (.int .i64 a1_2) ∧ w30.cell? ⟨gb307, 3, none⟩ = some (.int .i64 a1_3) ∧ w30.cell? ⟨gb314, 0, none⟩ = some (.int .i64 t309) ∧ w30.cell? ⟨gb314, 1, none⟩ = some (.int .i64 t310) ∧ w30.cell? ⟨gb314, 2, none⟩ = some (.slice Ao23 t311.length co23) := hS_
               refine norm_ (a' := ?_) ?_ ?_
               rotate_left
               · simp only [putAll, Act.put, List.setIfInBounds_toArray, List.set_cons_zero, List.set_cons_succ]
                 rfl
               refine one_ (i := 10) (N := some 43) #[true, true, true, true, true, true, true, true, true, true, true, false, true, true, true, true, true, true, false, false, false, false, false, false, true, false, false] rfl rfl (one_of HT_.out (by kernel_rfl)) (by decide) (fun K hK => ?_)
               refine goes_ Try.func11 (by kernel_rfl) rfl #[.int .i64 a1_2, .int .i64 (wrap64 (t309 - t315))] (by rfl) rfl rfl (by (try simp only [List.map_toArray, List.map_cons, List.map_nil]); first | done | rfl | (simp only [List.length_drop, List.length_take]; rfl)) ?_
               with_reducible refine (chequerref01_Around.calls a1_2 (wrap64 (t309 - t315)) t322 _ A8.out).mono ?_
               rintro e w' ⟨rfl, ⟨nd, rfl⟩⟩
               refine ⟨_, rfl, ?_⟩
               refine hK.out _ _ ⟨(blk_cell BK307.out 0).trans rfl, (blk_cell BK307.out 1).trans rfl, (blk_cell BK307.out 2).trans rfl, (blk_cell BK307.out 3).trans rfl, (blk_cell BK314.out 0).trans rfl, (blk_cell BK314.out 1).trans rfl, (blk_cell BK314.out 2).trans rfl⟩ (fun hHeld => ?_)
               clear hK K
               refine norm_ (a' := ?_) ?_ ?_
               rotate_left
               · show Act.put _ (some 43) _ = _
                 simp only [Act.put, List.setIfInBounds_toArray, List.set_cons_zero, List.set_cons_succ, i64_w, i32_w]
                 rfl
               refine pur_ (i := 11) (N := some 44) Fl82 (any_of HT_.out (by kernel_rfl)) ?_
               exact norm_ (by first | (simp only [putAll, Act.put, List.setIfInBounds_toArray, List.set_cons_zero, List.set_cons_succ]; done) | (simp only [putAll, Act.put, List.setIfInBounds_toArray, List.set_cons_zero, List.set_cons_succ]; rfl)) (hJ1_10_24 (v320, gb330) _ ⟨hHeld, (rp_ HO313.out), (vp_ HO321.out), (hp_ BK307.out), (hp_ BK308.out), (hp_ BK314.out), (hp_ BK330.out), GW330.out, GE330.out, NB307_330.out, NB330_307.out, NB308_330.out, NB330_308.out, NB314_330.out, NB330_314.out, bp_⟩)
           · skip
             rintro v320 w29 ⟨hS_, h0_, h1_, h2_, h3_, h4_, h5_⟩
             replace HO313 : Aside0 (Kd.R (Kd.int .u64) 46 w29 w.heap.size (fun _ => True) (.slice Ao23 t311.length co23) t311) := ⟨h0_⟩
             have HO321 : Aside0 (Kd.V (Kd.int .u64) 46 w29 w.heap.size (fun k_ => k_ ≠ gb307 ∧ k_ ≠ gb308 ∧ k_ ≠ gb314) v320 t319) := ⟨h1_⟩
             replace BK307 : Aside0 (w29.heap[gb307]? = some (.cells #[.int .i64 a1_0, .int .i64 a1_1, .int .i64 a1_2, .int .i64 a1_3] 25 (0, 0))) := ⟨h2_⟩
             replace BK308 : Aside0 (w29.heap[gb308]? = some (.cells #[.int .i64 a2_0, .int .i64 a2_1, .int .i64 a2_2, .int .i64 a2_3] 25 (0, 0))) := ⟨h3_⟩
             replace BK314 : Aside0 (w29.heap[gb314]? = some (.cells #[.int .i64 t309, .int .i64 t310, .slice Ao23 t311.length co23] 24 (0, 0))) := ⟨h4_⟩
             replace HB : Aside0 (Below w.heap.size w w29) := ⟨h5_⟩
             clear h0_ h1_ h2_ h3_ h4_ h5_
             have hHeld : w29.cell? ⟨gb307, 0, none⟩ = some (.int .i64 a1_0) ∧ w29.cell? ⟨gb307, 1, none⟩ = some (.int .i64 a1_1) ∧ w29.cell? ⟨gb307, 2, none⟩ = some (.int .i64 a1_2) ∧ w29.cell? ⟨gb307, 3, none⟩ = some (.int .i64 a1_3) ∧ w29.cell? ⟨gb314, 0, none⟩ = some (.int .i64 t309) ∧ w29.cell? ⟨gb314, 1, none⟩ = some (.int .i64 t310) ∧ w29.cell? ⟨gb314, 2, none⟩ = some (.slice Ao23 t311.length co23) := hS_
             refine norm_ (a' := ?_) ?_ ?_
             rotate_left
             · simp only [putAll, Act.put, List.setIfInBounds_toArray, List.set_cons_zero, List.set_cons_succ]
               rfl
             refine two_ (i := 18) (j := 24) (Ni := some 51) (Nj := some 10) #[true, true, true, true, true, true, true, true, true, true, true, true, true, true, true, true, true, true, true, false, false, false, false, false, false, false, false] Fl82 rfl rfl rfl rfl (two_of HT_.out (by kernel_rfl)) (by decide) (by decide) (fun K hK => ?_) (fun K hK => ?_)
             · skip
               refine goes_ Try.func11 (by kernel_rfl) rfl #[.int .i64 a1_3, .int .i64 (wrap64 (t310 - t316))] (by rfl) rfl rfl (by (try simp only [List.map_toArray, List.map_cons, List.map_nil]); first | done | rfl | (simp only [List.length_drop, List.length_take]; rfl)) ?_
               with_reducible refine (chequerref01_Around.calls a1_3 (wrap64 (t310 - t316)) t323 _ A9.out).mono ?_
               rintro e w' ⟨rfl, ⟨nd, rfl⟩⟩
               refine ⟨_, rfl, ?_⟩
               refine hK.out _ _ ⟨(blk_cell BK307.out 0).trans rfl, (blk_cell BK307.out 1).trans rfl, (blk_cell BK307.out 2).trans rfl, (blk_cell BK307.out 3).trans rfl, (blk_cell BK314.out 0).trans rfl, (blk_cell BK314.out 1).trans rfl, (blk_cell BK314.out 2).trans rfl⟩ (fun hHeld => ?_)
               clear hK K
               refine norm_ (a' := ?_) ?_ ?_
               rotate_left
               · show Act.put _ (some 51) _ = _
                 simp only [Act.put, List.setIfInBounds_toArray, List.set_cons_zero, List.set_cons_succ, i64_w, i32_w]
                 rfl
               refine pur_ (i := 19) (N := some 52) Fl96 (any_of HT_.out (by kernel_rfl)) ?_
               exact norm_ (by first | (simp only [putAll, Act.put, List.setIfInBounds_toArray, List.set_cons_zero, List.set_cons_succ]; done) | (simp only [putAll, Act.put, List.setIfInBounds_toArray, List.set_cons_zero, List.set_cons_succ]; rfl)) (hJ1_10_18 (v320) _ ⟨hHeld, (rp_ HO313.out), (vp_ HO321.out), (hp_ BK307.out), (hp_ BK308.out), (hp_ BK314.out), bp_⟩)
             · skip
               refine box_step ?hg (N := 10) ?hd (cs := #[.int .i64 0, .int .i64 0, .slice none 0 0]) (t := 32) ?hr ?_; (case hd => rfl); (case hg => rfl); (case hr => first | (go_simp; done) | (go_simp; rfl))
               intro gb330 hg w30 hbox hb
               replace HO313 := Aside0.mk (Kd.R_below (rp_ HO313.out) hb)
               replace HO321 := Aside0.mk (Kd.V_below (Kd.V_elderB (vp_ HO321.out) gb330 (Nat.le_of_eq hg.symm)) hb)
               have BK330 := Aside0.mk (hbox)
               have GW330 := Aside0.mk ((by rw [hg]; exact (below_size bp_) : w.heap.size ≤ gb330))
               have GE330 := Aside0.mk ((by rw [hg]; exact (below_size bp_) : w.heap.size ≤ gb330))
               replace HB := Aside0.mk (below_step bp_ hb)
               have NB307_330 := Aside0.mk ((nlt_ hg (hp_ BK307.out)))
               have NB330_307 := Aside0.mk ((ngt_ hg (hp_ BK307.out)))
               replace BK307 := Aside0.mk (blk_below (hp_ BK307.out) hb)
               have NB308_330 := Aside0.mk ((nlt_ hg (hp_ BK308.out)))
               have NB330_308 := Aside0.mk ((ngt_ hg (hp_ BK308.out)))
               replace BK308 := Aside0.mk (blk_below (hp_ BK308.out) hb)
               have NB314_330 := Aside0.mk ((nlt_ hg (hp_ BK314.out)))
               have NB330_314 := Aside0.mk ((ngt_ hg (hp_ BK314.out)))
               replace BK314 := Aside0.mk (blk_below (hp_ BK314.out) hb)
               clear hb hbox hg
               refine hK.out _ _ ⟨(blk_cell BK307.out 0).trans rfl, (blk_cell BK307.out 1).trans rfl, (blk_cell BK307.out 2).trans rfl, (blk_cell BK307.out 3).trans rfl, (blk_cell BK314.out 0).trans rfl, (blk_cell BK314.out 1).trans rfl, (blk_cell BK314.out 2).trans rfl⟩ (fun hHeld => ?_)
               clear hK K
               refine norm_ (a' := ?_) ?_ ?_
               rotate_left
               · show Act.put _ (some 10) _ = _
                 simp only [Act.put, List.setIfInBounds_toArray, List.set_cons_zero, List.set_cons_succ, i64_w, i32_w]
                 rfl
               exact norm_ (by first | (simp only [putAll, Act.put, List.setIfInBounds_toArray, List.set_cons_zero, List.set_cons_succ]; done) | (simp only [putAll, Act.put, List.setIfInBounds_toArray, List.set_cons_zero, List.set_cons_succ]; rfl)) (hJ1_10_24 (v320, gb330) _ ⟨hHeld, (rp_ HO313.out), (by (with_reducible repeat (first | apply Kd.V_alloc | apply Kd.V_drewN | apply Kd.V_drew)); exact Kd.V_mono HO321.out (fun _ hk => ⟨hk.1.1, ⟨hk.1.2.1, ⟨hk.1.2.2, hk.2⟩⟩⟩)), (hp_ BK307.out), (hp_ BK308.out), (hp_ BK314.out), (hp_ BK330.out), GW330.out, GE330.out, NB307_330.out, NB330_307.out, NB308_330.out, NB330_308.out, NB314_330.out, NB330_314.out, bp_⟩)
         · skip
           rintro ⟨v320, gb330⟩ w30 ⟨hS_, h0_, h1_, h2_, h3_, h4_, h5_, h6_, h7_, h8_, h9_, h10_, h11_, h12_, h13_, h14_⟩
           replace HO313 : Aside0 (Kd.R (Kd.int .u64) 46 w30 w.heap.size (fun _ => True) (.slice Ao23 t311.length co23) t311) := ⟨h0_⟩
           have HO321 : Aside0 (Kd.V (Kd.int .u64) 46 w30 w.heap.size (fun k_ => k_ ≠ gb307 ∧ k_ ≠ gb308 ∧ k_ ≠ gb314 ∧ k_ ≠ gb330) v320 t319) := ⟨h1_⟩
           replace BK307 : Aside0 (w30.heap[gb307]? = some (.cells #[.int .i64 a1_0, .int .i64 a1_1, .int .i64 a1_2, .int .i64 a1_3] 25 (0, 0))) := ⟨h2_⟩
           replace BK308 : Aside0 (w30.heap[gb308]? = some (.cells #[.int .i64 a2_0, .int .i64 a2_1, .int .i64 a2_2, .int .i64 a2_3] 25 (0, 0))) := ⟨h3_⟩
           replace BK314 : Aside0 (w30.heap[gb314]? = some (.cells #[.int .i64 t309, .int .i64 t310, .slice Ao23 t311.length co23] 24 (0, 0))) := ⟨h4_⟩
           have BK330 : Aside0 (w30.heap[gb330]? = some (.cells #[.int .i64 0, .int .i64 0, .slice none 0 0] 32 (0, 0))) := ⟨h5_⟩
           have GW330 : Aside0 (w.heap.size ≤ gb330) := ⟨h6_⟩
           have GE330 : Aside0 (w.heap.size ≤ gb330) := ⟨h7_⟩
           have NB307_330 : Aside0 (gb307 ≠ gb330) := ⟨h8_⟩
           have NB330_307 : Aside0 (gb330 ≠ gb307) := ⟨h9_⟩
           have NB308_330 : Aside0 (gb308 ≠ gb330) := ⟨h10_⟩
           have NB330_308 : Aside0 (gb330 ≠ gb308) := ⟨h11_⟩
           have NB314_330 : Aside0 (gb314 ≠ gb330) := ⟨h12_⟩
           have NB330_314 : Aside0 (gb330 ≠ gb314) := ⟨h13_⟩
           replace HB : Aside0 (Below w.heap.size w w30) := ⟨h14_⟩
           clear h0_ h1_ h2_ h3_ h4_ h5_ h6_ h7_ h8_ h9_ h10_ h11_ h12_ h13_ h14_
           have hHeld : w30.cell? ⟨gb307, 0, none⟩ = some (.int .i64 a1_0) ∧ w30.cell? ⟨gb307, 1, none⟩ = some (.int .i64 a1_1) ∧ w30.cell? ⟨gb307, 2, none⟩ = some (.int .i64 a1_2) ∧ w30.cell? ⟨gb307, 3, none⟩ = some (.int .i64 a1_3) ∧ w30.cell? ⟨gb314, 0, none⟩ = some (.int .i64 t309) ∧ w30.cell? ⟨gb314, 1, none⟩ = some (.int .i64 t310) ∧ w30.cell? ⟨gb314, 2, none⟩ = some (.slice Ao23 t311.length co23) := hS_
           refine norm_ (a' := ?_) ?_ ?_
           rotate_left
           · simp only [putAll, Act.put, List.setIfInBounds_toArray, List.set_cons_zero, List.set_cons_succ]
             rfl
           refine one_ (i := 18) (N := some 51) #[true, true, true, true, true, true, true, true, true, true, true, true, true, true, true, true, true, true, true, false, false, false, false, false, true, false, false] rfl rfl (one_of HT_.out (by kernel_rfl)) (by decide) (fun K hK => ?_)
           refine goes_ Try.func11 (by kernel_rfl) rfl #[.int .i64 a1_3, .int .i64 (wrap64 (t310 - t316))] (by rfl) rfl rfl (by (try simp only [List.map_toArray, List.map_cons, List.map_nil]); first | done | rfl | (simp only [List.length_drop, List.length_take]; rfl)) ?_
           with_reducible refine (chequerref01_Around.calls a1_3 (wrap64 (t310 - t316)) t323 _ A9.out).mono ?_
           rintro e w' ⟨rfl, ⟨nd, rfl⟩⟩
           refine ⟨_, rfl, ?_⟩
           refine hK.out _ _ ⟨(blk_cell BK307.out 0).trans rfl, (blk_cell BK307.out 1).trans rfl, (blk_cell BK307.out 2).trans rfl, (blk_cell BK307.out 3).trans rfl, (blk_cell BK314.out 0).trans rfl, (blk_cell BK314.out 1).trans rfl, (blk_cell BK314.out 2).trans rfl⟩ (fun hHeld => ?_)
           clear hK K
           refine norm_ (a' := ?_) ?_ ?_
           rotate_left
           · show Act.put _ (some 51) _ = _
             simp only [Act.put, List.setIfInBounds_toArray, List.set_cons_zero, List.set_cons_succ, i64_w, i32_w]
             rfl
           refine pur_ (i := 19) (N := some 52) Fl83 (any_of HT_.out (by kernel_rfl)) ?_
           exact norm_ (by first | (simp only [putAll, Act.put, List.setIfInBounds_toArray, List.set_cons_zero, List.set_cons_succ]; done) | (simp only [putAll, Act.put, List.setIfInBounds_toArray, List.set_cons_zero, List.set_cons_succ]; rfl)) (hJ1_10_18_24 (v320, gb330) _ ⟨hHeld, (rp_ HO313.out), (vp_ HO321.out), (hp_ BK307.out), (hp_ BK308.out), (hp_ BK314.out), (hp_ BK330.out), GW330.out, GE330.out, NB307_330.out, NB330_307.out, NB308_330.out, NB330_308.out, NB314_330.out, NB330_314.out, bp_⟩)
       · skip
         rintro v320 w29 ⟨hS_, h0_, h1_, h2_, h3_, h4_, h5_⟩
         replace HO313 : Aside0 (Kd.R (Kd.int .u64) 46 w29 w.heap.size (fun _ => True) (.slice Ao23 t311.length co23) t311) := ⟨h0_⟩
         have HO321 : Aside0 (Kd.V (Kd.int .u64) 46 w29 w.heap.size (fun k_ => k_ ≠ gb307 ∧ k_ ≠ gb308 ∧ k_ ≠ gb314) v320 t319) := ⟨h1_⟩
         replace BK307 : Aside0 (w29.heap[gb307]? = some (.cells #[.int .i64 a1_0, .int .i64 a1_1, .int .i64 a1_2, .int .i64 a1_3] 25 (0, 0))) := ⟨h2_⟩
         replace BK308 : Aside0 (w29.heap[gb308]? = some (.cells #[.int .i64 a2_0, .int .i64 a2_1, .int .i64 a2_2, .int .i64 a2_3] 25 (0, 0))) := ⟨h3_⟩
         replace BK314 : Aside0 (w29.heap[gb314]? = some (.cells #[.int .i64 t309, .int .i64 t310, .slice Ao23 t311.length co23] 24 (0, 0))) := ⟨h4_⟩
         replace HB : Aside0 (Below w.heap.size w w29) := ⟨h5_⟩
         clear h0_ h1_ h2_ h3_ h4_ h5_
         have hHeld : w29.cell? ⟨gb307, 0, none⟩ = some (.int .i64 a1_0) ∧ w29.cell? ⟨gb307, 1, none⟩ = some (.int .i64 a1_1) ∧ w29.cell? ⟨gb307, 2, none⟩ = some (.int .i64 a1_2) ∧ w29.cell? ⟨gb307, 3, none⟩ = some (.int .i64 a1_3) ∧ w29.cell? ⟨gb314, 0, none⟩ = some (.int .i64 t309) ∧ w29.cell? ⟨gb314, 1, none⟩ = some (.int .i64 t310) ∧ w29.cell? ⟨gb314, 2, none⟩ = some (.slice Ao23 t311.length co23) := hS_
         obtain ⟨Ao30, co30, eo30⟩ := Kd.V_slice HO321.out
         (first | subst eo30 | (injection eo30 with f1_ f2_ f3_; have f4_ := f1_.symm; have f5_ := f3_.symm; clear f1_ f2_ f3_; subst f4_; subst f5_))
         refine norm_ (a' := ?_) ?_ ?_
         rotate_left
         · simp only [putAll, Act.put, List.setIfInBounds_toArray, List.set_cons_zero, List.set_cons_succ]
           rfl
         refine two_ (i := 20) (j := 24) (Ni := some 53) (Nj := some 10) #[true, true, true, true, true, true, true, true, true, true, true, true, true, true, true, true, true, true, true, true, true, false, false, false, false, false, false] Fl83 rfl rfl rfl rfl (two_of HT_.out (by kernel_rfl)) (by decide) (by decide) (fun K hK => ?_) (fun K hK => ?_)
         · skip
           refine goes_ Try.func21 (by kernel_rfl) rfl #[.agg #[.int .i64 t317, .int .i64 t318, .slice Ao30 t319.length co30], .int .i64 t315, .int .i64 t316, .int .i64 (wrap64 (1 + t322)), .int .i64 (wrap64 (1 + t323))] (by rfl) rfl rfl (by (try simp only [List.map_toArray, List.map_cons, List.map_nil]); first | done | rfl | (simp only [List.length_drop, List.length_take]; rfl)) ?_
           with_reducible refine (rect_Matrix_Sub.calls k t317 t318 _ _ t319 t315 t316 (wrap64 (1 + t322)) (wrap64 (1 + t323)) t324 t325 t326 t329 _ ?side1 ?side2 A10.out).mono ?_
           (case side1 => exact cp_ (Kd.V_reads' HO321.out).2.2)
           (case side2 => exact (Kd.V_reads' HO321.out).2.1)
           rintro e w31 ⟨v327, rfl, ho0, hb⟩
           refine ⟨_, rfl, ?_⟩
           replace HO321 := Aside0.mk (Kd.V_elder' (vp_ HO321.out) (Kd.R_base ho0) hb)
           have HO328 := Aside0.mk (Kd.R_lower (Kd.R_new' ho0 (Kd.R_lt (rp_ HO313.out))) (below_size bp_))
           replace HO313 := Aside0.mk (Kd.R_elder' (rp_ HO313.out) (Kd.R_base ho0) hb)
           replace BK307 := Aside0.mk (blk_below (hp_ BK307.out) hb)
           replace BK308 := Aside0.mk (blk_below (hp_ BK308.out) hb)
           replace BK314 := Aside0.mk (blk_below (hp_ BK314.out) hb)
           replace HB := Aside0.mk (below_step bp_ hb)
           (try clear hb)
           (try clear hb2)
           (try clear hk)
           (try clear hi)
           (try clear ho0)
           refine hK.out _ _ ⟨(blk_cell BK307.out 0).trans rfl, (blk_cell BK307.out 1).trans rfl, (blk_cell BK307.out 2).trans rfl, (blk_cell BK307.out 3).trans rfl, (blk_cell BK314.out 0).trans rfl, (blk_cell BK314.out 1).trans rfl, (blk_cell BK314.out 2).trans rfl⟩ (fun hHeld => ?_)
           clear hK K
           refine norm_ (a' := ?_) ?_ ?_
           rotate_left
           · show Act.put _ (some 53) _ = _
             simp only [Act.put, List.setIfInBounds_toArray, List.set_cons_zero, List.set_cons_succ, i64_w, i32_w]
             rfl
           refine pur_ (i := 21) (N := some 32) #[true, true, true, true, true, true, true, true, true, true, true, true, true, true, true, true, true, true, true, true, true, true, false, false, false, false, false] (any_of HT_.out (by kernel_rfl)) ?_
           refine pur_ (i := 22) (N := some 54) #[true, true, true, true, true, true, true, true, true, true, true, true, true, true, true, true, true, true, true, true, true, true, true, false, false, false, false] (any_of HT_.out (by kernel_rfl)) ?_
           refine pur_ (i := 23) (N := some 55) Fl97 (any_of HT_.out (by kernel_rfl)) ?_
           exact norm_ (by first | (simp only [putAll, Act.put, List.setIfInBounds_toArray, List.set_cons_zero, List.set_cons_succ]; done) | (simp only [putAll, Act.put, List.setIfInBounds_toArray, List.set_cons_zero, List.set_cons_succ]; rfl)) (hJ1_10_18_20 (.slice Ao30 t319.length co30, v327) _ ⟨hHeld, (by (with_reducible repeat (first | apply Kd.R_alloc | apply Kd.R_drewN | apply Kd.R_drew)); exact Kd.R_mono HO313.out (fun _ hk => hk.2)), (by (with_reducible repeat (first | apply Kd.V_alloc | apply Kd.V_drewN | apply Kd.V_drew)); exact Kd.V_mono HO321.out (fun _ hk => ⟨hk.2, ⟨hk.1.1, ⟨hk.1.2.1, hk.1.2.2⟩⟩⟩)), (by (with_reducible repeat (first | apply Kd.R_alloc | apply Kd.R_drewN | apply Kd.R_drew)); exact Kd.R_mono HO328.out (fun _ hk => hk.2)), (hp_ BK307.out), (hp_ BK308.out), (hp_ BK314.out), bp_⟩)
         · skip
           refine box_step ?hg (N := 10) ?hd (cs := #[.int .i64 0, .int .i64 0, .slice none 0 0]) (t := 32) ?hr ?_; (case hd => rfl); (case hg => rfl); (case hr => first | (go_simp; done) | (go_simp; rfl))
           intro gb330 hg w30 hbox hb
           replace HO313 := Aside0.mk (Kd.R_below (rp_ HO313.out) hb)
           replace HO321 := Aside0.mk (Kd.V_below (Kd.V_elderB (vp_ HO321.out) gb330 (Nat.le_of_eq hg.symm)) hb)
           have BK330 := Aside0.mk (hbox)
           have GW330 := Aside0.mk ((by rw [hg]; exact (below_size bp_) : w.heap.size ≤ gb330))
           have GE330 := Aside0.mk ((by rw [hg]; exact (below_size bp_) : w.heap.size ≤ gb330))
           replace HB := Aside0.mk (below_step bp_ hb)
           have NB307_330 := Aside0.mk ((nlt_ hg (hp_ BK307.out)))
           have NB330_307 := Aside0.mk ((ngt_ hg (hp_ BK307.out)))
           replace BK307 := Aside0.mk (blk_below (hp_ BK307.out) hb)
           have NB308_330 := Aside0.mk ((nlt_ hg (hp_ BK308.out)))
           have NB330_308 := Aside0.mk ((ngt_ hg (hp_ BK308.out)))
           replace BK308 := Aside0.mk (blk_below (hp_ BK308.out) hb)
           have NB314_330 := Aside0.mk ((nlt_ hg (hp_ BK314.out)))
           have NB330_314 := Aside0.mk ((ngt_ hg (hp_ BK314.out)))
           replace BK314 := Aside0.mk (blk_below (hp_ BK314.out) hb)
           clear hb hbox hg
           refine hK.out _ _ ⟨(blk_cell BK307.out 0).trans rfl, (blk_cell BK307.out 1).trans rfl, (blk_cell BK307.out 2).trans rfl, (blk_cell BK307.out 3).trans rfl, (blk_cell BK314.out 0).trans rfl, (blk_cell BK314.out 1).trans rfl, (blk_cell BK314.out 2).trans rfl⟩ (fun hHeld => ?_)
           clear hK K
           refine norm_ (a' := ?_) ?_ ?_
           rotate_left
           · show Act.put _ (some 10) _ = _
             simp only [Act.put, List.setIfInBounds_toArray, List.set_cons_zero, List.set_cons_succ, i64_w, i32_w]
             rfl
           exact norm_ (by first | (simp only [putAll, Act.put, List.setIfInBounds_toArray, List.set_cons_zero, List.set_cons_succ]; done) | (simp only [putAll, Act.put, List.setIfInBounds_toArray, List.set_cons_zero, List.set_cons_succ]; rfl)) (hJ1_10_18_24 ((.slice Ao30 t319.length co30), gb330) _ ⟨hHeld, (rp_ HO313.out), (by (with_reducible repeat (first | apply Kd.V_alloc | apply Kd.V_drewN | apply Kd.V_drew)); exact Kd.V_mono HO321.out (fun _ hk => ⟨hk.1.1, ⟨hk.1.2.1, ⟨hk.1.2.2, hk.2⟩⟩⟩)), (hp_ BK307.out), (hp_ BK308.out), (hp_ BK314.out), (hp_ BK330.out), GW330.out, GE330.out, NB307_330.out, NB330_307.out, NB308_330.out, NB330_308.out, NB314_330.out, NB330_314.out, bp_⟩)
     · skip
       rintro ⟨v320, gb330⟩ w30 ⟨hS_, h0_, h1_, h2_, h3_, h4_, h5_, h6_, h7_, h8_, h9_, h10_, h11_, h12_, h13_, h14_⟩
       replace HO313 : Aside0 (Kd.R (Kd.int .u64) 46 w30 w.heap.size (fun _ => True) (.slice Ao23 t311.length co23) t311) := ⟨h0_⟩
       have HO321 : Aside0 (Kd.V (Kd.int .u64) 46 w30 w.heap.size (fun k_ => k_ ≠ gb307 ∧ k_ ≠ gb308 ∧ k_ ≠ gb314 ∧ k_ ≠ gb330) v320 t319) := ⟨h1_⟩
       replace BK307 : Aside0 (w30.heap[gb307]? = some (.cells #[.int .i64 a1_0, .int .i64 a1_1, .int .i64 a1_2, .int .i64 a1_3] 25 (0, 0))) := ⟨h2_⟩
       replace BK308 : Aside0 (w30.heap[gb308]? = some (.cells #[.int .i64 a2_0, .int .i64 a2_1, .int .i64 a2_2, .int .i64 a2_3] 25 (0, 0))) := ⟨h3_⟩
       replace BK314 : Aside0 (w30.heap[gb314]? = some (.cells #[.int .i64 t309, .int .i64 t310, .slice Ao23 t311.length co23] 24 (0, 0))) := ⟨h4_⟩
       have BK330 : Aside0 (w30.heap[gb330]? = some (.cells #[.int .i64 0, .int .i64 0, .slice none 0 0] 32 (0, 0))) := ⟨h5_⟩
       have GW330 : Aside0 (w.heap.size ≤ gb330) := ⟨h6_⟩
       have GE330 : Aside0 (w.heap.size ≤ gb330) := ⟨h7_⟩
       have NB307_330 : Aside0 (gb307 ≠ gb330) := ⟨h8_⟩
       have NB330_307 : Aside0 (gb330 ≠ gb307) := ⟨h9_⟩
       have NB308_330 : Aside0 (gb308 ≠ gb330) := ⟨h10_⟩
       have NB330_308 : Aside0 (gb330 ≠ gb308) := ⟨h11_⟩
       have NB314_330 : Aside0 (gb314 ≠ gb330) := ⟨h12_⟩
       have NB330_314 : Aside0 (gb330 ≠ gb314) := ⟨h13_⟩
       replace HB : Aside0 (Below w.heap.size w w30) := ⟨h14_⟩
       clear h0_ h1_ h2_ h3_ h4_ h5_ h6_ h7_ h8_ h9_ h10_ h11_ h12_ h13_ h14_
       have hHeld : w30.cell? ⟨gb307, 0, none⟩ = some (.int .i64 a1_0) ∧ w30.cell? ⟨gb307, 1, none⟩ = some (.int .i64 a1_1) ∧ w30.cell? ⟨gb307, 2, none⟩ = some (.int .i64 a1_2) ∧ w30.cell? ⟨gb307, 3, none⟩ = some (.int .i64 a1_3) ∧ w30.cell? ⟨gb314, 0, none⟩ = some (.int .i64 t309) ∧ w30.cell? ⟨gb314, 1, none⟩ = some (.int .i64 t310) ∧ w30.cell? ⟨gb314, 2, none⟩ = some (.slice Ao23 t311.length co23) := hS_
       obtain ⟨Ao31, co31, eo31⟩ := Kd.V_slice HO321.out
       (first | subst eo31 | (injection eo31 with f1_ f2_ f3_; have f4_ := f1_.symm; have f5_ := f3_.symm; clear f1_ f2_ f3_; subst f4_; subst f5_))
       refine norm_ (a' := ?_) ?_ ?_
       rotate_left
       · simp only [putAll, Act.put, List.setIfInBounds_toArray, List.set_cons_zero, List.set_cons_succ]
         rfl
       refine one_ (i := 20) (N := some 53) #[true, true, true, true, true, true, true, true, true, true, true, true, true, true, true, true, true, true, true, true, true, false, false, false, true, false, false] rfl rfl (one_of HT_.out (by kernel_rfl)) (by decide) (fun K hK => ?_)
       refine goes_ Try.func21 (by kernel_rfl) rfl #[.agg #[.int .i64 t317, .int .i64 t318, .slice Ao31 t319.length co31], .int .i64 t315, .int .i64 t316, .int .i64 (wrap64 (1 + t322)), .int .i64 (wrap64 (1 + t323))] (by rfl) rfl rfl (by (try simp only [List.map_toArray, List.map_cons, List.map_nil]); first | done | rfl | (simp only [List.length_drop, List.length_take]; rfl)) ?_
       with_reducible refine (rect_Matrix_Sub.calls k t317 t318 _ _ t319 t315 t316 (wrap64 (1 + t322)) (wrap64 (1 + t323)) t324 t325 t326 t329 _ ?side1 ?side2 A10.out).mono ?_
       (case side1 => exact cp_ (Kd.V_reads' HO321.out).2.2)
       (case side2 => exact (Kd.V_reads' HO321.out).2.1)
       rintro e w32 ⟨v327, rfl, ho0, hb⟩
       refine ⟨_, rfl, ?_⟩
       replace HO321 := Aside0.mk (Kd.V_elder' (vp_ HO321.out) (Kd.R_base ho0) hb)
       have HO328 := Aside0.mk (Kd.R_lower (Kd.R_new' ho0 (Kd.R_lt (rp_ HO313.out))) (below_size bp_))
       replace HO313 := Aside0.mk (Kd.R_elder' (rp_ HO313.out) (Kd.R_base ho0) hb)
       replace BK307 := Aside0.mk (blk_below (hp_ BK307.out) hb)
       replace BK308 := Aside0.mk (blk_below (hp_ BK308.out) hb)
       replace BK314 := Aside0.mk (blk_below (hp_ BK314.out) hb)
       replace BK330 := Aside0.mk (blk_below (hp_ BK330.out) hb)
       replace HB := Aside0.mk (below_step bp_ hb)
       (try clear hb)
       (try clear hb2)
       (try clear hk)
       (try clear hi)
       (try clear ho0)
       refine hK.out _ _ ⟨(blk_cell BK307.out 0).trans rfl, (blk_cell BK307.out 1).trans rfl, (blk_cell BK307.out 2).trans rfl, (blk_cell BK307.out 3).trans rfl, (blk_cell BK314.out 0).trans rfl, (blk_cell BK314.out 1).trans rfl, (blk_cell BK314.out 2).trans rfl⟩ (fun hHeld => ?_)
       clear hK K
       refine norm_ (a' := ?_) ?_ ?_
       rotate_left
       · show Act.put _ (some 53) _ = _
         simp only [Act.put, List.setIfInBounds_toArray, List.set_cons_zero, List.set_cons_succ, i64_w, i32_w]
         rfl
       refine pur_ (i := 21) (N := some 32) #[true, true, true, true, true, true, true, true, true, true, true, true, true, true, true, true, true, true, true, true, true, true, false, false, true, false, false] (any_of HT_.out (by kernel_rfl)) ?_
       refine pur_ (i := 22) (N := some 54) #[true, true, true, true, true, true, true, true, true, true, true, true, true, true, true, true, true, true, true, true, true, true, true, false, true, false, false] (any_of HT_.out (by kernel_rfl)) ?_
       refine pur_ (i := 23) (N := some 55) Fl84 (any_of HT_.out (by kernel_rfl)) ?_
       exact norm_ (by first | (simp only [putAll, Act.put, List.setIfInBounds_toArray, List.set_cons_zero, List.set_cons_succ]; done) | (simp only [putAll, Act.put, List.setIfInBounds_toArray, List.set_cons_zero, List.set_cons_succ]; rfl)) (hJ1_10_18_20_24 (.slice Ao31 t319.length co31, v327, gb330) _ ⟨hHeld, (by (with_reducible repeat (first | apply Kd.R_alloc | apply Kd.R_drewN | apply Kd.R_drew)); exact Kd.R_mono HO313.out (fun _ hk => hk.2)), (by (with_reducible repeat (first | apply Kd.V_alloc | apply Kd.V_drewN | apply Kd.V_drew)); exact Kd.V_mono HO321.out (fun _ hk => ⟨hk.2, ⟨hk.1.1, ⟨hk.1.2.1, ⟨hk.1.2.2.1, hk.1.2.2.2⟩⟩⟩⟩)), (by (with_reducible repeat (first | apply Kd.R_alloc | apply Kd.R_drewN | apply Kd.R_drew)); exact Kd.R_mono HO328.out (fun _ hk => hk.2)), (hp_ BK307.out), (hp_ BK308.out), (hp_ BK314.out), (hp_ BK330.out), GW330.out, GE330.out, NB307_330.out, NB330_307.out, NB308_330.out, NB330_308.out, NB314_330.out, NB330_314.out, bp_⟩)
   · skip
     rintro ⟨v320, v327⟩ w31 ⟨hS_, h0_, h1_, h2_, h3_, h4_, h5_, h6_⟩
     replace HO313 : Aside0 (Kd.R (Kd.int .u64) 46 w31 w.heap.size (fun k_ => some k_ ≠ (v327 : Value).ownBlock) (.slice Ao23 t311.length co23) t311) := ⟨h0_⟩
     have HO321 : Aside0 (Kd.V (Kd.int .u64) 46 w31 w.heap.size (fun k_ => some k_ ≠ (v327 : Value).ownBlock ∧ k_ ≠ gb307 ∧ k_ ≠ gb308 ∧ k_ ≠ gb314) v320 t319) := ⟨h1_⟩
     have HO328 : Aside0 (Kd.R (Kd.int .u64) 46 w31 w.heap.size (fun k_ => some k_ ≠ (.slice Ao23 t311.length co23 : Value).ownBlock) v327 t326) := ⟨h2_⟩
     replace BK307 : Aside0 (w31.heap[gb307]? = some (.cells #[.int .i64 a1_0, .int .i64 a1_1, .int .i64 a1_2, .int .i64 a1_3] 25 (0, 0))) := ⟨h3_⟩
     replace BK308 : Aside0 (w31.heap[gb308]? = some (.cells #[.int .i64 a2_0, .int .i64 a2_1, .int .i64 a2_2, .int .i64 a2_3] 25 (0, 0))) := ⟨h4_⟩
     replace BK314 : Aside0 (w31.heap[gb314]? = some (.cells #[.int .i64 t309, .int .i64 t310, .slice Ao23 t311.length co23] 24 (0, 0))) := ⟨h5_⟩
     replace HB : Aside0 (Below w.heap.size w w31) := ⟨h6_⟩
     clear h0_ h1_ h2_ h3_ h4_ h5_ h6_
     have hHeld : w31.cell? ⟨gb307, 0, none⟩ = some (.int .i64 a1_0) ∧ w31.cell? ⟨gb307, 1, none⟩ = some (.int .i64 a1_1) ∧ w31.cell? ⟨gb307, 2, none⟩ = some (.int .i64 a1_2) ∧ w31.cell? ⟨gb307, 3, none⟩ = some (.int .i64 a1_3) ∧ w31.cell? ⟨gb314, 0, none⟩ = some (.int .i64 t309) ∧ w31.cell? ⟨gb314, 1, none⟩ = some (.int .i64 t310) ∧ w31.cell? ⟨gb314, 2, none⟩ = some (.slice Ao23 t311.length co23) := hS_
     refine norm_ (a' := ?_) ?_ ?_
     rotate_left
     · simp only [putAll, Act.put, List.setIfInBounds_toArray, List.set_cons_zero, List.set_cons_succ]
       rfl
     refine one_ (i := 24) (N := some 10) Fl84 rfl rfl (one_of HT_.out (by kernel_rfl)) (by decide) (fun K hK => ?_)
     refine box_step ?hg (N := 10) ?hd (cs := #[.int .i64 0, .int .i64 0, .slice none 0 0]) (t := 32) ?hr ?_; (case hd => rfl); (case hg => rfl); (case hr => first | (go_simp; done) | (go_simp; rfl))
     intro gb330 hg w32 hbox hb
     replace HO313 := Aside0.mk (Kd.R_below (rp_ HO313.out) hb)
     replace HO321 := Aside0.mk (Kd.V_below (Kd.V_elderB (vp_ HO321.out) gb330 (Nat.le_of_eq hg.symm)) hb)
     replace HO328 := Aside0.mk (Kd.R_below (rp_ HO328.out) hb)
     have BK330 := Aside0.mk (hbox)
     have GW330 := Aside0.mk ((by rw [hg]; exact (below_size bp_) : w.heap.size ≤ gb330))
     have GE330 := Aside0.mk ((by rw [hg]; exact (below_size bp_) : w.heap.size ≤ gb330))
     replace HB := Aside0.mk (below_step bp_ hb)
     have NB307_330 := Aside0.mk ((nlt_ hg (hp_ BK307.out)))
     have NB330_307 := Aside0.mk ((ngt_ hg (hp_ BK307.out)))
     replace BK307 := Aside0.mk (blk_below (hp_ BK307.out) hb)
     have NB308_330 := Aside0.mk ((nlt_ hg (hp_ BK308.out)))
     have NB330_308 := Aside0.mk ((ngt_ hg (hp_ BK308.out)))
     replace BK308 := Aside0.mk (blk_below (hp_ BK308.out) hb)
     have NB314_330 := Aside0.mk ((nlt_ hg (hp_ BK314.out)))
     have NB330_314 := Aside0.mk ((ngt_ hg (hp_ BK314.out)))
     replace BK314 := Aside0.mk (blk_below (hp_ BK314.out) hb)
     clear hb hbox hg
     refine hK.out _ _ ⟨(blk_cell BK307.out 0).trans rfl, (blk_cell BK307.out 1).trans rfl, (blk_cell BK307.out 2).trans rfl, (blk_cell BK307.out 3).trans rfl, (blk_cell BK314.out 0).trans rfl, (blk_cell BK314.out 1).trans rfl, (blk_cell BK314.out 2).trans rfl⟩ (fun hHeld => ?_)
     clear hK K
     refine norm_ (a' := ?_) ?_ ?_
     rotate_left
     · show Act.put _ (some 10) _ = _
       simp only [Act.put, List.setIfInBounds_toArray, List.set_cons_zero, List.set_cons_succ, i64_w, i32_w]
       rfl
     exact norm_ (by first | (simp only [putAll, Act.put, List.setIfInBounds_toArray, List.set_cons_zero, List.set_cons_succ]; done) | (simp only [putAll, Act.put, List.setIfInBounds_toArray, List.set_cons_zero, List.set_cons_succ]; rfl)) (hJ1_10_18_20_24 (v320, v327, gb330) _ ⟨hHeld, (rp_ HO313.out), (by (with_reducible repeat (first | apply Kd.V_alloc | apply Kd.V_drewN | apply Kd.V_drew)); exact Kd.V_mono HO321.out (fun _ hk => ⟨hk.1.1, ⟨hk.1.2.1, ⟨hk.1.2.2.1, ⟨hk.1.2.2.2, hk.2⟩⟩⟩⟩)), (rp_ HO328.out), (hp_ BK307.out), (hp_ BK308.out), (hp_ BK314.out), (hp_ BK330.out), GW330.out, GE330.out, NB307_330.out, NB330_307.out, NB308_330.out, NB330_308.out, NB314_330.out, NB330_314.out, bp_⟩)
 rintro ⟨v320, v327, gb330⟩ w32 ⟨hS_, h0_, h1_, h2_, h3_, h4_, h5_, h6_, h7_, h8_, h9_, h10_, h11_, h12_, h13_, h14_, h15_⟩
 replace HO313 : Aside0 (Kd.R (Kd.int .u64) 46 w32 w.heap.size (fun k_ => some k_ ≠ (v327 : Value).ownBlock) (.slice Ao23 t311.length co23) t311) := ⟨h0_⟩
 have HO321 : Aside0 (Kd.V (Kd.int .u64) 46 w32 w.heap.size (fun k_ => some k_ ≠ (v327 : Value).ownBlock ∧ k_ ≠ gb307 ∧ k_ ≠ gb308 ∧ k_ ≠ gb314 ∧ k_ ≠ gb330) v320 t319) := ⟨h1_⟩
 have HO328 : Aside0 (Kd.R (Kd.int .u64) 46 w32 w.heap.size (fun k_ => some k_ ≠ (.slice Ao23 t311.length co23 : Value).ownBlock) v327 t326) := ⟨h2_⟩
 replace BK307 : Aside0 (w32.heap[gb307]? = some (.cells #[.int .i64 a1_0, .int .i64 a1_1, .int .i64 a1_2, .int .i64 a1_3] 25 (0, 0))) := ⟨h3_⟩
 replace BK308 : Aside0 (w32.heap[gb308]? = some (.cells #[.int .i64 a2_0, .int .i64 a2_1, .int .i64 a2_2, .int .i64 a2_3] 25 (0, 0))) := ⟨h4_⟩
 replace BK314 : Aside0 (w32.heap[gb314]? = some (.cells #[.int .i64 t309, .int .i64 t310, .slice Ao23 t311.length co23] 24 (0, 0))) := ⟨h5_⟩
 have BK330 : Aside0 (w32.heap[gb330]? = some (.cells #[.int .i64 0, .int .i64 0, .slice none 0 0] 32 (0, 0))) := ⟨h6_⟩
 have GW330 : Aside0 (w.heap.size ≤ gb330) := ⟨h7_⟩
 have GE330 : Aside0 (w.heap.size ≤ gb330) := ⟨h8_⟩
 have NB307_330 : Aside0 (gb307 ≠ gb330) := ⟨h9_⟩
 have NB330_307 : Aside0 (gb330 ≠ gb307) := ⟨h10_⟩
 have NB308_330 : Aside0 (gb308 ≠ gb330) := ⟨h11_⟩
 have NB330_308 : Aside0 (gb330 ≠ gb308) := ⟨h12_⟩
 have NB314_330 : Aside0 (gb314 ≠ gb330) := ⟨h13_⟩
 have NB330_314 : Aside0 (gb330 ≠ gb314) := ⟨h14_⟩
 replace HB : Aside0 (Below w.heap.size w w32) := ⟨h15_⟩
 clear h0_ h1_ h2_ h3_ h4_ h5_ h6_ h7_ h8_ h9_ h10_ h11_ h12_ h13_ h14_ h15_
 have hHeld : w32.cell? ⟨gb307, 0, none⟩ = some (.int .i64 a1_0) ∧ w32.cell? ⟨gb307, 1, none⟩ = some (.int .i64 a1_1) ∧ w32.cell? ⟨gb307, 2, none⟩ = some (.int .i64 a1_2) ∧ w32.cell? ⟨gb307, 3, none⟩ = some (.int .i64 a1_3) ∧ w32.cell? ⟨gb314, 0, none⟩ = some (.int .i64 t309) ∧ w32.cell? ⟨gb314, 1, none⟩ = some (.int .i64 t310) ∧ w32.cell? ⟨gb314, 2, none⟩ = some (.slice Ao23 t311.length co23) := hS_
 obtain ⟨Ao35, co35, eo35⟩ := Kd.R_slice HO328.out
 (first | subst eo35 | (injection eo35 with f1_ f2_ f3_; have f4_ := f1_.symm; have f5_ := f3_.symm; clear f1_ f2_ f3_; subst f4_; subst f5_))
 refine norm_ (a' := ?_) ?_ ?_
 rotate_left
 · simp only [putAll, Act.put, List.setIfInBounds_toArray, List.set_cons_zero, List.set_cons_succ]
   rfl
 refine one_ (i := 25) (N := none) #[true, true, true, true, true, true, true, true, true, true, true, true, true, true, true, true, true, true, true, true, true, true, true, true, true, true, false] rfl rfl (one_of HT_.out (by kernel_rfl)) (by decide) (fun K hK => ?_)
 have hs33 : w32.cell? ⟨gb330, 0, none⟩ = some (.int .i64 0) := (blk_cell BK330.out 0).trans rfl
 have hfs33 := blk_frozen BK330.out 0
 have hns33_0 := NB307_330.out
 have hns33_1 := NB308_330.out
 have hns33_2 := NB314_330.out
 have hms33_0 := NB330_307.out
 have hms33_1 := NB330_308.out
 have hms33_2 := NB330_314.out
 have hs34 : w32.cell? ⟨gb330, 1, none⟩ = some (.int .i64 0) := (blk_cell BK330.out 1).trans rfl
 have hfs34 := blk_frozen BK330.out 1
 have hns34_0 := NB307_330.out
 have hns34_1 := NB308_330.out
 have hns34_2 := NB314_330.out
 have hms34_0 := NB330_307.out
 have hms34_1 := NB330_308.out
 have hms34_2 := NB330_314.out
 have hs36 : w32.cell? ⟨gb330, 2, none⟩ = some (.slice none 0 0) := (blk_cell BK330.out 2).trans rfl
 have hfs36 := blk_frozen BK330.out 2
 have hns36_0 := NB307_330.out
 have hns36_1 := NB308_330.out
 have hns36_2 := NB314_330.out
 have hms36_0 := NB330_307.out
 have hms36_1 := NB330_308.out
 have hms36_2 := NB330_314.out
 refine skip_ (w1 := ?_) (by rfl) rfl ?_ ?_
 rotate_left
 · go_simp
   rfl
 refine hK.out _ _ ⟨((cell_far (p := ⟨gb330, _, none⟩) NB307_330.out _).trans (((cell_far (p := ⟨gb330, _, none⟩) NB307_330.out _).trans (((cell_far (p := ⟨gb330, _, none⟩) NB307_330.out _).trans (hHeld.1)))))), ((cell_far (p := ⟨gb330, _, none⟩) NB307_330.out _).trans (((cell_far (p := ⟨gb330, _, none⟩) NB307_330.out _).trans (((cell_far (p := ⟨gb330, _, none⟩) NB307_330.out _).trans (hHeld.2.1)))))), ((cell_far (p := ⟨gb330, _, none⟩) NB307_330.out _).trans (((cell_far (p := ⟨gb330, _, none⟩) NB307_330.out _).trans (((cell_far (p := ⟨gb330, _, none⟩) NB307_330.out _).trans (hHeld.2.2.1)))))), ((cell_far (p := ⟨gb330, _, none⟩) NB307_330.out _).trans (((cell_far (p := ⟨gb330, _, none⟩) NB307_330.out _).trans (((cell_far (p := ⟨gb330, _, none⟩) NB307_330.out _).trans (hHeld.2.2.2.1)))))), ((cell_far (p := ⟨gb330, _, none⟩) NB314_330.out _).trans (((cell_far (p := ⟨gb330, _, none⟩) NB314_330.out _).trans (((cell_far (p := ⟨gb330, _, none⟩) NB314_330.out _).trans (hHeld.2.2.2.2.1)))))), ((cell_far (p := ⟨gb330, _, none⟩) NB314_330.out _).trans (((cell_far (p := ⟨gb330, _, none⟩) NB314_330.out _).trans (((cell_far (p := ⟨gb330, _, none⟩) NB314_330.out _).trans (hHeld.2.2.2.2.2.1)))))), ((cell_far (p := ⟨gb330, _, none⟩) NB314_330.out _).trans (((cell_far (p := ⟨gb330, _, none⟩) NB314_330.out _).trans (((cell_far (p := ⟨gb330, _, none⟩) NB314_330.out _).trans (hHeld.2.2.2.2.2.2))))))⟩ (fun hHeld => ?_)
 clear hK K
 refine pur_ (i := 26) (N := some 11) #[true, true, true, true, true, true, true, true, true, true, true, true, true, true, true, true, true, true, true, true, true, true, true, true, true, true, true] (any_of HT_.out (by kernel_rfl)) ?_
 refine done_ (done_of HT_.out (by kernel_rfl)) ?_
 go_upto_region 5 with (fail)
 go_cut [62] (fun v62 wc => ∃ (kq : Nat) (x62_10 : Bool), v62 = .bool x62_10 ∧ Aside0 (chequerlaw03_RectSubs.j0 kq t315 t316 x62_10 a2_0 a2_1 a2_2 a2_3 t309 t310 t311 t324 t325 t326 = some r) ∧ Aside0 (kq ≤ k) ∧ Aside0 (Kd.R (Kd.int .u64) 46 wc w.heap.size (fun k_ => some k_ ≠ ((.slice Ao35 t326.length co35) : Value).ownBlock) (.slice Ao23 t311.length co23) t311) ∧ Aside0 (Kd.R (Kd.int .u64) 46 wc w.heap.size (fun k_ => some k_ ≠ ((.slice Ao23 t311.length co23) : Value).ownBlock) (.slice Ao35 t326.length co35) t326) ∧ Aside0 (wc.heap[gb307]? = some (.cells #[.int .i64 a1_0, .int .i64 a1_1, .int .i64 a1_2, .int .i64 a1_3] 25 (0, 0))) ∧ Aside0 (wc.heap[gb308]? = some (.cells #[.int .i64 a2_0, .int .i64 a2_1, .int .i64 a2_2, .int .i64 a2_3] 25 (0, 0))) ∧ Aside0 (wc.heap[gb314]? = some (.cells #[.int .i64 t309, .int .i64 t310, (.slice Ao23 t311.length co23)] 24 (0, 0))) ∧ Aside0 (wc.heap[gb330]? = some (.cells #[.int .i64 t324, .int .i64 t325, (.slice Ao35 t326.length co35)] 32 (0, 0))) ∧ Aside0 (Below w.heap.size w wc))
 case first =>
  have H := HC11.out
  clear HC11
  by_cases c37 : t329 = true
  · subst c37
    have H1 : ((rect_May.f t324 t325 t326).bind fun t331 => (chequerlaw03_RectSubs.j0 k t315 t316 (!t331) a2_0 a2_1 a2_2 a2_3 t309 t310 t311 t324 t325 t326)) = some r := by rw [if_pos rfl] at H; exact H
    clear H
    have H := H1
    clear H1
    replace H := Option.bind_eq_some_iff.mp H
    obtain ⟨t331, A380, H⟩ := H
    replace H : (chequerlaw03_RectSubs.j0 k t315 t316 (!t331) a2_0 a2_1 a2_2 a2_3 t309 t310 t311 t324 t325 t326) = some r := H
    have A38 := Aside0.mk A380
    clear A380
    have H' := Aside0.mk H
    clear H
    have hnb39 := NB330_307.out
    have hnc39 := NB307_330.out
    have hnb40 := NB330_308.out
    have hnc40 := NB308_330.out
    have hnb41 := NB330_314.out
    have hnc41 := NB314_330.out
    have hcz42_0 : w32.cell? ⟨gb330, 0, none⟩ = some (.int .i64 0) := (blk_cell BK330.out 0).trans rfl
    have hcz42_1 : w32.cell? ⟨gb330, 1, none⟩ = some (.int .i64 0) := (blk_cell BK330.out 1).trans rfl
    have hcz42_2 : w32.cell? ⟨gb330, 2, none⟩ = some (.slice none 0 0) := (blk_cell BK330.out 2).trans rfl
    have hfz42_0 := blk_frozen BK330.out 0
    have hfz42_1 := blk_frozen BK330.out 1
    have hfz42_2 := blk_frozen BK330.out 2
    go_wp2_with (first | (go_at_call 19; (with_reducible refine (rect_May.calls t324 t325 _ _ t326 t331 _ ?side1 ?side2 A38.out).mono ?_); (case side1 => refine (Kd.R_reads' (e := 46) (base := w.heap.size) (ok := fun k_ => some k_ ≠ (.slice Ao23 t311.length co23 : Value).ownBlock) (n := t326.length) (c := co35) ?_).2.2; exact (by (with_reducible repeat (first | apply Kd.R_alloc | apply Kd.R_drewN | apply Kd.R_drew)); exact (Kd.R_mono (Kd.R_far (p := ⟨gb330, 2, none⟩) (Kd.R_far (p := ⟨gb330, 1, none⟩) (Kd.R_far (p := ⟨gb330, 0, none⟩) (Kd.R_types HO328.out BK330.out (by decide)) (fun _ hk => hk.2) (.int .i64 t324)) (fun _ hk => hk.2) (.int .i64 t325)) (fun _ hk => hk.2) (.slice Ao35 t326.length co35)) (fun _ h_ => h_.1)))); (case side2 => exact (Kd.R_reads' HO328.out).2.1); rintro e w43 ⟨rfl, hb⟩; replace HO313 := Aside0.mk (Kd.R_below (by (with_reducible repeat (first | apply Kd.R_alloc | apply Kd.R_drewN | apply Kd.R_drew)); exact (Kd.R_mono (Kd.R_far (p := ⟨gb330, 2, none⟩) (Kd.R_far (p := ⟨gb330, 1, none⟩) (Kd.R_far (p := ⟨gb330, 0, none⟩) (Kd.R_types HO313.out BK330.out (by decide)) (fun _ hk => hk.2) (.int .i64 t324)) (fun _ hk => hk.2) (.int .i64 t325)) (fun _ hk => hk.2) (.slice Ao35 t326.length co35)) (fun _ h_ => h_.1))) hb); replace HO321 := Aside0.mk (Kd.V_below (by (with_reducible repeat (first | apply Kd.V_alloc | apply Kd.V_drewN | apply Kd.V_drew)); exact (Kd.V_mono (Kd.V_far (p := ⟨gb330, 2, none⟩) (Kd.V_far (p := ⟨gb330, 1, none⟩) (Kd.V_far (p := ⟨gb330, 0, none⟩) (Kd.V_mono HO321.out (fun k_ hk => (⟨hk, hk.2.2.2.2⟩ : _ ∧ k_ ≠ gb330))) (fun _ hk => hk.2) (.int .i64 t324)) (fun _ hk => hk.2) (.int .i64 t325)) (fun _ hk => hk.2) (.slice Ao35 t326.length co35)) (fun _ h_ => h_.1))) hb); replace HO328 := Aside0.mk (Kd.R_below (by (with_reducible repeat (first | apply Kd.R_alloc | apply Kd.R_drewN | apply Kd.R_drew)); exact (Kd.R_mono (Kd.R_far (p := ⟨gb330, 2, none⟩) (Kd.R_far (p := ⟨gb330, 1, none⟩) (Kd.R_far (p := ⟨gb330, 0, none⟩) (Kd.R_types HO328.out BK330.out (by decide)) (fun _ hk => hk.2) (.int .i64 t324)) (fun _ hk => hk.2) (.int .i64 t325)) (fun _ hk => hk.2) (.slice Ao35 t326.length co35)) (fun _ h_ => h_.1))) hb); replace BK307 := Aside0.mk (blk_below (hf_ BK307.out NB307_330.out) hb); replace BK308 := Aside0.mk (blk_below (hf_ BK308.out NB308_330.out) hb); replace BK314 := Aside0.mk (blk_below (hf_ BK314.out NB314_330.out) hb); replace BK330 := Aside0.mk (blk_below (g := gb330) (o := .cells #[.int .i64 t324, .int .i64 t325, .slice Ao35 t326.length co35] 32 (0, 0)) (by (with_reducible repeat (first | refine blk_drewN ?_ _ | refine blk_drew ?_ | refine blk_alloc ?_ _)); refine blk_put (cs := #[.int .i64 t324, .int .i64 t325, .slice none 0 0]) ?_ 2 _ rfl; (with_reducible repeat (first | refine blk_drewN ?_ _ | refine blk_drew ?_ | refine blk_alloc ?_ _)); refine blk_put (cs := #[.int .i64 t324, .int .i64 0, .slice none 0 0]) ?_ 1 _ rfl; (with_reducible repeat (first | refine blk_drewN ?_ _ | refine blk_drew ?_ | refine blk_alloc ?_ _)); refine blk_put (cs := #[.int .i64 0, .int .i64 0, .slice none 0 0]) ?_ 0 _ rfl; (with_reducible repeat (first | refine blk_drewN ?_ _ | refine blk_drew ?_ | refine blk_alloc ?_ _)); exact BK330.out) hb); replace HB := Aside0.mk (below_step bp_ hb); (try clear hb); (try clear hb2); (try clear hk); (try clear hi)))
    go_meet
    case rel => exact ⟨_, (!t331), (by first | rfl | (simp; done) | (simp [*]; done)), H', ⟨by first | omega | exact Nat.le_refl _⟩, ⟨rp_ HO313.out⟩, ⟨rp_ HO328.out⟩, ⟨hp_ BK307.out⟩, ⟨hp_ BK308.out⟩, ⟨hp_ BK314.out⟩, ⟨hp_ BK330.out⟩, ⟨bp_⟩⟩
  · replace c37 := Bool.eq_false_iff.mpr c37
    subst c37
    have H1 : (chequerlaw03_RectSubs.j0 k t315 t316 true a2_0 a2_1 a2_2 a2_3 t309 t310 t311 t324 t325 t326) = some r := by rw [if_neg (show ¬ (false = true) by decide)] at H; exact H
    clear H
    have H := H1
    clear H1
    have H' := Aside0.mk H
    clear H
    go_wp2
    go_meet
    case rel => exact ⟨_, (true), (by first | rfl | (simp; done) | (simp [*]; done)), H', ⟨by first | omega | exact Nat.le_refl _⟩, ⟨rf_ HO313.out BK330.out (by decide) (fun _ hk => hk.1)⟩, ⟨rf_ HO328.out BK330.out (by decide) (fun _ hk => hk.1)⟩, ⟨hf_ BK307.out NB307_330.out⟩, ⟨hf_ BK308.out NB308_330.out⟩, ⟨hf_ BK314.out NB314_330.out⟩, ⟨by (with_reducible repeat (first | refine blk_drewN ?_ _ | refine blk_drew ?_ | refine blk_alloc ?_ _)); refine blk_put (cs := #[.int .i64 t324, .int .i64 t325, .slice none 0 0]) ?_ 2 _ rfl; (with_reducible repeat (first | refine blk_drewN ?_ _ | refine blk_drew ?_ | refine blk_alloc ?_ _)); refine blk_put (cs := #[.int .i64 t324, .int .i64 0, .slice none 0 0]) ?_ 1 _ rfl; (with_reducible repeat (first | refine blk_drewN ?_ _ | refine blk_drew ?_ | refine blk_alloc ?_ _)); refine blk_put (cs := #[.int .i64 0, .int .i64 0, .slice none 0 0]) ?_ 0 _ rfl; (with_reducible repeat (first | refine blk_drewN ?_ _ | refine blk_drew ?_ | refine blk_alloc ?_ _)); exact BK330.out⟩, ⟨bp_⟩⟩
 case rest =>
  clear HC11
  try clear c1
  try clear c2
  try clear p2
  try clear c3
  try clear c4
  try clear p6
  try clear c11
  try clear c21
  try clear c37
  try clear c39
  try clear c40
  try clear c41
  try clear hcz42_0
  try clear hcz42_1
  try clear hcz42_2
  try clear hfz42_0
  try clear hfz42_1
  try clear hfz42_2
  obtain ⟨kq, x62_10, rfl, HA, HJ10, HO_315002, HO_331002, BK307, BK308, BK314, BK330, HB⟩ := hcut
  cases kq with
  | zero => exact absurd HA.out (by simp [chequerlaw03_RectSubs.j0])
  | succ kj10 =>
   have H := HA.out
   clear HA
   simp only [chequerlaw03_RectSubs.j0] at H
   by_cases c44 : x62_10 = true
   · subst c44
     have H1 : (some false) = some r := by rw [if_pos rfl] at H; exact H
     clear H
     have H := H1
     clear H1
     obtain rfl := Option.some.inj H
     go_wp2
     go_ret
     exact ⟨by first | rfl | (simp [errW_none, errW_some] <;> rfl) | (simp [*, errW_none, errW_some] <;> rfl), bp_⟩
   · replace c44 := Bool.eq_false_iff.mpr c44
     subst c44
     have H1 : ((chequerref01_Around.f a2_0 t324).bind fun t332 => ((chequerref01_Around.f a2_1 t325).bind fun t333 => ((chequerref01_Around.f a2_2 (wrap64 (t324 - t332))).bind fun t334 => ((chequerref01_Around.f a2_3 (wrap64 (t325 - t333))).bind fun t335 => ((rect_Matrix_Sub.f kj10 t324 t325 t326 t332 t333 (wrap64 (1 + t334)) (wrap64 (1 + t335))).bind fun bt336 => ((chequerlaw03_of.f t309 t310 t311).bind fun bt343 => ((rect_Matrix_Sub.f kj10 bt343.1 bt343.2.1 bt343.2.2 (wrap64 (t315 + t332)) (wrap64 (t316 + t333)) (wrap64 (1 + t334)) (wrap64 (1 + t335))).bind fun bt348 => (if bt336.2.2.2 = true then (if bt348.2.2.2 = true then ((rect_Same.f kj10 bt336.1 bt336.2.1 bt336.2.2.1 bt348.1 bt348.2.1 bt348.2.2.1).bind fun t355 => (if t355 = true then ((chequerlaw03_of.f t309 t310 t311).bind fun bt356 => ((rect_Matrix_Has.f kj10 bt356.1 bt356.2.1 bt356.2.2 bt336.1 bt336.2.1 bt336.2.2.1 (wrap64 (t315 + t332)) (wrap64 (t316 + t333))).bind fun t361 => (if t361 = true then ((chequerlaw03_lives.f kj10).bind fun t362 => (some t362)) else (some false)))) else (some false))) else (some false)) else (some false))))))))) = some r := by rw [if_neg (show ¬ (false = true) by decide)] at H; exact H
     clear H
     have H := H1
     clear H1
     replace H := Option.bind_eq_some_iff.mp H
     obtain ⟨t332, A450, H⟩ := H
     replace H : ((chequerref01_Around.f a2_1 t325).bind fun t333 => ((chequerref01_Around.f a2_2 (wrap64 (t324 - t332))).bind fun t334 => ((chequerref01_Around.f a2_3 (wrap64 (t325 - t333))).bind fun t335 => ((rect_Matrix_Sub.f kj10 t324 t325 t326 t332 t333 (wrap64 (1 + t334)) (wrap64 (1 + t335))).bind fun bt336 => ((chequerlaw03_of.f t309 t310 t311).bind fun bt343 => ((rect_Matrix_Sub.f kj10 bt343.1 bt343.2.1 bt343.2.2 (wrap64 (t315 + t332)) (wrap64 (t316 + t333)) (wrap64 (1 + t334)) (wrap64 (1 + t335))).bind fun bt348 => (if bt336.2.2.2 = true then (if bt348.2.2.2 = true then ((rect_Same.f kj10 bt336.1 bt336.2.1 bt336.2.2.1 bt348.1 bt348.2.1 bt348.2.2.1).bind fun t355 => (if t355 = true then ((chequerlaw03_of.f t309 t310 t311).bind fun bt356 => ((rect_Matrix_Has.f kj10 bt356.1 bt356.2.1 bt356.2.2 bt336.1 bt336.2.1 bt336.2.2.1 (wrap64 (t315 + t332)) (wrap64 (t316 + t333))).bind fun t361 => (if t361 = true then ((chequerlaw03_lives.f kj10).bind fun t362 => (some t362)) else (some false)))) else (some false))) else (some false)) else (some false)))))))) = some r := H
     have A45 := Aside0.mk A450
     clear A450
     replace H := Option.bind_eq_some_iff.mp H
     obtain ⟨t333, A460, H⟩ := H
     replace H : ((chequerref01_Around.f a2_2 (wrap64 (t324 - t332))).bind fun t334 => ((chequerref01_Around.f a2_3 (wrap64 (t325 - t333))).bind fun t335 => ((rect_Matrix_Sub.f kj10 t324 t325 t326 t332 t333 (wrap64 (1 + t334)) (wrap64 (1 + t335))).bind fun bt336 => ((chequerlaw03_of.f t309 t310 t311).bind fun bt343 => ((rect_Matrix_Sub.f kj10 bt343.1 bt343.2.1 bt343.2.2 (wrap64 (t315 + t332)) (wrap64 (t316 + t333)) (wrap64 (1 + t334)) (wrap64 (1 + t335))).bind fun bt348 => (if bt336.2.2.2 = true then (if bt348.2.2.2 = true then ((rect_Same.f kj10 bt336.1 bt336.2.1 bt336.2.2.1 bt348.1 bt348.2.1 bt348.2.2.1).bind fun t355 => (if t355 = true then ((chequerlaw03_of.f t309 t310 t311).bind fun bt356 => ((rect_Matrix_Has.f kj10 bt356.1 bt356.2.1 bt356.2.2 bt336.1 bt336.2.1 bt336.2.2.1 (wrap64 (t315 + t332)) (wrap64 (t316 + t333))).bind fun t361 => (if t361 = true then ((chequerlaw03_lives.f kj10).bind fun t362 => (some t362)) else (some false)))) else (some false))) else (some false)) else (some false))))))) = some r := H
     have A46 := Aside0.mk A460
     clear A460
     replace H := Option.bind_eq_some_iff.mp H
     obtain ⟨t334, A470, H⟩ := H
     replace H : ((chequerref01_Around.f a2_3 (wrap64 (t325 - t333))).bind fun t335 => ((rect_Matrix_Sub.f kj10 t324 t325 t326 t332 t333 (wrap64 (1 + t334)) (wrap64 (1 + t335))).bind fun bt336 => ((chequerlaw03_of.f t309 t310 t311).bind fun bt343 => ((rect_Matrix_Sub.f kj10 bt343.1 bt343.2.1 bt343.2.2 (wrap64 (t315 + t332)) (wrap64 (t316 + t333)) (wrap64 (1 + t334)) (wrap64 (1 + t335))).bind fun bt348 => (if bt336.2.2.2 = true then (if bt348.2.2.2 = true then ((rect_Same.f kj10 bt336.1 bt336.2.1 bt336.2.2.1 bt348.1 bt348.2.1 bt348.2.2.1).bind fun t355 => (if t355 = true then ((chequerlaw03_of.f t309 t310 t311).bind fun bt356 => ((rect_Matrix_Has.f kj10 bt356.1 bt356.2.1 bt356.2.2 bt336.1 bt336.2.1 bt336.2.2.1 (wrap64 (t315 + t332)) (wrap64 (t316 + t333))).bind fun t361 => (if t361 = true then ((chequerlaw03_lives.f kj10).bind fun t362 => (some t362)) else (some false)))) else (some false))) else (some false)) else (some false)))))) = some r := H
     have A47 := Aside0.mk A470
     clear A470
     replace H := Option.bind_eq_some_iff.mp H
     obtain ⟨t335, A480, H⟩ := H
     replace H : ((rect_Matrix_Sub.f kj10 t324 t325 t326 t332 t333 (wrap64 (1 + t334)) (wrap64 (1 + t335))).bind fun bt336 => ((chequerlaw03_of.f t309 t310 t311).bind fun bt343 => ((rect_Matrix_Sub.f kj10 bt343.1 bt343.2.1 bt343.2.2 (wrap64 (t315 + t332)) (wrap64 (t316 + t333)) (wrap64 (1 + t334)) (wrap64 (1 + t335))).bind fun bt348 => (if bt336.2.2.2 = true then (if bt348.2.2.2 = true then ((rect_Same.f kj10 bt336.1 bt336.2.1 bt336.2.2.1 bt348.1 bt348.2.1 bt348.2.2.1).bind fun t355 => (if t355 = true then ((chequerlaw03_of.f t309 t310 t311).bind fun bt356 => ((rect_Matrix_Has.f kj10 bt356.1 bt356.2.1 bt356.2.2 bt336.1 bt336.2.1 bt336.2.2.1 (wrap64 (t315 + t332)) (wrap64 (t316 + t333))).bind fun t361 => (if t361 = true then ((chequerlaw03_lives.f kj10).bind fun t362 => (some t362)) else (some false)))) else (some false))) else (some false)) else (some false))))) = some r := H
     have A48 := Aside0.mk A480
     clear A480
     replace H := Option.bind_eq_some_iff.mp H
     obtain ⟨⟨t336, t337, t338, t341⟩, A490, H⟩ := H
     replace H : ((chequerlaw03_of.f t309 t310 t311).bind fun bt343 => ((rect_Matrix_Sub.f kj10 bt343.1 bt343.2.1 bt343.2.2 (wrap64 (t315 + t332)) (wrap64 (t316 + t333)) (wrap64 (1 + t334)) (wrap64 (1 + t335))).bind fun bt348 => (if t341 = true then (if bt348.2.2.2 = true then ((rect_Same.f kj10 t336 t337 t338 bt348.1 bt348.2.1 bt348.2.2.1).bind fun t355 => (if t355 = true then ((chequerlaw03_of.f t309 t310 t311).bind fun bt356 => ((rect_Matrix_Has.f kj10 bt356.1 bt356.2.1 bt356.2.2 t336 t337 t338 (wrap64 (t315 + t332)) (wrap64 (t316 + t333))).bind fun t361 => (if t361 = true then ((chequerlaw03_lives.f kj10).bind fun t362 => (some t362)) else (some false)))) else (some false))) else (some false)) else (some false)))) = some r := H
     have A49 := Aside0.mk A490
     clear A490
     replace H := Option.bind_eq_some_iff.mp H
     obtain ⟨⟨t343, t344, t345⟩, A500, H⟩ := H
     replace H : ((rect_Matrix_Sub.f kj10 t343 t344 t345 (wrap64 (t315 + t332)) (wrap64 (t316 + t333)) (wrap64 (1 + t334)) (wrap64 (1 + t335))).bind fun bt348 => (if t341 = true then (if bt348.2.2.2 = true then ((rect_Same.f kj10 t336 t337 t338 bt348.1 bt348.2.1 bt348.2.2.1).bind fun t355 => (if t355 = true then ((chequerlaw03_of.f t309 t310 t311).bind fun bt356 => ((rect_Matrix_Has.f kj10 bt356.1 bt356.2.1 bt356.2.2 t336 t337 t338 (wrap64 (t315 + t332)) (wrap64 (t316 + t333))).bind fun t361 => (if t361 = true then ((chequerlaw03_lives.f kj10).bind fun t362 => (some t362)) else (some false)))) else (some false))) else (some false)) else (some false))) = some r := H
     have A50 := Aside0.mk A500
     clear A500
     replace H := Option.bind_eq_some_iff.mp H
     obtain ⟨⟨t348, t349, t350, t353⟩, A510, H⟩ := H
     replace H : (if t341 = true then (if t353 = true then ((rect_Same.f kj10 t336 t337 t338 t348 t349 t350).bind fun t355 => (if t355 = true then ((chequerlaw03_of.f t309 t310 t311).bind fun bt356 => ((rect_Matrix_Has.f kj10 bt356.1 bt356.2.1 bt356.2.2 t336 t337 t338 (wrap64 (t315 + t332)) (wrap64 (t316 + t333))).bind fun t361 => (if t361 = true then ((chequerlaw03_lives.f kj10).bind fun t362 => (some t362)) else (some false)))) else (some false))) else (some false)) else (some false)) = some r := H
     have A51 := Aside0.mk A510
     clear A510
     have HP52 := Aside0.mk H
     clear H
     have hnb53 := NB308_307.out
     have hnc53 := NB307_308.out
     have hnb54 := NB308_314.out
     have hnc54 := NB314_308.out
     have hnb55 := NB308_330.out
     have hnc55 := NB330_308.out
     have hcz56_0 : wc.cell? ⟨gb308, 0, none⟩ = some (.int .i64 a2_0) := (blk_cell BK308.out 0).trans rfl
     have hcz56_1 : wc.cell? ⟨gb308, 1, none⟩ = some (.int .i64 a2_1) := (blk_cell BK308.out 1).trans rfl
     have hcz56_2 : wc.cell? ⟨gb308, 2, none⟩ = some (.int .i64 a2_2) := (blk_cell BK308.out 2).trans rfl
     have hcz56_3 : wc.cell? ⟨gb308, 3, none⟩ = some (.int .i64 a2_3) := (blk_cell BK308.out 3).trans rfl
     have hfz56_0 := blk_frozen BK308.out 0
     have hfz56_1 := blk_frozen BK308.out 1
     have hfz56_2 := blk_frozen BK308.out 2
     have hfz56_3 := blk_frozen BK308.out 3
     have hnb57 := NB330_307.out
     have hnc57 := NB307_330.out
     have hnb58 := NB330_314.out
     have hnc58 := NB314_330.out
     have hcz59_0 : wc.cell? ⟨gb330, 0, none⟩ = some (.int .i64 t324) := (blk_cell BK330.out 0).trans rfl
     have hcz59_1 : wc.cell? ⟨gb330, 1, none⟩ = some (.int .i64 t325) := (blk_cell BK330.out 1).trans rfl
     have hcz59_2 : wc.cell? ⟨gb330, 2, none⟩ = some (.slice Ao35 t326.length co35) := (blk_cell BK330.out 2).trans rfl
     have hfz59_0 := blk_frozen BK330.out 0
     have hfz59_1 := blk_frozen BK330.out 1
     have hfz59_2 := blk_frozen BK330.out 2
     go_upto_region 13 with (first | ((with_reducible refine gate_callee (f := 11) rfl ?_); refine goQ_ (some 67) Try.func11 #[.int .i64 a2_0, .int .i64 t324] ?_; (with_reducible refine (chequerref01_Around.calls a2_0 t324 t332 _ A45.out).mono ?_); rintro e w' ⟨rfl, ⟨nd, rfl⟩⟩; refine ⟨_, rfl, ?_⟩; (try (rw [drewN_self wc]; generalize hq_ : World.drewN wc _ = wc; replace HO_315002 := Aside0.mk (qrp_ hq_ HO_315002.out); replace HO_331002 := Aside0.mk (qrp_ hq_ HO_331002.out); replace BK307 := Aside0.mk (qhp_ hq_ BK307.out); replace BK308 := Aside0.mk (qhp_ hq_ BK308.out); replace BK314 := Aside0.mk (qhp_ hq_ BK314.out); replace BK330 := Aside0.mk (qhp_ hq_ BK330.out); replace HB : Aside0 (Below w.heap.size w wc) := ⟨qbp_ hq_⟩; clear hq_; have hcz56_0 : wc.cell? ⟨gb308, 0, none⟩ = some (.int .i64 a2_0) := (blk_cell BK308.out 0).trans rfl; have hcz56_1 : wc.cell? ⟨gb308, 1, none⟩ = some (.int .i64 a2_1) := (blk_cell BK308.out 1).trans rfl; have hcz56_2 : wc.cell? ⟨gb308, 2, none⟩ = some (.int .i64 a2_2) := (blk_cell BK308.out 2).trans rfl; have hcz56_3 : wc.cell? ⟨gb308, 3, none⟩ = some (.int .i64 a2_3) := (blk_cell BK308.out 3).trans rfl; have hfz56_0 := blk_frozen BK308.out 0; have hfz56_1 := blk_frozen BK308.out 1; have hfz56_2 := blk_frozen BK308.out 2; have hfz56_3 := blk_frozen BK308.out 3; have hcz59_0 : wc.cell? ⟨gb330, 0, none⟩ = some (.int .i64 t324) := (blk_cell BK330.out 0).trans rfl; have hcz59_1 : wc.cell? ⟨gb330, 1, none⟩ = some (.int .i64 t325) := (blk_cell BK330.out 1).trans rfl; have hcz59_2 : wc.cell? ⟨gb330, 2, none⟩ = some (.slice Ao35 t326.length co35) := (blk_cell BK330.out 2).trans rfl; have hfz59_0 := blk_frozen BK330.out 0; have hfz59_1 := blk_frozen BK330.out 1; have hfz59_2 := blk_frozen BK330.out 2))) | ((with_reducible refine gate_callee (f := 11) rfl ?_); refine goQ_ (some 72) Try.func11 #[.int .i64 a2_1, .int .i64 t325] ?_; (with_reducible refine (chequerref01_Around.calls a2_1 t325 t333 _ A46.out).mono ?_); rintro e w' ⟨rfl, ⟨nd, rfl⟩⟩; refine ⟨_, rfl, ?_⟩; (try (rw [drewN_self wc]; generalize hq_ : World.drewN wc _ = wc; replace HO_315002 := Aside0.mk (qrp_ hq_ HO_315002.out); replace HO_331002 := Aside0.mk (qrp_ hq_ HO_331002.out); replace BK307 := Aside0.mk (qhp_ hq_ BK307.out); replace BK308 := Aside0.mk (qhp_ hq_ BK308.out); replace BK314 := Aside0.mk (qhp_ hq_ BK314.out); replace BK330 := Aside0.mk (qhp_ hq_ BK330.out); replace HB : Aside0 (Below w.heap.size w wc) := ⟨qbp_ hq_⟩; clear hq_; have hcz56_0 : wc.cell? ⟨gb308, 0, none⟩ = some (.int .i64 a2_0) := (blk_cell BK308.out 0).trans rfl; have hcz56_1 : wc.cell? ⟨gb308, 1, none⟩ = some (.int .i64 a2_1) := (blk_cell BK308.out 1).trans rfl; have hcz56_2 : wc.cell? ⟨gb308, 2, none⟩ = some (.int .i64 a2_2) := (blk_cell BK308.out 2).trans rfl; have hcz56_3 : wc.cell? ⟨gb308, 3, none⟩ = some (.int .i64 a2_3) := (blk_cell BK308.out 3).trans rfl; have hfz56_0 := blk_frozen BK308.out 0; have hfz56_1 := blk_frozen BK308.out 1; have hfz56_2 := blk_frozen BK308.out 2; have hfz56_3 := blk_frozen BK308.out 3; have hcz59_0 : wc.cell? ⟨gb330, 0, none⟩ = some (.int .i64 t324) := (blk_cell BK330.out 0).trans rfl; have hcz59_1 : wc.cell? ⟨gb330, 1, none⟩ = some (.int .i64 t325) := (blk_cell BK330.out 1).trans rfl; have hcz59_2 : wc.cell? ⟨gb330, 2, none⟩ = some (.slice Ao35 t326.length co35) := (blk_cell BK330.out 2).trans rfl; have hfz59_0 := blk_frozen BK330.out 0; have hfz59_1 := blk_frozen BK330.out 1; have hfz59_2 := blk_frozen BK330.out 2))) | ((with_reducible refine gate_callee (f := 11) rfl ?_); refine goQ_ (some 79) Try.func11 #[.int .i64 a2_2, .int .i64 (wrap64 (t324 - t332))] ?_; (with_reducible refine (chequerref01_Around.calls a2_2 (wrap64 (t324 - t332)) t334 _ A47.out).mono ?_); rintro e w' ⟨rfl, ⟨nd, rfl⟩⟩; refine ⟨_, rfl, ?_⟩; (try (rw [drewN_self wc]; generalize hq_ : World.drewN wc _ = wc; replace HO_315002 := Aside0.mk (qrp_ hq_ HO_315002.out); replace HO_331002 := Aside0.mk (qrp_ hq_ HO_331002.out); replace BK307 := Aside0.mk (qhp_ hq_ BK307.out); replace BK308 := Aside0.mk (qhp_ hq_ BK308.out); replace BK314 := Aside0.mk (qhp_ hq_ BK314.out); replace BK330 := Aside0.mk (qhp_ hq_ BK330.out); replace HB : Aside0 (Below w.heap.size w wc) := ⟨qbp_ hq_⟩; clear hq_; have hcz56_0 : wc.cell? ⟨gb308, 0, none⟩ = some (.int .i64 a2_0) := (blk_cell BK308.out 0).trans rfl; have hcz56_1 : wc.cell? ⟨gb308, 1, none⟩ = some (.int .i64 a2_1) := (blk_cell BK308.out 1).trans rfl; have hcz56_2 : wc.cell? ⟨gb308, 2, none⟩ = some (.int .i64 a2_2) := (blk_cell BK308.out 2).trans rfl; have hcz56_3 : wc.cell? ⟨gb308, 3, none⟩ = some (.int .i64 a2_3) := (blk_cell BK308.out 3).trans rfl; have hfz56_0 := blk_frozen BK308.out 0; have hfz56_1 := blk_frozen BK308.out 1; have hfz56_2 := blk_frozen BK308.out 2; have hfz56_3 := blk_frozen BK308.out 3; have hcz59_0 : wc.cell? ⟨gb330, 0, none⟩ = some (.int .i64 t324) := (blk_cell BK330.out 0).trans rfl; have hcz59_1 : wc.cell? ⟨gb330, 1, none⟩ = some (.int .i64 t325) := (blk_cell BK330.out 1).trans rfl; have hcz59_2 : wc.cell? ⟨gb330, 2, none⟩ = some (.slice Ao35 t326.length co35) := (blk_cell BK330.out 2).trans rfl; have hfz59_0 := blk_frozen BK330.out 0; have hfz59_1 := blk_frozen BK330.out 1; have hfz59_2 := blk_frozen BK330.out 2))) | ((with_reducible refine gate_callee (f := 11) rfl ?_); refine goQ_ (some 87) Try.func11 #[.int .i64 a2_3, .int .i64 (wrap64 (t325 - t333))] ?_; (with_reducible refine (chequerref01_Around.calls a2_3 (wrap64 (t325 - t333)) t335 _ A48.out).mono ?_); rintro e w' ⟨rfl, ⟨nd, rfl⟩⟩; refine ⟨_, rfl, ?_⟩; (try (rw [drewN_self wc]; generalize hq_ : World.drewN wc _ = wc; replace HO_315002 := Aside0.mk (qrp_ hq_ HO_315002.out); replace HO_331002 := Aside0.mk (qrp_ hq_ HO_331002.out); replace BK307 := Aside0.mk (qhp_ hq_ BK307.out); replace BK308 := Aside0.mk (qhp_ hq_ BK308.out); replace BK314 := Aside0.mk (qhp_ hq_ BK314.out); replace BK330 := Aside0.mk (qhp_ hq_ BK330.out); replace HB : Aside0 (Below w.heap.size w wc) := ⟨qbp_ hq_⟩; clear hq_; have hcz56_0 : wc.cell? ⟨gb308, 0, none⟩ = some (.int .i64 a2_0) := (blk_cell BK308.out 0).trans rfl; have hcz56_1 : wc.cell? ⟨gb308, 1, none⟩ = some (.int .i64 a2_1) := (blk_cell BK308.out 1).trans rfl; have hcz56_2 : wc.cell? ⟨gb308, 2, none⟩ = some (.int .i64 a2_2) := (blk_cell BK308.out 2).trans rfl; have hcz56_3 : wc.cell? ⟨gb308, 3, none⟩ = some (.int .i64 a2_3) := (blk_cell BK308.out 3).trans rfl; have hfz56_0 := blk_frozen BK308.out 0; have hfz56_1 := blk_frozen BK308.out 1; have hfz56_2 := blk_frozen BK308.out 2; have hfz56_3 := blk_frozen BK308.out 3; have hcz59_0 : wc.cell? ⟨gb330, 0, none⟩ = some (.int .i64 t324) := (blk_cell BK330.out 0).trans rfl; have hcz59_1 : wc.cell? ⟨gb330, 1, none⟩ = some (.int .i64 t325) := (blk_cell BK330.out 1).trans rfl; have hcz59_2 : wc.cell? ⟨gb330, 2, none⟩ = some (.slice Ao35 t326.length co35) := (blk_cell BK330.out 2).trans rfl; have hfz59_0 := blk_frozen BK330.out 0; have hfz59_1 := blk_frozen BK330.out 1; have hfz59_2 := blk_frozen BK330.out 2))) | ((with_reducible refine gate_callee (f := 21) rfl ?_); refine goQ_ (some 95) Try.func21 #[.agg #[.int .i64 t324, .int .i64 t325, .slice Ao35 t326.length co35], .int .i64 t332, .int .i64 t333, .int .i64 (wrap64 (1 + t334)), .int .i64 (wrap64 (1 + t335))] ?_; (with_reducible refine (rect_Matrix_Sub.calls kj10 t324 t325 _ _ t326 t332 t333 (wrap64 (1 + t334)) (wrap64 (1 + t335)) t336 t337 t338 t341 _ ?side1 ?side2 A49.out).mono ?_); (case side1 => exact cp_ (Kd.R_reads' HO_331002.out).2.2); (case side2 => exact (Kd.R_reads' HO_331002.out).2.1); rintro e w60 ⟨v339, rfl, ho0, hb⟩; refine ⟨_, rfl, ?_⟩; have HO340 := Aside0.mk (Kd.R_lower (Kd.R_new' (Kd.R_new' ho0 (Kd.R_lt (rp_ HO_315002.out))) (Kd.R_lt (rp_ HO_331002.out))) (below_size bp_)); replace HO_315002 := Aside0.mk (Kd.R_elder' (rp_ HO_315002.out) (Kd.R_base ho0) hb); replace HO_331002 := Aside0.mk (Kd.R_elder' (rp_ HO_331002.out) (Kd.R_base ho0) hb); replace BK307 := Aside0.mk (blk_below (hp_ BK307.out) hb); replace BK308 := Aside0.mk (blk_below (hp_ BK308.out) hb); replace BK314 := Aside0.mk (blk_below (hp_ BK314.out) hb); replace BK330 := Aside0.mk (blk_below (hp_ BK330.out) hb); replace HB := Aside0.mk (below_step bp_ hb); (try clear hb); (try clear hb2); (try clear hk); (try clear hi); (try clear ho0)) | ((with_reducible refine gate_dst (N := 16) rfl ?_); refine box_event ?hg (N := 16) ?hd (cs := #[.int .i64 0, .int .i64 0, .slice none 0 0]) (t := 32) ?hr ?_; (case hd => rfl); (case hg => rfl); (case hr => first | (go_simp; done) | (go_simp; rfl)); intro gb342 hg w61 hbox hb; replace HO_315002 := Aside0.mk (Kd.R_below (rp_ HO_315002.out) hb); replace HO_331002 := Aside0.mk (Kd.R_below (rp_ HO_331002.out) hb); replace HO340 := Aside0.mk (Kd.R_below (rp_ HO340.out) hb); have BK342 := Aside0.mk (hbox); have GW342 := Aside0.mk ((by rw [hg]; exact (below_size bp_) : w.heap.size ≤ gb342)); have GE342 := Aside0.mk ((by rw [hg]; exact (below_size bp_) : w.heap.size ≤ gb342)); replace HB := Aside0.mk (below_step bp_ hb); have NB307_342 := Aside0.mk ((nlt_ hg (hp_ BK307.out))); have NB342_307 := Aside0.mk ((ngt_ hg (hp_ BK307.out))); replace BK307 := Aside0.mk (blk_below (hp_ BK307.out) hb); have NB308_342 := Aside0.mk ((nlt_ hg (hp_ BK308.out))); have NB342_308 := Aside0.mk ((ngt_ hg (hp_ BK308.out))); replace BK308 := Aside0.mk (blk_below (hp_ BK308.out) hb); have NB314_342 := Aside0.mk ((nlt_ hg (hp_ BK314.out))); have NB342_314 := Aside0.mk ((ngt_ hg (hp_ BK314.out))); replace BK314 := Aside0.mk (blk_below (hp_ BK314.out) hb); have NB330_342 := Aside0.mk ((nlt_ hg (hp_ BK330.out))); have NB342_330 := Aside0.mk ((ngt_ hg (hp_ BK330.out))); replace BK330 := Aside0.mk (blk_below (hp_ BK330.out) hb); clear hb hbox hg; have hnb62 := NB342_307.out; have hnc62 := NB307_342.out; have hnb63 := NB342_308.out; have hnc63 := NB308_342.out; have hnb64 := NB342_314.out; have hnc64 := NB314_342.out; have hnb65 := NB342_330.out; have hnc65 := NB330_342.out; have hcz66_0 : w61.cell? ⟨gb342, 0, none⟩ = some (.int .i64 0) := (blk_cell BK342.out 0).trans rfl; have hcz66_1 : w61.cell? ⟨gb342, 1, none⟩ = some (.int .i64 0) := (blk_cell BK342.out 1).trans rfl; have hcz66_2 : w61.cell? ⟨gb342, 2, none⟩ = some (.slice none 0 0) := (blk_cell BK342.out 2).trans rfl; have hfz66_0 := blk_frozen BK342.out 0; have hfz66_1 := blk_frozen BK342.out 1; have hfz66_2 := blk_frozen BK342.out 2; obtain ⟨Ao67, co67, eo67⟩ := Kd.R_slice HO340.out; subst eo67) | ((with_reducible refine gate_store (t := 32) (p := 16) rfl ?_); refine store_event (t := 32) (p := 16) (v := ?vo_w68) (w1 := (((w61.setCell ⟨gb342, 0, none⟩ (.int .i64 t336)).setCell ⟨gb342, 1, none⟩ (.int .i64 t337)).setCell ⟨gb342, 2, none⟩ (.slice Ao67 t338.length co67))) ?hg ?ho ?hn ?hr ?_; (case ho => rfl); (case hg => rfl); (case hn => rfl); (case hr => first | (go_simp; done) | (go_simp; rfl)); intro w68 hw; replace HO_315002 : Aside0 (Kd.R (Kd.int .u64) 46 w68 w.heap.size (fun k_ => some k_ ≠ (.slice Ao35 t326.length co35 : Value).ownBlock ∧ some k_ ≠ (.slice Ao67 t338.length co67 : Value).ownBlock) (.slice Ao23 t311.length co23) t311) := ⟨(by rw [hw]; exact (rf_ HO_315002.out BK342.out (by decide) (fun _ hk => ⟨hk.1.1, hk.1.2⟩)))⟩; replace HO_331002 : Aside0 (Kd.R (Kd.int .u64) 46 w68 w.heap.size (fun k_ => some k_ ≠ (.slice Ao23 t311.length co23 : Value).ownBlock ∧ some k_ ≠ (.slice Ao67 t338.length co67 : Value).ownBlock) (.slice Ao35 t326.length co35) t326) := ⟨(by rw [hw]; exact (rf_ HO_331002.out BK342.out (by decide) (fun _ hk => ⟨hk.1.1, hk.1.2⟩)))⟩; replace HO340 : Aside0 (Kd.R (Kd.int .u64) 46 w68 w.heap.size (fun k_ => some k_ ≠ (.slice Ao23 t311.length co23 : Value).ownBlock ∧ some k_ ≠ (.slice Ao35 t326.length co35 : Value).ownBlock) (.slice Ao67 t338.length co67) t338) := ⟨(by rw [hw]; exact (rf_ HO340.out BK342.out (by decide) (fun _ hk => ⟨hk.1.1.2, hk.1.2⟩)))⟩; replace BK307 : Aside0 (w68.heap[gb307]? = some (.cells #[.int .i64 a1_0, .int .i64 a1_1, .int .i64 a1_2, .int .i64 a1_3] 25 (0, 0))) := ⟨(by rw [hw]; exact (hf_ BK307.out NB307_342.out))⟩; replace BK308 : Aside0 (w68.heap[gb308]? = some (.cells #[.int .i64 a2_0, .int .i64 a2_1, .int .i64 a2_2, .int .i64 a2_3] 25 (0, 0))) := ⟨(by rw [hw]; exact (hf_ BK308.out NB308_342.out))⟩; replace BK314 : Aside0 (w68.heap[gb314]? = some (.cells #[.int .i64 t309, .int .i64 t310, .slice Ao23 t311.length co23] 24 (0, 0))) := ⟨(by rw [hw]; exact (hf_ BK314.out NB314_342.out))⟩; replace BK330 : Aside0 (w68.heap[gb330]? = some (.cells #[.int .i64 t324, .int .i64 t325, .slice Ao35 t326.length co35] 32 (0, 0))) := ⟨(by rw [hw]; exact (hf_ BK330.out NB330_342.out))⟩; replace BK342 : Aside0 (w68.heap[gb342]? = some (.cells #[.int .i64 t336, .int .i64 t337, .slice Ao67 t338.length co67] 32 (0, 0))) := ⟨(by rw [hw]; exact (by (with_reducible repeat (first | refine blk_drewN ?_ _ | refine blk_drew ?_ | refine blk_alloc ?_ _)); refine blk_put (cs := #[.int .i64 t336, .int .i64 t337, .slice none 0 0]) ?_ 2 _ rfl; (with_reducible repeat (first | refine blk_drewN ?_ _ | refine blk_drew ?_ | refine blk_alloc ?_ _)); refine blk_put (cs := #[.int .i64 t336, .int .i64 0, .slice none 0 0]) ?_ 1 _ rfl; (with_reducible repeat (first | refine blk_drewN ?_ _ | refine blk_drew ?_ | refine blk_alloc ?_ _)); refine blk_put (cs := #[.int .i64 0, .int .i64 0, .slice none 0 0]) ?_ 0 _ rfl; (with_reducible repeat (first | refine blk_drewN ?_ _ | refine blk_drew ?_ | refine blk_alloc ?_ _)); exact BK342.out))⟩; replace HB : Aside0 (Below w.heap.size w w68) := ⟨(by rw [hw]; exact bp_)⟩; clear hw; have hnb69 := NB314_307.out; have hnc69 := NB307_314.out; have hcz70_0 : w68.cell? ⟨gb314, 0, none⟩ = some (.int .i64 t309) := (blk_cell BK314.out 0).trans rfl; have hcz70_1 : w68.cell? ⟨gb314, 1, none⟩ = some (.int .i64 t310) := (blk_cell BK314.out 1).trans rfl; have hcz70_2 : w68.cell? ⟨gb314, 2, none⟩ = some (.slice Ao23 t311.length co23) := (blk_cell BK314.out 2).trans rfl; have hfz70_0 := blk_frozen BK314.out 0; have hfz70_1 := blk_frozen BK314.out 1; have hfz70_2 := blk_frozen BK314.out 2) | ((with_reducible refine gate_callee (f := 13) rfl ?_); refine goQ_ (some 100) Try.func13 #[.agg #[.int .i64 t309, .int .i64 t310, .slice Ao23 t311.length co23]] ?_; (with_reducible refine (chequerlaw03_of.calls t309 t310 (fun k_ => some k_ = (.slice Ao23 t311.length co23 : Value).ownBlock) _ _ t311 t343 t344 t345 _ ?side1 A50.out).mono ?_); (case side1 => exact Kd.R_V (Kd.R_tight rfl (Kd.R_types (Kd.R_types (Kd.R_types (Kd.R_types (Kd.R_types (HO_315002.out) BK307.out (by decide)) BK308.out (by decide)) BK314.out (by decide)) BK330.out (by decide)) BK342.out (by decide)))); rintro e w71 ⟨v346, rfl, ho0, hb⟩; refine ⟨_, rfl, ?_⟩; have HO347 := Aside0.mk (Kd.V_lower (Kd.V_mono (ok' := fun k_ => some k_ ≠ (.slice Ao35 t326.length co35 : Value).ownBlock ∧ some k_ ≠ (.slice Ao67 t338.length co67 : Value).ownBlock ∧ k_ ≠ gb307 ∧ k_ ≠ gb308 ∧ k_ ≠ gb314 ∧ k_ ≠ gb330 ∧ k_ ≠ gb342) ho0 (fun k_ hk_ => ⟨Or.elim hk_ (fun hs_ => ((Kd.R_types (Kd.R_types (Kd.R_types (Kd.R_types (Kd.R_types (HO_315002.out) BK307.out (by decide)) BK308.out (by decide)) BK314.out (by decide)) BK330.out (by decide)) BK342.out (by decide)).1 k_ hs_.symm).1.1.1.1.1.1) (fun hn_ => (Kd.fresh' (Kd.R_lt (rp_ HO_331002.out)) k_ hn_)), Or.elim hk_ (fun hs_ => ((Kd.R_types (Kd.R_types (Kd.R_types (Kd.R_types (Kd.R_types (HO_315002.out) BK307.out (by decide)) BK308.out (by decide)) BK314.out (by decide)) BK330.out (by decide)) BK342.out (by decide)).1 k_ hs_.symm).1.1.1.1.1.2) (fun hn_ => (Kd.fresh' (Kd.R_lt (rp_ HO340.out)) k_ hn_)), Or.elim hk_ (fun hs_ => ((Kd.R_types (Kd.R_types (Kd.R_types (Kd.R_types (Kd.R_types (HO_315002.out) BK307.out (by decide)) BK308.out (by decide)) BK314.out (by decide)) BK330.out (by decide)) BK342.out (by decide)).1 k_ hs_.symm).1.1.1.1.2) (fun hn_ => (Kd.freshB (g := gb307) (o := .cells #[.int .i64 a1_0, .int .i64 a1_1, .int .i64 a1_2, .int .i64 a1_3] 25 (0, 0)) (hp_ BK307.out) k_ hn_)), Or.elim hk_ (fun hs_ => ((Kd.R_types (Kd.R_types (Kd.R_types (Kd.R_types (Kd.R_types (HO_315002.out) BK307.out (by decide)) BK308.out (by decide)) BK314.out (by decide)) BK330.out (by decide)) BK342.out (by decide)).1 k_ hs_.symm).1.1.1.2) (fun hn_ => (Kd.freshB (g := gb308) (o := .cells #[.int .i64 a2_0, .int .i64 a2_1, .int .i64 a2_2, .int .i64 a2_3] 25 (0, 0)) (hp_ BK308.out) k_ hn_)), Or.elim hk_ (fun hs_ => ((Kd.R_types (Kd.R_types (Kd.R_types (Kd.R_types (Kd.R_types (HO_315002.out) BK307.out (by decide)) BK308.out (by decide)) BK314.out (by decide)) BK330.out (by decide)) BK342.out (by decide)).1 k_ hs_.symm).1.1.2) (fun hn_ => (Kd.freshB (g := gb314) (o := .cells #[.int .i64 t309, .int .i64 t310, .slice Ao23 t311.length co23] 24 (0, 0)) (hp_ BK314.out) k_ hn_)), Or.elim hk_ (fun hs_ => ((Kd.R_types (Kd.R_types (Kd.R_types (Kd.R_types (Kd.R_types (HO_315002.out) BK307.out (by decide)) BK308.out (by decide)) BK314.out (by decide)) BK330.out (by decide)) BK342.out (by decide)).1 k_ hs_.symm).1.2) (fun hn_ => (Kd.freshB (g := gb330) (o := .cells #[.int .i64 t324, .int .i64 t325, .slice Ao35 t326.length co35] 32 (0, 0)) (hp_ BK330.out) k_ hn_)), Or.elim hk_ (fun hs_ => ((Kd.R_types (Kd.R_types (Kd.R_types (Kd.R_types (Kd.R_types (HO_315002.out) BK307.out (by decide)) BK308.out (by decide)) BK314.out (by decide)) BK330.out (by decide)) BK342.out (by decide)).1 k_ hs_.symm).2) (fun hn_ => (Kd.freshB (g := gb342) (o := .cells #[.int .i64 t336, .int .i64 t337, .slice Ao67 t338.length co67] 32 (0, 0)) (hp_ BK342.out) k_ hn_))⟩)) (below_size bp_)); replace HO_315002 := Aside0.mk (Kd.R_below (rp_ HO_315002.out) hb); replace HO_331002 := Aside0.mk (Kd.R_below (rp_ HO_331002.out) hb); replace HO340 := Aside0.mk (Kd.R_below (rp_ HO340.out) hb); replace BK307 := Aside0.mk (blk_below (hp_ BK307.out) hb); replace BK308 := Aside0.mk (blk_below (hp_ BK308.out) hb); replace BK314 := Aside0.mk (blk_below (hp_ BK314.out) hb); replace BK330 := Aside0.mk (blk_below (hp_ BK330.out) hb); replace BK342 := Aside0.mk (blk_below (hp_ BK342.out) hb); replace HB := Aside0.mk (below_step bp_ hb); (try clear hb); (try clear hb2); (try clear hk); (try clear hi); (try clear ho0); obtain ⟨Ao72, co72, eo72⟩ := Kd.V_slice HO347.out; subst eo72) | ((with_reducible refine gate_callee (f := 21) rfl ?_); refine goQ_ (some 109) Try.func21 #[.agg #[.int .i64 t343, .int .i64 t344, .slice Ao72 t345.length co72], .int .i64 (wrap64 (t315 + t332)), .int .i64 (wrap64 (t316 + t333)), .int .i64 (wrap64 (1 + t334)), .int .i64 (wrap64 (1 + t335))] ?_; (with_reducible refine (rect_Matrix_Sub.calls kj10 t343 t344 _ _ t345 (wrap64 (t315 + t332)) (wrap64 (t316 + t333)) (wrap64 (1 + t334)) (wrap64 (1 + t335)) t348 t349 t350 t353 _ ?side1 ?side2 A51.out).mono ?_); (case side1 => exact cp_ (Kd.V_reads' HO347.out).2.2); (case side2 => exact (Kd.V_reads' HO347.out).2.1); rintro e w73 ⟨v351, rfl, ho0, hb⟩; refine ⟨_, rfl, ?_⟩; replace HO347 := Aside0.mk (Kd.V_elder' (vp_ HO347.out) (Kd.R_base ho0) hb); have HO352 := Aside0.mk (Kd.R_lower (Kd.R_new' (Kd.R_new' (Kd.R_new' ho0 (Kd.R_lt (rp_ HO_315002.out))) (Kd.R_lt (rp_ HO_331002.out))) (Kd.R_lt (rp_ HO340.out))) (below_size bp_)); replace HO_315002 := Aside0.mk (Kd.R_elder' (rp_ HO_315002.out) (Kd.R_base ho0) hb); replace HO_331002 := Aside0.mk (Kd.R_elder' (rp_ HO_331002.out) (Kd.R_base ho0) hb); replace HO340 := Aside0.mk (Kd.R_elder' (rp_ HO340.out) (Kd.R_base ho0) hb); replace BK307 := Aside0.mk (blk_below (hp_ BK307.out) hb); replace BK308 := Aside0.mk (blk_below (hp_ BK308.out) hb); replace BK314 := Aside0.mk (blk_below (hp_ BK314.out) hb); replace BK330 := Aside0.mk (blk_below (hp_ BK330.out) hb); replace BK342 := Aside0.mk (blk_below (hp_ BK342.out) hb); replace HB := Aside0.mk (below_step bp_ hb); (try clear hb); (try clear hb2); (try clear hk); (try clear hi); (try clear ho0)) | ((with_reducible refine gate_dst (N := 18) rfl ?_); refine box_event ?hg (N := 18) ?hd (cs := #[.int .i64 0, .int .i64 0, .slice none 0 0]) (t := 32) ?hr ?_; (case hd => rfl); (case hg => rfl); (case hr => first | (go_simp; done) | (go_simp; rfl)); intro gb354 hg w74 hbox hb; replace HO_315002 := Aside0.mk (Kd.R_below (rp_ HO_315002.out) hb); replace HO_331002 := Aside0.mk (Kd.R_below (rp_ HO_331002.out) hb); replace HO340 := Aside0.mk (Kd.R_below (rp_ HO340.out) hb); replace HO347 := Aside0.mk (Kd.V_below (Kd.V_elderB (vp_ HO347.out) gb354 (Nat.le_of_eq hg.symm)) hb); replace HO352 := Aside0.mk (Kd.R_below (rp_ HO352.out) hb); have BK354 := Aside0.mk (hbox); have GW354 := Aside0.mk ((by rw [hg]; exact (below_size bp_) : w.heap.size ≤ gb354)); have GE354 := Aside0.mk ((by rw [hg]; exact (below_size bp_) : w.heap.size ≤ gb354)); replace HB := Aside0.mk (below_step bp_ hb); have NB307_354 := Aside0.mk ((nlt_ hg (hp_ BK307.out))); have NB354_307 := Aside0.mk ((ngt_ hg (hp_ BK307.out))); replace BK307 := Aside0.mk (blk_below (hp_ BK307.out) hb); have NB308_354 := Aside0.mk ((nlt_ hg (hp_ BK308.out))); have NB354_308 := Aside0.mk ((ngt_ hg (hp_ BK308.out))); replace BK308 := Aside0.mk (blk_below (hp_ BK308.out) hb); have NB314_354 := Aside0.mk ((nlt_ hg (hp_ BK314.out))); have NB354_314 := Aside0.mk ((ngt_ hg (hp_ BK314.out))); replace BK314 := Aside0.mk (blk_below (hp_ BK314.out) hb); have NB330_354 := Aside0.mk ((nlt_ hg (hp_ BK330.out))); have NB354_330 := Aside0.mk ((ngt_ hg (hp_ BK330.out))); replace BK330 := Aside0.mk (blk_below (hp_ BK330.out) hb); have NB342_354 := Aside0.mk ((nlt_ hg (hp_ BK342.out))); have NB354_342 := Aside0.mk ((ngt_ hg (hp_ BK342.out))); replace BK342 := Aside0.mk (blk_below (hp_ BK342.out) hb); clear hb hbox hg; have hnb75 := NB354_307.out; have hnc75 := NB307_354.out; have hnb76 := NB354_308.out; have hnc76 := NB308_354.out; have hnb77 := NB354_314.out; have hnc77 := NB314_354.out; have hnb78 := NB354_330.out; have hnc78 := NB330_354.out; have hnb79 := NB354_342.out; have hnc79 := NB342_354.out; have hcz80_0 : w74.cell? ⟨gb354, 0, none⟩ = some (.int .i64 0) := (blk_cell BK354.out 0).trans rfl; have hcz80_1 : w74.cell? ⟨gb354, 1, none⟩ = some (.int .i64 0) := (blk_cell BK354.out 1).trans rfl; have hcz80_2 : w74.cell? ⟨gb354, 2, none⟩ = some (.slice none 0 0) := (blk_cell BK354.out 2).trans rfl; have hfz80_0 := blk_frozen BK354.out 0; have hfz80_1 := blk_frozen BK354.out 1; have hfz80_2 := blk_frozen BK354.out 2; obtain ⟨Ao81, co81, eo81⟩ := Kd.R_slice HO352.out; subst eo81))
     (try simp only [Act.put, List.setIfInBounds_toArray, List.set_cons_zero, List.set_cons_succ])
     have H := HP52.out
     clear HP52
     by_cases c82 : t341 = true
     · subst c82
       have H1 : (if t353 = true then ((rect_Same.f kj10 t336 t337 t338 t348 t349 t350).bind fun t355 => (if t355 = true then ((chequerlaw03_of.f t309 t310 t311).bind fun bt356 => ((rect_Matrix_Has.f kj10 bt356.1 bt356.2.1 bt356.2.2 t336 t337 t338 (wrap64 (t315 + t332)) (wrap64 (t316 + t333))).bind fun t361 => (if t361 = true then ((chequerlaw03_lives.f kj10).bind fun t362 => (some t362)) else (some false)))) else (some false))) else (some false)) = some r := by rw [if_pos rfl] at H; exact H
       clear H
       have H := H1
       clear H1
       by_cases c83 : t353 = true
       · subst c83
         have H1 : ((rect_Same.f kj10 t336 t337 t338 t348 t349 t350).bind fun t355 => (if t355 = true then ((chequerlaw03_of.f t309 t310 t311).bind fun bt356 => ((rect_Matrix_Has.f kj10 bt356.1 bt356.2.1 bt356.2.2 t336 t337 t338 (wrap64 (t315 + t332)) (wrap64 (t316 + t333))).bind fun t361 => (if t361 = true then ((chequerlaw03_lives.f kj10).bind fun t362 => (some t362)) else (some false)))) else (some false))) = some r := by rw [if_pos rfl] at H; exact H
         clear H
         have H := H1
         clear H1
         replace H := Option.bind_eq_some_iff.mp H
         obtain ⟨t355, A840, H⟩ := H
         replace H : (if t355 = true then ((chequerlaw03_of.f t309 t310 t311).bind fun bt356 => ((rect_Matrix_Has.f kj10 bt356.1 bt356.2.1 bt356.2.2 t336 t337 t338 (wrap64 (t315 + t332)) (wrap64 (t316 + t333))).bind fun t361 => (if t361 = true then ((chequerlaw03_lives.f kj10).bind fun t362 => (some t362)) else (some false)))) else (some false)) = some r := H
         have A84 := Aside0.mk A840
         clear A840
         by_cases c85 : t355 = true
         · subst c85
           have H1 : ((chequerlaw03_of.f t309 t310 t311).bind fun bt356 => ((rect_Matrix_Has.f kj10 bt356.1 bt356.2.1 bt356.2.2 t336 t337 t338 (wrap64 (t315 + t332)) (wrap64 (t316 + t333))).bind fun t361 => (if t361 = true then ((chequerlaw03_lives.f kj10).bind fun t362 => (some t362)) else (some false)))) = some r := by rw [if_pos rfl] at H; exact H
           clear H
           have H := H1
           clear H1
           replace H := Option.bind_eq_some_iff.mp H
           obtain ⟨⟨t356, t357, t358⟩, A860, H⟩ := H
           replace H : ((rect_Matrix_Has.f kj10 t356 t357 t358 t336 t337 t338 (wrap64 (t315 + t332)) (wrap64 (t316 + t333))).bind fun t361 => (if t361 = true then ((chequerlaw03_lives.f kj10).bind fun t362 => (some t362)) else (some false))) = some r := H
           have A86 := Aside0.mk A860
           clear A860
           replace H := Option.bind_eq_some_iff.mp H
           obtain ⟨t361, A870, H⟩ := H
           replace H : (if t361 = true then ((chequerlaw03_lives.f kj10).bind fun t362 => (some t362)) else (some false)) = some r := H
           have A87 := Aside0.mk A870
           clear A870
           by_cases c88 : t361 = true
           · subst c88
             have H1 : ((chequerlaw03_lives.f kj10).bind fun t362 => (some t362)) = some r := by rw [if_pos rfl] at H; exact H
             clear H
             have H := H1
             clear H1
             replace H := Option.bind_eq_some_iff.mp H
             obtain ⟨t362, A890, H⟩ := H
             replace H : (some t362) = some r := H
             have A89 := Aside0.mk A890
             clear A890
             obtain rfl := Option.some.inj H
             try go_wp2
             have n0_ : Aside0 (Kd.R (Kd.int .u64) 46 (((w74.setCell ⟨gb354, 0, none⟩ (.int .i64 t348)).setCell ⟨gb354, 1, none⟩ (.int .i64 t349)).setCell ⟨gb354, 2, none⟩ (.slice Ao81 t350.length co81)) w.heap.size (fun k_ => some k_ ≠ (.slice Ao35 t326.length co35 : Value).ownBlock ∧ some k_ ≠ (.slice Ao67 t338.length co67 : Value).ownBlock ∧ some k_ ≠ (.slice Ao81 t350.length co81 : Value).ownBlock) (.slice Ao23 t311.length co23) t311) := ⟨rf_ HO_315002.out BK354.out (by decide) (fun _ hk => ⟨hk.1.1.1, ⟨hk.1.1.2, hk.1.2⟩⟩)⟩
             have n1_ : Aside0 (Kd.R (Kd.int .u64) 46 (((w74.setCell ⟨gb354, 0, none⟩ (.int .i64 t348)).setCell ⟨gb354, 1, none⟩ (.int .i64 t349)).setCell ⟨gb354, 2, none⟩ (.slice Ao81 t350.length co81)) w.heap.size (fun k_ => some k_ ≠ (.slice Ao23 t311.length co23 : Value).ownBlock ∧ some k_ ≠ (.slice Ao67 t338.length co67 : Value).ownBlock ∧ some k_ ≠ (.slice Ao81 t350.length co81 : Value).ownBlock) (.slice Ao35 t326.length co35) t326) := ⟨rf_ HO_331002.out BK354.out (by decide) (fun _ hk => ⟨hk.1.1.1, ⟨hk.1.1.2, hk.1.2⟩⟩)⟩
             have n2_ : Aside0 (Kd.R (Kd.int .u64) 46 (((w74.setCell ⟨gb354, 0, none⟩ (.int .i64 t348)).setCell ⟨gb354, 1, none⟩ (.int .i64 t349)).setCell ⟨gb354, 2, none⟩ (.slice Ao81 t350.length co81)) w.heap.size (fun k_ => some k_ ≠ (.slice Ao23 t311.length co23 : Value).ownBlock ∧ some k_ ≠ (.slice Ao35 t326.length co35 : Value).ownBlock ∧ some k_ ≠ (.slice Ao81 t350.length co81 : Value).ownBlock) (.slice Ao67 t338.length co67) t338) := ⟨rf_ HO340.out BK354.out (by decide) (fun _ hk => ⟨hk.1.1.1, ⟨hk.1.1.2, hk.1.2⟩⟩)⟩
             have n3_ : Aside0 (Kd.V (Kd.int .u64) 46 (((w74.setCell ⟨gb354, 0, none⟩ (.int .i64 t348)).setCell ⟨gb354, 1, none⟩ (.int .i64 t349)).setCell ⟨gb354, 2, none⟩ (.slice Ao81 t350.length co81)) w.heap.size (fun k_ => some k_ ≠ (.slice Ao35 t326.length co35 : Value).ownBlock ∧ some k_ ≠ (.slice Ao67 t338.length co67 : Value).ownBlock ∧ some k_ ≠ (.slice Ao81 t350.length co81 : Value).ownBlock ∧ k_ ≠ gb307 ∧ k_ ≠ gb308 ∧ k_ ≠ gb314 ∧ k_ ≠ gb330 ∧ k_ ≠ gb342 ∧ k_ ≠ gb354) (.slice Ao72 t345.length co72) t345) := ⟨by (with_reducible repeat (first | apply Kd.V_alloc | apply Kd.V_drewN | apply Kd.V_drew)); exact Kd.V_mono (Kd.V_far (p := ⟨gb354, 2, none⟩) (Kd.V_far (p := ⟨gb354, 1, none⟩) (Kd.V_far (p := ⟨gb354, 0, none⟩) (Kd.V_mono HO347.out (fun k_ hk => (⟨hk, hk.2⟩ : _ ∧ k_ ≠ gb354))) (fun _ hk => hk.2) (.int .i64 t348)) (fun _ hk => hk.2) (.int .i64 t349)) (fun _ hk => hk.2) (.slice Ao81 t350.length co81)) (fun _ hk => ⟨hk.1.1.1.1, ⟨hk.1.1.1.2.1, ⟨hk.1.1.2, ⟨hk.1.1.1.2.2.1, ⟨hk.1.1.1.2.2.2.1, ⟨hk.1.1.1.2.2.2.2.1, ⟨hk.1.1.1.2.2.2.2.2.1, ⟨hk.1.1.1.2.2.2.2.2.2, hk.1.2⟩⟩⟩⟩⟩⟩⟩⟩)⟩
             have n4_ : Aside0 (Kd.R (Kd.int .u64) 46 (((w74.setCell ⟨gb354, 0, none⟩ (.int .i64 t348)).setCell ⟨gb354, 1, none⟩ (.int .i64 t349)).setCell ⟨gb354, 2, none⟩ (.slice Ao81 t350.length co81)) w.heap.size (fun k_ => some k_ ≠ (.slice Ao23 t311.length co23 : Value).ownBlock ∧ some k_ ≠ (.slice Ao35 t326.length co35 : Value).ownBlock ∧ some k_ ≠ (.slice Ao67 t338.length co67 : Value).ownBlock) (.slice Ao81 t350.length co81) t350) := ⟨rf_ HO352.out BK354.out (by decide) (fun _ hk => ⟨hk.1.1.1.2, ⟨hk.1.1.2, hk.1.2⟩⟩)⟩
             have n5_ : Aside0 ((((w74.setCell ⟨gb354, 0, none⟩ (.int .i64 t348)).setCell ⟨gb354, 1, none⟩ (.int .i64 t349)).setCell ⟨gb354, 2, none⟩ (.slice Ao81 t350.length co81)).heap[gb307]? = some (.cells #[.int .i64 a1_0, .int .i64 a1_1, .int .i64 a1_2, .int .i64 a1_3] 25 (0, 0))) := ⟨hf_ BK307.out NB307_354.out⟩
             have n6_ : Aside0 ((((w74.setCell ⟨gb354, 0, none⟩ (.int .i64 t348)).setCell ⟨gb354, 1, none⟩ (.int .i64 t349)).setCell ⟨gb354, 2, none⟩ (.slice Ao81 t350.length co81)).heap[gb308]? = some (.cells #[.int .i64 a2_0, .int .i64 a2_1, .int .i64 a2_2, .int .i64 a2_3] 25 (0, 0))) := ⟨hf_ BK308.out NB308_354.out⟩
             have n7_ : Aside0 ((((w74.setCell ⟨gb354, 0, none⟩ (.int .i64 t348)).setCell ⟨gb354, 1, none⟩ (.int .i64 t349)).setCell ⟨gb354, 2, none⟩ (.slice Ao81 t350.length co81)).heap[gb314]? = some (.cells #[.int .i64 t309, .int .i64 t310, .slice Ao23 t311.length co23] 24 (0, 0))) := ⟨hf_ BK314.out NB314_354.out⟩
             have n8_ : Aside0 ((((w74.setCell ⟨gb354, 0, none⟩ (.int .i64 t348)).setCell ⟨gb354, 1, none⟩ (.int .i64 t349)).setCell ⟨gb354, 2, none⟩ (.slice Ao81 t350.length co81)).heap[gb330]? = some (.cells #[.int .i64 t324, .int .i64 t325, .slice Ao35 t326.length co35] 32 (0, 0))) := ⟨hf_ BK330.out NB330_354.out⟩
             have n9_ : Aside0 ((((w74.setCell ⟨gb354, 0, none⟩ (.int .i64 t348)).setCell ⟨gb354, 1, none⟩ (.int .i64 t349)).setCell ⟨gb354, 2, none⟩ (.slice Ao81 t350.length co81)).heap[gb342]? = some (.cells #[.int .i64 t336, .int .i64 t337, .slice Ao67 t338.length co67] 32 (0, 0))) := ⟨hf_ BK342.out NB342_354.out⟩
             have n10_ : Aside0 ((((w74.setCell ⟨gb354, 0, none⟩ (.int .i64 t348)).setCell ⟨gb354, 1, none⟩ (.int .i64 t349)).setCell ⟨gb354, 2, none⟩ (.slice Ao81 t350.length co81)).heap[gb354]? = some (.cells #[.int .i64 t348, .int .i64 t349, .slice Ao81 t350.length co81] 32 (0, 0))) := ⟨by (with_reducible repeat (first | refine blk_drewN ?_ _ | refine blk_drew ?_ | refine blk_alloc ?_ _)); refine blk_put (cs := #[.int .i64 t348, .int .i64 t349, .slice none 0 0]) ?_ 2 _ rfl; (with_reducible repeat (first | refine blk_drewN ?_ _ | refine blk_drew ?_ | refine blk_alloc ?_ _)); refine blk_put (cs := #[.int .i64 t348, .int .i64 0, .slice none 0 0]) ?_ 1 _ rfl; (with_reducible repeat (first | refine blk_drewN ?_ _ | refine blk_drew ?_ | refine blk_alloc ?_ _)); refine blk_put (cs := #[.int .i64 0, .int .i64 0, .slice none 0 0]) ?_ 0 _ rfl; (with_reducible repeat (first | refine blk_drewN ?_ _ | refine blk_drew ?_ | refine blk_alloc ?_ _)); exact BK354.out⟩
             have n11_ : Aside0 (Below w.heap.size w (((w74.setCell ⟨gb354, 0, none⟩ (.int .i64 t348)).setCell ⟨gb354, 1, none⟩ (.int .i64 t349)).setCell ⟨gb354, 2, none⟩ (.slice Ao81 t350.length co81))) := ⟨bp_⟩
             (try clear HO_315002)
             (try clear HO_331002)
             (try clear HO340)
             (try clear HO347)
             (try clear HO352)
             (try clear BK307)
             (try clear BK308)
             (try clear BK314)
             (try clear BK330)
             (try clear BK342)
             (try clear BK354)
             (try clear HB)
             generalize (((w74.setCell ⟨gb354, 0, none⟩ (.int .i64 t348)).setCell ⟨gb354, 1, none⟩ (.int .i64 t349)).setCell ⟨gb354, 2, none⟩ (.slice Ao81 t350.length co81)) = w90 at n0_ n1_ n2_ n3_ n4_ n5_ n6_ n7_ n8_ n9_ n10_ n11_ ⊢
             have HO_315002 := n0_
             have HO_331002 := n1_
             have HO340 := n2_
             have HO347 := n3_
             have HO352 := n4_
             have BK307 := n5_
             have BK308 := n6_
             have BK314 := n7_
             have BK330 := n8_
             have BK342 := n9_
             have BK354 := n10_
             have HB := n11_
             clear n0_ n1_ n2_ n3_ n4_ n5_ n6_ n7_ n8_ n9_ n10_ n11_
             replace HO_315002 := Aside0.mk (Kd.R_drew HO_315002.out)
             replace HO_331002 := Aside0.mk (Kd.R_drew HO_331002.out)
             replace HO340 := Aside0.mk (Kd.R_drew HO340.out)
             replace HO347 := Aside0.mk (Kd.V_drew HO347.out)
             replace HO352 := Aside0.mk (Kd.R_drew HO352.out)
             replace BK307 := Aside0.mk (blk_drew BK307.out)
             replace BK308 := Aside0.mk (blk_drew BK308.out)
             replace BK314 := Aside0.mk (blk_drew BK314.out)
             replace BK330 := Aside0.mk (blk_drew BK330.out)
             replace BK342 := Aside0.mk (blk_drew BK342.out)
             replace BK354 := Aside0.mk (blk_drew BK354.out)
             replace HB := Aside0.mk (below_drew1 HB.out)
             refine start_ (n := 25) (S := fun w' => w'.cell? ⟨gb314, 0, none⟩ = some (.int .i64 t309) ∧ w'.cell? ⟨gb314, 1, none⟩ = some (.int .i64 t310) ∧ w'.cell? ⟨gb314, 2, none⟩ = some (.slice Ao23 t311.length co23) ∧ w'.cell? ⟨gb342, 0, none⟩ = some (.int .i64 t336) ∧ w'.cell? ⟨gb342, 1, none⟩ = some (.int .i64 t337) ∧ w'.cell? ⟨gb342, 2, none⟩ = some (.slice Ao67 t338.length co67) ∧ w'.cell? ⟨gb354, 0, none⟩ = some (.int .i64 t348) ∧ w'.cell? ⟨gb354, 1, none⟩ = some (.int .i64 t349) ∧ w'.cell? ⟨gb354, 2, none⟩ = some (.slice Ao81 t350.length co81)) (ds := []) Fl55 (by kernel_rfl) rfl rfl ⟨(blk_cell BK314.out 0).trans rfl, (blk_cell BK314.out 1).trans rfl, (blk_cell BK314.out 2).trans rfl, (blk_cell BK342.out 0).trans rfl, (blk_cell BK342.out 1).trans rfl, (blk_cell BK342.out 2).trans rfl, (blk_cell BK354.out 0).trans rfl, (blk_cell BK354.out 1).trans rfl, (blk_cell BK354.out 2).trans rfl⟩ (fun hHeld => ?_); refine with_tabW chequerlaw03_RectSubs.tab13 chequerlaw03_RectSubs.bits13 (fun HT_ HW_ => ?_)
             generalize w90.drew = w91 at HO_315002 HO_331002 HO340 HO347 HO352 BK307 BK308 BK314 BK330 BK342 BK354 HB hHeld ⊢
             refine pur_ (i := 0) (N := some 112) Fl56 (any_of HT_.out (by kernel_rfl)) ?_
             refine pur_ (i := 1) (N := some 113) Fl57 (any_of HT_.out (by kernel_rfl)) ?_
             refine pur_ (i := 2) (N := some 114) Fl58 (any_of HT_.out (by kernel_rfl)) ?_
             refine pur_ (i := 3) (N := some 115) Fl59 (any_of HT_.out (by kernel_rfl)) ?_
             refine pur_ (i := 4) (N := some 116) Fl60 (any_of HT_.out (by kernel_rfl)) ?_
             refine take_ (i := 5) (N := some 117) (v := ?_) (a' := ?_) Fl61 rfl rfl (take_ofW HT_.out HW_.out (by kernel_rfl)) (fun _ _ _ h => h) (Or.inl ⟨by rfl, ?_⟩) hHeld ?_ ?_
             rotate_left
             · rintro w' ⟨s0, s1, s2, s3, s4, s5, s6, s7, s8⟩
               go_simp
               with_reducible rfl
             rotate_left
             · simp only [Act.put, List.setIfInBounds_toArray, List.set_cons_zero, List.set_cons_succ, i64_w, i32_w]
               rfl
             refine take_ (i := 6) (N := some 118) (v := ?_) (a' := ?_) Fl62 rfl rfl (take_ofW HT_.out HW_.out (by kernel_rfl)) (fun _ _ _ h => h) (Or.inl ⟨by rfl, ?_⟩) hHeld ?_ ?_
             rotate_left
             · rintro w' ⟨s0, s1, s2, s3, s4, s5, s6, s7, s8⟩
               go_simp
               with_reducible rfl
             rotate_left
             · simp only [Act.put, List.setIfInBounds_toArray, List.set_cons_zero, List.set_cons_succ, i64_w, i32_w]
               rfl
             refine one_ (i := 7) (N := some 119) Fl63 rfl rfl (one_of HT_.out (by kernel_rfl)) (by decide) (fun K hK => ?_)
             refine goes_ Try.func22 (by kernel_rfl) rfl #[.agg #[.int .i64 t336, .int .i64 t337, .slice Ao67 t338.length co67], .agg #[.int .i64 t348, .int .i64 t349, .slice Ao81 t350.length co81]] (by rfl) rfl rfl (by (try simp only [List.map_toArray, List.map_cons, List.map_nil]); first | done | rfl | (simp only [List.length_drop, List.length_take]; rfl)) ?_
             with_reducible refine (rect_Same.calls kj10 t336 t337 _ _ t338 t348 t349 _ _ t350 true _ ?side1 ?side2 ?side3 ?side4 A84.out).mono ?_
             (case side1 => exact cp_ (Kd.R_reads' HO340.out).2.2)
             (case side2 => exact (Kd.R_reads' HO340.out).2.1)
             (case side3 => exact cp_ (Kd.R_reads' HO352.out).2.2)
             (case side4 => exact (Kd.R_reads' HO352.out).2.1)
             rintro e w92 ⟨rfl, hb⟩
             refine ⟨_, rfl, ?_⟩
             replace HO_315002 := Aside0.mk (Kd.R_below (rp_ HO_315002.out) hb)
             replace HO_331002 := Aside0.mk (Kd.R_below (rp_ HO_331002.out) hb)
             replace HO340 := Aside0.mk (Kd.R_below (rp_ HO340.out) hb)
             replace HO347 := Aside0.mk (Kd.V_below (vp_ HO347.out) hb)
             replace HO352 := Aside0.mk (Kd.R_below (rp_ HO352.out) hb)
             replace BK307 := Aside0.mk (blk_below (hp_ BK307.out) hb)
             replace BK308 := Aside0.mk (blk_below (hp_ BK308.out) hb)
             replace BK314 := Aside0.mk (blk_below (hp_ BK314.out) hb)
             replace BK330 := Aside0.mk (blk_below (hp_ BK330.out) hb)
             replace BK342 := Aside0.mk (blk_below (hp_ BK342.out) hb)
             replace BK354 := Aside0.mk (blk_below (hp_ BK354.out) hb)
             replace HB := Aside0.mk (below_step bp_ hb)
             (try clear hb)
             (try clear hb2)
             (try clear hk)
             (try clear hi)
             refine hK.out _ _ ⟨(blk_cell BK314.out 0).trans rfl, (blk_cell BK314.out 1).trans rfl, (blk_cell BK314.out 2).trans rfl, (blk_cell BK342.out 0).trans rfl, (blk_cell BK342.out 1).trans rfl, (blk_cell BK342.out 2).trans rfl, (blk_cell BK354.out 0).trans rfl, (blk_cell BK354.out 1).trans rfl, (blk_cell BK354.out 2).trans rfl⟩ (fun hHeld => ?_)
             clear hK K
             refine norm_ (a' := ?_) ?_ ?_
             rotate_left
             · show Act.put _ (some 119) _ = _
               simp only [Act.put, List.setIfInBounds_toArray, List.set_cons_zero, List.set_cons_succ, i64_w, i32_w]
               rfl
             refine pur_ (i := 8) (N := some 120) Fl64 (any_of HT_.out (by kernel_rfl)) ?_
             refine pur_ (i := 9) (N := some 121) Fl65 (any_of HT_.out (by kernel_rfl)) ?_
             refine pur_ (i := 13) (N := some 125) Fl86 (any_of HT_.out (by kernel_rfl)) ?_
             refine pur_ (i := 14) (N := some 126) Fl87 (any_of HT_.out (by kernel_rfl)) ?_
             refine pur_ (i := 15) (N := some 127) Fl88 (any_of HT_.out (by kernel_rfl)) ?_
             refine pur_ (i := 16) (N := some 128) Fl89 (any_of HT_.out (by kernel_rfl)) ?_
             refine pur_ (i := 17) (N := some 129) Fl90 (any_of HT_.out (by kernel_rfl)) ?_
             refine pur_ (i := 18) (N := some 130) Fl91 (any_of HT_.out (by kernel_rfl)) ?_
             refine take_ (i := 10) (N := some 122) (v := ?_) (a' := ?_) Fl93 rfl rfl (take_ofW HT_.out HW_.out (by kernel_rfl)) (fun _ _ _ h => h) (Or.inl ⟨by rfl, ?_⟩) hHeld ?_ ?_
             rotate_left
             · rintro w' ⟨s0, s1, s2, s3, s4, s5, s6, s7, s8⟩
               go_simp
               with_reducible rfl
             rotate_left
             · simp only [Act.put, List.setIfInBounds_toArray, List.set_cons_zero, List.set_cons_succ, i64_w, i32_w]
               rfl
             refine take_ (i := 12) (N := some 124) (v := ?_) (a' := ?_) Fl94 rfl rfl (take_ofW HT_.out HW_.out (by kernel_rfl)) (fun _ _ _ h => h) (Or.inl ⟨by rfl, ?_⟩) hHeld ?_ ?_
             rotate_left
             · rintro w' ⟨s0, s1, s2, s3, s4, s5, s6, s7, s8⟩
               go_simp
               with_reducible rfl
             rotate_left
             · simp only [Act.put, List.setIfInBounds_toArray, List.set_cons_zero, List.set_cons_succ, i64_w, i32_w]
               rfl
             refine one_ (i := 11) (N := some 123) Fl66 rfl rfl (one_of HT_.out (by kernel_rfl)) (by decide) (fun K hK => ?_)
             refine goes_ Try.func13 (by kernel_rfl) rfl #[.agg #[.int .i64 t309, .int .i64 t310, .slice Ao23 t311.length co23]] (by rfl) rfl rfl (by (try simp only [List.map_toArray, List.map_cons, List.map_nil]); first | done | rfl | (simp only [List.length_drop, List.length_take]; rfl)) ?_
             with_reducible refine (chequerlaw03_of.calls t309 t310 (fun k_ => some k_ = (.slice Ao23 t311.length co23 : Value).ownBlock) _ _ t311 t356 t357 t358 _ ?side1 A86.out).mono ?_
             (case side1 => exact Kd.R_V (Kd.R_tight rfl (Kd.R_types (Kd.R_types (Kd.R_types (Kd.R_types (Kd.R_types (Kd.R_types (HO_315002.out) BK307.out (by decide)) BK308.out (by decide)) BK314.out (by decide)) BK330.out (by decide)) BK342.out (by decide)) BK354.out (by decide))))
             rintro e w93 ⟨v359, rfl, ho0, hb⟩
             refine ⟨_, rfl, ?_⟩
             replace HO347 := Aside0.mk (Kd.V_below (vp_ HO347.out) hb)
             have HO360 := Aside0.mk (Kd.V_lower (Kd.V_mono (ok' := fun k_ => some k_ ≠ (.slice Ao35 t326.length co35 : Value).ownBlock ∧ some k_ ≠ (.slice Ao67 t338.length co67 : Value).ownBlock ∧ some k_ ≠ (.slice Ao81 t350.length co81 : Value).ownBlock ∧ k_ ≠ gb307 ∧ k_ ≠ gb308 ∧ k_ ≠ gb314 ∧ k_ ≠ gb330 ∧ k_ ≠ gb342 ∧ k_ ≠ gb354) ho0 (fun k_ hk_ => ⟨Or.elim hk_ (fun hs_ => ((Kd.R_types (Kd.R_types (Kd.R_types (Kd.R_types (Kd.R_types (Kd.R_types (HO_315002.out) BK307.out (by decide)) BK308.out (by decide)) BK314.out (by decide)) BK330.out (by decide)) BK342.out (by decide)) BK354.out (by decide)).1 k_ hs_.symm).1.1.1.1.1.1.1) (fun hn_ => (Kd.fresh' (Kd.R_lt (rp_ HO_331002.out)) k_ hn_)), Or.elim hk_ (fun hs_ => ((Kd.R_types (Kd.R_types (Kd.R_types (Kd.R_types (Kd.R_types (Kd.R_types (HO_315002.out) BK307.out (by decide)) BK308.out (by decide)) BK314.out (by decide)) BK330.out (by decide)) BK342.out (by decide)) BK354.out (by decide)).1 k_ hs_.symm).1.1.1.1.1.1.2.1) (fun hn_ => (Kd.fresh' (Kd.R_lt (rp_ HO340.out)) k_ hn_)), Or.elim hk_ (fun hs_ => ((Kd.R_types (Kd.R_types (Kd.R_types (Kd.R_types (Kd.R_types (Kd.R_types (HO_315002.out) BK307.out (by decide)) BK308.out (by decide)) BK314.out (by decide)) BK330.out (by decide)) BK342.out (by decide)) BK354.out (by decide)).1 k_ hs_.symm).1.1.1.1.1.1.2.2) (fun hn_ => (Kd.fresh' (Kd.R_lt (rp_ HO352.out)) k_ hn_)), Or.elim hk_ (fun hs_ => ((Kd.R_types (Kd.R_types (Kd.R_types (Kd.R_types (Kd.R_types (Kd.R_types (HO_315002.out) BK307.out (by decide)) BK308.out (by decide)) BK314.out (by decide)) BK330.out (by decide)) BK342.out (by decide)) BK354.out (by decide)).1 k_ hs_.symm).1.1.1.1.1.2) (fun hn_ => (Kd.freshB (g := gb307) (o := .cells #[.int .i64 a1_0, .int .i64 a1_1, .int .i64 a1_2, .int .i64 a1_3] 25 (0, 0)) (hp_ BK307.out) k_ hn_)), Or.elim hk_ (fun hs_ => ((Kd.R_types (Kd.R_types (Kd.R_types (Kd.R_types (Kd.R_types (Kd.R_types (HO_315002.out) BK307.out (by decide)) BK308.out (by decide)) BK314.out (by decide)) BK330.out (by decide)) BK342.out (by decide)) BK354.out (by decide)).1 k_ hs_.symm).1.1.1.1.2) (fun hn_ => (Kd.freshB (g := gb308) (o := .cells #[.int .i64 a2_0, .int .i64 a2_1, .int .i64 a2_2, .int .i64 a2_3] 25 (0, 0)) (hp_ BK308.out) k_ hn_)), Or.elim hk_ (fun hs_ => ((Kd.R_types (Kd.R_types (Kd.R_types (Kd.R_types (Kd.R_types (Kd.R_types (HO_315002.out) BK307.out (by decide)) BK308.out (by decide)) BK314.out (by decide)) BK330.out (by decide)) BK342.out (by decide)) BK354.out (by decide)).1 k_ hs_.symm).1.1.1.2) (fun hn_ => (Kd.freshB (g := gb314) (o := .cells #[.int .i64 t309, .int .i64 t310, .slice Ao23 t311.length co23] 24 (0, 0)) (hp_ BK314.out) k_ hn_)), Or.elim hk_ (fun hs_ => ((Kd.R_types (Kd.R_types (Kd.R_types (Kd.R_types (Kd.R_types (Kd.R_types (HO_315002.out) BK307.out (by decide)) BK308.out (by decide)) BK314.out (by decide)) BK330.out (by decide)) BK342.out (by decide)) BK354.out (by decide)).1 k_ hs_.symm).1.1.2) (fun hn_ => (Kd.freshB (g := gb330) (o := .cells #[.int .i64 t324, .int .i64 t325, .slice Ao35 t326.length co35] 32 (0, 0)) (hp_ BK330.out) k_ hn_)), Or.elim hk_ (fun hs_ => ((Kd.R_types (Kd.R_types (Kd.R_types (Kd.R_types (Kd.R_types (Kd.R_types (HO_315002.out) BK307.out (by decide)) BK308.out (by decide)) BK314.out (by decide)) BK330.out (by decide)) BK342.out (by decide)) BK354.out (by decide)).1 k_ hs_.symm).1.2) (fun hn_ => (Kd.freshB (g := gb342) (o := .cells #[.int .i64 t336, .int .i64 t337, .slice Ao67 t338.length co67] 32 (0, 0)) (hp_ BK342.out) k_ hn_)), Or.elim hk_ (fun hs_ => ((Kd.R_types (Kd.R_types (Kd.R_types (Kd.R_types (Kd.R_types (Kd.R_types (HO_315002.out) BK307.out (by decide)) BK308.out (by decide)) BK314.out (by decide)) BK330.out (by decide)) BK342.out (by decide)) BK354.out (by decide)).1 k_ hs_.symm).2) (fun hn_ => (Kd.freshB (g := gb354) (o := .cells #[.int .i64 t348, .int .i64 t349, .slice Ao81 t350.length co81] 32 (0, 0)) (hp_ BK354.out) k_ hn_))⟩)) (below_size bp_))
             replace HO_315002 := Aside0.mk (Kd.R_below (rp_ HO_315002.out) hb)
             replace HO_331002 := Aside0.mk (Kd.R_below (rp_ HO_331002.out) hb)
             replace HO340 := Aside0.mk (Kd.R_below (rp_ HO340.out) hb)
             replace HO352 := Aside0.mk (Kd.R_below (rp_ HO352.out) hb)
             replace BK307 := Aside0.mk (blk_below (hp_ BK307.out) hb)
             replace BK308 := Aside0.mk (blk_below (hp_ BK308.out) hb)
             replace BK314 := Aside0.mk (blk_below (hp_ BK314.out) hb)
             replace BK330 := Aside0.mk (blk_below (hp_ BK330.out) hb)
             replace BK342 := Aside0.mk (blk_below (hp_ BK342.out) hb)
             replace BK354 := Aside0.mk (blk_below (hp_ BK354.out) hb)
             replace HB := Aside0.mk (below_step bp_ hb)
             (try clear hb)
             (try clear hb2)
             (try clear hk)
             (try clear hi)
             (try clear ho0)
             obtain ⟨Ao94, co94, eo94⟩ := Kd.V_slice HO360.out
             (first | subst eo94 | (injection eo94 with f1_ f2_ f3_; have f4_ := f1_.symm; have f5_ := f3_.symm; clear f1_ f2_ f3_; subst f4_; subst f5_))
             refine hK.out _ _ ⟨(blk_cell BK314.out 0).trans rfl, (blk_cell BK314.out 1).trans rfl, (blk_cell BK314.out 2).trans rfl, (blk_cell BK342.out 0).trans rfl, (blk_cell BK342.out 1).trans rfl, (blk_cell BK342.out 2).trans rfl, (blk_cell BK354.out 0).trans rfl, (blk_cell BK354.out 1).trans rfl, (blk_cell BK354.out 2).trans rfl⟩ (fun hHeld => ?_)
             clear hK K
             refine norm_ (a' := ?_) ?_ ?_
             rotate_left
             · show Act.put _ (some 123) _ = _
               simp only [Act.put, List.setIfInBounds_toArray, List.set_cons_zero, List.set_cons_succ, i64_w, i32_w]
               rfl
             refine one_ (i := 19) (N := some 131) Fl67 rfl rfl (one_of HT_.out (by kernel_rfl)) (by decide) (fun K hK => ?_)
             refine goes_ Try.func23 (by kernel_rfl) rfl #[.agg #[.int .i64 t356, .int .i64 t357, .slice Ao94 t358.length co94], .agg #[.int .i64 t336, .int .i64 t337, .slice Ao67 t338.length co67], .int .i64 (wrap64 (t315 + t332)), .int .i64 (wrap64 (t316 + t333))] (by rfl) rfl rfl (by (try simp only [List.map_toArray, List.map_cons, List.map_nil]); first | done | rfl | (simp only [List.length_drop, List.length_take]; rfl)) ?_
             with_reducible refine (rect_Matrix_Has.calls kj10 t356 t357 _ _ t358 t336 t337 _ _ t338 (wrap64 (t315 + t332)) (wrap64 (t316 + t333)) true _ ?side1 ?side2 ?side3 ?side4 A87.out).mono ?_
             (case side1 => exact cp_ (Kd.V_reads' HO360.out).2.2)
             (case side2 => exact (Kd.V_reads' HO360.out).2.1)
             (case side3 => exact cp_ (Kd.R_reads' HO340.out).2.2)
             (case side4 => exact (Kd.R_reads' HO340.out).2.1)
             rintro e w95 ⟨rfl, hb⟩
             refine ⟨_, rfl, ?_⟩
             replace HO_315002 := Aside0.mk (Kd.R_below (rp_ HO_315002.out) hb)
             replace HO_331002 := Aside0.mk (Kd.R_below (rp_ HO_331002.out) hb)
             replace HO340 := Aside0.mk (Kd.R_below (rp_ HO340.out) hb)
             replace HO347 := Aside0.mk (Kd.V_below (vp_ HO347.out) hb)
             replace HO352 := Aside0.mk (Kd.R_below (rp_ HO352.out) hb)
             replace HO360 := Aside0.mk (Kd.V_below (vp_ HO360.out) hb)
             replace BK307 := Aside0.mk (blk_below (hp_ BK307.out) hb)
             replace BK308 := Aside0.mk (blk_below (hp_ BK308.out) hb)
             replace BK314 := Aside0.mk (blk_below (hp_ BK314.out) hb)
             replace BK330 := Aside0.mk (blk_below (hp_ BK330.out) hb)
             replace BK342 := Aside0.mk (blk_below (hp_ BK342.out) hb)
             replace BK354 := Aside0.mk (blk_below (hp_ BK354.out) hb)
             replace HB := Aside0.mk (below_step bp_ hb)
             (try clear hb)
             (try clear hb2)
             (try clear hk)
             (try clear hi)
             refine hK.out _ _ ⟨(blk_cell BK314.out 0).trans rfl, (blk_cell BK314.out 1).trans rfl, (blk_cell BK314.out 2).trans rfl, (blk_cell BK342.out 0).trans rfl, (blk_cell BK342.out 1).trans rfl, (blk_cell BK342.out 2).trans rfl, (blk_cell BK354.out 0).trans rfl, (blk_cell BK354.out 1).trans rfl, (blk_cell BK354.out 2).trans rfl⟩ (fun hHeld => ?_)
             clear hK K
             refine norm_ (a' := ?_) ?_ ?_
             rotate_left
             · show Act.put _ (some 131) _ = _
               simp only [Act.put, List.setIfInBounds_toArray, List.set_cons_zero, List.set_cons_succ, i64_w, i32_w]
               rfl
             refine pur_ (i := 20) (N := some 132) Fl68 (any_of HT_.out (by kernel_rfl)) ?_
             refine pur_ (i := 21) (N := some 133) Fl69 (any_of HT_.out (by kernel_rfl)) ?_
             refine one_ (i := 22) (N := some 134) Fl70 rfl rfl (one_of HT_.out (by kernel_rfl)) (by decide) (fun K hK => ?_)
             refine goes_ Try.func16 (by kernel_rfl) rfl #[] (by rfl) rfl rfl (by (try simp only [List.map_toArray, List.map_cons, List.map_nil]); first | done | rfl | (simp only [List.length_drop, List.length_take]; rfl)) ?_
             with_reducible refine (chequerlaw03_lives.calls kj10  t362 _ A89.out).mono ?_
             rintro e w96 ⟨rfl, hb⟩
             refine ⟨_, rfl, ?_⟩
             replace HO_315002 := Aside0.mk (Kd.R_below (rp_ HO_315002.out) hb)
             replace HO_331002 := Aside0.mk (Kd.R_below (rp_ HO_331002.out) hb)
             replace HO340 := Aside0.mk (Kd.R_below (rp_ HO340.out) hb)
             replace HO347 := Aside0.mk (Kd.V_below (vp_ HO347.out) hb)
             replace HO352 := Aside0.mk (Kd.R_below (rp_ HO352.out) hb)
             replace HO360 := Aside0.mk (Kd.V_below (vp_ HO360.out) hb)
             replace BK307 := Aside0.mk (blk_below (hp_ BK307.out) hb)
             replace BK308 := Aside0.mk (blk_below (hp_ BK308.out) hb)
             replace BK314 := Aside0.mk (blk_below (hp_ BK314.out) hb)
             replace BK330 := Aside0.mk (blk_below (hp_ BK330.out) hb)
             replace BK342 := Aside0.mk (blk_below (hp_ BK342.out) hb)
             replace BK354 := Aside0.mk (blk_below (hp_ BK354.out) hb)
             replace HB := Aside0.mk (below_step bp_ hb)
             (try clear hb)
             (try clear hb2)
             (try clear hk)
             (try clear hi)
             refine hK.out _ _ ⟨(blk_cell BK314.out 0).trans rfl, (blk_cell BK314.out 1).trans rfl, (blk_cell BK314.out 2).trans rfl, (blk_cell BK342.out 0).trans rfl, (blk_cell BK342.out 1).trans rfl, (blk_cell BK342.out 2).trans rfl, (blk_cell BK354.out 0).trans rfl, (blk_cell BK354.out 1).trans rfl, (blk_cell BK354.out 2).trans rfl⟩ (fun hHeld => ?_)
             clear hK K
             refine norm_ (a' := ?_) ?_ ?_
             rotate_left
             · show Act.put _ (some 134) _ = _
               simp only [Act.put, List.setIfInBounds_toArray, List.set_cons_zero, List.set_cons_succ, i64_w, i32_w]
               rfl
             refine pur_ (i := 23) (N := some 135) Fl71 (any_of HT_.out (by kernel_rfl)) ?_
             refine pur_ (i := 24) (N := some 6) Fl72 (any_of HT_.out (by kernel_rfl)) ?_
             refine done_ (done_of HT_.out (by kernel_rfl)) ?_
             try go_wp2
             go_ret
             exact ⟨by first | rfl | (simp [errW_none, errW_some] <;> rfl) | (simp [*, errW_none, errW_some] <;> rfl), bp_⟩
           · replace c88 := Bool.eq_false_iff.mpr c88
             subst c88
             have H1 : (some false) = some r := by rw [if_neg (show ¬ (false = true) by decide)] at H; exact H
             clear H
             have H := H1
             clear H1
             obtain rfl := Option.some.inj H
             try go_wp2
             have n0_ : Aside0 (Kd.R (Kd.int .u64) 46 (((w74.setCell ⟨gb354, 0, none⟩ (.int .i64 t348)).setCell ⟨gb354, 1, none⟩ (.int .i64 t349)).setCell ⟨gb354, 2, none⟩ (.slice Ao81 t350.length co81)) w.heap.size (fun k_ => some k_ ≠ (.slice Ao35 t326.length co35 : Value).ownBlock ∧ some k_ ≠ (.slice Ao67 t338.length co67 : Value).ownBlock ∧ some k_ ≠ (.slice Ao81 t350.length co81 : Value).ownBlock) (.slice Ao23 t311.length co23) t311) := ⟨rf_ HO_315002.out BK354.out (by decide) (fun _ hk => ⟨hk.1.1.1, ⟨hk.1.1.2, hk.1.2⟩⟩)⟩
             have n1_ : Aside0 (Kd.R (Kd.int .u64) 46 (((w74.setCell ⟨gb354, 0, none⟩ (.int .i64 t348)).setCell ⟨gb354, 1, none⟩ (.int .i64 t349)).setCell ⟨gb354, 2, none⟩ (.slice Ao81 t350.length co81)) w.heap.size (fun k_ => some k_ ≠ (.slice Ao23 t311.length co23 : Value).ownBlock ∧ some k_ ≠ (.slice Ao67 t338.length co67 : Value).ownBlock ∧ some k_ ≠ (.slice Ao81 t350.length co81 : Value).ownBlock) (.slice Ao35 t326.length co35) t326) := ⟨rf_ HO_331002.out BK354.out (by decide) (fun _ hk => ⟨hk.1.1.1, ⟨hk.1.1.2, hk.1.2⟩⟩)⟩
             have n2_ : Aside0 (Kd.R (Kd.int .u64) 46 (((w74.setCell ⟨gb354, 0, none⟩ (.int .i64 t348)).setCell ⟨gb354, 1, none⟩ (.int .i64 t349)).setCell ⟨gb354, 2, none⟩ (.slice Ao81 t350.length co81)) w.heap.size (fun k_ => some k_ ≠ (.slice Ao23 t311.length co23 : Value).ownBlock ∧ some k_ ≠ (.slice Ao35 t326.length co35 : Value).ownBlock ∧ some k_ ≠ (.slice Ao81 t350.length co81 : Value).ownBlock) (.slice Ao67 t338.length co67) t338) := ⟨rf_ HO340.out BK354.out (by decide) (fun _ hk => ⟨hk.1.1.1, ⟨hk.1.1.2, hk.1.2⟩⟩)⟩
             have n3_ : Aside0 (Kd.V (Kd.int .u64) 46 (((w74.setCell ⟨gb354, 0, none⟩ (.int .i64 t348)).setCell ⟨gb354, 1, none⟩ (.int .i64 t349)).setCell ⟨gb354, 2, none⟩ (.slice Ao81 t350.length co81)) w.heap.size (fun k_ => some k_ ≠ (.slice Ao35 t326.length co35 : Value).ownBlock ∧ some k_ ≠ (.slice Ao67 t338.length co67 : Value).ownBlock ∧ some k_ ≠ (.slice Ao81 t350.length co81 : Value).ownBlock ∧ k_ ≠ gb307 ∧ k_ ≠ gb308 ∧ k_ ≠ gb314 ∧ k_ ≠ gb330 ∧ k_ ≠ gb342 ∧ k_ ≠ gb354) (.slice Ao72 t345.length co72) t345) := ⟨by (with_reducible repeat (first | apply Kd.V_alloc | apply Kd.V_drewN | apply Kd.V_drew)); exact Kd.V_mono (Kd.V_far (p := ⟨gb354, 2, none⟩) (Kd.V_far (p := ⟨gb354, 1, none⟩) (Kd.V_far (p := ⟨gb354, 0, none⟩) (Kd.V_mono HO347.out (fun k_ hk => (⟨hk, hk.2⟩ : _ ∧ k_ ≠ gb354))) (fun _ hk => hk.2) (.int .i64 t348)) (fun _ hk => hk.2) (.int .i64 t349)) (fun _ hk => hk.2) (.slice Ao81 t350.length co81)) (fun _ hk => ⟨hk.1.1.1.1, ⟨hk.1.1.1.2.1, ⟨hk.1.1.2, ⟨hk.1.1.1.2.2.1, ⟨hk.1.1.1.2.2.2.1, ⟨hk.1.1.1.2.2.2.2.1, ⟨hk.1.1.1.2.2.2.2.2.1, ⟨hk.1.1.1.2.2.2.2.2.2, hk.1.2⟩⟩⟩⟩⟩⟩⟩⟩)⟩
             have n4_ : Aside0 (Kd.R (Kd.int .u64) 46 (((w74.setCell ⟨gb354, 0, none⟩ (.int .i64 t348)).setCell ⟨gb354, 1, none⟩ (.int .i64 t349)).setCell ⟨gb354, 2, none⟩ (.slice Ao81 t350.length co81)) w.heap.size (fun k_ => some k_ ≠ (.slice Ao23 t311.length co23 : Value).ownBlock ∧ some k_ ≠ (.slice Ao35 t326.length co35 : Value).ownBlock ∧ some k_ ≠ (.slice Ao67 t338.length co67 : Value).ownBlock) (.slice Ao81 t350.length co81) t350) := ⟨rf_ HO352.out BK354.out (by decide) (fun _ hk => ⟨hk.1.1.1.2, ⟨hk.1.1.2, hk.1.2⟩⟩)⟩
             have n5_ : Aside0 ((((w74.setCell ⟨gb354, 0, none⟩ (.int .i64 t348)).setCell ⟨gb354, 1, none⟩ (.int .i64 t349)).setCell ⟨gb354, 2, none⟩ (.slice Ao81 t350.length co81)).heap[gb307]? = some (.cells #[.int .i64 a1_0, .int .i64 a1_1, .int .i64 a1_2, .int .i64 a1_3] 25 (0, 0))) := ⟨hf_ BK307.out NB307_354.out⟩
             have n6_ : Aside0 ((((w74.setCell ⟨gb354, 0, none⟩ (.int .i64 t348)).setCell ⟨gb354, 1, none⟩ (.int .i64 t349)).setCell ⟨gb354, 2, none⟩ (.slice Ao81 t350.length co81)).heap[gb308]? = some (.cells #[.int .i64 a2_0, .int .i64 a2_1, .int .i64 a2_2, .int .i64 a2_3] 25 (0, 0))) := ⟨hf_ BK308.out NB308_354.out⟩
             have n7_ : Aside0 ((((w74.setCell ⟨gb354, 0, none⟩ (.int .i64 t348)).setCell ⟨gb354, 1, none⟩ (.int .i64 t349)).setCell ⟨gb354, 2, none⟩ (.slice Ao81 t350.length co81)).heap[gb314]? = some (.cells #[.int .i64 t309, .int .i64 t310, .slice Ao23 t311.length co23] 24 (0, 0))) := ⟨hf_ BK314.out NB314_354.out⟩
             have n8_ : Aside0 ((((w74.setCell ⟨gb354, 0, none⟩ (.int .i64 t348)).setCell ⟨gb354, 1, none⟩ (.int .i64 t349)).setCell ⟨gb354, 2, none⟩ (.slice Ao81 t350.length co81)).heap[gb330]? = some (.cells #[.int .i64 t324, .int .i64 t325, .slice Ao35 t326.length co35] 32 (0, 0))) := ⟨hf_ BK330.out NB330_354.out⟩
             have n9_ : Aside0 ((((w74.setCell ⟨gb354, 0, none⟩ (.int .i64 t348)).setCell ⟨gb354, 1, none⟩ (.int .i64 t349)).setCell ⟨gb354, 2, none⟩ (.slice Ao81 t350.length co81)).heap[gb342]? = some (.cells #[.int .i64 t336, .int .i64 t337, .slice Ao67 t338.length co67] 32 (0, 0))) := ⟨hf_ BK342.out NB342_354.out⟩
             have n10_ : Aside0 ((((w74.setCell ⟨gb354, 0, none⟩ (.int .i64 t348)).setCell ⟨gb354, 1, none⟩ (.int .i64 t349)).setCell ⟨gb354, 2, none⟩ (.slice Ao81 t350.length co81)).heap[gb354]? = some (.cells #[.int .i64 t348, .int .i64 t349, .slice Ao81 t350.length co81] 32 (0, 0))) := ⟨by (with_reducible repeat (first | refine blk_drewN ?_ _ | refine blk_drew ?_ | refine blk_alloc ?_ _)); refine blk_put (cs := #[.int .i64 t348, .int .i64 t349, .slice none 0 0]) ?_ 2 _ rfl; (with_reducible repeat (first | refine blk_drewN ?_ _ | refine blk_drew ?_ | refine blk_alloc ?_ _)); refine blk_put (cs := #[.int .i64 t348, .int .i64 0, .slice none 0 0]) ?_ 1 _ rfl; (with_reducible repeat (first | refine blk_drewN ?_ _ | refine blk_drew ?_ | refine blk_alloc ?_ _)); refine blk_put (cs := #[.int .i64 0, .int .i64 0, .slice none 0 0]) ?_ 0 _ rfl; (with_reducible repeat (first | refine blk_drewN ?_ _ | refine blk_drew ?_ | refine blk_alloc ?_ _)); exact BK354.out⟩
             have n11_ : Aside0 (Below w.heap.size w (((w74.setCell ⟨gb354, 0, none⟩ (.int .i64 t348)).setCell ⟨gb354, 1, none⟩ (.int .i64 t349)).setCell ⟨gb354, 2, none⟩ (.slice Ao81 t350.length co81))) := ⟨bp_⟩
             (try clear HO_315002)
             (try clear HO_331002)
             (try clear HO340)
             (try clear HO347)
             (try clear HO352)
             (try clear BK307)
             (try clear BK308)
             (try clear BK314)
             (try clear BK330)
             (try clear BK342)
             (try clear BK354)
             (try clear HB)
             generalize (((w74.setCell ⟨gb354, 0, none⟩ (.int .i64 t348)).setCell ⟨gb354, 1, none⟩ (.int .i64 t349)).setCell ⟨gb354, 2, none⟩ (.slice Ao81 t350.length co81)) = w97 at n0_ n1_ n2_ n3_ n4_ n5_ n6_ n7_ n8_ n9_ n10_ n11_ ⊢
             have HO_315002 := n0_
             have HO_331002 := n1_
             have HO340 := n2_
             have HO347 := n3_
             have HO352 := n4_
             have BK307 := n5_
             have BK308 := n6_
             have BK314 := n7_
             have BK330 := n8_
             have BK342 := n9_
             have BK354 := n10_
             have HB := n11_
             clear n0_ n1_ n2_ n3_ n4_ n5_ n6_ n7_ n8_ n9_ n10_ n11_
             replace HO_315002 := Aside0.mk (Kd.R_drew HO_315002.out)
             replace HO_331002 := Aside0.mk (Kd.R_drew HO_331002.out)
             replace HO340 := Aside0.mk (Kd.R_drew HO340.out)
             replace HO347 := Aside0.mk (Kd.V_drew HO347.out)
             replace HO352 := Aside0.mk (Kd.R_drew HO352.out)
             replace BK307 := Aside0.mk (blk_drew BK307.out)
             replace BK308 := Aside0.mk (blk_drew BK308.out)
             replace BK314 := Aside0.mk (blk_drew BK314.out)
             replace BK330 := Aside0.mk (blk_drew BK330.out)
             replace BK342 := Aside0.mk (blk_drew BK342.out)
             replace BK354 := Aside0.mk (blk_drew BK354.out)
             replace HB := Aside0.mk (below_drew1 HB.out)
             refine start_ (n := 25) (S := fun w' => w'.cell? ⟨gb314, 0, none⟩ = some (.int .i64 t309) ∧ w'.cell? ⟨gb314, 1, none⟩ = some (.int .i64 t310) ∧ w'.cell? ⟨gb314, 2, none⟩ = some (.slice Ao23 t311.length co23) ∧ w'.cell? ⟨gb342, 0, none⟩ = some (.int .i64 t336) ∧ w'.cell? ⟨gb342, 1, none⟩ = some (.int .i64 t337) ∧ w'.cell? ⟨gb342, 2, none⟩ = some (.slice Ao67 t338.length co67) ∧ w'.cell? ⟨gb354, 0, none⟩ = some (.int .i64 t348) ∧ w'.cell? ⟨gb354, 1, none⟩ = some (.int .i64 t349) ∧ w'.cell? ⟨gb354, 2, none⟩ = some (.slice Ao81 t350.length co81)) (ds := []) Fl55 (by kernel_rfl) rfl rfl ⟨(blk_cell BK314.out 0).trans rfl, (blk_cell BK314.out 1).trans rfl, (blk_cell BK314.out 2).trans rfl, (blk_cell BK342.out 0).trans rfl, (blk_cell BK342.out 1).trans rfl, (blk_cell BK342.out 2).trans rfl, (blk_cell BK354.out 0).trans rfl, (blk_cell BK354.out 1).trans rfl, (blk_cell BK354.out 2).trans rfl⟩ (fun hHeld => ?_); refine with_tabW chequerlaw03_RectSubs.tab13 chequerlaw03_RectSubs.bits13 (fun HT_ HW_ => ?_)
             generalize w97.drew = w98 at HO_315002 HO_331002 HO340 HO347 HO352 BK307 BK308 BK314 BK330 BK342 BK354 HB hHeld ⊢
             refine pur_ (i := 0) (N := some 112) Fl56 (any_of HT_.out (by kernel_rfl)) ?_
             refine pur_ (i := 1) (N := some 113) Fl57 (any_of HT_.out (by kernel_rfl)) ?_
             refine pur_ (i := 2) (N := some 114) Fl58 (any_of HT_.out (by kernel_rfl)) ?_
             refine pur_ (i := 3) (N := some 115) Fl59 (any_of HT_.out (by kernel_rfl)) ?_
             refine pur_ (i := 4) (N := some 116) Fl60 (any_of HT_.out (by kernel_rfl)) ?_
             refine take_ (i := 5) (N := some 117) (v := ?_) (a' := ?_) Fl61 rfl rfl (take_ofW HT_.out HW_.out (by kernel_rfl)) (fun _ _ _ h => h) (Or.inl ⟨by rfl, ?_⟩) hHeld ?_ ?_
             rotate_left
             · rintro w' ⟨s0, s1, s2, s3, s4, s5, s6, s7, s8⟩
               go_simp
               with_reducible rfl
             rotate_left
             · simp only [Act.put, List.setIfInBounds_toArray, List.set_cons_zero, List.set_cons_succ, i64_w, i32_w]
               rfl
             refine take_ (i := 6) (N := some 118) (v := ?_) (a' := ?_) Fl62 rfl rfl (take_ofW HT_.out HW_.out (by kernel_rfl)) (fun _ _ _ h => h) (Or.inl ⟨by rfl, ?_⟩) hHeld ?_ ?_
             rotate_left
             · rintro w' ⟨s0, s1, s2, s3, s4, s5, s6, s7, s8⟩
               go_simp
               with_reducible rfl
             rotate_left
             · simp only [Act.put, List.setIfInBounds_toArray, List.set_cons_zero, List.set_cons_succ, i64_w, i32_w]
               rfl
             refine one_ (i := 7) (N := some 119) Fl63 rfl rfl (one_of HT_.out (by kernel_rfl)) (by decide) (fun K hK => ?_)
             refine goes_ Try.func22 (by kernel_rfl) rfl #[.agg #[.int .i64 t336, .int .i64 t337, .slice Ao67 t338.length co67], .agg #[.int .i64 t348, .int .i64 t349, .slice Ao81 t350.length co81]] (by rfl) rfl rfl (by (try simp only [List.map_toArray, List.map_cons, List.map_nil]); first | done | rfl | (simp only [List.length_drop, List.length_take]; rfl)) ?_
             with_reducible refine (rect_Same.calls kj10 t336 t337 _ _ t338 t348 t349 _ _ t350 true _ ?side1 ?side2 ?side3 ?side4 A84.out).mono ?_
             (case side1 => exact cp_ (Kd.R_reads' HO340.out).2.2)
             (case side2 => exact (Kd.R_reads' HO340.out).2.1)
             (case side3 => exact cp_ (Kd.R_reads' HO352.out).2.2)
             (case side4 => exact (Kd.R_reads' HO352.out).2.1)
             rintro e w99 ⟨rfl, hb⟩
             refine ⟨_, rfl, ?_⟩
             replace HO_315002 := Aside0.mk (Kd.R_below (rp_ HO_315002.out) hb)
             replace HO_331002 := Aside0.mk (Kd.R_below (rp_ HO_331002.out) hb)
             replace HO340 := Aside0.mk (Kd.R_below (rp_ HO340.out) hb)
             replace HO347 := Aside0.mk (Kd.V_below (vp_ HO347.out) hb)
             replace HO352 := Aside0.mk (Kd.R_below (rp_ HO352.out) hb)
             replace BK307 := Aside0.mk (blk_below (hp_ BK307.out) hb)
             replace BK308 := Aside0.mk (blk_below (hp_ BK308.out) hb)
             replace BK314 := Aside0.mk (blk_below (hp_ BK314.out) hb)
             replace BK330 := Aside0.mk (blk_below (hp_ BK330.out) hb)
             replace BK342 := Aside0.mk (blk_below (hp_ BK342.out) hb)
             replace BK354 := Aside0.mk (blk_below (hp_ BK354.out) hb)
             replace HB := Aside0.mk (below_step bp_ hb)
             (try clear hb)
             (try clear hb2)
             (try clear hk)
             (try clear hi)
             refine hK.out _ _ ⟨(blk_cell BK314.out 0).trans rfl, (blk_cell BK314.out 1).trans rfl, (blk_cell BK314.out 2).trans rfl, (blk_cell BK342.out 0).trans rfl, (blk_cell BK342.out 1).trans rfl, (blk_cell BK342.out 2).trans rfl, (blk_cell BK354.out 0).trans rfl, (blk_cell BK354.out 1).trans rfl, (blk_cell BK354.out 2).trans rfl⟩ (fun hHeld => ?_)
             clear hK K
             refine norm_ (a' := ?_) ?_ ?_
             rotate_left
             · show Act.put _ (some 119) _ = _
               simp only [Act.put, List.setIfInBounds_toArray, List.set_cons_zero, List.set_cons_succ, i64_w, i32_w]
               rfl
             refine pur_ (i := 8) (N := some 120) Fl64 (any_of HT_.out (by kernel_rfl)) ?_
             refine pur_ (i := 9) (N := some 121) Fl65 (any_of HT_.out (by kernel_rfl)) ?_
             refine pur_ (i := 13) (N := some 125) Fl86 (any_of HT_.out (by kernel_rfl)) ?_
             refine pur_ (i := 14) (N := some 126) Fl87 (any_of HT_.out (by kernel_rfl)) ?_
             refine pur_ (i := 15) (N := some 127) Fl88 (any_of HT_.out (by kernel_rfl)) ?_
             refine pur_ (i := 16) (N := some 128) Fl89 (any_of HT_.out (by kernel_rfl)) ?_
             refine pur_ (i := 17) (N := some 129) Fl90 (any_of HT_.out (by kernel_rfl)) ?_
             refine pur_ (i := 18) (N := some 130) Fl91 (any_of HT_.out (by kernel_rfl)) ?_
             refine take_ (i := 10) (N := some 122) (v := ?_) (a' := ?_) Fl93 rfl rfl (take_ofW HT_.out HW_.out (by kernel_rfl)) (fun _ _ _ h => h) (Or.inl ⟨by rfl, ?_⟩) hHeld ?_ ?_
             rotate_left
             · rintro w' ⟨s0, s1, s2, s3, s4, s5, s6, s7, s8⟩
               go_simp
               with_reducible rfl
             rotate_left
             · simp only [Act.put, List.setIfInBounds_toArray, List.set_cons_zero, List.set_cons_succ, i64_w, i32_w]
               rfl
             refine take_ (i := 12) (N := some 124) (v := ?_) (a' := ?_) Fl94 rfl rfl (take_ofW HT_.out HW_.out (by kernel_rfl)) (fun _ _ _ h => h) (Or.inl ⟨by rfl, ?_⟩) hHeld ?_ ?_
             rotate_left
             · rintro w' ⟨s0, s1, s2, s3, s4, s5, s6, s7, s8⟩
               go_simp
               with_reducible rfl
             rotate_left
             · simp only [Act.put, List.setIfInBounds_toArray, List.set_cons_zero, List.set_cons_succ, i64_w, i32_w]
               rfl
             refine one_ (i := 11) (N := some 123) Fl66 rfl rfl (one_of HT_.out (by kernel_rfl)) (by decide) (fun K hK => ?_)
             refine goes_ Try.func13 (by kernel_rfl) rfl #[.agg #[.int .i64 t309, .int .i64 t310, .slice Ao23 t311.length co23]] (by rfl) rfl rfl (by (try simp only [List.map_toArray, List.map_cons, List.map_nil]); first | done | rfl | (simp only [List.length_drop, List.length_take]; rfl)) ?_
             with_reducible refine (chequerlaw03_of.calls t309 t310 (fun k_ => some k_ = (.slice Ao23 t311.length co23 : Value).ownBlock) _ _ t311 t356 t357 t358 _ ?side1 A86.out).mono ?_
             (case side1 => exact Kd.R_V (Kd.R_tight rfl (Kd.R_types (Kd.R_types (Kd.R_types (Kd.R_types (Kd.R_types (Kd.R_types (HO_315002.out) BK307.out (by decide)) BK308.out (by decide)) BK314.out (by decide)) BK330.out (by decide)) BK342.out (by decide)) BK354.out (by decide))))
             rintro e w100 ⟨v359, rfl, ho0, hb⟩
             refine ⟨_, rfl, ?_⟩
             replace HO347 := Aside0.mk (Kd.V_below (vp_ HO347.out) hb)
             have HO360 := Aside0.mk (Kd.V_lower (Kd.V_mono (ok' := fun k_ => some k_ ≠ (.slice Ao35 t326.length co35 : Value).ownBlock ∧ some k_ ≠ (.slice Ao67 t338.length co67 : Value).ownBlock ∧ some k_ ≠ (.slice Ao81 t350.length co81 : Value).ownBlock ∧ k_ ≠ gb307 ∧ k_ ≠ gb308 ∧ k_ ≠ gb314 ∧ k_ ≠ gb330 ∧ k_ ≠ gb342 ∧ k_ ≠ gb354) ho0 (fun k_ hk_ => ⟨Or.elim hk_ (fun hs_ => ((Kd.R_types (Kd.R_types (Kd.R_types (Kd.R_types (Kd.R_types (Kd.R_types (HO_315002.out) BK307.out (by decide)) BK308.out (by decide)) BK314.out (by decide)) BK330.out (by decide)) BK342.out (by decide)) BK354.out (by decide)).1 k_ hs_.symm).1.1.1.1.1.1.1) (fun hn_ => (Kd.fresh' (Kd.R_lt (rp_ HO_331002.out)) k_ hn_)), Or.elim hk_ (fun hs_ => ((Kd.R_types (Kd.R_types (Kd.R_types (Kd.R_types (Kd.R_types (Kd.R_types (HO_315002.out) BK307.out (by decide)) BK308.out (by decide)) BK314.out (by decide)) BK330.out (by decide)) BK342.out (by decide)) BK354.out (by decide)).1 k_ hs_.symm).1.1.1.1.1.1.2.1) (fun hn_ => (Kd.fresh' (Kd.R_lt (rp_ HO340.out)) k_ hn_)), Or.elim hk_ (fun hs_ => ((Kd.R_types (Kd.R_types (Kd.R_types (Kd.R_types (Kd.R_types (Kd.R_types (HO_315002.out) BK307.out (by decide)) BK308.out (by decide)) BK314.out (by decide)) BK330.out (by decide)) BK342.out (by decide)) BK354.out (by decide)).1 k_ hs_.symm).1.1.1.1.1.1.2.2) (fun hn_ => (Kd.fresh' (Kd.R_lt (rp_ HO352.out)) k_ hn_)), Or.elim hk_ (fun hs_ => ((Kd.R_types (Kd.R_types (Kd.R_types (Kd.R_types (Kd.R_types (Kd.R_types (HO_315002.out) BK307.out (by decide)) BK308.out (by decide)) BK314.out (by decide)) BK330.out (by decide)) BK342.out (by decide)) BK354.out (by decide)).1 k_ hs_.symm).1.1.1.1.1.2) (fun hn_ => (Kd.freshB (g := gb307) (o := .cells #[.int .i64 a1_0, .int .i64 a1_1, .int .i64 a1_2, .int .i64 a1_3] 25 (0, 0)) (hp_ BK307.out) k_ hn_)), Or.elim hk_ (fun hs_ => ((Kd.R_types (Kd.R_types (Kd.R_types (Kd.R_types (Kd.R_types (Kd.R_types (HO_315002.out) BK307.out (by decide)) BK308.out (by decide)) BK314.out (by decide)) BK330.out (by decide)) BK342.out (by decide)) BK354.out (by decide)).1 k_ hs_.symm).1.1.1.1.2) (fun hn_ => (Kd.freshB (g := gb308) (o := .cells #[.int .i64 a2_0, .int .i64 a2_1, .int .i64 a2_2, .int .i64 a2_3] 25 (0, 0)) (hp_ BK308.out) k_ hn_)), Or.elim hk_ (fun hs_ => ((Kd.R_types (Kd.R_types (Kd.R_types (Kd.R_types (Kd.R_types (Kd.R_types (HO_315002.out) BK307.out (by decide)) BK308.out (by decide)) BK314.out (by decide)) BK330.out (by decide)) BK342.out (by decide)) BK354.out (by decide)).1 k_ hs_.symm).1.1.1.2) (fun hn_ => (Kd.freshB (g := gb314) (o := .cells #[.int .i64 t309, .int .i64 t310, .slice Ao23 t311.length co23] 24 (0, 0)) (hp_ BK314.out) k_ hn_)), Or.elim hk_ (fun hs_ => ((Kd.R_types (Kd.R_types (Kd.R_types (Kd.R_types (Kd.R_types (Kd.R_types (HO_315002.out) BK307.out (by decide)) BK308.out (by decide)) BK314.out (by decide)) BK330.out (by decide)) BK342.out (by decide)) BK354.out (by decide)).1 k_ hs_.symm).1.1.2) (fun hn_ => (Kd.freshB (g := gb330) (o := .cells #[.int .i64 t324, .int .i64 t325, .slice Ao35 t326.length co35] 32 (0, 0)) (hp_ BK330.out) k_ hn_)), Or.elim hk_ (fun hs_ => ((Kd.R_types (Kd.R_types (Kd.R_types (Kd.R_types (Kd.R_types (Kd.R_types (HO_315002.out) BK307.out (by decide)) BK308.out (by decide)) BK314.out (by decide)) BK330.out (by decide)) BK342.out (by decide)) BK354.out (by decide)).1 k_ hs_.symm).1.2) (fun hn_ => (Kd.freshB (g := gb342) (o := .cells #[.int .i64 t336, .int .i64 t337, .slice Ao67 t338.length co67] 32 (0, 0)) (hp_ BK342.out) k_ hn_)), Or.elim hk_ (fun hs_ => ((Kd.R_types (Kd.R_types (Kd.R_types (Kd.R_types (Kd.R_types (Kd.R_types (HO_315002.out) BK307.out (by decide)) BK308.out (by decide)) BK314.out (by decide)) BK330.out (by decide)) BK342.out (by decide)) BK354.out (by decide)).1 k_ hs_.symm).2) (fun hn_ => (Kd.freshB (g := gb354) (o := .cells #[.int .i64 t348, .int .i64 t349, .slice Ao81 t350.length co81] 32 (0, 0)) (hp_ BK354.out) k_ hn_))⟩)) (below_size bp_))
             replace HO_315002 := Aside0.mk (Kd.R_below (rp_ HO_315002.out) hb)
             replace HO_331002 := Aside0.mk (Kd.R_below (rp_ HO_331002.out) hb)
             replace HO340 := Aside0.mk (Kd.R_below (rp_ HO340.out) hb)
             replace HO352 := Aside0.mk (Kd.R_below (rp_ HO352.out) hb)
             replace BK307 := Aside0.mk (blk_below (hp_ BK307.out) hb)
             replace BK308 := Aside0.mk (blk_below (hp_ BK308.out) hb)
             replace BK314 := Aside0.mk (blk_below (hp_ BK314.out) hb)
             replace BK330 := Aside0.mk (blk_below (hp_ BK330.out) hb)
             replace BK342 := Aside0.mk (blk_below (hp_ BK342.out) hb)
             replace BK354 := Aside0.mk (blk_below (hp_ BK354.out) hb)
             replace HB := Aside0.mk (below_step bp_ hb)
             (try clear hb)
             (try clear hb2)
             (try clear hk)
             (try clear hi)
             (try clear ho0)
             obtain ⟨Ao101, co101, eo101⟩ := Kd.V_slice HO360.out
             (first | subst eo101 | (injection eo101 with f1_ f2_ f3_; have f4_ := f1_.symm; have f5_ := f3_.symm; clear f1_ f2_ f3_; subst f4_; subst f5_))
             refine hK.out _ _ ⟨(blk_cell BK314.out 0).trans rfl, (blk_cell BK314.out 1).trans rfl, (blk_cell BK314.out 2).trans rfl, (blk_cell BK342.out 0).trans rfl, (blk_cell BK342.out 1).trans rfl, (blk_cell BK342.out 2).trans rfl, (blk_cell BK354.out 0).trans rfl, (blk_cell BK354.out 1).trans rfl, (blk_cell BK354.out 2).trans rfl⟩ (fun hHeld => ?_)
             clear hK K
             refine norm_ (a' := ?_) ?_ ?_
             rotate_left
             · show Act.put _ (some 123) _ = _
               simp only [Act.put, List.setIfInBounds_toArray, List.set_cons_zero, List.set_cons_succ, i64_w, i32_w]
               rfl
             refine one_ (i := 19) (N := some 131) Fl67 rfl rfl (one_of HT_.out (by kernel_rfl)) (by decide) (fun K hK => ?_)
             refine goes_ Try.func23 (by kernel_rfl) rfl #[.agg #[.int .i64 t356, .int .i64 t357, .slice Ao101 t358.length co101], .agg #[.int .i64 t336, .int .i64 t337, .slice Ao67 t338.length co67], .int .i64 (wrap64 (t315 + t332)), .int .i64 (wrap64 (t316 + t333))] (by rfl) rfl rfl (by (try simp only [List.map_toArray, List.map_cons, List.map_nil]); first | done | rfl | (simp only [List.length_drop, List.length_take]; rfl)) ?_
             with_reducible refine (rect_Matrix_Has.calls kj10 t356 t357 _ _ t358 t336 t337 _ _ t338 (wrap64 (t315 + t332)) (wrap64 (t316 + t333)) false _ ?side1 ?side2 ?side3 ?side4 A87.out).mono ?_
             (case side1 => exact cp_ (Kd.V_reads' HO360.out).2.2)
             (case side2 => exact (Kd.V_reads' HO360.out).2.1)
             (case side3 => exact cp_ (Kd.R_reads' HO340.out).2.2)
             (case side4 => exact (Kd.R_reads' HO340.out).2.1)
             rintro e w102 ⟨rfl, hb⟩
             refine ⟨_, rfl, ?_⟩
             replace HO_315002 := Aside0.mk (Kd.R_below (rp_ HO_315002.out) hb)
             replace HO_331002 := Aside0.mk (Kd.R_below (rp_ HO_331002.out) hb)
             replace HO340 := Aside0.mk (Kd.R_below (rp_ HO340.out) hb)
             replace HO347 := Aside0.mk (Kd.V_below (vp_ HO347.out) hb)
             replace HO352 := Aside0.mk (Kd.R_below (rp_ HO352.out) hb)
             replace HO360 := Aside0.mk (Kd.V_below (vp_ HO360.out) hb)
             replace BK307 := Aside0.mk (blk_below (hp_ BK307.out) hb)
             replace BK308 := Aside0.mk (blk_below (hp_ BK308.out) hb)
             replace BK314 := Aside0.mk (blk_below (hp_ BK314.out) hb)
             replace BK330 := Aside0.mk (blk_below (hp_ BK330.out) hb)
             replace BK342 := Aside0.mk (blk_below (hp_ BK342.out) hb)
             replace BK354 := Aside0.mk (blk_below (hp_ BK354.out) hb)
             replace HB := Aside0.mk (below_step bp_ hb)
             (try clear hb)
             (try clear hb2)
             (try clear hk)
             (try clear hi)
             refine hK.out _ _ ⟨(blk_cell BK314.out 0).trans rfl, (blk_cell BK314.out 1).trans rfl, (blk_cell BK314.out 2).trans rfl, (blk_cell BK342.out 0).trans rfl, (blk_cell BK342.out 1).trans rfl, (blk_cell BK342.out 2).trans rfl, (blk_cell BK354.out 0).trans rfl, (blk_cell BK354.out 1).trans rfl, (blk_cell BK354.out 2).trans rfl⟩ (fun hHeld => ?_)
             clear hK K
             refine norm_ (a' := ?_) ?_ ?_
             rotate_left
             · show Act.put _ (some 131) _ = _
               simp only [Act.put, List.setIfInBounds_toArray, List.set_cons_zero, List.set_cons_succ, i64_w, i32_w]
               rfl
             refine pur_ (i := 20) (N := some 132) Fl68 (any_of HT_.out (by kernel_rfl)) ?_
             refine pur_ (i := 21) (N := some 133) Fl69 (any_of HT_.out (by kernel_rfl)) ?_
             refine pun_ (i := 22) (N := some 134) Fl70 (any_of HT_.out (by kernel_rfl)) ?_
             refine pur_ (i := 23) (N := some 135) Fl71 (any_of HT_.out (by kernel_rfl)) ?_
             refine pur_ (i := 24) (N := some 6) Fl72 (any_of HT_.out (by kernel_rfl)) ?_
             refine done_ (done_of HT_.out (by kernel_rfl)) ?_
             try go_wp2
             go_ret
             exact ⟨by first | rfl | (simp [errW_none, errW_some] <;> rfl) | (simp [*, errW_none, errW_some] <;> rfl), bp_⟩
         · replace c85 := Bool.eq_false_iff.mpr c85
           subst c85
           have H1 : (some false) = some r := by rw [if_neg (show ¬ (false = true) by decide)] at H; exact H
           clear H
           have H := H1
           clear H1
           obtain rfl := Option.some.inj H
           try go_wp2
           have n0_ : Aside0 (Kd.R (Kd.int .u64) 46 (((w74.setCell ⟨gb354, 0, none⟩ (.int .i64 t348)).setCell ⟨gb354, 1, none⟩ (.int .i64 t349)).setCell ⟨gb354, 2, none⟩ (.slice Ao81 t350.length co81)) w.heap.size (fun k_ => some k_ ≠ (.slice Ao35 t326.length co35 : Value).ownBlock ∧ some k_ ≠ (.slice Ao67 t338.length co67 : Value).ownBlock ∧ some k_ ≠ (.slice Ao81 t350.length co81 : Value).ownBlock) (.slice Ao23 t311.length co23) t311) := ⟨rf_ HO_315002.out BK354.out (by decide) (fun _ hk => ⟨hk.1.1.1, ⟨hk.1.1.2, hk.1.2⟩⟩)⟩
           have n1_ : Aside0 (Kd.R (Kd.int .u64) 46 (((w74.setCell ⟨gb354, 0, none⟩ (.int .i64 t348)).setCell ⟨gb354, 1, none⟩ (.int .i64 t349)).setCell ⟨gb354, 2, none⟩ (.slice Ao81 t350.length co81)) w.heap.size (fun k_ => some k_ ≠ (.slice Ao23 t311.length co23 : Value).ownBlock ∧ some k_ ≠ (.slice Ao67 t338.length co67 : Value).ownBlock ∧ some k_ ≠ (.slice Ao81 t350.length co81 : Value).ownBlock) (.slice Ao35 t326.length co35) t326) := ⟨rf_ HO_331002.out BK354.out (by decide) (fun _ hk => ⟨hk.1.1.1, ⟨hk.1.1.2, hk.1.2⟩⟩)⟩
           have n2_ : Aside0 (Kd.R (Kd.int .u64) 46 (((w74.setCell ⟨gb354, 0, none⟩ (.int .i64 t348)).setCell ⟨gb354, 1, none⟩ (.int .i64 t349)).setCell ⟨gb354, 2, none⟩ (.slice Ao81 t350.length co81)) w.heap.size (fun k_ => some k_ ≠ (.slice Ao23 t311.length co23 : Value).ownBlock ∧ some k_ ≠ (.slice Ao35 t326.length co35 : Value).ownBlock ∧ some k_ ≠ (.slice Ao81 t350.length co81 : Value).ownBlock) (.slice Ao67 t338.length co67) t338) := ⟨rf_ HO340.out BK354.out (by decide) (fun _ hk => ⟨hk.1.1.1, ⟨hk.1.1.2, hk.1.2⟩⟩)⟩
           have n3_ : Aside0 (Kd.V (Kd.int .u64) 46 (((w74.setCell ⟨gb354, 0, none⟩ (.int .i64 t348)).setCell ⟨gb354, 1, none⟩ (.int .i64 t349)).setCell ⟨gb354, 2, none⟩ (.slice Ao81 t350.length co81)) w.heap.size (fun k_ => some k_ ≠ (.slice Ao35 t326.length co35 : Value).ownBlock ∧ some k_ ≠ (.slice Ao67 t338.length co67 : Value).ownBlock ∧ some k_ ≠ (.slice Ao81 t350.length co81 : Value).ownBlock ∧ k_ ≠ gb307 ∧ k_ ≠ gb308 ∧ k_ ≠ gb314 ∧ k_ ≠ gb330 ∧ k_ ≠ gb342 ∧ k_ ≠ gb354) (.slice Ao72 t345.length co72) t345) := ⟨by (with_reducible repeat (first | apply Kd.V_alloc | apply Kd.V_drewN | apply Kd.V_drew)); exact Kd.V_mono (Kd.V_far (p := ⟨gb354, 2, none⟩) (Kd.V_far (p := ⟨gb354, 1, none⟩) (Kd.V_far (p := ⟨gb354, 0, none⟩) (Kd.V_mono HO347.out (fun k_ hk => (⟨hk, hk.2⟩ : _ ∧ k_ ≠ gb354))) (fun _ hk => hk.2) (.int .i64 t348)) (fun _ hk => hk.2) (.int .i64 t349)) (fun _ hk => hk.2) (.slice Ao81 t350.length co81)) (fun _ hk => ⟨hk.1.1.1.1, ⟨hk.1.1.1.2.1, ⟨hk.1.1.2, ⟨hk.1.1.1.2.2.1, ⟨hk.1.1.1.2.2.2.1, ⟨hk.1.1.1.2.2.2.2.1, ⟨hk.1.1.1.2.2.2.2.2.1, ⟨hk.1.1.1.2.2.2.2.2.2, hk.1.2⟩⟩⟩⟩⟩⟩⟩⟩)⟩
           have n4_ : Aside0 (Kd.R (Kd.int .u64) 46 (((w74.setCell ⟨gb354, 0, none⟩ (.int .i64 t348)).setCell ⟨gb354, 1, none⟩ (.int .i64 t349)).setCell ⟨gb354, 2, none⟩ (.slice Ao81 t350.length co81)) w.heap.size (fun k_ => some k_ ≠ (.slice Ao23 t311.length co23 : Value).ownBlock ∧ some k_ ≠ (.slice Ao35 t326.length co35 : Value).ownBlock ∧ some k_ ≠ (.slice Ao67 t338.length co67 : Value).ownBlock) (.slice Ao81 t350.length co81) t350) := ⟨rf_ HO352.out BK354.out (by decide) (fun _ hk => ⟨hk.1.1.1.2, ⟨hk.1.1.2, hk.1.2⟩⟩)⟩
           have n5_ : Aside0 ((((w74.setCell ⟨gb354, 0, none⟩ (.int .i64 t348)).setCell ⟨gb354, 1, none⟩ (.int .i64 t349)).setCell ⟨gb354, 2, none⟩ (.slice Ao81 t350.length co81)).heap[gb307]? = some (.cells #[.int .i64 a1_0, .int .i64 a1_1, .int .i64 a1_2, .int .i64 a1_3] 25 (0, 0))) := ⟨hf_ BK307.out NB307_354.out⟩
           have n6_ : Aside0 ((((w74.setCell ⟨gb354, 0, none⟩ (.int .i64 t348)).setCell ⟨gb354, 1, none⟩ (.int .i64 t349)).setCell ⟨gb354, 2, none⟩ (.slice Ao81 t350.length co81)).heap[gb308]? = some (.cells #[.int .i64 a2_0, .int .i64 a2_1, .int .i64 a2_2, .int .i64 a2_3] 25 (0, 0))) := ⟨hf_ BK308.out NB308_354.out⟩
           have n7_ : Aside0 ((((w74.setCell ⟨gb354, 0, none⟩ (.int .i64 t348)).setCell ⟨gb354, 1, none⟩ (.int .i64 t349)).setCell ⟨gb354, 2, none⟩ (.slice Ao81 t350.length co81)).heap[gb314]? = some (.cells #[.int .i64 t309, .int .i64 t310, .slice Ao23 t311.length co23] 24 (0, 0))) := ⟨hf_ BK314.out NB314_354.out⟩
           have n8_ : Aside0 ((((w74.setCell ⟨gb354, 0, none⟩ (.int .i64 t348)).setCell ⟨gb354, 1, none⟩ (.int .i64 t349)).setCell ⟨gb354, 2, none⟩ (.slice Ao81 t350.length co81)).heap[gb330]? = some (.cells #[.int .i64 t324, .int .i64 t325, .slice Ao35 t326.length co35] 32 (0, 0))) := ⟨hf_ BK330.out NB330_354.out⟩
           have n9_ : Aside0 ((((w74.setCell ⟨gb354, 0, none⟩ (.int .i64 t348)).setCell ⟨gb354, 1, none⟩ (.int .i64 t349)).setCell ⟨gb354, 2, none⟩ (.slice Ao81 t350.length co81)).heap[gb342]? = some (.cells #[.int .i64 t336, .int .i64 t337, .slice Ao67 t338.length co67] 32 (0, 0))) := ⟨hf_ BK342.out NB342_354.out⟩
           have n10_ : Aside0 ((((w74.setCell ⟨gb354, 0, none⟩ (.int .i64 t348)).setCell ⟨gb354, 1, none⟩ (.int .i64 t349)).setCell ⟨gb354, 2, none⟩ (.slice Ao81 t350.length co81)).heap[gb354]? = some (.cells #[.int .i64 t348, .int .i64 t349, .slice Ao81 t350.length co81] 32 (0, 0))) := ⟨by (with_reducible repeat (first | refine blk_drewN ?_ _ | refine blk_drew ?_ | refine blk_alloc ?_ _)); refine blk_put (cs := #[.int .i64 t348, .int .i64 t349, .slice none 0 0]) ?_ 2 _ rfl; (with_reducible repeat (first | refine blk_drewN ?_ _ | refine blk_drew ?_ | refine blk_alloc ?_ _)); refine blk_put (cs := #[.int .i64 t348, .int .i64 0, .slice none 0 0]) ?_ 1 _ rfl; (with_reducible repeat (first | refine blk_drewN ?_ _ | refine blk_drew ?_ | refine blk_alloc ?_ _)); refine blk_put (cs := #[.int .i64 0, .int .i64 0, .slice none 0 0]) ?_ 0 _ rfl; (with_reducible repeat (first | refine blk_drewN ?_ _ | refine blk_drew ?_ | refine blk_alloc ?_ _)); exact BK354.out⟩
           have n11_ : Aside0 (Below w.heap.size w (((w74.setCell ⟨gb354, 0, none⟩ (.int .i64 t348)).setCell ⟨gb354, 1, none⟩ (.int .i64 t349)).setCell ⟨gb354, 2, none⟩ (.slice Ao81 t350.length co81))) := ⟨bp_⟩
           (try clear HO_315002)
           (try clear HO_331002)
           (try clear HO340)
           (try clear HO347)
           (try clear HO352)
           (try clear BK307)
           (try clear BK308)
           (try clear BK314)
           (try clear BK330)
           (try clear BK342)
           (try clear BK354)
           (try clear HB)
           generalize (((w74.setCell ⟨gb354, 0, none⟩ (.int .i64 t348)).setCell ⟨gb354, 1, none⟩ (.int .i64 t349)).setCell ⟨gb354, 2, none⟩ (.slice Ao81 t350.length co81)) = w103 at n0_ n1_ n2_ n3_ n4_ n5_ n6_ n7_ n8_ n9_ n10_ n11_ ⊢
           have HO_315002 := n0_
           have HO_331002 := n1_
           have HO340 := n2_
           have HO347 := n3_
           have HO352 := n4_
           have BK307 := n5_
           have BK308 := n6_
           have BK314 := n7_
           have BK330 := n8_
           have BK342 := n9_
           have BK354 := n10_
           have HB := n11_
           clear n0_ n1_ n2_ n3_ n4_ n5_ n6_ n7_ n8_ n9_ n10_ n11_
           replace HO_315002 := Aside0.mk (Kd.R_drew HO_315002.out)
           replace HO_331002 := Aside0.mk (Kd.R_drew HO_331002.out)
           replace HO340 := Aside0.mk (Kd.R_drew HO340.out)
           replace HO347 := Aside0.mk (Kd.V_drew HO347.out)
           replace HO352 := Aside0.mk (Kd.R_drew HO352.out)
           replace BK307 := Aside0.mk (blk_drew BK307.out)
           replace BK308 := Aside0.mk (blk_drew BK308.out)
           replace BK314 := Aside0.mk (blk_drew BK314.out)
           replace BK330 := Aside0.mk (blk_drew BK330.out)
           replace BK342 := Aside0.mk (blk_drew BK342.out)
           replace BK354 := Aside0.mk (blk_drew BK354.out)
           replace HB := Aside0.mk (below_drew1 HB.out)
           refine start_ (n := 25) (S := fun w' => w'.cell? ⟨gb314, 0, none⟩ = some (.int .i64 t309) ∧ w'.cell? ⟨gb314, 1, none⟩ = some (.int .i64 t310) ∧ w'.cell? ⟨gb314, 2, none⟩ = some (.slice Ao23 t311.length co23) ∧ w'.cell? ⟨gb342, 0, none⟩ = some (.int .i64 t336) ∧ w'.cell? ⟨gb342, 1, none⟩ = some (.int .i64 t337) ∧ w'.cell? ⟨gb342, 2, none⟩ = some (.slice Ao67 t338.length co67) ∧ w'.cell? ⟨gb354, 0, none⟩ = some (.int .i64 t348) ∧ w'.cell? ⟨gb354, 1, none⟩ = some (.int .i64 t349) ∧ w'.cell? ⟨gb354, 2, none⟩ = some (.slice Ao81 t350.length co81)) (ds := []) Fl55 (by kernel_rfl) rfl rfl ⟨(blk_cell BK314.out 0).trans rfl, (blk_cell BK314.out 1).trans rfl, (blk_cell BK314.out 2).trans rfl, (blk_cell BK342.out 0).trans rfl, (blk_cell BK342.out 1).trans rfl, (blk_cell BK342.out 2).trans rfl, (blk_cell BK354.out 0).trans rfl, (blk_cell BK354.out 1).trans rfl, (blk_cell BK354.out 2).trans rfl⟩ (fun hHeld => ?_); refine with_tabW chequerlaw03_RectSubs.tab13 chequerlaw03_RectSubs.bits13 (fun HT_ HW_ => ?_)
           generalize w103.drew = w104 at HO_315002 HO_331002 HO340 HO347 HO352 BK307 BK308 BK314 BK330 BK342 BK354 HB hHeld ⊢
           refine pur_ (i := 0) (N := some 112) Fl56 (any_of HT_.out (by kernel_rfl)) ?_
           refine pur_ (i := 1) (N := some 113) Fl57 (any_of HT_.out (by kernel_rfl)) ?_
           refine pur_ (i := 2) (N := some 114) Fl58 (any_of HT_.out (by kernel_rfl)) ?_
           refine pur_ (i := 3) (N := some 115) Fl59 (any_of HT_.out (by kernel_rfl)) ?_
           refine pur_ (i := 4) (N := some 116) Fl60 (any_of HT_.out (by kernel_rfl)) ?_
           refine take_ (i := 5) (N := some 117) (v := ?_) (a' := ?_) Fl61 rfl rfl (take_ofW HT_.out HW_.out (by kernel_rfl)) (fun _ _ _ h => h) (Or.inl ⟨by rfl, ?_⟩) hHeld ?_ ?_
           rotate_left
           · rintro w' ⟨s0, s1, s2, s3, s4, s5, s6, s7, s8⟩
             go_simp
             with_reducible rfl
           rotate_left
           · simp only [Act.put, List.setIfInBounds_toArray, List.set_cons_zero, List.set_cons_succ, i64_w, i32_w]
             rfl
           refine take_ (i := 6) (N := some 118) (v := ?_) (a' := ?_) Fl62 rfl rfl (take_ofW HT_.out HW_.out (by kernel_rfl)) (fun _ _ _ h => h) (Or.inl ⟨by rfl, ?_⟩) hHeld ?_ ?_
           rotate_left
           · rintro w' ⟨s0, s1, s2, s3, s4, s5, s6, s7, s8⟩
             go_simp
             with_reducible rfl
           rotate_left
           · simp only [Act.put, List.setIfInBounds_toArray, List.set_cons_zero, List.set_cons_succ, i64_w, i32_w]
             rfl
           refine one_ (i := 7) (N := some 119) Fl63 rfl rfl (one_of HT_.out (by kernel_rfl)) (by decide) (fun K hK => ?_)
           refine goes_ Try.func22 (by kernel_rfl) rfl #[.agg #[.int .i64 t336, .int .i64 t337, .slice Ao67 t338.length co67], .agg #[.int .i64 t348, .int .i64 t349, .slice Ao81 t350.length co81]] (by rfl) rfl rfl (by (try simp only [List.map_toArray, List.map_cons, List.map_nil]); first | done | rfl | (simp only [List.length_drop, List.length_take]; rfl)) ?_
           with_reducible refine (rect_Same.calls kj10 t336 t337 _ _ t338 t348 t349 _ _ t350 false _ ?side1 ?side2 ?side3 ?side4 A84.out).mono ?_
           (case side1 => exact cp_ (Kd.R_reads' HO340.out).2.2)
           (case side2 => exact (Kd.R_reads' HO340.out).2.1)
           (case side3 => exact cp_ (Kd.R_reads' HO352.out).2.2)
           (case side4 => exact (Kd.R_reads' HO352.out).2.1)
           rintro e w105 ⟨rfl, hb⟩
           refine ⟨_, rfl, ?_⟩
           replace HO_315002 := Aside0.mk (Kd.R_below (rp_ HO_315002.out) hb)
           replace HO_331002 := Aside0.mk (Kd.R_below (rp_ HO_331002.out) hb)
           replace HO340 := Aside0.mk (Kd.R_below (rp_ HO340.out) hb)
           replace HO347 := Aside0.mk (Kd.V_below (vp_ HO347.out) hb)
           replace HO352 := Aside0.mk (Kd.R_below (rp_ HO352.out) hb)
           replace BK307 := Aside0.mk (blk_below (hp_ BK307.out) hb)
           replace BK308 := Aside0.mk (blk_below (hp_ BK308.out) hb)
           replace BK314 := Aside0.mk (blk_below (hp_ BK314.out) hb)
           replace BK330 := Aside0.mk (blk_below (hp_ BK330.out) hb)
           replace BK342 := Aside0.mk (blk_below (hp_ BK342.out) hb)
           replace BK354 := Aside0.mk (blk_below (hp_ BK354.out) hb)
           replace HB := Aside0.mk (below_step bp_ hb)
           (try clear hb)
           (try clear hb2)
           (try clear hk)
           (try clear hi)
           refine hK.out _ _ ⟨(blk_cell BK314.out 0).trans rfl, (blk_cell BK314.out 1).trans rfl, (blk_cell BK314.out 2).trans rfl, (blk_cell BK342.out 0).trans rfl, (blk_cell BK342.out 1).trans rfl, (blk_cell BK342.out 2).trans rfl, (blk_cell BK354.out 0).trans rfl, (blk_cell BK354.out 1).trans rfl, (blk_cell BK354.out 2).trans rfl⟩ (fun hHeld => ?_)
           clear hK K
           refine norm_ (a' := ?_) ?_ ?_
           rotate_left
           · show Act.put _ (some 119) _ = _
             simp only [Act.put, List.setIfInBounds_toArray, List.set_cons_zero, List.set_cons_succ, i64_w, i32_w]
             rfl
           refine pur_ (i := 8) (N := some 120) Fl64 (any_of HT_.out (by kernel_rfl)) ?_
           refine pur_ (i := 9) (N := some 121) Fl65 (any_of HT_.out (by kernel_rfl)) ?_
           refine pun_ (i := 10) (N := some 122) Fl74 (any_of HT_.out (by kernel_rfl)) ?_
           refine pun_ (i := 11) (N := some 123) Fl75 (any_of HT_.out (by kernel_rfl)) ?_
           refine pun_ (i := 12) (N := some 124) Fl76 (any_of HT_.out (by kernel_rfl)) ?_
           refine pun_ (i := 13) (N := some 125) Fl77 (any_of HT_.out (by kernel_rfl)) ?_
           refine pun_ (i := 14) (N := some 126) Fl78 (any_of HT_.out (by kernel_rfl)) ?_
           refine pun_ (i := 15) (N := some 127) Fl79 (any_of HT_.out (by kernel_rfl)) ?_
           refine pun_ (i := 16) (N := some 128) Fl80 (any_of HT_.out (by kernel_rfl)) ?_
           refine pun_ (i := 17) (N := some 129) Fl81 (any_of HT_.out (by kernel_rfl)) ?_
           refine pun_ (i := 18) (N := some 130) Fl66 (any_of HT_.out (by kernel_rfl)) ?_
           refine pun_ (i := 19) (N := some 131) Fl67 (any_of HT_.out (by kernel_rfl)) ?_
           refine pur_ (i := 20) (N := some 132) Fl68 (any_of HT_.out (by kernel_rfl)) ?_
           refine pur_ (i := 21) (N := some 133) Fl69 (any_of HT_.out (by kernel_rfl)) ?_
           refine pun_ (i := 22) (N := some 134) Fl70 (any_of HT_.out (by kernel_rfl)) ?_
           refine pur_ (i := 23) (N := some 135) Fl71 (any_of HT_.out (by kernel_rfl)) ?_
           refine pur_ (i := 24) (N := some 6) Fl72 (any_of HT_.out (by kernel_rfl)) ?_
           refine done_ (done_of HT_.out (by kernel_rfl)) ?_
           try go_wp2
           go_ret
           exact ⟨by first | rfl | (simp [errW_none, errW_some] <;> rfl) | (simp [*, errW_none, errW_some] <;> rfl), bp_⟩
       · replace c83 := Bool.eq_false_iff.mpr c83
         subst c83
         have H1 : (some false) = some r := by rw [if_neg (show ¬ (false = true) by decide)] at H; exact H
         clear H
         have H := H1
         clear H1
         obtain rfl := Option.some.inj H
         try go_wp2
         have n0_ : Aside0 (Kd.R (Kd.int .u64) 46 (((w74.setCell ⟨gb354, 0, none⟩ (.int .i64 t348)).setCell ⟨gb354, 1, none⟩ (.int .i64 t349)).setCell ⟨gb354, 2, none⟩ (.slice Ao81 t350.length co81)) w.heap.size (fun k_ => some k_ ≠ (.slice Ao35 t326.length co35 : Value).ownBlock ∧ some k_ ≠ (.slice Ao67 t338.length co67 : Value).ownBlock ∧ some k_ ≠ (.slice Ao81 t350.length co81 : Value).ownBlock) (.slice Ao23 t311.length co23) t311) := ⟨rf_ HO_315002.out BK354.out (by decide) (fun _ hk => ⟨hk.1.1.1, ⟨hk.1.1.2, hk.1.2⟩⟩)⟩
         have n1_ : Aside0 (Kd.R (Kd.int .u64) 46 (((w74.setCell ⟨gb354, 0, none⟩ (.int .i64 t348)).setCell ⟨gb354, 1, none⟩ (.int .i64 t349)).setCell ⟨gb354, 2, none⟩ (.slice Ao81 t350.length co81)) w.heap.size (fun k_ => some k_ ≠ (.slice Ao23 t311.length co23 : Value).ownBlock ∧ some k_ ≠ (.slice Ao67 t338.length co67 : Value).ownBlock ∧ some k_ ≠ (.slice Ao81 t350.length co81 : Value).ownBlock) (.slice Ao35 t326.length co35) t326) := ⟨rf_ HO_331002.out BK354.out (by decide) (fun _ hk => ⟨hk.1.1.1, ⟨hk.1.1.2, hk.1.2⟩⟩)⟩
         have n2_ : Aside0 (Kd.R (Kd.int .u64) 46 (((w74.setCell ⟨gb354, 0, none⟩ (.int .i64 t348)).setCell ⟨gb354, 1, none⟩ (.int .i64 t349)).setCell ⟨gb354, 2, none⟩ (.slice Ao81 t350.length co81)) w.heap.size (fun k_ => some k_ ≠ (.slice Ao23 t311.length co23 : Value).ownBlock ∧ some k_ ≠ (.slice Ao35 t326.length co35 : Value).ownBlock ∧ some k_ ≠ (.slice Ao81 t350.length co81 : Value).ownBlock) (.slice Ao67 t338.length co67) t338) := ⟨rf_ HO340.out BK354.out (by decide) (fun _ hk => ⟨hk.1.1.1, ⟨hk.1.1.2, hk.1.2⟩⟩)⟩
         have n3_ : Aside0 (Kd.V (Kd.int .u64) 46 (((w74.setCell ⟨gb354, 0, none⟩ (.int .i64 t348)).setCell ⟨gb354, 1, none⟩ (.int .i64 t349)).setCell ⟨gb354, 2, none⟩ (.slice Ao81 t350.length co81)) w.heap.size (fun k_ => some k_ ≠ (.slice Ao35 t326.length co35 : Value).ownBlock ∧ some k_ ≠ (.slice Ao67 t338.length co67 : Value).ownBlock ∧ some k_ ≠ (.slice Ao81 t350.length co81 : Value).ownBlock ∧ k_ ≠ gb307 ∧ k_ ≠ gb308 ∧ k_ ≠ gb314 ∧ k_ ≠ gb330 ∧ k_ ≠ gb342 ∧ k_ ≠ gb354) (.slice Ao72 t345.length co72) t345) := ⟨by (with_reducible repeat (first | apply Kd.V_alloc | apply Kd.V_drewN | apply Kd.V_drew)); exact Kd.V_mono (Kd.V_far (p := ⟨gb354, 2, none⟩) (Kd.V_far (p := ⟨gb354, 1, none⟩) (Kd.V_far (p := ⟨gb354, 0, none⟩) (Kd.V_mono HO347.out (fun k_ hk => (⟨hk, hk.2⟩ : _ ∧ k_ ≠ gb354))) (fun _ hk => hk.2) (.int .i64 t348)) (fun _ hk => hk.2) (.int .i64 t349)) (fun _ hk => hk.2) (.slice Ao81 t350.length co81)) (fun _ hk => ⟨hk.1.1.1.1, ⟨hk.1.1.1.2.1, ⟨hk.1.1.2, ⟨hk.1.1.1.2.2.1, ⟨hk.1.1.1.2.2.2.1, ⟨hk.1.1.1.2.2.2.2.1, ⟨hk.1.1.1.2.2.2.2.2.1, ⟨hk.1.1.1.2.2.2.2.2.2, hk.1.2⟩⟩⟩⟩⟩⟩⟩⟩)⟩
         have n4_ : Aside0 (Kd.R (Kd.int .u64) 46 (((w74.setCell ⟨gb354, 0, none⟩ (.int .i64 t348)).setCell ⟨gb354, 1, none⟩ (.int .i64 t349)).setCell ⟨gb354, 2, none⟩ (.slice Ao81 t350.length co81)) w.heap.size (fun k_ => some k_ ≠ (.slice Ao23 t311.length co23 : Value).ownBlock ∧ some k_ ≠ (.slice Ao35 t326.length co35 : Value).ownBlock ∧ some k_ ≠ (.slice Ao67 t338.length co67 : Value).ownBlock) (.slice Ao81 t350.length co81) t350) := ⟨rf_ HO352.out BK354.out (by decide) (fun _ hk => ⟨hk.1.1.1.2, ⟨hk.1.1.2, hk.1.2⟩⟩)⟩
         have n5_ : Aside0 ((((w74.setCell ⟨gb354, 0, none⟩ (.int .i64 t348)).setCell ⟨gb354, 1, none⟩ (.int .i64 t349)).setCell ⟨gb354, 2, none⟩ (.slice Ao81 t350.length co81)).heap[gb307]? = some (.cells #[.int .i64 a1_0, .int .i64 a1_1, .int .i64 a1_2, .int .i64 a1_3] 25 (0, 0))) := ⟨hf_ BK307.out NB307_354.out⟩
         have n6_ : Aside0 ((((w74.setCell ⟨gb354, 0, none⟩ (.int .i64 t348)).setCell ⟨gb354, 1, none⟩ (.int .i64 t349)).setCell ⟨gb354, 2, none⟩ (.slice Ao81 t350.length co81)).heap[gb308]? = some (.cells #[.int .i64 a2_0, .int .i64 a2_1, .int .i64 a2_2, .int .i64 a2_3] 25 (0, 0))) := ⟨hf_ BK308.out NB308_354.out⟩
         have n7_ : Aside0 ((((w74.setCell ⟨gb354, 0, none⟩ (.int .i64 t348)).setCell ⟨gb354, 1, none⟩ (.int .i64 t349)).setCell ⟨gb354, 2, none⟩ (.slice Ao81 t350.length co81)).heap[gb314]? = some (.cells #[.int .i64 t309, .int .i64 t310, .slice Ao23 t311.length co23] 24 (0, 0))) := ⟨hf_ BK314.out NB314_354.out⟩
         have n8_ : Aside0 ((((w74.setCell ⟨gb354, 0, none⟩ (.int .i64 t348)).setCell ⟨gb354, 1, none⟩ (.int .i64 t349)).setCell ⟨gb354, 2, none⟩ (.slice Ao81 t350.length co81)).heap[gb330]? = some (.cells #[.int .i64 t324, .int .i64 t325, .slice Ao35 t326.length co35] 32 (0, 0))) := ⟨hf_ BK330.out NB330_354.out⟩
         have n9_ : Aside0 ((((w74.setCell ⟨gb354, 0, none⟩ (.int .i64 t348)).setCell ⟨gb354, 1, none⟩ (.int .i64 t349)).setCell ⟨gb354, 2, none⟩ (.slice Ao81 t350.length co81)).heap[gb342]? = some (.cells #[.int .i64 t336, .int .i64 t337, .slice Ao67 t338.length co67] 32 (0, 0))) := ⟨hf_ BK342.out NB342_354.out⟩
         have n10_ : Aside0 ((((w74.setCell ⟨gb354, 0, none⟩ (.int .i64 t348)).setCell ⟨gb354, 1, none⟩ (.int .i64 t349)).setCell ⟨gb354, 2, none⟩ (.slice Ao81 t350.length co81)).heap[gb354]? = some (.cells #[.int .i64 t348, .int .i64 t349, .slice Ao81 t350.length co81] 32 (0, 0))) := ⟨by (with_reducible repeat (first | refine blk_drewN ?_ _ | refine blk_drew ?_ | refine blk_alloc ?_ _)); refine blk_put (cs := #[.int .i64 t348, .int .i64 t349, .slice none 0 0]) ?_ 2 _ rfl; (with_reducible repeat (first | refine blk_drewN ?_ _ | refine blk_drew ?_ | refine blk_alloc ?_ _)); refine blk_put (cs := #[.int .i64 t348, .int .i64 0, .slice none 0 0]) ?_ 1 _ rfl; (with_reducible repeat (first | refine blk_drewN ?_ _ | refine blk_drew ?_ | refine blk_alloc ?_ _)); refine blk_put (cs := #[.int .i64 0, .int .i64 0, .slice none 0 0]) ?_ 0 _ rfl; (with_reducible repeat (first | refine blk_drewN ?_ _ | refine blk_drew ?_ | refine blk_alloc ?_ _)); exact BK354.out⟩
         have n11_ : Aside0 (Below w.heap.size w (((w74.setCell ⟨gb354, 0, none⟩ (.int .i64 t348)).setCell ⟨gb354, 1, none⟩ (.int .i64 t349)).setCell ⟨gb354, 2, none⟩ (.slice Ao81 t350.length co81))) := ⟨bp_⟩
         (try clear HO_315002)
         (try clear HO_331002)
         (try clear HO340)
         (try clear HO347)
         (try clear HO352)
         (try clear BK307)
         (try clear BK308)
         (try clear BK314)
         (try clear BK330)
         (try clear BK342)
         (try clear BK354)
         (try clear HB)
         generalize (((w74.setCell ⟨gb354, 0, none⟩ (.int .i64 t348)).setCell ⟨gb354, 1, none⟩ (.int .i64 t349)).setCell ⟨gb354, 2, none⟩ (.slice Ao81 t350.length co81)) = w106 at n0_ n1_ n2_ n3_ n4_ n5_ n6_ n7_ n8_ n9_ n10_ n11_ ⊢
         have HO_315002 := n0_
         have HO_331002 := n1_
         have HO340 := n2_
         have HO347 := n3_
         have HO352 := n4_
         have BK307 := n5_
         have BK308 := n6_
         have BK314 := n7_
         have BK330 := n8_
         have BK342 := n9_
         have BK354 := n10_
         have HB := n11_
         clear n0_ n1_ n2_ n3_ n4_ n5_ n6_ n7_ n8_ n9_ n10_ n11_
         replace HO_315002 := Aside0.mk (Kd.R_drew HO_315002.out)
         replace HO_331002 := Aside0.mk (Kd.R_drew HO_331002.out)
         replace HO340 := Aside0.mk (Kd.R_drew HO340.out)
         replace HO347 := Aside0.mk (Kd.V_drew HO347.out)
         replace HO352 := Aside0.mk (Kd.R_drew HO352.out)
         replace BK307 := Aside0.mk (blk_drew BK307.out)
         replace BK308 := Aside0.mk (blk_drew BK308.out)
         replace BK314 := Aside0.mk (blk_drew BK314.out)
         replace BK330 := Aside0.mk (blk_drew BK330.out)
         replace BK342 := Aside0.mk (blk_drew BK342.out)
         replace BK354 := Aside0.mk (blk_drew BK354.out)
         replace HB := Aside0.mk (below_drew1 HB.out)
         refine start_ (n := 25) (S := fun w' => w'.cell? ⟨gb314, 0, none⟩ = some (.int .i64 t309) ∧ w'.cell? ⟨gb314, 1, none⟩ = some (.int .i64 t310) ∧ w'.cell? ⟨gb314, 2, none⟩ = some (.slice Ao23 t311.length co23) ∧ w'.cell? ⟨gb342, 0, none⟩ = some (.int .i64 t336) ∧ w'.cell? ⟨gb342, 1, none⟩ = some (.int .i64 t337) ∧ w'.cell? ⟨gb342, 2, none⟩ = some (.slice Ao67 t338.length co67) ∧ w'.cell? ⟨gb354, 0, none⟩ = some (.int .i64 t348) ∧ w'.cell? ⟨gb354, 1, none⟩ = some (.int .i64 t349) ∧ w'.cell? ⟨gb354, 2, none⟩ = some (.slice Ao81 t350.length co81)) (ds := []) Fl55 (by kernel_rfl) rfl rfl ⟨(blk_cell BK314.out 0).trans rfl, (blk_cell BK314.out 1).trans rfl, (blk_cell BK314.out 2).trans rfl, (blk_cell BK342.out 0).trans rfl, (blk_cell BK342.out 1).trans rfl, (blk_cell BK342.out 2).trans rfl, (blk_cell BK354.out 0).trans rfl, (blk_cell BK354.out 1).trans rfl, (blk_cell BK354.out 2).trans rfl⟩ (fun hHeld => ?_); refine with_tabW chequerlaw03_RectSubs.tab13 chequerlaw03_RectSubs.bits13 (fun HT_ HW_ => ?_)
         generalize w106.drew = w107 at HO_315002 HO_331002 HO340 HO347 HO352 BK307 BK308 BK314 BK330 BK342 BK354 HB hHeld ⊢
         refine pur_ (i := 0) (N := some 112) Fl56 (any_of HT_.out (by kernel_rfl)) ?_
         refine pur_ (i := 1) (N := some 113) Fl57 (any_of HT_.out (by kernel_rfl)) ?_
         refine pur_ (i := 2) (N := some 114) Fl58 (any_of HT_.out (by kernel_rfl)) ?_
         refine pur_ (i := 3) (N := some 115) Fl59 (any_of HT_.out (by kernel_rfl)) ?_
         refine pur_ (i := 4) (N := some 116) Fl60 (any_of HT_.out (by kernel_rfl)) ?_
         refine pun_ (i := 5) (N := some 117) Fl61 (any_of HT_.out (by kernel_rfl)) ?_
         refine pun_ (i := 6) (N := some 118) Fl62 (any_of HT_.out (by kernel_rfl)) ?_
         refine pun_ (i := 7) (N := some 119) Fl63 (any_of HT_.out (by kernel_rfl)) ?_
         refine pur_ (i := 8) (N := some 120) Fl64 (any_of HT_.out (by kernel_rfl)) ?_
         refine pur_ (i := 9) (N := some 121) Fl65 (any_of HT_.out (by kernel_rfl)) ?_
         refine pun_ (i := 10) (N := some 122) Fl74 (any_of HT_.out (by kernel_rfl)) ?_
         refine pun_ (i := 11) (N := some 123) Fl75 (any_of HT_.out (by kernel_rfl)) ?_
         refine pun_ (i := 12) (N := some 124) Fl76 (any_of HT_.out (by kernel_rfl)) ?_
         refine pun_ (i := 13) (N := some 125) Fl77 (any_of HT_.out (by kernel_rfl)) ?_
         refine pun_ (i := 14) (N := some 126) Fl78 (any_of HT_.out (by kernel_rfl)) ?_
         refine pun_ (i := 15) (N := some 127) Fl79 (any_of HT_.out (by kernel_rfl)) ?_
         refine pun_ (i := 16) (N := some 128) Fl80 (any_of HT_.out (by kernel_rfl)) ?_
         refine pun_ (i := 17) (N := some 129) Fl81 (any_of HT_.out (by kernel_rfl)) ?_
         refine pun_ (i := 18) (N := some 130) Fl66 (any_of HT_.out (by kernel_rfl)) ?_
         refine pun_ (i := 19) (N := some 131) Fl67 (any_of HT_.out (by kernel_rfl)) ?_
         refine pur_ (i := 20) (N := some 132) Fl68 (any_of HT_.out (by kernel_rfl)) ?_
         refine pur_ (i := 21) (N := some 133) Fl69 (any_of HT_.out (by kernel_rfl)) ?_
         refine pun_ (i := 22) (N := some 134) Fl70 (any_of HT_.out (by kernel_rfl)) ?_
         refine pur_ (i := 23) (N := some 135) Fl71 (any_of HT_.out (by kernel_rfl)) ?_
         refine pur_ (i := 24) (N := some 6) Fl72 (any_of HT_.out (by kernel_rfl)) ?_
         refine done_ (done_of HT_.out (by kernel_rfl)) ?_
         try go_wp2
         go_ret
         exact ⟨by first | rfl | (simp [errW_none, errW_some] <;> rfl) | (simp [*, errW_none, errW_some] <;> rfl), bp_⟩
     · replace c82 := Bool.eq_false_iff.mpr c82
       subst c82
       have H1 : (some false) = some r := by rw [if_neg (show ¬ (false = true) by decide)] at H; exact H
       clear H
       have H := H1
       clear H1
       obtain rfl := Option.some.inj H
       try go_wp2
       have n0_ : Aside0 (Kd.R (Kd.int .u64) 46 (((w74.setCell ⟨gb354, 0, none⟩ (.int .i64 t348)).setCell ⟨gb354, 1, none⟩ (.int .i64 t349)).setCell ⟨gb354, 2, none⟩ (.slice Ao81 t350.length co81)) w.heap.size (fun k_ => some k_ ≠ (.slice Ao35 t326.length co35 : Value).ownBlock ∧ some k_ ≠ (.slice Ao67 t338.length co67 : Value).ownBlock ∧ some k_ ≠ (.slice Ao81 t350.length co81 : Value).ownBlock) (.slice Ao23 t311.length co23) t311) := ⟨rf_ HO_315002.out BK354.out (by decide) (fun _ hk => ⟨hk.1.1.1, ⟨hk.1.1.2, hk.1.2⟩⟩)⟩
       have n1_ : Aside0 (Kd.R (Kd.int .u64) 46 (((w74.setCell ⟨gb354, 0, none⟩ (.int .i64 t348)).setCell ⟨gb354, 1, none⟩ (.int .i64 t349)).setCell ⟨gb354, 2, none⟩ (.slice Ao81 t350.length co81)) w.heap.size (fun k_ => some k_ ≠ (.slice Ao23 t311.length co23 : Value).ownBlock ∧ some k_ ≠ (.slice Ao67 t338.length co67 : Value).ownBlock ∧ some k_ ≠ (.slice Ao81 t350.length co81 : Value).ownBlock) (.slice Ao35 t326.length co35) t326) := ⟨rf_ HO_331002.out BK354.out (by decide) (fun _ hk => ⟨hk.1.1.1, ⟨hk.1.1.2, hk.1.2⟩⟩)⟩
       have n2_ : Aside0 (Kd.R (Kd.int .u64) 46 (((w74.setCell ⟨gb354, 0, none⟩ (.int .i64 t348)).setCell ⟨gb354, 1, none⟩ (.int .i64 t349)).setCell ⟨gb354, 2, none⟩ (.slice Ao81 t350.length co81)) w.heap.size (fun k_ => some k_ ≠ (.slice Ao23 t311.length co23 : Value).ownBlock ∧ some k_ ≠ (.slice Ao35 t326.length co35 : Value).ownBlock ∧ some k_ ≠ (.slice Ao81 t350.length co81 : Value).ownBlock) (.slice Ao67 t338.length co67) t338) := ⟨rf_ HO340.out BK354.out (by decide) (fun _ hk => ⟨hk.1.1.1, ⟨hk.1.1.2, hk.1.2⟩⟩)⟩
       have n3_ : Aside0 (Kd.V (Kd.int .u64) 46 (((w74.setCell ⟨gb354, 0, none⟩ (.int .i64 t348)).setCell ⟨gb354, 1, none⟩ (.int .i64 t349)).setCell ⟨gb354, 2, none⟩ (.slice Ao81 t350.length co81)) w.heap.size (fun k_ => some k_ ≠ (.slice Ao35 t326.length co35 : Value).ownBlock ∧ some k_ ≠ (.slice Ao67 t338.length co67 : Value).ownBlock ∧ some k_ ≠ (.slice Ao81 t350.length co81 : Value).ownBlock ∧ k_ ≠ gb307 ∧ k_ ≠ gb308 ∧ k_ ≠ gb314 ∧ k_ ≠ gb330 ∧ k_ ≠ gb342 ∧ k_ ≠ gb354) (.slice Ao72 t345.length co72) t345) := ⟨by (with_reducible repeat (first | apply Kd.V_alloc | apply Kd.V_drewN | apply Kd.V_drew)); exact Kd.V_mono (Kd.V_far (p := ⟨gb354, 2, none⟩) (Kd.V_far (p := ⟨gb354, 1, none⟩) (Kd.V_far (p := ⟨gb354, 0, none⟩) (Kd.V_mono HO347.out (fun k_ hk => (⟨hk, hk.2⟩ : _ ∧ k_ ≠ gb354))) (fun _ hk => hk.2) (.int .i64 t348)) (fun _ hk => hk.2) (.int .i64 t349)) (fun _ hk => hk.2) (.slice Ao81 t350.length co81)) (fun _ hk => ⟨hk.1.1.1.1, ⟨hk.1.1.1.2.1, ⟨hk.1.1.2, ⟨hk.1.1.1.2.2.1, ⟨hk.1.1.1.2.2.2.1, ⟨hk.1.1.1.2.2.2.2.1, ⟨hk.1.1.1.2.2.2.2.2.1, ⟨hk.1.1.1.2.2.2.2.2.2, hk.1.2⟩⟩⟩⟩⟩⟩⟩⟩)⟩
       have n4_ : Aside0 (Kd.R (Kd.int .u64) 46 (((w74.setCell ⟨gb354, 0, none⟩ (.int .i64 t348)).setCell ⟨gb354, 1, none⟩ (.int .i64 t349)).setCell ⟨gb354, 2, none⟩ (.slice Ao81 t350.length co81)) w.heap.size (fun k_ => some k_ ≠ (.slice Ao23 t311.length co23 : Value).ownBlock ∧ some k_ ≠ (.slice Ao35 t326.length co35 : Value).ownBlock ∧ some k_ ≠ (.slice Ao67 t338.length co67 : Value).ownBlock) (.slice Ao81 t350.length co81) t350) := ⟨rf_ HO352.out BK354.out (by decide) (fun _ hk => ⟨hk.1.1.1.2, ⟨hk.1.1.2, hk.1.2⟩⟩)⟩
       have n5_ : Aside0 ((((w74.setCell ⟨gb354, 0, none⟩ (.int .i64 t348)).setCell ⟨gb354, 1, none⟩ (.int .i64 t349)).setCell ⟨gb354, 2, none⟩ (.slice Ao81 t350.length co81)).heap[gb307]? = some (.cells #[.int .i64 a1_0, .int .i64 a1_1, .int .i64 a1_2, .int .i64 a1_3] 25 (0, 0))) := ⟨hf_ BK307.out NB307_354.out⟩
       have n6_ : Aside0 ((((w74.setCell ⟨gb354, 0, none⟩ (.int .i64 t348)).setCell ⟨gb354, 1, none⟩ (.int .i64 t349)).setCell ⟨gb354, 2, none⟩ (.slice Ao81 t350.length co81)).heap[gb308]? = some (.cells #[.int .i64 a2_0, .int .i64 a2_1, .int .i64 a2_2, .int .i64 a2_3] 25 (0, 0))) := ⟨hf_ BK308.out NB308_354.out⟩
       have n7_ : Aside0 ((((w74.setCell ⟨gb354, 0, none⟩ (.int .i64 t348)).setCell ⟨gb354, 1, none⟩ (.int .i64 t349)).setCell ⟨gb354, 2, none⟩ (.slice Ao81 t350.length co81)).heap[gb314]? = some (.cells #[.int .i64 t309, .int .i64 t310, .slice Ao23 t311.length co23] 24 (0, 0))) := ⟨hf_ BK314.out NB314_354.out⟩
       have n8_ : Aside0 ((((w74.setCell ⟨gb354, 0, none⟩ (.int .i64 t348)).setCell ⟨gb354, 1, none⟩ (.int .i64 t349)).setCell ⟨gb354, 2, none⟩ (.slice Ao81 t350.length co81)).heap[gb330]? = some (.cells #[.int .i64 t324, .int .i64 t325, .slice Ao35 t326.length co35] 32 (0, 0))) := ⟨hf_ BK330.out NB330_354.out⟩
       have n9_ : Aside0 ((((w74.setCell ⟨gb354, 0, none⟩ (.int .i64 t348)).setCell ⟨gb354, 1, none⟩ (.int .i64 t349)).setCell ⟨gb354, 2, none⟩ (.slice Ao81 t350.length co81)).heap[gb342]? = some (.cells #[.int .i64 t336, .int .i64 t337, .slice Ao67 t338.length co67] 32 (0, 0))) := ⟨hf_ BK342.out NB342_354.out⟩
       have n10_ : Aside0 ((((w74.setCell ⟨gb354, 0, none⟩ (.int .i64 t348)).setCell ⟨gb354, 1, none⟩ (.int .i64 t349)).setCell ⟨gb354, 2, none⟩ (.slice Ao81 t350.length co81)).heap[gb354]? = some (.cells #[.int .i64 t348, .int .i64 t349, .slice Ao81 t350.length co81] 32 (0, 0))) := ⟨by (with_reducible repeat (first | refine blk_drewN ?_ _ | refine blk_drew ?_ | refine blk_alloc ?_ _)); refine blk_put (cs := #[.int .i64 t348, .int .i64 t349, .slice none 0 0]) ?_ 2 _ rfl; (with_reducible repeat (first | refine blk_drewN ?_ _ | refine blk_drew ?_ | refine blk_alloc ?_ _)); refine blk_put (cs := #[.int .i64 t348, .int .i64 0, .slice none 0 0]) ?_ 1 _ rfl; (with_reducible repeat (first | refine blk_drewN ?_ _ | refine blk_drew ?_ | refine blk_alloc ?_ _)); refine blk_put (cs := #[.int .i64 0, .int .i64 0, .slice none 0 0]) ?_ 0 _ rfl; (with_reducible repeat (first | refine blk_drewN ?_ _ | refine blk_drew ?_ | refine blk_alloc ?_ _)); exact BK354.out⟩
       have n11_ : Aside0 (Below w.heap.size w (((w74.setCell ⟨gb354, 0, none⟩ (.int .i64 t348)).setCell ⟨gb354, 1, none⟩ (.int .i64 t349)).setCell ⟨gb354, 2, none⟩ (.slice Ao81 t350.length co81))) := ⟨bp_⟩
       (try clear HO_315002)
       (try clear HO_331002)
       (try clear HO340)
       (try clear HO347)
       (try clear HO352)
       (try clear BK307)
       (try clear BK308)
       (try clear BK314)
       (try clear BK330)
       (try clear BK342)
       (try clear BK354)
       (try clear HB)
       generalize (((w74.setCell ⟨gb354, 0, none⟩ (.int .i64 t348)).setCell ⟨gb354, 1, none⟩ (.int .i64 t349)).setCell ⟨gb354, 2, none⟩ (.slice Ao81 t350.length co81)) = w108 at n0_ n1_ n2_ n3_ n4_ n5_ n6_ n7_ n8_ n9_ n10_ n11_ ⊢
       have HO_315002 := n0_
       have HO_331002 := n1_
       have HO340 := n2_
       have HO347 := n3_
       have HO352 := n4_
       have BK307 := n5_
       have BK308 := n6_
       have BK314 := n7_
       have BK330 := n8_
       have BK342 := n9_
       have BK354 := n10_
       have HB := n11_
       clear n0_ n1_ n2_ n3_ n4_ n5_ n6_ n7_ n8_ n9_ n10_ n11_
       replace HO_315002 := Aside0.mk (Kd.R_drew HO_315002.out)
       replace HO_331002 := Aside0.mk (Kd.R_drew HO_331002.out)
       replace HO340 := Aside0.mk (Kd.R_drew HO340.out)
       replace HO347 := Aside0.mk (Kd.V_drew HO347.out)
       replace HO352 := Aside0.mk (Kd.R_drew HO352.out)
       replace BK307 := Aside0.mk (blk_drew BK307.out)
       replace BK308 := Aside0.mk (blk_drew BK308.out)
       replace BK314 := Aside0.mk (blk_drew BK314.out)
       replace BK330 := Aside0.mk (blk_drew BK330.out)
       replace BK342 := Aside0.mk (blk_drew BK342.out)
       replace BK354 := Aside0.mk (blk_drew BK354.out)
       replace HB := Aside0.mk (below_drew1 HB.out)
       refine start_ (n := 25) (S := fun w' => w'.cell? ⟨gb314, 0, none⟩ = some (.int .i64 t309) ∧ w'.cell? ⟨gb314, 1, none⟩ = some (.int .i64 t310) ∧ w'.cell? ⟨gb314, 2, none⟩ = some (.slice Ao23 t311.length co23) ∧ w'.cell? ⟨gb342, 0, none⟩ = some (.int .i64 t336) ∧ w'.cell? ⟨gb342, 1, none⟩ = some (.int .i64 t337) ∧ w'.cell? ⟨gb342, 2, none⟩ = some (.slice Ao67 t338.length co67) ∧ w'.cell? ⟨gb354, 0, none⟩ = some (.int .i64 t348) ∧ w'.cell? ⟨gb354, 1, none⟩ = some (.int .i64 t349) ∧ w'.cell? ⟨gb354, 2, none⟩ = some (.slice Ao81 t350.length co81)) (ds := []) Fl55 (by kernel_rfl) rfl rfl ⟨(blk_cell BK314.out 0).trans rfl, (blk_cell BK314.out 1).trans rfl, (blk_cell BK314.out 2).trans rfl, (blk_cell BK342.out 0).trans rfl, (blk_cell BK342.out 1).trans rfl, (blk_cell BK342.out 2).trans rfl, (blk_cell BK354.out 0).trans rfl, (blk_cell BK354.out 1).trans rfl, (blk_cell BK354.out 2).trans rfl⟩ (fun hHeld => ?_); refine with_tabW chequerlaw03_RectSubs.tab13 chequerlaw03_RectSubs.bits13 (fun HT_ HW_ => ?_)
       generalize w108.drew = w109 at HO_315002 HO_331002 HO340 HO347 HO352 BK307 BK308 BK314 BK330 BK342 BK354 HB hHeld ⊢
       refine pur_ (i := 0) (N := some 112) Fl56 (any_of HT_.out (by kernel_rfl)) ?_
       refine pur_ (i := 1) (N := some 113) Fl57 (any_of HT_.out (by kernel_rfl)) ?_
       refine pun_ (i := 2) (N := some 114) Fl58 (any_of HT_.out (by kernel_rfl)) ?_
       refine pur_ (i := 3) (N := some 115) Fl59 (any_of HT_.out (by kernel_rfl)) ?_
       refine pur_ (i := 4) (N := some 116) Fl60 (any_of HT_.out (by kernel_rfl)) ?_
       refine pun_ (i := 5) (N := some 117) Fl61 (any_of HT_.out (by kernel_rfl)) ?_
       refine pun_ (i := 6) (N := some 118) Fl62 (any_of HT_.out (by kernel_rfl)) ?_
       refine pun_ (i := 7) (N := some 119) Fl63 (any_of HT_.out (by kernel_rfl)) ?_
       refine pur_ (i := 8) (N := some 120) Fl64 (any_of HT_.out (by kernel_rfl)) ?_
       refine pur_ (i := 9) (N := some 121) Fl65 (any_of HT_.out (by kernel_rfl)) ?_
       refine pun_ (i := 10) (N := some 122) Fl74 (any_of HT_.out (by kernel_rfl)) ?_
       refine pun_ (i := 11) (N := some 123) Fl75 (any_of HT_.out (by kernel_rfl)) ?_
       refine pun_ (i := 12) (N := some 124) Fl76 (any_of HT_.out (by kernel_rfl)) ?_
       refine pun_ (i := 13) (N := some 125) Fl77 (any_of HT_.out (by kernel_rfl)) ?_
       refine pun_ (i := 14) (N := some 126) Fl78 (any_of HT_.out (by kernel_rfl)) ?_
       refine pun_ (i := 15) (N := some 127) Fl79 (any_of HT_.out (by kernel_rfl)) ?_
       refine pun_ (i := 16) (N := some 128) Fl80 (any_of HT_.out (by kernel_rfl)) ?_
       refine pun_ (i := 17) (N := some 129) Fl81 (any_of HT_.out (by kernel_rfl)) ?_
       refine pun_ (i := 18) (N := some 130) Fl66 (any_of HT_.out (by kernel_rfl)) ?_
       refine pun_ (i := 19) (N := some 131) Fl67 (any_of HT_.out (by kernel_rfl)) ?_
       refine pur_ (i := 20) (N := some 132) Fl68 (any_of HT_.out (by kernel_rfl)) ?_
       refine pur_ (i := 21) (N := some 133) Fl69 (any_of HT_.out (by kernel_rfl)) ?_
       refine pun_ (i := 22) (N := some 134) Fl70 (any_of HT_.out (by kernel_rfl)) ?_
       refine pur_ (i := 23) (N := some 135) Fl71 (any_of HT_.out (by kernel_rfl)) ?_
       refine pur_ (i := 24) (N := some 6) Fl72 (any_of HT_.out (by kernel_rfl)) ?_
       refine done_ (done_of HT_.out (by kernel_rfl)) ?_
       try go_wp2
       go_ret
       exact ⟨by first | rfl | (simp [errW_none, errW_some] <;> rfl) | (simp [*, errW_none, errW_some] <;> rfl), bp_⟩

/-- THE ONE PURE STATEMENT of chequerlaw03_RectSubs. -/
def chequerlaw03_RectSubs.Pure : Prop := ∀ (a0_0 : Int) (a0_1 : Int) (l0_2 : List Int) (a1_0 : Int) (a1_1 : Int) (a1_2 : Int) (a1_3 : Int) (a2_0 : Int) (a2_1 : Int) (a2_2 : Int) (a2_3 : Int), (Lit.int .i64 a0_0).wf = true → (Lit.int .i64 a0_1).wf = true → l0_2.length ≤ maxLen → (∀ x ∈ l0_2, (Lit.int .u64 x).wf = true) → (Lit.int .i64 a1_0).wf = true → (Lit.int .i64 a1_1).wf = true → (Lit.int .i64 a1_2).wf = true → (Lit.int .i64 a1_3).wf = true → (Lit.int .i64 a2_0).wf = true → (Lit.int .i64 a2_1).wf = true → (Lit.int .i64 a2_2).wf = true → (Lit.int .i64 a2_3).wf = true → ∃ k, chequerlaw03_RectSubs.f k a0_0 a0_1 l0_2 a1_0 a1_1 a1_2 a1_3 a2_0 a2_1 a2_2 a2_3 = some true
theorem chequerlaw03_RectSubs.walk (P : chequerlaw03_RectSubs.Pure) (a0_0 : Int) (a0_1 : Int) (a0_2 : Option Addr) (len0_2 cap0_2 : Nat) (z0_2 : List Int) (a1_0 : Int) (a1_1 : Int) (a1_2 : Int) (a1_3 : Int) (a2_0 : Int) (a2_1 : Int) (a2_2 : Int) (a2_3 : Int) (w : World) (w0_0 : (Lit.int .i64 a0_0).wf = true) (w0_1 : (Lit.int .i64 a0_1).wf = true) (w0_2 : (a0_2 = none ∧ len0_2 = 0 ∧ cap0_2 = 0 ∧ z0_2 = []) ∨ ∃ x, a0_2 = some x ∧ len0_2 ≤ cap0_2 ∧ cap0_2 ≤ maxLen ∧ z0_2.length = cap0_2 ∧ (∀ i, i < z0_2.length → w.cell? (x.add i) = some (.int .u64 (z0_2.getD i 0))) ∧ ∀ n ∈ z0_2, (Lit.int .u64 n).wf = true) (w1_0 : (Lit.int .i64 a1_0).wf = true) (w1_1 : (Lit.int .i64 a1_1).wf = true) (w1_2 : (Lit.int .i64 a1_2).wf = true) (w1_3 : (Lit.int .i64 a1_3).wf = true) (w2_0 : (Lit.int .i64 a2_0).wf = true) (w2_1 : (Lit.int .i64 a2_1).wf = true) (w2_2 : (Lit.int .i64 a2_2).wf = true) (w2_3 : (Lit.int .i64 a2_3).wf = true) :
 Calls Try.prog 5 #[.agg #[.int .i64 a0_0, .int .i64 a0_1, .slice a0_2 len0_2 cap0_2], .agg #[.int .i64 a1_0, .int .i64 a1_1, .int .i64 a1_2, .int .i64 a1_3], .agg #[.int .i64 a2_0, .int .i64 a2_1, .int .i64 a2_2, .int .i64 a2_3]] w fun e w' => e = .returned (.bool true) ∧ Below w.heap.size w w' := by
 obtain ⟨l0_2, rfl, hr0_2, hm0_2, hw0_2, hc0_2⟩ := ReadsInt.ofRowC w0_2
 obtain ⟨k, h⟩ := P a0_0 a0_1 l0_2 a1_0 a1_1 a1_2 a1_3 a2_0 a2_1 a2_2 a2_3 w0_0 w0_1 hm0_2 hw0_2 w1_0 w1_1 w1_2 w1_3 w2_0 w2_1 w2_2 w2_3
 refine (chequerlaw03_RectSubs.calls k a0_0 a0_1 _ _ l0_2 a1_0 a1_1 a1_2 a1_3 a2_0 a2_1 a2_2 a2_3 true w (Kd.C_of_reads (d := (0 : Int)) (h1 := fun _ => rfl) hr0_2) hc0_2 h).mono ?_
 rintro e w' ⟨rfl, hd⟩
 exact ⟨rfl, hd⟩

end Go.Proofs.Ytidpaaemfiopkaa.Q
