-- written by our own program (wip/tools/myprint.py) out of the translation, by the kit's print; Lean checks it
import Derived.Test.YtidpaaemfiopkaaQ0
import Derived.Test.YtidpaaemfiopkaaQ1
import Derived.Test.YtidpaaemfiopkaaQ2
import Derived.Test.YtidpaaemfiopkaaQ3
import Derived.Test.YtidpaaemfiopkaaQ5
import Derived.Test.YtidpaaemfiopkaaQ6
import Derived.Test.YtidpaaemfiopkaaQ7
namespace Go.Proofs.Ytidpaaemfiopkaa.Q
open Go.RowKit Go.Proofs.YtidpaaemfiopkaaW.PrintWords Go.Proofs.YtidpaaemfiopkaaW.PrintLast Go.Proofs.YtidpaaemfiopkaaW.PrintMore
attribute [local go_sem] max2_int min2_int max_two min_two max_three min_three max_four min_four   -- for this text's walks alone
set_option linter.unusedVariables false
set_option linter.unusedSimpArgs false

attribute [local go_sem high] eqA36
abbrev Fl21 : Array Bool := #[true, true, true, true, true, true, true, true, true, true, true, true, true, true, true, true, true, true, true, true, true, true, true, true, false, false]
abbrev Fl22 : Array Bool := #[false, false, false, false, false, false, false, false, false]
abbrev Fl23 : Array Bool := #[true, true, true, true, true, true, true, true, true, true, true, true, true, true, true, true, true, true, true, false, false, false, false, true, false, false]
abbrev Fl24 : Array Bool := #[true, true, true, true, true, true, true, true, true, true, true, true, true, true, true, true, true, true, true, true, false, false, false, true, false, false]
abbrev Fl25 : Array Bool := #[true, true, true, true, true, true, true, true, true, true, true, true, true, true, true, true, true, true, true, true, true, false, false, true, false, false]
abbrev Fl26 : Array Bool := #[true, true, true, true, true, true, true, true, true, true, true, true, true, true, true, true, true, true, true, true, true, true, false, true, false, false]
abbrev Fl27 : Array Bool := #[true, false, false, false, false, false, false, false, false]
abbrev Fl28 : Array Bool := #[true, true, false, false, false, false, false, false, false]
abbrev Fl29 : Array Bool := #[true, true, true, false, false, false, false, false, false]
abbrev Fl30 : Array Bool := #[true, true, true, true, true, true, true, true, true, true, true, true, true, true, true, true, true, false, false, false, false, false, false, true, false, false]
abbrev Fl31 : Array Bool := #[true, true, true, true, true, true, true, true, true, true, true, true, true, true, true, true, true, true, false, false, false, false, false, true, false, false]
/-! ### chequerlaw03_RectFinds: function 3 -/
mutual
def chequerlaw03_RectFinds.l0 : Nat → List (S24) → Int → Int → Int → List Int → Option (Bool)
 | 0, _, _, _, _, _ => none
 | k + 1, x13, x14, x208000, x208001, x208002 => if x14 < 2 then ((chequerlaw03_of.f x208000 x208001 x208002).bind fun bt229 => (if 0 ≤ x14 then (if x14 < (x13.length : Int) then ((chequerlaw03_of.f ((rd_T24 x13 x14).f0) ((rd_T24 x13 x14).f1) ((rd_T24 x13 x14).f2)).bind fun bt235 => ((rect_Matrix_Find.f k bt229.1 bt229.2.1 bt229.2.2 bt235.1 bt235.2.1 bt235.2.2).bind fun t240 => ((chequerref03_Find.f k x208000 x208001 x208002 ((rd_T24 x13 x14).f0) ((rd_T24 x13 x14).f1) ((rd_T24 x13 x14).f2)).bind fun t244 => (if (t240.length : Int) = (t244.length : Int) then (if x14 = 1 then (chequerlaw03_RectFinds.j1 k x13 x14 t240 t244 ((t240.length : Int) == 0) x208000 x208001 x208002) else (chequerlaw03_RectFinds.j1 k x13 x14 t240 t244 false x208000 x208001 x208002)) else (chequerlaw03_RectFinds.j1 k x13 x14 t240 t244 true x208000 x208001 x208002))))) else (none)) else (none))) else ((chequerlaw03_lives.f k).bind fun t228 => (some t228))
def chequerlaw03_RectFinds.j1 : Nat → List (S24) → Int → List (S36) → List (S36) → Bool → Int → Int → List Int → Option (Bool)
 | 0, _, _, _, _, _, _, _, _ => none
 | k + 1, x13, x14, x15, x16, x89, x208000, x208001, x208002 => if x89 = true then (some false) else (chequerlaw03_RectFinds.l1 k x13 x14 x15 x16 0 x208000 x208001 x208002)
def chequerlaw03_RectFinds.l1 : Nat → List (S24) → Int → List (S36) → List (S36) → Int → Int → Int → List Int → Option (Bool)
 | 0, _, _, _, _, _, _, _, _ => none
 | k + 1, x13, x14, x15, x16, x17, x208000, x208001, x208002 => if x17 < (x15.length : Int) then (if 0 ≤ x17 then (if x17 < (x16.length : Int) then (if (!(((rd_T36 x15 x17).f0) == ((rd_T36 x16 x17).f0)) || (!(((rd_T36 x15 x17).f1) == ((rd_T36 x16 x17).f1)))) = true then (some false) else (chequerlaw03_RectFinds.l1 k x13 x14 x15 x16 (wrap64 (x17 + 1)) x208000 x208001 x208002)) else (none)) else (none)) else (chequerlaw03_RectFinds.l0 k x13 (wrap64 (x14 + 1)) x208000 x208001 x208002)
end
def chequerlaw03_RectFinds.f (k : Nat) (a0_0 : Int) (a0_1 : Int) (l0_2 : List Int) (a1_0 : Int) (a1_1 : Int) (l1_2 : List Int) (a2_0 : Int) (a2_1 : Int) (a2_2 : Int) (a2_3 : Int) : Option (Bool) := (chequerref03_Good.f k a0_0 a0_1 l0_2 8).bind fun bt202 => ((chequerref03_Good.f k a1_0 a1_1 l1_2 3).bind fun bt208 => ((chequerref01_Around.f a2_0 bt202.1).bind fun t214 => ((chequerref01_Around.f a2_1 bt202.2.1).bind fun t215 => ((chequerref01_Around.f a2_2 (wrap64 (bt202.1 - t214))).bind fun t216 => ((chequerref01_Around.f a2_3 (wrap64 (bt202.2.1 - t215))).bind fun t217 => ((chequerref03_Sub.f k bt202.1 bt202.2.1 bt202.2.2 t214 t215 (wrap64 (1 + t216)) (wrap64 (1 + t217))).bind fun bt218 => (chequerlaw03_RectFinds.l0 k (([(⟨bt208.1, bt208.2.1, bt208.2.2⟩ : S24), (⟨bt218.1, bt218.2.1, bt218.2.2.1⟩ : S24)] : List (S24))) 0 bt202.1 bt202.2.1 bt202.2.2)))))))
theorem chequerlaw03_RectFinds.mono_l : ∀ k, (∀ y0 y1 y2 y3 y4, LeO (chequerlaw03_RectFinds.l0 k y0 y1 y2 y3 y4) (chequerlaw03_RectFinds.l0 (k + 1) y0 y1 y2 y3 y4)) ∧ (∀ y0 y1 y2 y3 y4 y5 y6 y7, LeO (chequerlaw03_RectFinds.j1 k y0 y1 y2 y3 y4 y5 y6 y7) (chequerlaw03_RectFinds.j1 (k + 1) y0 y1 y2 y3 y4 y5 y6 y7)) ∧ (∀ y0 y1 y2 y3 y4 y5 y6 y7, LeO (chequerlaw03_RectFinds.l1 k y0 y1 y2 y3 y4 y5 y6 y7) (chequerlaw03_RectFinds.l1 (k + 1) y0 y1 y2 y3 y4 y5 y6 y7))
 | 0 => ⟨fun _ _ _ _ _ r h => by simp [chequerlaw03_RectFinds.l0] at h, fun _ _ _ _ _ _ _ _ r h => by simp [chequerlaw03_RectFinds.j1] at h, fun _ _ _ _ _ _ _ _ r h => by simp [chequerlaw03_RectFinds.l1] at h⟩
 | k + 1 => by
  obtain ⟨ih0, ih1, ih2⟩ := chequerlaw03_RectFinds.mono_l k
  refine ⟨?_, ?_, ?_⟩
  · intro y0 y1 y2 y3 y4
    unfold chequerlaw03_RectFinds.l0
    repeat' first
    | (with_reducible exact ih0 _ _ _ _ _)
    | (with_reducible exact ih1 _ _ _ _ _ _ _ _)
    | (with_reducible exact ih2 _ _ _ _ _ _ _ _)
    | (with_reducible exact chequerlaw03_lives.mono _)
    | (with_reducible exact chequerref03_Find.mono _ _ _ _ _ _ _)
    | (with_reducible exact chequerref03_Good.mono _ _ _ _ _)
    | (with_reducible exact chequerref03_Sub.mono _ _ _ _ _ _ _ _)
    | (with_reducible exact rect_Matrix_Find.mono _ _ _ _ _ _ _)
    | (with_reducible exact LeO.refl _)
    | (with_reducible exact LeO.none _)
    | (with_reducible refine LeO.ite ?_ ?_)
    | (with_reducible refine LeO.bind ?_ (fun _ => ?_))
    | exact ih0 _ _ _ _ _
    | exact ih1 _ _ _ _ _ _ _ _
    | exact ih2 _ _ _ _ _ _ _ _
    | exact chequerlaw03_lives.mono _
    | exact chequerref03_Find.mono _ _ _ _ _ _ _
    | exact chequerref03_Good.mono _ _ _ _ _
    | exact chequerref03_Sub.mono _ _ _ _ _ _ _ _
    | exact rect_Matrix_Find.mono _ _ _ _ _ _ _
    | exact LeO.none _
    | refine LeO.ite ?_ ?_
    | refine LeO.bind ?_ (fun _ => ?_)
  · intro y0 y1 y2 y3 y4 y5 y6 y7
    unfold chequerlaw03_RectFinds.j1
    repeat' first
    | (with_reducible exact ih0 _ _ _ _ _)
    | (with_reducible exact ih1 _ _ _ _ _ _ _ _)
    | (with_reducible exact ih2 _ _ _ _ _ _ _ _)
    | (with_reducible exact chequerlaw03_lives.mono _)
    | (with_reducible exact chequerref03_Find.mono _ _ _ _ _ _ _)
    | (with_reducible exact chequerref03_Good.mono _ _ _ _ _)
    | (with_reducible exact chequerref03_Sub.mono _ _ _ _ _ _ _ _)
    | (with_reducible exact rect_Matrix_Find.mono _ _ _ _ _ _ _)
    | (with_reducible exact LeO.refl _)
    | (with_reducible exact LeO.none _)
    | (with_reducible refine LeO.ite ?_ ?_)
    | (with_reducible refine LeO.bind ?_ (fun _ => ?_))
    | exact ih0 _ _ _ _ _
    | exact ih1 _ _ _ _ _ _ _ _
    | exact ih2 _ _ _ _ _ _ _ _
    | exact chequerlaw03_lives.mono _
    | exact chequerref03_Find.mono _ _ _ _ _ _ _
    | exact chequerref03_Good.mono _ _ _ _ _
    | exact chequerref03_Sub.mono _ _ _ _ _ _ _ _
    | exact rect_Matrix_Find.mono _ _ _ _ _ _ _
    | exact LeO.none _
    | refine LeO.ite ?_ ?_
    | refine LeO.bind ?_ (fun _ => ?_)
  · intro y0 y1 y2 y3 y4 y5 y6 y7
    unfold chequerlaw03_RectFinds.l1
    repeat' first
    | (with_reducible exact ih0 _ _ _ _ _)
    | (with_reducible exact ih1 _ _ _ _ _ _ _ _)
    | (with_reducible exact ih2 _ _ _ _ _ _ _ _)
    | (with_reducible exact chequerlaw03_lives.mono _)
    | (with_reducible exact chequerref03_Find.mono _ _ _ _ _ _ _)
    | (with_reducible exact chequerref03_Good.mono _ _ _ _ _)
    | (with_reducible exact chequerref03_Sub.mono _ _ _ _ _ _ _ _)
    | (with_reducible exact rect_Matrix_Find.mono _ _ _ _ _ _ _)
    | (with_reducible exact LeO.refl _)
    | (with_reducible exact LeO.none _)
    | (with_reducible refine LeO.ite ?_ ?_)
    | (with_reducible refine LeO.bind ?_ (fun _ => ?_))
    | exact ih0 _ _ _ _ _
    | exact ih1 _ _ _ _ _ _ _ _
    | exact ih2 _ _ _ _ _ _ _ _
    | exact chequerlaw03_lives.mono _
    | exact chequerref03_Find.mono _ _ _ _ _ _ _
    | exact chequerref03_Good.mono _ _ _ _ _
    | exact chequerref03_Sub.mono _ _ _ _ _ _ _ _
    | exact rect_Matrix_Find.mono _ _ _ _ _ _ _
    | exact LeO.none _
    | refine LeO.ite ?_ ?_
    | refine LeO.bind ?_ (fun _ => ?_)
theorem chequerlaw03_RectFinds.mono : ∀ a0 a1 a2 a3 a4 a5 a6 a7 a8 a9 k, LeO (chequerlaw03_RectFinds.f k a0 a1 a2 a3 a4 a5 a6 a7 a8 a9) (chequerlaw03_RectFinds.f (k + 1) a0 a1 a2 a3 a4 a5 a6 a7 a8 a9) := by
 intro a0 a1 a2 a3 a4 a5 a6 a7 a8 a9 k
 obtain ⟨ih0, ih1, ih2⟩ := chequerlaw03_RectFinds.mono_l k
 unfold chequerlaw03_RectFinds.f
 repeat' first
  | (with_reducible exact ih0 _ _ _ _ _)
  | (with_reducible exact ih1 _ _ _ _ _ _ _ _)
  | (with_reducible exact ih2 _ _ _ _ _ _ _ _)
  | (with_reducible exact chequerlaw03_lives.mono _)
  | (with_reducible exact chequerref03_Find.mono _ _ _ _ _ _ _)
  | (with_reducible exact chequerref03_Good.mono _ _ _ _ _)
  | (with_reducible exact chequerref03_Sub.mono _ _ _ _ _ _ _ _)
  | (with_reducible exact rect_Matrix_Find.mono _ _ _ _ _ _ _)
  | (with_reducible exact LeO.refl _)
  | (with_reducible exact LeO.none _)
  | (with_reducible refine LeO.ite ?_ ?_)
  | (with_reducible refine LeO.bind ?_ (fun _ => ?_))
  | exact ih0 _ _ _ _ _
  | exact ih1 _ _ _ _ _ _ _ _
  | exact ih2 _ _ _ _ _ _ _ _
  | exact chequerlaw03_lives.mono _
  | exact chequerref03_Find.mono _ _ _ _ _ _ _
  | exact chequerref03_Good.mono _ _ _ _ _
  | exact chequerref03_Sub.mono _ _ _ _ _ _ _ _
  | exact rect_Matrix_Find.mono _ _ _ _ _ _ _
  | exact LeO.none _
  | refine LeO.ite ?_ ?_
  | refine LeO.bind ?_ (fun _ => ?_)
def chequerlaw03_RectFinds.T5 : Bool × List (List Nat × List Nat) := (true, [([], []), ([], []), ([], []), ([], []), ([3], [3]), ([], []), ([5], [5]), ([], []), ([6, 7], [6, 7]), ([4, 8], [4, 8]), ([9], [9]), ([], []), ([11], [11]), ([], []), ([13], [13]), ([], []), ([14, 15], [14, 15]), ([12, 16, 9], [12, 16]), ([17], [17]), ([0, 1, 2, 10, 18, 17], [0, 1, 2, 10, 18]), ([19], [19]), ([20], [20]), ([20], [20]), ([], []), ([23, 21, 19, 0, 1, 2, 3, 4, 5, 6, 7, 8, 9, 10, 11, 12, 13, 14, 15, 16, 17, 18, 19, 20, 21, 23], [21, 23]), ([22, 24, 0, 1, 2, 3, 4, 5, 6, 7, 8, 9, 10, 11, 12, 13, 14, 15, 16, 17, 18, 19, 20, 21, 22, 23, 24], [22])])
def chequerlaw03_RectFinds.B5 : List Nat := [0, 0, 0, 0, 8, 0, 32, 0, 224, 504, 1016, 0, 2048, 0, 8192, 0, 57344, 130040, 261112, 524287, 1048575, 2097151, 2097151, 0, 12582911, 33554431]
theorem chequerlaw03_RectFinds.tab5 : rtab .any (opsOf Try.f3 5) = chequerlaw03_RectFinds.T5 := by kernel_rfl
theorem chequerlaw03_RectFinds.bits5 : waitsOk chequerlaw03_RectFinds.T5.2 chequerlaw03_RectFinds.B5 = true := by kernel_rfl
def chequerlaw03_RectFinds.T10 : Bool × List (List Nat × List Nat) := (true, [([], []), ([0], [0]), ([], []), ([], []), ([2, 3], [2, 3]), ([4], [4]), ([5, 1], [5]), ([1, 6, 6], [1, 6]), ([7, 7, 0, 1, 2, 3, 4, 5, 6, 7], [7])])
def chequerlaw03_RectFinds.B10 : List Nat := [0, 1, 0, 0, 12, 28, 63, 127, 255]
theorem chequerlaw03_RectFinds.tab10 : rtab .any (opsOf Try.f3 10) = chequerlaw03_RectFinds.T10 := by kernel_rfl
theorem chequerlaw03_RectFinds.bits10 : waitsOk chequerlaw03_RectFinds.T10.2 chequerlaw03_RectFinds.B10 = true := by kernel_rfl
def chequerlaw03_RectFinds.T17 : Bool × List (List Nat × List Nat) := (true, [([], []), ([], []), ([0, 1], [0, 1]), ([2], [2]), ([], []), ([], []), ([4, 5], [4, 5]), ([6], [6]), ([3, 7], [3, 7])])
def chequerlaw03_RectFinds.B17 : List Nat := [0, 0, 3, 7, 0, 0, 48, 112, 255]
theorem chequerlaw03_RectFinds.tab17 : rtab .any (opsOf Try.f3 17) = chequerlaw03_RectFinds.T17 := by kernel_rfl
theorem chequerlaw03_RectFinds.bits17 : waitsOk chequerlaw03_RectFinds.T17.2 chequerlaw03_RectFinds.B17 = true := by kernel_rfl
set_option maxHeartbeats 8000000 in
set_option maxRecDepth 100000 in
theorem chequerlaw03_RectFinds.calls (k : Nat) (a0_0 : Int) (a0_1 : Int) (A0_2 : Option Addr) (c0_2 : Nat) (l0_2 : List Int) (a1_0 : Int) (a1_1 : Int) (A1_2 : Option Addr) (c1_2 : Nat) (l1_2 : List Int) (a2_0 : Int) (a2_1 : Int) (a2_2 : Int) (a2_3 : Int) (r : Bool) (w : World) (hr0_2 : Kd.C (Kd.int .u64) w A0_2 l0_2.length l0_2) (hc0_2 : l0_2.length ≤ c0_2) (hr1_2 : Kd.C (Kd.int .u64) w A1_2 l1_2.length l1_2) (hc1_2 : l1_2.length ≤ c1_2) (h : chequerlaw03_RectFinds.f k a0_0 a0_1 l0_2 a1_0 a1_1 l1_2 a2_0 a2_1 a2_2 a2_3 = some r) :
 Calls Try.prog 3 #[.agg #[.int .i64 a0_0, .int .i64 a0_1, .slice A0_2 l0_2.length c0_2], .agg #[.int .i64 a1_0, .int .i64 a1_1, .slice A1_2 l1_2.length c1_2], .agg #[.int .i64 a2_0, .int .i64 a2_1, .int .i64 a2_2, .int .i64 a2_3]] w fun e w' => e = .returned (.bool r) ∧ Below w.heap.size w w' := by
 have hu24 := Try.underlying24
 have hu25 := Try.underlying25
 have hu36 := Try.underlying36
 have HR0_2 := Aside0.mk hr0_2
 have HC0_2 := Aside0.mk hc0_2
 clear hr0_2 hc0_2
 have HR1_2 := Aside0.mk hr1_2
 have HC1_2 := Aside0.mk hc1_2
 clear hr1_2 hc1_2
 have HB := Aside0.mk (Below.refl w.heap.size w)
 have H : ((chequerref03_Good.f k a0_0 a0_1 l0_2 8).bind fun bt202 => ((chequerref03_Good.f k a1_0 a1_1 l1_2 3).bind fun bt208 => ((chequerref01_Around.f a2_0 bt202.1).bind fun t214 => ((chequerref01_Around.f a2_1 bt202.2.1).bind fun t215 => ((chequerref01_Around.f a2_2 (wrap64 (bt202.1 - t214))).bind fun t216 => ((chequerref01_Around.f a2_3 (wrap64 (bt202.2.1 - t215))).bind fun t217 => ((chequerref03_Sub.f k bt202.1 bt202.2.1 bt202.2.2 t214 t215 (wrap64 (1 + t216)) (wrap64 (1 + t217))).bind fun bt218 => (chequerlaw03_RectFinds.l0 k (([(⟨bt208.1, bt208.2.1, bt208.2.2⟩ : S24), (⟨bt218.1, bt218.2.1, bt218.2.2.1⟩ : S24)] : List (S24))) 0 bt202.1 bt202.2.1 bt202.2.2)))))))) = some r := h
 clear h
 replace H := Option.bind_eq_some_iff.mp H
 obtain ⟨⟨t202, t203, t204⟩, A40, H⟩ := H
 replace H : ((chequerref03_Good.f k a1_0 a1_1 l1_2 3).bind fun bt208 => ((chequerref01_Around.f a2_0 t202).bind fun t214 => ((chequerref01_Around.f a2_1 t203).bind fun t215 => ((chequerref01_Around.f a2_2 (wrap64 (t202 - t214))).bind fun t216 => ((chequerref01_Around.f a2_3 (wrap64 (t203 - t215))).bind fun t217 => ((chequerref03_Sub.f k t202 t203 t204 t214 t215 (wrap64 (1 + t216)) (wrap64 (1 + t217))).bind fun bt218 => (chequerlaw03_RectFinds.l0 k (([(⟨bt208.1, bt208.2.1, bt208.2.2⟩ : S24), (⟨bt218.1, bt218.2.1, bt218.2.2.1⟩ : S24)] : List (S24))) 0 t202 t203 t204))))))) = some r := H
 have A4 := Aside0.mk A40
 clear A40
 replace H := Option.bind_eq_some_iff.mp H
 obtain ⟨⟨t208, t209, t210⟩, A50, H⟩ := H
 replace H : ((chequerref01_Around.f a2_0 t202).bind fun t214 => ((chequerref01_Around.f a2_1 t203).bind fun t215 => ((chequerref01_Around.f a2_2 (wrap64 (t202 - t214))).bind fun t216 => ((chequerref01_Around.f a2_3 (wrap64 (t203 - t215))).bind fun t217 => ((chequerref03_Sub.f k t202 t203 t204 t214 t215 (wrap64 (1 + t216)) (wrap64 (1 + t217))).bind fun bt218 => (chequerlaw03_RectFinds.l0 k (([(⟨t208, t209, t210⟩ : S24), (⟨bt218.1, bt218.2.1, bt218.2.2.1⟩ : S24)] : List (S24))) 0 t202 t203 t204)))))) = some r := H
 have A5 := Aside0.mk A50
 clear A50
 replace H := Option.bind_eq_some_iff.mp H
 obtain ⟨t214, A60, H⟩ := H
 replace H : ((chequerref01_Around.f a2_1 t203).bind fun t215 => ((chequerref01_Around.f a2_2 (wrap64 (t202 - t214))).bind fun t216 => ((chequerref01_Around.f a2_3 (wrap64 (t203 - t215))).bind fun t217 => ((chequerref03_Sub.f k t202 t203 t204 t214 t215 (wrap64 (1 + t216)) (wrap64 (1 + t217))).bind fun bt218 => (chequerlaw03_RectFinds.l0 k (([(⟨t208, t209, t210⟩ : S24), (⟨bt218.1, bt218.2.1, bt218.2.2.1⟩ : S24)] : List (S24))) 0 t202 t203 t204))))) = some r := H
 have A6 := Aside0.mk A60
 clear A60
 replace H := Option.bind_eq_some_iff.mp H
 obtain ⟨t215, A70, H⟩ := H
 replace H : ((chequerref01_Around.f a2_2 (wrap64 (t202 - t214))).bind fun t216 => ((chequerref01_Around.f a2_3 (wrap64 (t203 - t215))).bind fun t217 => ((chequerref03_Sub.f k t202 t203 t204 t214 t215 (wrap64 (1 + t216)) (wrap64 (1 + t217))).bind fun bt218 => (chequerlaw03_RectFinds.l0 k (([(⟨t208, t209, t210⟩ : S24), (⟨bt218.1, bt218.2.1, bt218.2.2.1⟩ : S24)] : List (S24))) 0 t202 t203 t204)))) = some r := H
 have A7 := Aside0.mk A70
 clear A70
 replace H := Option.bind_eq_some_iff.mp H
 obtain ⟨t216, A80, H⟩ := H
 replace H : ((chequerref01_Around.f a2_3 (wrap64 (t203 - t215))).bind fun t217 => ((chequerref03_Sub.f k t202 t203 t204 t214 t215 (wrap64 (1 + t216)) (wrap64 (1 + t217))).bind fun bt218 => (chequerlaw03_RectFinds.l0 k (([(⟨t208, t209, t210⟩ : S24), (⟨bt218.1, bt218.2.1, bt218.2.2.1⟩ : S24)] : List (S24))) 0 t202 t203 t204))) = some r := H
 have A8 := Aside0.mk A80
 clear A80
 replace H := Option.bind_eq_some_iff.mp H
 obtain ⟨t217, A90, H⟩ := H
 replace H : ((chequerref03_Sub.f k t202 t203 t204 t214 t215 (wrap64 (1 + t216)) (wrap64 (1 + t217))).bind fun bt218 => (chequerlaw03_RectFinds.l0 k (([(⟨t208, t209, t210⟩ : S24), (⟨bt218.1, bt218.2.1, bt218.2.2.1⟩ : S24)] : List (S24))) 0 t202 t203 t204)) = some r := H
 have A9 := Aside0.mk A90
 clear A90
 replace H := Option.bind_eq_some_iff.mp H
 obtain ⟨⟨t218, t219, t220, t223⟩, A100, H⟩ := H
 replace H : (chequerlaw03_RectFinds.l0 k (([(⟨t208, t209, t210⟩ : S24), (⟨t218, t219, t220⟩ : S24)] : List (S24))) 0 t202 t203 t204) = some r := H
 have A10 := Aside0.mk A100
 clear A100
 obtain ⟨y225, hy225⟩ : ∃ y_ : List (S24), y_ = (([(⟨t208, t209, t210⟩ : S24), (⟨t218, t219, t220⟩ : S24)] : List (S24))) := ⟨_, rfl⟩
 replace H : (chequerlaw03_RectFinds.l0 k y225 0 t202 t203 t204) = some r := by first | (rw [hy225]; with_reducible exact H) | (have H2_ := (Option.bind_some _ _).symm.trans H; rw [hy225]; with_reducible exact H2_) | (have H2_ := (Option.bind_some _ _).symm.trans H; with_reducible exact H2_) | with_reducible exact H | (rw [hy225]; exact H) | exact H
 have Ny225 := Aside0.mk hy225
 clear hy225
 have H' := Aside0.mk H
 clear H
 go_enter Try.func3, Try.ntmps3
 try go_wp2_with (first | ((with_reducible refine gate_dst (N := 3) rfl ?_); (try (refine gate_guard (by rfl) ?_; dsimp only)); refine box_event ?hg (N := 3) ?hd (cs := #[.int .i64 a0_0, .int .i64 a0_1, .slice A0_2 l0_2.length c0_2]) (t := 24) ?hr ?_; (case hd => rfl); (case hg => rfl); (case hr => first | (go_simp; done) | (go_simp; rfl)); intro gb199 hg w11 hbox hb; have BK199 := Aside0.mk (hbox); have GW199 := Aside0.mk ((by rw [hg]; exact (below_size bp_) : w.heap.size ≤ gb199)); have GE199 := Aside0.mk ((by rw [hg]; exact (below_size bp_) : w.heap.size ≤ gb199)); replace HB := Aside0.mk (below_step bp_ hb); clear hb hbox hg) | ((with_reducible refine gate_dst (N := 4) rfl ?_); (try (refine gate_guard (by rfl) ?_; dsimp only)); refine box_event ?hg (N := 4) ?hd (cs := #[.int .i64 a1_0, .int .i64 a1_1, .slice A1_2 l1_2.length c1_2]) (t := 24) ?hr ?_; (case hd => rfl); (case hg => rfl); (case hr => first | (go_simp; done) | (go_simp; rfl)); intro gb200 hg w12 hbox hb; have BK200 := Aside0.mk (hbox); have GW200 := Aside0.mk ((by rw [hg]; exact (below_size bp_) : w.heap.size ≤ gb200)); have GE200 := Aside0.mk ((by rw [hg]; exact (below_size bp_) : w.heap.size ≤ gb200)); replace HB := Aside0.mk (below_step bp_ hb); have NB199_200 := Aside0.mk ((nlt_ hg (hp_ BK199.out))); have NB200_199 := Aside0.mk ((ngt_ hg (hp_ BK199.out))); replace BK199 := Aside0.mk (blk_below (hp_ BK199.out) hb); clear hb hbox hg) | ((with_reducible refine gate_dst (N := 5) rfl ?_); (try (refine gate_guard (by rfl) ?_; dsimp only)); refine box_event ?hg (N := 5) ?hd (cs := #[.int .i64 a2_0, .int .i64 a2_1, .int .i64 a2_2, .int .i64 a2_3]) (t := 25) ?hr ?_; (case hd => rfl); (case hg => rfl); (case hr => first | (go_simp; done) | (go_simp; rfl)); intro gb201 hg w13 hbox hb; have BK201 := Aside0.mk (hbox); have GW201 := Aside0.mk ((by rw [hg]; exact (below_size bp_) : w.heap.size ≤ gb201)); have GE201 := Aside0.mk ((by rw [hg]; exact (below_size bp_) : w.heap.size ≤ gb201)); replace HB := Aside0.mk (below_step bp_ hb); have NB199_201 := Aside0.mk ((nlt_ hg (hp_ BK199.out))); have NB201_199 := Aside0.mk ((ngt_ hg (hp_ BK199.out))); replace BK199 := Aside0.mk (blk_below (hp_ BK199.out) hb); have NB200_201 := Aside0.mk ((nlt_ hg (hp_ BK200.out))); have NB201_200 := Aside0.mk ((ngt_ hg (hp_ BK200.out))); replace BK200 := Aside0.mk (blk_below (hp_ BK200.out) hb); clear hb hbox hg; have hnb14 := NB199_200.out; have hnc14 := NB200_199.out; have hnb15 := NB199_201.out; have hnc15 := NB201_199.out; have hcz16_0 : w13.cell? ⟨gb199, 0, none⟩ = some (.int .i64 a0_0) := (blk_cell BK199.out 0).trans rfl; have hcz16_1 : w13.cell? ⟨gb199, 1, none⟩ = some (.int .i64 a0_1) := (blk_cell BK199.out 1).trans rfl; have hcz16_2 : w13.cell? ⟨gb199, 2, none⟩ = some (.slice A0_2 l0_2.length c0_2) := (blk_cell BK199.out 2).trans rfl; have hfz16_0 := blk_frozen BK199.out 0; have hfz16_1 := blk_frozen BK199.out 1; have hfz16_2 := blk_frozen BK199.out 2) | ((with_reducible refine gate_callee (f := 10) rfl ?_); refine goQ_ (some 19) Try.func10 #[.agg #[.int .i64 a0_0, .int .i64 a0_1, .slice A0_2 l0_2.length c0_2], .int .i64 8] ?_; (with_reducible refine (chequerref03_Good.calls k a0_0 a0_1 _ _ l0_2 8 t202 t203 t204 _ ?side1 ?side2 A4.out).mono ?_); (case side1 => repeat (first | exact (Kd.C_below HR0_2.out HB.out) | (with_reducible refine Kd.C_alloc ?_ _) | (with_reducible refine Kd.C_drewN ?_ _) | (with_reducible refine Kd.C_drew ?_))); (case side2 => exact HC0_2.out); rintro e w17 ⟨v205, rfl, ho0, hb⟩; refine ⟨_, rfl, ?_⟩; have HO206 := Aside0.mk (Kd.R_lower ho0 (below_size bp_)); replace BK200 := Aside0.mk (blk_below (hp_ BK200.out) hb); replace BK201 := Aside0.mk (blk_below (hp_ BK201.out) hb); replace HB := Aside0.mk (below_step bp_ hb); (try clear hb); (try clear hb2); (try clear hk); (try clear hi); (try clear ho0)) | ((with_reducible refine gate_dst (N := 7) rfl ?_); (try (refine gate_guard (by rfl) ?_; dsimp only)); refine box_event ?hg (N := 7) ?hd (cs := #[.int .i64 0, .int .i64 0, .slice none 0 0]) (t := 24) ?hr ?_; (case hd => rfl); (case hg => rfl); (case hr => first | (go_simp; done) | (go_simp; rfl)); intro gb207 hg w18 hbox hb; replace HO206 := Aside0.mk (Kd.R_below (rp_ HO206.out) hb); have BK207 := Aside0.mk (hbox); have GW207 := Aside0.mk ((by rw [hg]; exact (below_size bp_) : w.heap.size ≤ gb207)); have GE207 := Aside0.mk ((by rw [hg]; exact (below_size bp_) : w.heap.size ≤ gb207)); replace HB := Aside0.mk (below_step bp_ hb); have NB200_207 := Aside0.mk ((nlt_ hg (hp_ BK200.out))); have NB207_200 := Aside0.mk ((ngt_ hg (hp_ BK200.out))); replace BK200 := Aside0.mk (blk_below (hp_ BK200.out) hb); have NB201_207 := Aside0.mk ((nlt_ hg (hp_ BK201.out))); have NB207_201 := Aside0.mk ((ngt_ hg (hp_ BK201.out))); replace BK201 := Aside0.mk (blk_below (hp_ BK201.out) hb); clear hb hbox hg; have hnb19 := NB207_200.out; have hnc19 := NB200_207.out; have hnb20 := NB207_201.out; have hnc20 := NB201_207.out; have hcz21_0 : w18.cell? ⟨gb207, 0, none⟩ = some (.int .i64 0) := (blk_cell BK207.out 0).trans rfl; have hcz21_1 : w18.cell? ⟨gb207, 1, none⟩ = some (.int .i64 0) := (blk_cell BK207.out 1).trans rfl; have hcz21_2 : w18.cell? ⟨gb207, 2, none⟩ = some (.slice none 0 0) := (blk_cell BK207.out 2).trans rfl; have hfz21_0 := blk_frozen BK207.out 0; have hfz21_1 := blk_frozen BK207.out 1; have hfz21_2 := blk_frozen BK207.out 2; obtain ⟨Ao22, co22, eo22⟩ := Kd.R_slice HO206.out; subst eo22; have hnb23 := NB200_201.out; have hnc23 := NB201_200.out; have hcz24_0 : w18.cell? ⟨gb200, 0, none⟩ = some (.int .i64 a1_0) := (blk_cell BK200.out 0).trans rfl; have hcz24_1 : w18.cell? ⟨gb200, 1, none⟩ = some (.int .i64 a1_1) := (blk_cell BK200.out 1).trans rfl; have hcz24_2 : w18.cell? ⟨gb200, 2, none⟩ = some (.slice A1_2 l1_2.length c1_2) := (blk_cell BK200.out 2).trans rfl; have hfz24_0 := blk_frozen BK200.out 0; have hfz24_1 := blk_frozen BK200.out 1; have hfz24_2 := blk_frozen BK200.out 2) | ((with_reducible refine gate_callee (f := 10) rfl ?_); refine goQ_ (some 21) Try.func10 #[.agg #[.int .i64 a1_0, .int .i64 a1_1, .slice A1_2 l1_2.length c1_2], .int .i64 3] ?_; (with_reducible refine (chequerref03_Good.calls k a1_0 a1_1 _ _ l1_2 3 t208 t209 t210 _ ?side1 ?side2 A5.out).mono ?_); (case side1 => exact Kd.C_below HR1_2.out bp_); (case side2 => exact HC1_2.out); rintro e w25 ⟨v211, rfl, ho0, hb⟩; refine ⟨_, rfl, ?_⟩; have HO212 := Aside0.mk (Kd.R_lower (Kd.R_new' ho0 (Kd.R_lt (by (with_reducible repeat (first | apply Kd.R_alloc | apply Kd.R_drewN | apply Kd.R_drew)); exact (Kd.R_mono (Kd.R_far (p := ⟨gb207, 2, none⟩) (Kd.R_far (p := ⟨gb207, 1, none⟩) (Kd.R_far (p := ⟨gb207, 0, none⟩) (Kd.R_types HO206.out BK207.out (by decide)) (fun _ hk => hk.2) (.int .i64 t202)) (fun _ hk => hk.2) (.int .i64 t203)) (fun _ hk => hk.2) (.slice Ao22 t204.length co22)) (fun _ h_ => h_.1))))) (below_size bp_)); replace HO206 := Aside0.mk (Kd.R_elder' (by (with_reducible repeat (first | apply Kd.R_alloc | apply Kd.R_drewN | apply Kd.R_drew)); exact (Kd.R_mono (Kd.R_far (p := ⟨gb207, 2, none⟩) (Kd.R_far (p := ⟨gb207, 1, none⟩) (Kd.R_far (p := ⟨gb207, 0, none⟩) (Kd.R_types HO206.out BK207.out (by decide)) (fun _ hk => hk.2) (.int .i64 t202)) (fun _ hk => hk.2) (.int .i64 t203)) (fun _ hk => hk.2) (.slice Ao22 t204.length co22)) (fun _ h_ => h_.1))) (Kd.R_base ho0) hb); replace BK200 := Aside0.mk (blk_below (hf_ BK200.out NB200_207.out) hb); replace BK201 := Aside0.mk (blk_below (hf_ BK201.out NB201_207.out) hb); replace BK207 := Aside0.mk (blk_below (g := gb207) (o := .cells #[.int .i64 t202, .int .i64 t203, .slice Ao22 t204.length co22] 24 (0, 0)) (by (with_reducible repeat (first | refine blk_drewN ?_ _ | refine blk_drew ?_ | refine blk_alloc ?_ _)); refine blk_put (cs := #[.int .i64 t202, .int .i64 t203, .slice none 0 0]) ?_ 2 _ rfl; (with_reducible repeat (first | refine blk_drewN ?_ _ | refine blk_drew ?_ | refine blk_alloc ?_ _)); refine blk_put (cs := #[.int .i64 t202, .int .i64 0, .slice none 0 0]) ?_ 1 _ rfl; (with_reducible repeat (first | refine blk_drewN ?_ _ | refine blk_drew ?_ | refine blk_alloc ?_ _)); refine blk_put (cs := #[.int .i64 0, .int .i64 0, .slice none 0 0]) ?_ 0 _ rfl; (with_reducible repeat (first | refine blk_drewN ?_ _ | refine blk_drew ?_ | refine blk_alloc ?_ _)); exact BK207.out) hb); replace HB := Aside0.mk (below_step bp_ hb); (try clear hb); (try clear hb2); (try clear hk); (try clear hi); (try clear ho0)) | ((with_reducible refine gate_dst (N := 8) rfl ?_); (try (refine gate_guard (by rfl) ?_; dsimp only)); refine box_event ?hg (N := 8) ?hd (cs := #[.int .i64 0, .int .i64 0, .slice none 0 0]) (t := 24) ?hr ?_; (case hd => rfl); (case hg => rfl); (case hr => first | (go_simp; done) | (go_simp; rfl)); intro gb213 hg w26 hbox hb; replace HO206 := Aside0.mk (Kd.R_below (rp_ HO206.out) hb); replace HO212 := Aside0.mk (Kd.R_below (rp_ HO212.out) hb); have BK213 := Aside0.mk (hbox); have GW213 := Aside0.mk ((by rw [hg]; exact (below_size bp_) : w.heap.size ≤ gb213)); have GE213 := Aside0.mk ((by rw [hg]; exact (below_size bp_) : w.heap.size ≤ gb213)); replace HB := Aside0.mk (below_step bp_ hb); have NB201_213 := Aside0.mk ((nlt_ hg (hp_ BK201.out))); have NB213_201 := Aside0.mk ((ngt_ hg (hp_ BK201.out))); replace BK201 := Aside0.mk (blk_below (hp_ BK201.out) hb); have NB207_213 := Aside0.mk ((nlt_ hg (hp_ BK207.out))); have NB213_207 := Aside0.mk ((ngt_ hg (hp_ BK207.out))); replace BK207 := Aside0.mk (blk_below (hp_ BK207.out) hb); clear hb hbox hg; have hnb27 := NB213_201.out; have hnc27 := NB201_213.out; have hnb28 := NB213_207.out; have hnc28 := NB207_213.out; have hcz29_0 : w26.cell? ⟨gb213, 0, none⟩ = some (.int .i64 0) := (blk_cell BK213.out 0).trans rfl; have hcz29_1 : w26.cell? ⟨gb213, 1, none⟩ = some (.int .i64 0) := (blk_cell BK213.out 1).trans rfl; have hcz29_2 : w26.cell? ⟨gb213, 2, none⟩ = some (.slice none 0 0) := (blk_cell BK213.out 2).trans rfl; have hfz29_0 := blk_frozen BK213.out 0; have hfz29_1 := blk_frozen BK213.out 1; have hfz29_2 := blk_frozen BK213.out 2; obtain ⟨Ao30, co30, eo30⟩ := Kd.R_slice HO212.out; subst eo30; have hcz31_0 : w26.cell? ⟨gb201, 0, none⟩ = some (.int .i64 a2_0) := (blk_cell BK201.out 0).trans rfl; have hcz31_1 : w26.cell? ⟨gb201, 1, none⟩ = some (.int .i64 a2_1) := (blk_cell BK201.out 1).trans rfl; have hcz31_2 : w26.cell? ⟨gb201, 2, none⟩ = some (.int .i64 a2_2) := (blk_cell BK201.out 2).trans rfl; have hcz31_3 : w26.cell? ⟨gb201, 3, none⟩ = some (.int .i64 a2_3) := (blk_cell BK201.out 3).trans rfl; have hfz31_0 := blk_frozen BK201.out 0; have hfz31_1 := blk_frozen BK201.out 1; have hfz31_2 := blk_frozen BK201.out 2; have hfz31_3 := blk_frozen BK201.out 3; have hcz32_0 : w26.cell? ⟨gb207, 0, none⟩ = some (.int .i64 t202) := (blk_cell BK207.out 0).trans rfl; have hcz32_1 : w26.cell? ⟨gb207, 1, none⟩ = some (.int .i64 t203) := (blk_cell BK207.out 1).trans rfl; have hcz32_2 : w26.cell? ⟨gb207, 2, none⟩ = some (.slice Ao22 t204.length co22) := (blk_cell BK207.out 2).trans rfl; have hfz32_0 := blk_frozen BK207.out 0; have hfz32_1 := blk_frozen BK207.out 1; have hfz32_2 := blk_frozen BK207.out 2) | ((with_reducible refine gate_callee (f := 11) rfl ?_); refine goQ_ (some 26) Try.func11 #[.int .i64 a2_0, .int .i64 t202] ?_; (with_reducible refine (chequerref01_Around.calls a2_0 t202 t214 _ A6.out).mono ?_); rintro e w' ⟨rfl, ⟨nd, rfl⟩⟩; refine ⟨_, rfl, ?_⟩) | ((with_reducible refine gate_callee (f := 11) rfl ?_); refine goQ_ (some 31) Try.func11 #[.int .i64 a2_1, .int .i64 t203] ?_; (with_reducible refine (chequerref01_Around.calls a2_1 t203 t215 _ A7.out).mono ?_); rintro e w' ⟨rfl, ⟨nd, rfl⟩⟩; refine ⟨_, rfl, ?_⟩))
 have n0_ : Aside0 (Kd.R (Kd.int .u64) 46 (((w26.setCell ⟨gb213, 0, none⟩ (.int .i64 t208)).setCell ⟨gb213, 1, none⟩ (.int .i64 t209)).setCell ⟨gb213, 2, none⟩ (.slice Ao30 t210.length co30)) w.heap.size (fun k_ => some k_ ≠ (.slice Ao30 t210.length co30 : Value).ownBlock) (.slice Ao22 t204.length co22) t204) := ⟨rf_ HO206.out BK213.out (by decide) (fun _ hk => hk.1.2)⟩
 have n1_ : Aside0 (Kd.R (Kd.int .u64) 46 (((w26.setCell ⟨gb213, 0, none⟩ (.int .i64 t208)).setCell ⟨gb213, 1, none⟩ (.int .i64 t209)).setCell ⟨gb213, 2, none⟩ (.slice Ao30 t210.length co30)) w.heap.size (fun k_ => some k_ ≠ (.slice Ao22 t204.length co22 : Value).ownBlock) (.slice Ao30 t210.length co30) t210) := ⟨rf_ HO212.out BK213.out (by decide) (fun _ hk => hk.1.2)⟩
 have n2_ : Aside0 ((((w26.setCell ⟨gb213, 0, none⟩ (.int .i64 t208)).setCell ⟨gb213, 1, none⟩ (.int .i64 t209)).setCell ⟨gb213, 2, none⟩ (.slice Ao30 t210.length co30)).heap[gb201]? = some (.cells #[.int .i64 a2_0, .int .i64 a2_1, .int .i64 a2_2, .int .i64 a2_3] 25 (0, 0))) := ⟨hf_ BK201.out NB201_213.out⟩
 have n3_ : Aside0 ((((w26.setCell ⟨gb213, 0, none⟩ (.int .i64 t208)).setCell ⟨gb213, 1, none⟩ (.int .i64 t209)).setCell ⟨gb213, 2, none⟩ (.slice Ao30 t210.length co30)).heap[gb207]? = some (.cells #[.int .i64 t202, .int .i64 t203, .slice Ao22 t204.length co22] 24 (0, 0))) := ⟨hf_ BK207.out NB207_213.out⟩
 have n4_ : Aside0 ((((w26.setCell ⟨gb213, 0, none⟩ (.int .i64 t208)).setCell ⟨gb213, 1, none⟩ (.int .i64 t209)).setCell ⟨gb213, 2, none⟩ (.slice Ao30 t210.length co30)).heap[gb213]? = some (.cells #[.int .i64 t208, .int .i64 t209, .slice Ao30 t210.length co30] 24 (0, 0))) := ⟨by (with_reducible repeat (first | refine blk_drewN ?_ _ | refine blk_drew ?_ | refine blk_alloc ?_ _)); refine blk_put (cs := #[.int .i64 t208, .int .i64 t209, .slice none 0 0]) ?_ 2 _ rfl; (with_reducible repeat (first | refine blk_drewN ?_ _ | refine blk_drew ?_ | refine blk_alloc ?_ _)); refine blk_put (cs := #[.int .i64 t208, .int .i64 0, .slice none 0 0]) ?_ 1 _ rfl; (with_reducible repeat (first | refine blk_drewN ?_ _ | refine blk_drew ?_ | refine blk_alloc ?_ _)); refine blk_put (cs := #[.int .i64 0, .int .i64 0, .slice none 0 0]) ?_ 0 _ rfl; (with_reducible repeat (first | refine blk_drewN ?_ _ | refine blk_drew ?_ | refine blk_alloc ?_ _)); exact BK213.out⟩
 have n5_ : Aside0 (Below w.heap.size w (((w26.setCell ⟨gb213, 0, none⟩ (.int .i64 t208)).setCell ⟨gb213, 1, none⟩ (.int .i64 t209)).setCell ⟨gb213, 2, none⟩ (.slice Ao30 t210.length co30))) := ⟨bp_⟩
 (try clear HO206)
 (try clear HO212)
 (try clear BK201)
 (try clear BK207)
 (try clear BK213)
 (try clear HB)
 generalize (((w26.setCell ⟨gb213, 0, none⟩ (.int .i64 t208)).setCell ⟨gb213, 1, none⟩ (.int .i64 t209)).setCell ⟨gb213, 2, none⟩ (.slice Ao30 t210.length co30)) = w33 at n0_ n1_ n2_ n3_ n4_ n5_ ⊢
 have HO206 := n0_
 have HO212 := n1_
 have BK201 := n2_
 have BK207 := n3_
 have BK213 := n4_
 have HB := n5_
 clear n0_ n1_ n2_ n3_ n4_ n5_
 (try (rw [drewN_self w33]; generalize hq_ : World.drewN w33 _ = w33; have n0_ := Aside0.mk (qrp_ hq_ HO206.out); have n1_ := Aside0.mk (qrp_ hq_ HO212.out); have n2_ := Aside0.mk (qhp_ hq_ BK201.out); have n3_ := Aside0.mk (qhp_ hq_ BK207.out); have n4_ := Aside0.mk (qhp_ hq_ BK213.out); have n5_ : Aside0 (Below w.heap.size w w33) := ⟨qbp_ hq_⟩; clear HO206 HO212 BK201 BK207 BK213 HB hq_; have HO206 := n0_; have HO212 := n1_; have BK201 := n2_; have BK207 := n3_; have BK213 := n4_; have HB := n5_; clear n0_ n1_ n2_ n3_ n4_ n5_))
 replace HO206 := Aside0.mk (Kd.R_drew HO206.out)
 replace HO212 := Aside0.mk (Kd.R_drew HO212.out)
 replace BK201 := Aside0.mk (blk_drew BK201.out)
 replace BK207 := Aside0.mk (blk_drew BK207.out)
 replace BK213 := Aside0.mk (blk_drew BK213.out)
 replace HB := Aside0.mk (below_drew1 HB.out)
 refine start_ (n := 26) (S := fun w' => w'.cell? ⟨gb207, 0, none⟩ = some (.int .i64 t202) ∧ w'.cell? ⟨gb207, 1, none⟩ = some (.int .i64 t203) ∧ w'.cell? ⟨gb207, 2, none⟩ = some (.slice Ao22 t204.length co22) ∧ w'.cell? ⟨gb201, 0, none⟩ = some (.int .i64 a2_0) ∧ w'.cell? ⟨gb201, 1, none⟩ = some (.int .i64 a2_1) ∧ w'.cell? ⟨gb201, 2, none⟩ = some (.int .i64 a2_2) ∧ w'.cell? ⟨gb201, 3, none⟩ = some (.int .i64 a2_3)) (ds := []) #[false, false, false, false, false, false, false, false, false, false, false, false, false, false, false, false, false, false, false, false, false, false, false, false, false, false] (by kernel_rfl) rfl rfl ⟨(blk_cell BK207.out 0).trans rfl, (blk_cell BK207.out 1).trans rfl, (blk_cell BK207.out 2).trans rfl, (blk_cell BK201.out 0).trans rfl, (blk_cell BK201.out 1).trans rfl, (blk_cell BK201.out 2).trans rfl, (blk_cell BK201.out 3).trans rfl⟩ (fun hHeld => ?_); refine with_tabW chequerlaw03_RectFinds.tab5 chequerlaw03_RectFinds.bits5 (fun HT_ HW_ => ?_)
 generalize w33.drew = w34 at HO206 HO212 BK201 BK207 BK213 HB hHeld ⊢
 refine pur_ (i := 1) (N := some 34) #[false, true, false, false, false, false, false, false, false, false, false, false, false, false, false, false, false, false, false, false, false, false, false, false, false, false] (any_of HT_.out (by kernel_rfl)) ?_
 refine pur_ (i := 2) (N := some 35) #[false, true, true, false, false, false, false, false, false, false, false, false, false, false, false, false, false, false, false, false, false, false, false, false, false, false] (any_of HT_.out (by kernel_rfl)) ?_
 refine pur_ (i := 3) (N := some 36) #[false, true, true, true, false, false, false, false, false, false, false, false, false, false, false, false, false, false, false, false, false, false, false, false, false, false] (any_of HT_.out (by kernel_rfl)) ?_
 refine pur_ (i := 5) (N := some 38) #[false, true, true, true, false, true, false, false, false, false, false, false, false, false, false, false, false, false, false, false, false, false, false, false, false, false] (any_of HT_.out (by kernel_rfl)) ?_
 refine pur_ (i := 7) (N := some 40) #[false, true, true, true, false, true, false, true, false, false, false, false, false, false, false, false, false, false, false, false, false, false, false, false, false, false] (any_of HT_.out (by kernel_rfl)) ?_
 refine pur_ (i := 11) (N := some 44) #[false, true, true, true, false, true, false, true, false, false, false, true, false, false, false, false, false, false, false, false, false, false, false, false, false, false] (any_of HT_.out (by kernel_rfl)) ?_
 refine pur_ (i := 13) (N := some 46) #[false, true, true, true, false, true, false, true, false, false, false, true, false, true, false, false, false, false, false, false, false, false, false, false, false, false] (any_of HT_.out (by kernel_rfl)) ?_
 refine pur_ (i := 15) (N := some 48) #[false, true, true, true, false, true, false, true, false, false, false, true, false, true, false, true, false, false, false, false, false, false, false, false, false, false] (any_of HT_.out (by kernel_rfl)) ?_
 refine take_ (i := 0) (N := some 33) (v := ?_) (a' := ?_) #[true, true, true, true, false, true, false, true, false, false, false, true, false, true, false, true, false, false, false, false, false, false, false, false, false, false] rfl rfl (take_ofW HT_.out HW_.out (by kernel_rfl)) (fun _ _ _ h => h) (Or.inl ⟨by rfl, ?_⟩) hHeld ?_ ?_
 rotate_left
 · rintro w' ⟨s0, s1, s2, s3, s4, s5, s6⟩
   go_simp
   with_reducible rfl
 rotate_left
 · simp only [Act.put, List.setIfInBounds_toArray, List.set_cons_zero, List.set_cons_succ, i64_w, i32_w]
   rfl
 refine take_ (i := 4) (N := some 37) (v := ?_) (a' := ?_) #[true, true, true, true, true, true, false, true, false, false, false, true, false, true, false, true, false, false, false, false, false, false, false, false, false, false] rfl rfl (take_ofW HT_.out HW_.out (by kernel_rfl)) (fun _ _ _ h => h) (Or.inl ⟨by rfl, ?_⟩) hHeld ?_ ?_
 rotate_left
 · rintro w' ⟨s0, s1, s2, s3, s4, s5, s6⟩
   go_simp
   with_reducible rfl
 rotate_left
 · simp only [Act.put, List.setIfInBounds_toArray, List.set_cons_zero, List.set_cons_succ, i64_w, i32_w]
   rfl
 refine take_ (i := 6) (N := some 39) (v := ?_) (a' := ?_) #[true, true, true, true, true, true, true, true, false, false, false, true, false, true, false, true, false, false, false, false, false, false, false, false, false, false] rfl rfl (take_ofW HT_.out HW_.out (by kernel_rfl)) (fun _ _ _ h => h) (Or.inl ⟨by rfl, ?_⟩) hHeld ?_ ?_
 rotate_left
 · rintro w' ⟨s0, s1, s2, s3, s4, s5, s6⟩
   go_simp
   with_reducible rfl
 rotate_left
 · simp only [Act.put, List.setIfInBounds_toArray, List.set_cons_zero, List.set_cons_succ, i64_w, i32_w]
   rfl
 refine pur_ (i := 8) (N := some 41) #[true, true, true, true, true, true, true, true, true, false, false, true, false, true, false, true, false, false, false, false, false, false, false, false, false, false] (any_of HT_.out (by kernel_rfl)) ?_
 refine take_ (i := 12) (N := some 45) (v := ?_) (a' := ?_) #[true, true, true, true, true, true, true, true, true, false, false, true, true, true, false, true, false, false, false, false, false, false, false, false, false, false] rfl rfl (take_ofW HT_.out HW_.out (by kernel_rfl)) (fun _ _ _ h => h) (Or.inl ⟨by rfl, ?_⟩) hHeld ?_ ?_
 rotate_left
 · rintro w' ⟨s0, s1, s2, s3, s4, s5, s6⟩
   go_simp
   with_reducible rfl
 rotate_left
 · simp only [Act.put, List.setIfInBounds_toArray, List.set_cons_zero, List.set_cons_succ, i64_w, i32_w]
   rfl
 refine take_ (i := 14) (N := some 47) (v := ?_) (a' := ?_) #[true, true, true, true, true, true, true, true, true, false, false, true, true, true, true, true, false, false, false, false, false, false, false, false, false, false] rfl rfl (take_ofW HT_.out HW_.out (by kernel_rfl)) (fun _ _ _ h => h) (Or.inl ⟨by rfl, ?_⟩) hHeld ?_ ?_
 rotate_left
 · rintro w' ⟨s0, s1, s2, s3, s4, s5, s6⟩
   go_simp
   with_reducible rfl
 rotate_left
 · simp only [Act.put, List.setIfInBounds_toArray, List.set_cons_zero, List.set_cons_succ, i64_w, i32_w]
   rfl
 refine pur_ (i := 16) (N := some 49) #[true, true, true, true, true, true, true, true, true, false, false, true, true, true, true, true, true, false, false, false, false, false, false, false, false, false] (any_of HT_.out (by kernel_rfl)) ?_
 refine join_ (σ := Value × Nat) 2 Fl21 (fun s_ => [(42, .int .i64 t216), (50, .int .i64 t217), (52, .tuple #[.agg #[.int .i64 t218, .int .i64 t219, s_.1], .bool t223]), (11, .pointer (some ⟨s_.2, 0, none⟩)), (43, .int .i64 (wrap64 (1 + t216))), (51, .int .i64 (wrap64 (1 + t217))), (32, .tuple #[.agg #[.int .i64 t218, .int .i64 t219, s_.1], .bool t223]), (53, .agg #[.int .i64 t218, .int .i64 t219, s_.1]), (54, .bool t223)]) (fun s_ w' => (w'.cell? ⟨gb207, 0, none⟩ = some (.int .i64 t202) ∧ w'.cell? ⟨gb207, 1, none⟩ = some (.int .i64 t203) ∧ w'.cell? ⟨gb207, 2, none⟩ = some (.slice Ao22 t204.length co22) ∧ w'.cell? ⟨gb201, 0, none⟩ = some (.int .i64 a2_0) ∧ w'.cell? ⟨gb201, 1, none⟩ = some (.int .i64 a2_1) ∧ w'.cell? ⟨gb201, 2, none⟩ = some (.int .i64 a2_2) ∧ w'.cell? ⟨gb201, 3, none⟩ = some (.int .i64 a2_3)) ∧ (Kd.R (Kd.int .u64) 46 w' w.heap.size (fun k_ => some k_ ≠ (.slice Ao30 t210.length co30 : Value).ownBlock ∧ some k_ ≠ (s_.1 : Value).ownBlock) (.slice Ao22 t204.length co22) t204) ∧ (Kd.R (Kd.int .u64) 46 w' w.heap.size (fun k_ => some k_ ≠ (.slice Ao22 t204.length co22 : Value).ownBlock ∧ some k_ ≠ (s_.1 : Value).ownBlock) (.slice Ao30 t210.length co30) t210) ∧ (Kd.R (Kd.int .u64) 46 w' w.heap.size (fun k_ => some k_ ≠ (.slice Ao22 t204.length co22 : Value).ownBlock ∧ some k_ ≠ (.slice Ao30 t210.length co30 : Value).ownBlock) s_.1 t220) ∧ (w'.heap[gb201]? = some (.cells #[.int .i64 a2_0, .int .i64 a2_1, .int .i64 a2_2, .int .i64 a2_3] 25 (0, 0))) ∧ (w'.heap[gb207]? = some (.cells #[.int .i64 t202, .int .i64 t203, .slice Ao22 t204.length co22] 24 (0, 0))) ∧ (w'.heap[gb213]? = some (.cells #[.int .i64 t208, .int .i64 t209, .slice Ao30 t210.length co30] 24 (0, 0))) ∧ (w'.heap[s_.2]? = some (.cells #[.int .i64 0, .int .i64 0, .slice none 0 0] 24 (0, 0))) ∧ (w.heap.size ≤ s_.2) ∧ (w.heap.size ≤ s_.2) ∧ (gb201 ≠ s_.2) ∧ (s_.2 ≠ gb201) ∧ (gb207 ≠ s_.2) ∧ (s_.2 ≠ gb207) ∧ (gb213 ≠ s_.2) ∧ (s_.2 ≠ gb213) ∧ (Below w.heap.size w w')) ?_ ?_
 rotate_left
 · intro hCont
   refine two_ (i := 9) (j := 23) (Ni := some 42) (Nj := some 11) #[true, true, true, true, true, true, true, true, true, true, false, true, true, true, true, true, true, false, false, false, false, false, false, false, false, false] #[true, true, true, true, true, true, true, true, true, false, false, true, true, true, true, true, true, false, false, false, false, false, false, true, false, false] rfl rfl rfl rfl (two_of HT_.out (by kernel_rfl)) (by decide) (by decide) (fun K hK => ?_) (fun K hK => ?_)
   · skip
     refine goes_ Try.func11 (by kernel_rfl) rfl #[.int .i64 a2_2, .int .i64 (wrap64 (t202 - t214))] (by rfl) rfl rfl (by (try simp only [List.map_toArray, List.map_cons, List.map_nil]); first | done | rfl | (simp only [List.length_drop, List.length_take]; rfl)) ?_
     with_reducible refine (chequerref01_Around.calls a2_2 (wrap64 (t202 - t214)) t216 _ A8.out).mono ?_
     rintro e w' ⟨rfl, ⟨nd, rfl⟩⟩
     refine ⟨_, rfl, ?_⟩
     refine hK.out _ _ ⟨(blk_cell BK207.out 0).trans rfl, (blk_cell BK207.out 1).trans rfl, (blk_cell BK207.out 2).trans rfl, (blk_cell BK201.out 0).trans rfl, (blk_cell BK201.out 1).trans rfl, (blk_cell BK201.out 2).trans rfl, (blk_cell BK201.out 3).trans rfl⟩ (fun hHeld => ?_)
     clear hK K
     refine norm_ (a' := ?_) ?_ ?_
     rotate_left
     · show Act.put _ (some 42) _ = _
       simp only [Act.put, List.setIfInBounds_toArray, List.set_cons_zero, List.set_cons_succ, i64_w, i32_w]
       rfl
     refine pur_ (i := 10) (N := some 43) #[true, true, true, true, true, true, true, true, true, true, true, true, true, true, true, true, true, false, false, false, false, false, false, false, false, false] (any_of HT_.out (by kernel_rfl)) ?_
     refine two_ (i := 17) (j := 23) (Ni := some 50) (Nj := some 11) #[true, true, true, true, true, true, true, true, true, true, true, true, true, true, true, true, true, true, false, false, false, false, false, false, false, false] Fl30 rfl rfl rfl rfl (two_of HT_.out (by kernel_rfl)) (by decide) (by decide) (fun K hK => ?_) (fun K hK => ?_)
     · skip
       refine goes_ Try.func11 (by kernel_rfl) rfl #[.int .i64 a2_3, .int .i64 (wrap64 (t203 - t215))] (by rfl) rfl rfl (by (try simp only [List.map_toArray, List.map_cons, List.map_nil]); first | done | rfl | (simp only [List.length_drop, List.length_take]; rfl)) ?_
       with_reducible refine (chequerref01_Around.calls a2_3 (wrap64 (t203 - t215)) t217 _ A9.out).mono ?_
       rintro e w' ⟨rfl, ⟨nd, rfl⟩⟩
       refine ⟨_, rfl, ?_⟩
       refine hK.out _ _ ⟨(blk_cell BK207.out 0).trans rfl, (blk_cell BK207.out 1).trans rfl, (blk_cell BK207.out 2).trans rfl, (blk_cell BK201.out 0).trans rfl, (blk_cell BK201.out 1).trans rfl, (blk_cell BK201.out 2).trans rfl, (blk_cell BK201.out 3).trans rfl⟩ (fun hHeld => ?_)
       clear hK K
       refine norm_ (a' := ?_) ?_ ?_
       rotate_left
       · show Act.put _ (some 50) _ = _
         simp only [Act.put, List.setIfInBounds_toArray, List.set_cons_zero, List.set_cons_succ, i64_w, i32_w]
         rfl
       refine pur_ (i := 18) (N := some 51) #[true, true, true, true, true, true, true, true, true, true, true, true, true, true, true, true, true, true, true, false, false, false, false, false, false, false] (any_of HT_.out (by kernel_rfl)) ?_
       refine two_ (i := 19) (j := 23) (Ni := some 52) (Nj := some 11) #[true, true, true, true, true, true, true, true, true, true, true, true, true, true, true, true, true, true, true, true, false, false, false, false, false, false] Fl23 rfl rfl rfl rfl (two_of HT_.out (by kernel_rfl)) (by decide) (by decide) (fun K hK => ?_) (fun K hK => ?_)
       · skip
         refine goes_ Try.func12 (by kernel_rfl) rfl #[.agg #[.int .i64 t202, .int .i64 t203, .slice Ao22 t204.length co22], .int .i64 t214, .int .i64 t215, .int .i64 (wrap64 (1 + t216)), .int .i64 (wrap64 (1 + t217))] (by rfl) rfl rfl (by (try simp only [List.map_toArray, List.map_cons, List.map_nil]); first | done | rfl | (simp only [List.length_drop, List.length_take]; rfl)) ?_
         with_reducible refine (chequerref03_Sub.calls k t202 t203 _ _ t204 t214 t215 (wrap64 (1 + t216)) (wrap64 (1 + t217)) t218 t219 t220 t223 _ ?side1 ?side2 A10.out).mono ?_
         (case side1 => exact cp_ (Kd.R_reads' HO206.out).2.2)
         (case side2 => exact (Kd.R_reads' HO206.out).2.1)
         rintro e w35 ⟨v221, rfl, ho0, hb⟩
         refine ⟨_, rfl, ?_⟩
         have HO222 := Aside0.mk (Kd.R_lower (Kd.R_new' (Kd.R_new' ho0 (Kd.R_lt (rp_ HO206.out))) (Kd.R_lt (rp_ HO212.out))) (below_size bp_))
         replace HO206 := Aside0.mk (Kd.R_elder' (rp_ HO206.out) (Kd.R_base ho0) hb)
         replace HO212 := Aside0.mk (Kd.R_elder' (rp_ HO212.out) (Kd.R_base ho0) hb)
         replace BK201 := Aside0.mk (blk_below (hp_ BK201.out) hb)
         replace BK207 := Aside0.mk (blk_below (hp_ BK207.out) hb)
         replace BK213 := Aside0.mk (blk_below (hp_ BK213.out) hb)
         replace HB := Aside0.mk (below_step bp_ hb)
         (try clear hb)
         (try clear hb2)
         (try clear hk)
         (try clear hi)
         (try clear ho0)
         refine hK.out _ _ ⟨(blk_cell BK207.out 0).trans rfl, (blk_cell BK207.out 1).trans rfl, (blk_cell BK207.out 2).trans rfl, (blk_cell BK201.out 0).trans rfl, (blk_cell BK201.out 1).trans rfl, (blk_cell BK201.out 2).trans rfl, (blk_cell BK201.out 3).trans rfl⟩ (fun hHeld => ?_)
         clear hK K
         refine norm_ (a' := ?_) ?_ ?_
         rotate_left
         · show Act.put _ (some 52) _ = _
           simp only [Act.put, List.setIfInBounds_toArray, List.set_cons_zero, List.set_cons_succ, i64_w, i32_w]
           rfl
         refine pur_ (i := 20) (N := some 32) #[true, true, true, true, true, true, true, true, true, true, true, true, true, true, true, true, true, true, true, true, true, false, false, false, false, false] (any_of HT_.out (by kernel_rfl)) ?_
         refine pur_ (i := 21) (N := some 53) #[true, true, true, true, true, true, true, true, true, true, true, true, true, true, true, true, true, true, true, true, true, true, false, false, false, false] (any_of HT_.out (by kernel_rfl)) ?_
         refine pur_ (i := 22) (N := some 54) #[true, true, true, true, true, true, true, true, true, true, true, true, true, true, true, true, true, true, true, true, true, true, true, false, false, false] (any_of HT_.out (by kernel_rfl)) ?_
         refine one_ (i := 23) (N := some 11) Fl21 rfl rfl (one_of HT_.out (by kernel_rfl)) (by decide) (fun K hK => ?_)
         refine box_step ?hg (N := 11) ?hd (cs := #[.int .i64 0, .int .i64 0, .slice none 0 0]) (t := 24) ?hr ?_; (case hd => rfl); (case hg => rfl); (case hr => first | (go_simp; done) | (go_simp; rfl))
         intro gb224 hg w36 hbox hb
         replace HO206 := Aside0.mk (Kd.R_below (rp_ HO206.out) hb)
         replace HO212 := Aside0.mk (Kd.R_below (rp_ HO212.out) hb)
         replace HO222 := Aside0.mk (Kd.R_below (rp_ HO222.out) hb)
         have BK224 := Aside0.mk (hbox)
         have GW224 := Aside0.mk ((by rw [hg]; exact (below_size bp_) : w.heap.size ≤ gb224))
         have GE224 := Aside0.mk ((by rw [hg]; exact (below_size bp_) : w.heap.size ≤ gb224))
         replace HB := Aside0.mk (below_step bp_ hb)
         have NB201_224 := Aside0.mk ((nlt_ hg (hp_ BK201.out)))
         have NB224_201 := Aside0.mk ((ngt_ hg (hp_ BK201.out)))
         replace BK201 := Aside0.mk (blk_below (hp_ BK201.out) hb)
         have NB207_224 := Aside0.mk ((nlt_ hg (hp_ BK207.out)))
         have NB224_207 := Aside0.mk ((ngt_ hg (hp_ BK207.out)))
         replace BK207 := Aside0.mk (blk_below (hp_ BK207.out) hb)
         have NB213_224 := Aside0.mk ((nlt_ hg (hp_ BK213.out)))
         have NB224_213 := Aside0.mk ((ngt_ hg (hp_ BK213.out)))
         replace BK213 := Aside0.mk (blk_below (hp_ BK213.out) hb)
         clear hb hbox hg
         refine hK.out _ _ ⟨(blk_cell BK207.out 0).trans rfl, (blk_cell BK207.out 1).trans rfl, (blk_cell BK207.out 2).trans rfl, (blk_cell BK201.out 0).trans rfl, (blk_cell BK201.out 1).trans rfl, (blk_cell BK201.out 2).trans rfl, (blk_cell BK201.out 3).trans rfl⟩ (fun hHeld => ?_)
         clear hK K
         refine norm_ (a' := ?_) ?_ ?_
         rotate_left
         · show Act.put _ (some 11) _ = _
           simp only [Act.put, List.setIfInBounds_toArray, List.set_cons_zero, List.set_cons_succ, i64_w, i32_w]
           rfl
         exact norm_ (by simp only [putAll, Act.put, List.setIfInBounds_toArray, List.set_cons_zero, List.set_cons_succ]) (hCont (v221, gb224) _ ⟨hHeld, (rp_ HO206.out), (rp_ HO212.out), (by (with_reducible repeat (first | apply Kd.R_alloc | apply Kd.R_drewN | apply Kd.R_drew)); exact Kd.R_mono HO222.out (fun _ hk => ⟨hk.1.2, hk.2⟩)), (hp_ BK201.out), (hp_ BK207.out), (hp_ BK213.out), (hp_ BK224.out), GW224.out, GE224.out, NB201_224.out, NB224_201.out, NB207_224.out, NB224_207.out, NB213_224.out, NB224_213.out, bp_⟩)
       · skip
         refine box_step ?hg (N := 11) ?hd (cs := #[.int .i64 0, .int .i64 0, .slice none 0 0]) (t := 24) ?hr ?_; (case hd => rfl); (case hg => rfl); (case hr => first | (go_simp; done) | (go_simp; rfl))
         intro gb224 hg w35 hbox hb
         replace HO206 := Aside0.mk (Kd.R_below (rp_ HO206.out) hb)
         replace HO212 := Aside0.mk (Kd.R_below (rp_ HO212.out) hb)
         have BK224 := Aside0.mk (hbox)
         have GW224 := Aside0.mk ((by rw [hg]; exact (below_size bp_) : w.heap.size ≤ gb224))
         have GE224 := Aside0.mk ((by rw [hg]; exact (below_size bp_) : w.heap.size ≤ gb224))
         replace HB := Aside0.mk (below_step bp_ hb)
         have NB201_224 := Aside0.mk ((nlt_ hg (hp_ BK201.out)))
         have NB224_201 := Aside0.mk ((ngt_ hg (hp_ BK201.out)))
         replace BK201 := Aside0.mk (blk_below (hp_ BK201.out) hb)
         have NB207_224 := Aside0.mk ((nlt_ hg (hp_ BK207.out)))
         have NB224_207 := Aside0.mk ((ngt_ hg (hp_ BK207.out)))
         replace BK207 := Aside0.mk (blk_below (hp_ BK207.out) hb)
         have NB213_224 := Aside0.mk ((nlt_ hg (hp_ BK213.out)))
         have NB224_213 := Aside0.mk ((ngt_ hg (hp_ BK213.out)))
         replace BK213 := Aside0.mk (blk_below (hp_ BK213.out) hb)
         clear hb hbox hg
         refine hK.out _ _ ⟨(blk_cell BK207.out 0).trans rfl, (blk_cell BK207.out 1).trans rfl, (blk_cell BK207.out 2).trans rfl, (blk_cell BK201.out 0).trans rfl, (blk_cell BK201.out 1).trans rfl, (blk_cell BK201.out 2).trans rfl, (blk_cell BK201.out 3).trans rfl⟩ (fun hHeld => ?_)
         clear hK K
         refine norm_ (a' := ?_) ?_ ?_
         rotate_left
         · show Act.put _ (some 11) _ = _
           simp only [Act.put, List.setIfInBounds_toArray, List.set_cons_zero, List.set_cons_succ, i64_w, i32_w]
           rfl
         refine one_ (i := 19) (N := some 52) Fl24 rfl rfl (one_of HT_.out (by kernel_rfl)) (by decide) (fun K hK => ?_)
         refine goes_ Try.func12 (by kernel_rfl) rfl #[.agg #[.int .i64 t202, .int .i64 t203, .slice Ao22 t204.length co22], .int .i64 t214, .int .i64 t215, .int .i64 (wrap64 (1 + t216)), .int .i64 (wrap64 (1 + t217))] (by rfl) rfl rfl (by (try simp only [List.map_toArray, List.map_cons, List.map_nil]); first | done | rfl | (simp only [List.length_drop, List.length_take]; rfl)) ?_
         with_reducible refine (chequerref03_Sub.calls k t202 t203 _ _ t204 t214 t215 (wrap64 (1 + t216)) (wrap64 (1 + t217)) t218 t219 t220 t223 _ ?side1 ?side2 A10.out).mono ?_
         (case side1 => exact cp_ (Kd.R_reads' HO206.out).2.2)
         (case side2 => exact (Kd.R_reads' HO206.out).2.1)
         rintro e w36 ⟨v221, rfl, ho0, hb⟩
         refine ⟨_, rfl, ?_⟩
         have HO222 := Aside0.mk (Kd.R_lower (Kd.R_new' (Kd.R_new' ho0 (Kd.R_lt (rp_ HO206.out))) (Kd.R_lt (rp_ HO212.out))) (below_size bp_))
         replace HO206 := Aside0.mk (Kd.R_elder' (rp_ HO206.out) (Kd.R_base ho0) hb)
         replace HO212 := Aside0.mk (Kd.R_elder' (rp_ HO212.out) (Kd.R_base ho0) hb)
         replace BK201 := Aside0.mk (blk_below (hp_ BK201.out) hb)
         replace BK207 := Aside0.mk (blk_below (hp_ BK207.out) hb)
         replace BK213 := Aside0.mk (blk_below (hp_ BK213.out) hb)
         replace BK224 := Aside0.mk (blk_below (hp_ BK224.out) hb)
         replace HB := Aside0.mk (below_step bp_ hb)
         (try clear hb)
         (try clear hb2)
         (try clear hk)
         (try clear hi)
         (try clear ho0)
         refine hK.out _ _ ⟨(blk_cell BK207.out 0).trans rfl, (blk_cell BK207.out 1).trans rfl, (blk_cell BK207.out 2).trans rfl, (blk_cell BK201.out 0).trans rfl, (blk_cell BK201.out 1).trans rfl, (blk_cell BK201.out 2).trans rfl, (blk_cell BK201.out 3).trans rfl⟩ (fun hHeld => ?_)
         clear hK K
         refine norm_ (a' := ?_) ?_ ?_
         rotate_left
         · show Act.put _ (some 52) _ = _
           simp only [Act.put, List.setIfInBounds_toArray, List.set_cons_zero, List.set_cons_succ, i64_w, i32_w]
           rfl
         refine pur_ (i := 20) (N := some 32) Fl25 (any_of HT_.out (by kernel_rfl)) ?_
         refine pur_ (i := 21) (N := some 53) Fl26 (any_of HT_.out (by kernel_rfl)) ?_
         refine pur_ (i := 22) (N := some 54) Fl21 (any_of HT_.out (by kernel_rfl)) ?_
         exact norm_ (by simp only [putAll, Act.put, List.setIfInBounds_toArray, List.set_cons_zero, List.set_cons_succ]) (hCont (v221, gb224) _ ⟨hHeld, (rp_ HO206.out), (rp_ HO212.out), (by (with_reducible repeat (first | apply Kd.R_alloc | apply Kd.R_drewN | apply Kd.R_drew)); exact Kd.R_mono HO222.out (fun _ hk => ⟨hk.1.2, hk.2⟩)), (hp_ BK201.out), (hp_ BK207.out), (hp_ BK213.out), (hp_ BK224.out), GW224.out, GE224.out, NB201_224.out, NB224_201.out, NB207_224.out, NB224_207.out, NB213_224.out, NB224_213.out, bp_⟩)
     · skip
       refine box_step ?hg (N := 11) ?hd (cs := #[.int .i64 0, .int .i64 0, .slice none 0 0]) (t := 24) ?hr ?_; (case hd => rfl); (case hg => rfl); (case hr => first | (go_simp; done) | (go_simp; rfl))
       intro gb224 hg w35 hbox hb
       replace HO206 := Aside0.mk (Kd.R_below (rp_ HO206.out) hb)
       replace HO212 := Aside0.mk (Kd.R_below (rp_ HO212.out) hb)
       have BK224 := Aside0.mk (hbox)
       have GW224 := Aside0.mk ((by rw [hg]; exact (below_size bp_) : w.heap.size ≤ gb224))
       have GE224 := Aside0.mk ((by rw [hg]; exact (below_size bp_) : w.heap.size ≤ gb224))
       replace HB := Aside0.mk (below_step bp_ hb)
       have NB201_224 := Aside0.mk ((nlt_ hg (hp_ BK201.out)))
       have NB224_201 := Aside0.mk ((ngt_ hg (hp_ BK201.out)))
       replace BK201 := Aside0.mk (blk_below (hp_ BK201.out) hb)
       have NB207_224 := Aside0.mk ((nlt_ hg (hp_ BK207.out)))
       have NB224_207 := Aside0.mk ((ngt_ hg (hp_ BK207.out)))
       replace BK207 := Aside0.mk (blk_below (hp_ BK207.out) hb)
       have NB213_224 := Aside0.mk ((nlt_ hg (hp_ BK213.out)))
       have NB224_213 := Aside0.mk ((ngt_ hg (hp_ BK213.out)))
       replace BK213 := Aside0.mk (blk_below (hp_ BK213.out) hb)
       clear hb hbox hg
       refine hK.out _ _ ⟨(blk_cell BK207.out 0).trans rfl, (blk_cell BK207.out 1).trans rfl, (blk_cell BK207.out 2).trans rfl, (blk_cell BK201.out 0).trans rfl, (blk_cell BK201.out 1).trans rfl, (blk_cell BK201.out 2).trans rfl, (blk_cell BK201.out 3).trans rfl⟩ (fun hHeld => ?_)
       clear hK K
       refine norm_ (a' := ?_) ?_ ?_
       rotate_left
       · show Act.put _ (some 11) _ = _
         simp only [Act.put, List.setIfInBounds_toArray, List.set_cons_zero, List.set_cons_succ, i64_w, i32_w]
         rfl
       refine one_ (i := 17) (N := some 50) Fl31 rfl rfl (one_of HT_.out (by kernel_rfl)) (by decide) (fun K hK => ?_)
       refine goes_ Try.func11 (by kernel_rfl) rfl #[.int .i64 a2_3, .int .i64 (wrap64 (t203 - t215))] (by rfl) rfl rfl (by (try simp only [List.map_toArray, List.map_cons, List.map_nil]); first | done | rfl | (simp only [List.length_drop, List.length_take]; rfl)) ?_
       with_reducible refine (chequerref01_Around.calls a2_3 (wrap64 (t203 - t215)) t217 _ A9.out).mono ?_
       rintro e w' ⟨rfl, ⟨nd, rfl⟩⟩
       refine ⟨_, rfl, ?_⟩
       refine hK.out _ _ ⟨(blk_cell BK207.out 0).trans rfl, (blk_cell BK207.out 1).trans rfl, (blk_cell BK207.out 2).trans rfl, (blk_cell BK201.out 0).trans rfl, (blk_cell BK201.out 1).trans rfl, (blk_cell BK201.out 2).trans rfl, (blk_cell BK201.out 3).trans rfl⟩ (fun hHeld => ?_)
       clear hK K
       refine norm_ (a' := ?_) ?_ ?_
       rotate_left
       · show Act.put _ (some 50) _ = _
         simp only [Act.put, List.setIfInBounds_toArray, List.set_cons_zero, List.set_cons_succ, i64_w, i32_w]
         rfl
       refine pur_ (i := 18) (N := some 51) Fl23 (any_of HT_.out (by kernel_rfl)) ?_
       refine one_ (i := 19) (N := some 52) Fl24 rfl rfl (one_of HT_.out (by kernel_rfl)) (by decide) (fun K hK => ?_)
       refine goes_ Try.func12 (by kernel_rfl) rfl #[.agg #[.int .i64 t202, .int .i64 t203, .slice Ao22 t204.length co22], .int .i64 t214, .int .i64 t215, .int .i64 (wrap64 (1 + t216)), .int .i64 (wrap64 (1 + t217))] (by rfl) rfl rfl (by (try simp only [List.map_toArray, List.map_cons, List.map_nil]); first | done | rfl | (simp only [List.length_drop, List.length_take]; rfl)) ?_
       with_reducible refine (chequerref03_Sub.calls k t202 t203 _ _ t204 t214 t215 (wrap64 (1 + t216)) (wrap64 (1 + t217)) t218 t219 t220 t223 _ ?side1 ?side2 A10.out).mono ?_
       (case side1 => exact cp_ (Kd.R_reads' HO206.out).2.2)
       (case side2 => exact (Kd.R_reads' HO206.out).2.1)
       rintro e w36 ⟨v221, rfl, ho0, hb⟩
       refine ⟨_, rfl, ?_⟩
       have HO222 := Aside0.mk (Kd.R_lower (Kd.R_new' (Kd.R_new' ho0 (Kd.R_lt (rp_ HO206.out))) (Kd.R_lt (rp_ HO212.out))) (below_size bp_))
       replace HO206 := Aside0.mk (Kd.R_elder' (rp_ HO206.out) (Kd.R_base ho0) hb)
       replace HO212 := Aside0.mk (Kd.R_elder' (rp_ HO212.out) (Kd.R_base ho0) hb)
       replace BK201 := Aside0.mk (blk_below (hp_ BK201.out) hb)
       replace BK207 := Aside0.mk (blk_below (hp_ BK207.out) hb)
       replace BK213 := Aside0.mk (blk_below (hp_ BK213.out) hb)
       replace BK224 := Aside0.mk (blk_below (hp_ BK224.out) hb)
       replace HB := Aside0.mk (below_step bp_ hb)
       (try clear hb)
       (try clear hb2)
       (try clear hk)
       (try clear hi)
       (try clear ho0)
       refine hK.out _ _ ⟨(blk_cell BK207.out 0).trans rfl, (blk_cell BK207.out 1).trans rfl, (blk_cell BK207.out 2).trans rfl, (blk_cell BK201.out 0).trans rfl, (blk_cell BK201.out 1).trans rfl, (blk_cell BK201.out 2).trans rfl, (blk_cell BK201.out 3).trans rfl⟩ (fun hHeld => ?_)
       clear hK K
       refine norm_ (a' := ?_) ?_ ?_
       rotate_left
       · show Act.put _ (some 52) _ = _
         simp only [Act.put, List.setIfInBounds_toArray, List.set_cons_zero, List.set_cons_succ, i64_w, i32_w]
         rfl
       refine pur_ (i := 20) (N := some 32) Fl25 (any_of HT_.out (by kernel_rfl)) ?_
       refine pur_ (i := 21) (N := some 53) Fl26 (any_of HT_.out (by kernel_rfl)) ?_
       refine pur_ (i := 22) (N := some 54) Fl21 (any_of HT_.out (by kernel_rfl)) ?_
       exact norm_ (by simp only [putAll, Act.put, List.setIfInBounds_toArray, List.set_cons_zero, List.set_cons_succ]) (hCont (v221, gb224) _ ⟨hHeld, (rp_ HO206.out), (rp_ HO212.out), (by (with_reducible repeat (first | apply Kd.R_alloc | apply Kd.R_drewN | apply Kd.R_drew)); exact Kd.R_mono HO222.out (fun _ hk => ⟨hk.1.2, hk.2⟩)), (hp_ BK201.out), (hp_ BK207.out), (hp_ BK213.out), (hp_ BK224.out), GW224.out, GE224.out, NB201_224.out, NB224_201.out, NB207_224.out, NB224_207.out, NB213_224.out, NB224_213.out, bp_⟩)
   · skip
     refine box_step ?hg (N := 11) ?hd (cs := #[.int .i64 0, .int .i64 0, .slice none 0 0]) (t := 24) ?hr ?_; (case hd => rfl); (case hg => rfl); (case hr => first | (go_simp; done) | (go_simp; rfl))
     intro gb224 hg w35 hbox hb
     replace HO206 := Aside0.mk (Kd.R_below (rp_ HO206.out) hb)
     replace HO212 := Aside0.mk (Kd.R_below (rp_ HO212.out) hb)
     have BK224 := Aside0.mk (hbox)
     have GW224 := Aside0.mk ((by rw [hg]; exact (below_size bp_) : w.heap.size ≤ gb224))
     have GE224 := Aside0.mk ((by rw [hg]; exact (below_size bp_) : w.heap.size ≤ gb224))
     replace HB := Aside0.mk (below_step bp_ hb)
     have NB201_224 := Aside0.mk ((nlt_ hg (hp_ BK201.out)))
     have NB224_201 := Aside0.mk ((ngt_ hg (hp_ BK201.out)))
     replace BK201 := Aside0.mk (blk_below (hp_ BK201.out) hb)
     have NB207_224 := Aside0.mk ((nlt_ hg (hp_ BK207.out)))
     have NB224_207 := Aside0.mk ((ngt_ hg (hp_ BK207.out)))
     replace BK207 := Aside0.mk (blk_below (hp_ BK207.out) hb)
     have NB213_224 := Aside0.mk ((nlt_ hg (hp_ BK213.out)))
     have NB224_213 := Aside0.mk ((ngt_ hg (hp_ BK213.out)))
     replace BK213 := Aside0.mk (blk_below (hp_ BK213.out) hb)
     clear hb hbox hg
     refine hK.out _ _ ⟨(blk_cell BK207.out 0).trans rfl, (blk_cell BK207.out 1).trans rfl, (blk_cell BK207.out 2).trans rfl, (blk_cell BK201.out 0).trans rfl, (blk_cell BK201.out 1).trans rfl, (blk_cell BK201.out 2).trans rfl, (blk_cell BK201.out 3).trans rfl⟩ (fun hHeld => ?_)
     clear hK K
     refine norm_ (a' := ?_) ?_ ?_
     rotate_left
     · show Act.put _ (some 11) _ = _
       simp only [Act.put, List.setIfInBounds_toArray, List.set_cons_zero, List.set_cons_succ, i64_w, i32_w]
       rfl
     refine one_ (i := 9) (N := some 42) #[true, true, true, true, true, true, true, true, true, true, false, true, true, true, true, true, true, false, false, false, false, false, false, true, false, false] rfl rfl (one_of HT_.out (by kernel_rfl)) (by decide) (fun K hK => ?_)
     refine goes_ Try.func11 (by kernel_rfl) rfl #[.int .i64 a2_2, .int .i64 (wrap64 (t202 - t214))] (by rfl) rfl rfl (by (try simp only [List.map_toArray, List.map_cons, List.map_nil]); first | done | rfl | (simp only [List.length_drop, List.length_take]; rfl)) ?_
     with_reducible refine (chequerref01_Around.calls a2_2 (wrap64 (t202 - t214)) t216 _ A8.out).mono ?_
     rintro e w' ⟨rfl, ⟨nd, rfl⟩⟩
     refine ⟨_, rfl, ?_⟩
     refine hK.out _ _ ⟨(blk_cell BK207.out 0).trans rfl, (blk_cell BK207.out 1).trans rfl, (blk_cell BK207.out 2).trans rfl, (blk_cell BK201.out 0).trans rfl, (blk_cell BK201.out 1).trans rfl, (blk_cell BK201.out 2).trans rfl, (blk_cell BK201.out 3).trans rfl⟩ (fun hHeld => ?_)
     clear hK K
     refine norm_ (a' := ?_) ?_ ?_
     rotate_left
     · show Act.put _ (some 42) _ = _
       simp only [Act.put, List.setIfInBounds_toArray, List.set_cons_zero, List.set_cons_succ, i64_w, i32_w]
       rfl
     refine pur_ (i := 10) (N := some 43) Fl30 (any_of HT_.out (by kernel_rfl)) ?_
     refine one_ (i := 17) (N := some 50) Fl31 rfl rfl (one_of HT_.out (by kernel_rfl)) (by decide) (fun K hK => ?_)
     refine goes_ Try.func11 (by kernel_rfl) rfl #[.int .i64 a2_3, .int .i64 (wrap64 (t203 - t215))] (by rfl) rfl rfl (by (try simp only [List.map_toArray, List.map_cons, List.map_nil]); first | done | rfl | (simp only [List.length_drop, List.length_take]; rfl)) ?_
     with_reducible refine (chequerref01_Around.calls a2_3 (wrap64 (t203 - t215)) t217 _ A9.out).mono ?_
     rintro e w' ⟨rfl, ⟨nd, rfl⟩⟩
     refine ⟨_, rfl, ?_⟩
     refine hK.out _ _ ⟨(blk_cell BK207.out 0).trans rfl, (blk_cell BK207.out 1).trans rfl, (blk_cell BK207.out 2).trans rfl, (blk_cell BK201.out 0).trans rfl, (blk_cell BK201.out 1).trans rfl, (blk_cell BK201.out 2).trans rfl, (blk_cell BK201.out 3).trans rfl⟩ (fun hHeld => ?_)
     clear hK K
     refine norm_ (a' := ?_) ?_ ?_
     rotate_left
     · show Act.put _ (some 50) _ = _
       simp only [Act.put, List.setIfInBounds_toArray, List.set_cons_zero, List.set_cons_succ, i64_w, i32_w]
       rfl
     refine pur_ (i := 18) (N := some 51) Fl23 (any_of HT_.out (by kernel_rfl)) ?_
     refine one_ (i := 19) (N := some 52) Fl24 rfl rfl (one_of HT_.out (by kernel_rfl)) (by decide) (fun K hK => ?_)
     refine goes_ Try.func12 (by kernel_rfl) rfl #[.agg #[.int .i64 t202, .int .i64 t203, .slice Ao22 t204.length co22], .int .i64 t214, .int .i64 t215, .int .i64 (wrap64 (1 + t216)), .int .i64 (wrap64 (1 + t217))] (by rfl) rfl rfl (by (try simp only [List.map_toArray, List.map_cons, List.map_nil]); first | done | rfl | (simp only [List.length_drop, List.length_take]; rfl)) ?_
     with_reducible refine (chequerref03_Sub.calls k t202 t203 _ _ t204 t214 t215 (wrap64 (1 + t216)) (wrap64 (1 + t217)) t218 t219 t220 t223 _ ?side1 ?side2 A10.out).mono ?_
     (case side1 => exact cp_ (Kd.R_reads' HO206.out).2.2)
     (case side2 => exact (Kd.R_reads' HO206.out).2.1)
     rintro e w36 ⟨v221, rfl, ho0, hb⟩
     refine ⟨_, rfl, ?_⟩
     have HO222 := Aside0.mk (Kd.R_lower (Kd.R_new' (Kd.R_new' ho0 (Kd.R_lt (rp_ HO206.out))) (Kd.R_lt (rp_ HO212.out))) (below_size bp_))
     replace HO206 := Aside0.mk (Kd.R_elder' (rp_ HO206.out) (Kd.R_base ho0) hb)
     replace HO212 := Aside0.mk (Kd.R_elder' (rp_ HO212.out) (Kd.R_base ho0) hb)
     replace BK201 := Aside0.mk (blk_below (hp_ BK201.out) hb)
     replace BK207 := Aside0.mk (blk_below (hp_ BK207.out) hb)
     replace BK213 := Aside0.mk (blk_below (hp_ BK213.out) hb)
     replace BK224 := Aside0.mk (blk_below (hp_ BK224.out) hb)
     replace HB := Aside0.mk (below_step bp_ hb)
     (try clear hb)
     (try clear hb2)
     (try clear hk)
     (try clear hi)
     (try clear ho0)
     refine hK.out _ _ ⟨(blk_cell BK207.out 0).trans rfl, (blk_cell BK207.out 1).trans rfl, (blk_cell BK207.out 2).trans rfl, (blk_cell BK201.out 0).trans rfl, (blk_cell BK201.out 1).trans rfl, (blk_cell BK201.out 2).trans rfl, (blk_cell BK201.out 3).trans rfl⟩ (fun hHeld => ?_)
     clear hK K
     refine norm_ (a' := ?_) ?_ ?_
     rotate_left
     · show Act.put _ (some 52) _ = _
       simp only [Act.put, List.setIfInBounds_toArray, List.set_cons_zero, List.set_cons_succ, i64_w, i32_w]
       rfl
     refine pur_ (i := 20) (N := some 32) Fl25 (any_of HT_.out (by kernel_rfl)) ?_
     refine pur_ (i := 21) (N := some 53) Fl26 (any_of HT_.out (by kernel_rfl)) ?_
     refine pur_ (i := 22) (N := some 54) Fl21 (any_of HT_.out (by kernel_rfl)) ?_
     exact norm_ (by simp only [putAll, Act.put, List.setIfInBounds_toArray, List.set_cons_zero, List.set_cons_succ]) (hCont (v221, gb224) _ ⟨hHeld, (rp_ HO206.out), (rp_ HO212.out), (by (with_reducible repeat (first | apply Kd.R_alloc | apply Kd.R_drewN | apply Kd.R_drew)); exact Kd.R_mono HO222.out (fun _ hk => ⟨hk.1.2, hk.2⟩)), (hp_ BK201.out), (hp_ BK207.out), (hp_ BK213.out), (hp_ BK224.out), GW224.out, GE224.out, NB201_224.out, NB224_201.out, NB207_224.out, NB224_207.out, NB213_224.out, NB224_213.out, bp_⟩)
 rintro ⟨v221, gb224⟩ w37 ⟨hS_, h0_, h1_, h2_, h3_, h4_, h5_, h6_, h7_, h8_, h9_, h10_, h11_, h12_, h13_, h14_, h15_⟩
 replace HO206 : Aside0 (Kd.R (Kd.int .u64) 46 w37 w.heap.size (fun k_ => some k_ ≠ (.slice Ao30 t210.length co30 : Value).ownBlock ∧ some k_ ≠ (v221 : Value).ownBlock) (.slice Ao22 t204.length co22) t204) := ⟨h0_⟩
 replace HO212 : Aside0 (Kd.R (Kd.int .u64) 46 w37 w.heap.size (fun k_ => some k_ ≠ (.slice Ao22 t204.length co22 : Value).ownBlock ∧ some k_ ≠ (v221 : Value).ownBlock) (.slice Ao30 t210.length co30) t210) := ⟨h1_⟩
 have HO222 : Aside0 (Kd.R (Kd.int .u64) 46 w37 w.heap.size (fun k_ => some k_ ≠ (.slice Ao22 t204.length co22 : Value).ownBlock ∧ some k_ ≠ (.slice Ao30 t210.length co30 : Value).ownBlock) v221 t220) := ⟨h2_⟩
 replace BK201 : Aside0 (w37.heap[gb201]? = some (.cells #[.int .i64 a2_0, .int .i64 a2_1, .int .i64 a2_2, .int .i64 a2_3] 25 (0, 0))) := ⟨h3_⟩
 replace BK207 : Aside0 (w37.heap[gb207]? = some (.cells #[.int .i64 t202, .int .i64 t203, .slice Ao22 t204.length co22] 24 (0, 0))) := ⟨h4_⟩
 replace BK213 : Aside0 (w37.heap[gb213]? = some (.cells #[.int .i64 t208, .int .i64 t209, .slice Ao30 t210.length co30] 24 (0, 0))) := ⟨h5_⟩
 have BK224 : Aside0 (w37.heap[gb224]? = some (.cells #[.int .i64 0, .int .i64 0, .slice none 0 0] 24 (0, 0))) := ⟨h6_⟩
 have GW224 : Aside0 (w.heap.size ≤ gb224) := ⟨h7_⟩
 have GE224 : Aside0 (w.heap.size ≤ gb224) := ⟨h8_⟩
 have NB201_224 : Aside0 (gb201 ≠ gb224) := ⟨h9_⟩
 have NB224_201 : Aside0 (gb224 ≠ gb201) := ⟨h10_⟩
 have NB207_224 : Aside0 (gb207 ≠ gb224) := ⟨h11_⟩
 have NB224_207 : Aside0 (gb224 ≠ gb207) := ⟨h12_⟩
 have NB213_224 : Aside0 (gb213 ≠ gb224) := ⟨h13_⟩
 have NB224_213 : Aside0 (gb224 ≠ gb213) := ⟨h14_⟩
 replace HB : Aside0 (Below w.heap.size w w37) := ⟨h15_⟩
 clear h0_ h1_ h2_ h3_ h4_ h5_ h6_ h7_ h8_ h9_ h10_ h11_ h12_ h13_ h14_ h15_
 have hHeld : w37.cell? ⟨gb207, 0, none⟩ = some (.int .i64 t202) ∧ w37.cell? ⟨gb207, 1, none⟩ = some (.int .i64 t203) ∧ w37.cell? ⟨gb207, 2, none⟩ = some (.slice Ao22 t204.length co22) ∧ w37.cell? ⟨gb201, 0, none⟩ = some (.int .i64 a2_0) ∧ w37.cell? ⟨gb201, 1, none⟩ = some (.int .i64 a2_1) ∧ w37.cell? ⟨gb201, 2, none⟩ = some (.int .i64 a2_2) ∧ w37.cell? ⟨gb201, 3, none⟩ = some (.int .i64 a2_3) := hS_
 obtain ⟨Ao40, co40, eo40⟩ := Kd.R_slice HO222.out
 (first | subst eo40 | (injection eo40 with f1_ f2_ f3_; have f4_ := f1_.symm; have f5_ := f3_.symm; clear f1_ f2_ f3_; subst f4_; subst f5_))
 refine norm_ (a' := ?_) ?_ ?_
 rotate_left
 · simp only [putAll, Act.put, List.setIfInBounds_toArray, List.set_cons_zero, List.set_cons_succ]
   rfl
 refine one_ (i := 24) (N := none) #[true, true, true, true, true, true, true, true, true, true, true, true, true, true, true, true, true, true, true, true, true, true, true, true, true, false] rfl rfl (one_of HT_.out (by kernel_rfl)) (by decide) (fun K hK => ?_)
 have hs38 : w37.cell? ⟨gb224, 0, none⟩ = some (.int .i64 0) := (blk_cell BK224.out 0).trans rfl
 have hfs38 := blk_frozen BK224.out 0
 have hns38_0 := NB201_224.out
 have hns38_1 := NB207_224.out
 have hns38_2 := NB213_224.out
 have hms38_0 := NB224_201.out
 have hms38_1 := NB224_207.out
 have hms38_2 := NB224_213.out
 have hs39 : w37.cell? ⟨gb224, 1, none⟩ = some (.int .i64 0) := (blk_cell BK224.out 1).trans rfl
 have hfs39 := blk_frozen BK224.out 1
 have hns39_0 := NB201_224.out
 have hns39_1 := NB207_224.out
 have hns39_2 := NB213_224.out
 have hms39_0 := NB224_201.out
 have hms39_1 := NB224_207.out
 have hms39_2 := NB224_213.out
 have hs41 : w37.cell? ⟨gb224, 2, none⟩ = some (.slice none 0 0) := (blk_cell BK224.out 2).trans rfl
 have hfs41 := blk_frozen BK224.out 2
 have hns41_0 := NB201_224.out
 have hns41_1 := NB207_224.out
 have hns41_2 := NB213_224.out
 have hms41_0 := NB224_201.out
 have hms41_1 := NB224_207.out
 have hms41_2 := NB224_213.out
 refine skip_ (w1 := ?_) (by rfl) rfl ?_ ?_
 rotate_left
 · go_simp
   rfl
 refine hK.out _ _ ⟨((cell_far (p := ⟨gb224, _, none⟩) NB207_224.out _).trans (((cell_far (p := ⟨gb224, _, none⟩) NB207_224.out _).trans (((cell_far (p := ⟨gb224, _, none⟩) NB207_224.out _).trans (hHeld.1)))))), ((cell_far (p := ⟨gb224, _, none⟩) NB207_224.out _).trans (((cell_far (p := ⟨gb224, _, none⟩) NB207_224.out _).trans (((cell_far (p := ⟨gb224, _, none⟩) NB207_224.out _).trans (hHeld.2.1)))))), ((cell_far (p := ⟨gb224, _, none⟩) NB207_224.out _).trans (((cell_far (p := ⟨gb224, _, none⟩) NB207_224.out _).trans (((cell_far (p := ⟨gb224, _, none⟩) NB207_224.out _).trans (hHeld.2.2.1)))))), ((cell_far (p := ⟨gb224, _, none⟩) NB201_224.out _).trans (((cell_far (p := ⟨gb224, _, none⟩) NB201_224.out _).trans (((cell_far (p := ⟨gb224, _, none⟩) NB201_224.out _).trans (hHeld.2.2.2.1)))))), ((cell_far (p := ⟨gb224, _, none⟩) NB201_224.out _).trans (((cell_far (p := ⟨gb224, _, none⟩) NB201_224.out _).trans (((cell_far (p := ⟨gb224, _, none⟩) NB201_224.out _).trans (hHeld.2.2.2.2.1)))))), ((cell_far (p := ⟨gb224, _, none⟩) NB201_224.out _).trans (((cell_far (p := ⟨gb224, _, none⟩) NB201_224.out _).trans (((cell_far (p := ⟨gb224, _, none⟩) NB201_224.out _).trans (hHeld.2.2.2.2.2.1)))))), ((cell_far (p := ⟨gb224, _, none⟩) NB201_224.out _).trans (((cell_far (p := ⟨gb224, _, none⟩) NB201_224.out _).trans (((cell_far (p := ⟨gb224, _, none⟩) NB201_224.out _).trans (hHeld.2.2.2.2.2.2))))))⟩ (fun hHeld => ?_)
 clear hK K
 refine pur_ (i := 25) (N := some 12) #[true, true, true, true, true, true, true, true, true, true, true, true, true, true, true, true, true, true, true, true, true, true, true, true, true, true] (any_of HT_.out (by kernel_rfl)) ?_
 refine done_ (done_of HT_.out (by kernel_rfl)) ?_
 have n0_ : Aside0 (Kd.R (Kd.int .u64) 46 (((w37.setCell ⟨gb224, 0, none⟩ (.int .i64 t218)).setCell ⟨gb224, 1, none⟩ (.int .i64 t219)).setCell ⟨gb224, 2, none⟩ (.slice Ao40 t220.length co40)) w.heap.size (fun k_ => some k_ ≠ (.slice Ao30 t210.length co30 : Value).ownBlock ∧ some k_ ≠ (.slice Ao40 t220.length co40 : Value).ownBlock) (.slice Ao22 t204.length co22) t204) := ⟨rf_ HO206.out BK224.out (by decide) (fun _ hk => ⟨hk.1.1, hk.1.2⟩)⟩
 have n1_ : Aside0 (Kd.R (Kd.int .u64) 46 (((w37.setCell ⟨gb224, 0, none⟩ (.int .i64 t218)).setCell ⟨gb224, 1, none⟩ (.int .i64 t219)).setCell ⟨gb224, 2, none⟩ (.slice Ao40 t220.length co40)) w.heap.size (fun k_ => some k_ ≠ (.slice Ao22 t204.length co22 : Value).ownBlock ∧ some k_ ≠ (.slice Ao40 t220.length co40 : Value).ownBlock) (.slice Ao30 t210.length co30) t210) := ⟨rf_ HO212.out BK224.out (by decide) (fun _ hk => ⟨hk.1.1, hk.1.2⟩)⟩
 have n2_ : Aside0 (Kd.R (Kd.int .u64) 46 (((w37.setCell ⟨gb224, 0, none⟩ (.int .i64 t218)).setCell ⟨gb224, 1, none⟩ (.int .i64 t219)).setCell ⟨gb224, 2, none⟩ (.slice Ao40 t220.length co40)) w.heap.size (fun k_ => some k_ ≠ (.slice Ao22 t204.length co22 : Value).ownBlock ∧ some k_ ≠ (.slice Ao30 t210.length co30 : Value).ownBlock) (.slice Ao40 t220.length co40) t220) := ⟨rf_ HO222.out BK224.out (by decide) (fun _ hk => ⟨hk.1.1, hk.1.2⟩)⟩
 have n3_ : Aside0 ((((w37.setCell ⟨gb224, 0, none⟩ (.int .i64 t218)).setCell ⟨gb224, 1, none⟩ (.int .i64 t219)).setCell ⟨gb224, 2, none⟩ (.slice Ao40 t220.length co40)).heap[gb201]? = some (.cells #[.int .i64 a2_0, .int .i64 a2_1, .int .i64 a2_2, .int .i64 a2_3] 25 (0, 0))) := ⟨hf_ BK201.out NB201_224.out⟩
 have n4_ : Aside0 ((((w37.setCell ⟨gb224, 0, none⟩ (.int .i64 t218)).setCell ⟨gb224, 1, none⟩ (.int .i64 t219)).setCell ⟨gb224, 2, none⟩ (.slice Ao40 t220.length co40)).heap[gb207]? = some (.cells #[.int .i64 t202, .int .i64 t203, .slice Ao22 t204.length co22] 24 (0, 0))) := ⟨hf_ BK207.out NB207_224.out⟩
 have n5_ : Aside0 ((((w37.setCell ⟨gb224, 0, none⟩ (.int .i64 t218)).setCell ⟨gb224, 1, none⟩ (.int .i64 t219)).setCell ⟨gb224, 2, none⟩ (.slice Ao40 t220.length co40)).heap[gb213]? = some (.cells #[.int .i64 t208, .int .i64 t209, .slice Ao30 t210.length co30] 24 (0, 0))) := ⟨hf_ BK213.out NB213_224.out⟩
 have n6_ : Aside0 ((((w37.setCell ⟨gb224, 0, none⟩ (.int .i64 t218)).setCell ⟨gb224, 1, none⟩ (.int .i64 t219)).setCell ⟨gb224, 2, none⟩ (.slice Ao40 t220.length co40)).heap[gb224]? = some (.cells #[.int .i64 t218, .int .i64 t219, .slice Ao40 t220.length co40] 24 (0, 0))) := ⟨by (with_reducible repeat (first | refine blk_drewN ?_ _ | refine blk_drew ?_ | refine blk_alloc ?_ _)); refine blk_put (cs := #[.int .i64 t218, .int .i64 t219, .slice none 0 0]) ?_ 2 _ rfl; (with_reducible repeat (first | refine blk_drewN ?_ _ | refine blk_drew ?_ | refine blk_alloc ?_ _)); refine blk_put (cs := #[.int .i64 t218, .int .i64 0, .slice none 0 0]) ?_ 1 _ rfl; (with_reducible repeat (first | refine blk_drewN ?_ _ | refine blk_drew ?_ | refine blk_alloc ?_ _)); refine blk_put (cs := #[.int .i64 0, .int .i64 0, .slice none 0 0]) ?_ 0 _ rfl; (with_reducible repeat (first | refine blk_drewN ?_ _ | refine blk_drew ?_ | refine blk_alloc ?_ _)); exact BK224.out⟩
 have n7_ : Aside0 (Below w.heap.size w (((w37.setCell ⟨gb224, 0, none⟩ (.int .i64 t218)).setCell ⟨gb224, 1, none⟩ (.int .i64 t219)).setCell ⟨gb224, 2, none⟩ (.slice Ao40 t220.length co40))) := ⟨bp_⟩
 (try clear HO206)
 (try clear HO212)
 (try clear HO222)
 (try clear BK201)
 (try clear BK207)
 (try clear BK213)
 (try clear BK224)
 (try clear HB)
 generalize (((w37.setCell ⟨gb224, 0, none⟩ (.int .i64 t218)).setCell ⟨gb224, 1, none⟩ (.int .i64 t219)).setCell ⟨gb224, 2, none⟩ (.slice Ao40 t220.length co40)) = w42 at n0_ n1_ n2_ n3_ n4_ n5_ n6_ n7_ ⊢
 have HO206 := n0_
 have HO212 := n1_
 have HO222 := n2_
 have BK201 := n3_
 have BK207 := n4_
 have BK213 := n5_
 have BK224 := n6_
 have HB := n7_
 clear n0_ n1_ n2_ n3_ n4_ n5_ n6_ n7_
 have hnb43 := NB213_224.out
 have hnc43 := NB224_213.out
 have hcz44_0 : w42.cell? ⟨gb213, 0, none⟩ = some (.int .i64 t208) := (blk_cell BK213.out 0).trans rfl
 have hcz44_1 : w42.cell? ⟨gb213, 1, none⟩ = some (.int .i64 t209) := (blk_cell BK213.out 1).trans rfl
 have hcz44_2 : w42.cell? ⟨gb213, 2, none⟩ = some (.slice Ao30 t210.length co30) := (blk_cell BK213.out 2).trans rfl
 have hfz44_0 := blk_frozen BK213.out 0
 have hfz44_1 := blk_frozen BK213.out 1
 have hfz44_2 := blk_frozen BK213.out 2
 have hnb45 := NB224_207.out
 have hnc45 := NB207_224.out
 have hcz46_0 : w42.cell? ⟨gb224, 0, none⟩ = some (.int .i64 t218) := (blk_cell BK224.out 0).trans rfl
 have hcz46_1 : w42.cell? ⟨gb224, 1, none⟩ = some (.int .i64 t219) := (blk_cell BK224.out 1).trans rfl
 have hcz46_2 : w42.cell? ⟨gb224, 2, none⟩ = some (.slice Ao40 t220.length co40) := (blk_cell BK224.out 2).trans rfl
 have hfz46_0 := blk_frozen BK224.out 0
 have hfz46_1 := blk_frozen BK224.out 1
 have hfz46_2 := blk_frozen BK224.out 2
 try go_wp2_with (first | ((with_reducible refine gate_dst (N := 57) rfl ?_); (try (refine gate_guard (by rfl) ?_; dsimp only)); refine Kd.N_lit k24 _ 24 ?hg (N' := 57) ?hd (xs := ([(⟨t208, t209, t210⟩ : S24), (⟨t218, t219, t220⟩ : S24)] : List (S24))) (inner := [.int .i64 t208, .int .i64 t209, .slice Ao30 t210.length co30, .int .i64 t218, .int .i64 t219, .slice Ao40 t220.length co40]) (ok := (fun k_ => some k_ ≠ (.slice Ao22 t204.length co22 : Value).ownBlock ∧ k_ ≠ gb207)) (okp := (fun k_ => some k_ ≠ (.slice Ao22 t204.length co22 : Value).ownBlock ∧ k_ ≠ gb207)) ?hr ?hp (fun _ hk => hk) ((show ∀ k_, w42.heap.size ≤ k_ → (fun k_ => some k_ ≠ (.slice Ao22 t204.length co22 : Value).ownBlock ∧ k_ ≠ gb207) k_ from fun k_ hk => ⟨Kd.fresh' (Kd.R_lt (rp_ HO206.out)) k_ hk, Kd.freshB (g := gb207) (o := .cells #[.int .i64 t202, .int .i64 t203, .slice Ao22 t204.length co22] 24 (0, 0)) (hp_ BK207.out) k_ hk⟩) _ (Nat.le_refl _)) (Below.refl _ _) (Nat.le_refl _) (by simp) ?_; (case hd => rfl); (case hg => rfl); (case hr => first | (go_simp; done) | (go_simp; rfl)); (case hp => exact (Reps.c3 (show Kd.FK k24 _ _ (⟨t208, t209, t210⟩ : S24) [.int .i64 t208, .int .i64 t209, .slice Ao30 t210.length co30] from (k24_mkF _ _ (⟨t208, t209, t210⟩ : S24) (Kd.R_reads' (Kd.R_mono (ok' := (fun k_ => some k_ ≠ (.slice Ao22 t204.length co22 : Value).ownBlock ∧ k_ ≠ gb207)) (Kd.R_types (HO212.out) BK207.out (by decide)) (fun k_ hk => ⟨hk.1.1, hk.2⟩))).2.1 (Kd.R_F (Kd.R_mono (ok' := (fun k_ => some k_ ≠ (.slice Ao22 t204.length co22 : Value).ownBlock ∧ k_ ≠ gb207)) (Kd.R_types (HO212.out) BK207.out (by decide)) (fun k_ hk => ⟨hk.1.1, hk.2⟩))))) (Reps.c3 (show Kd.FK k24 _ _ (⟨t218, t219, t220⟩ : S24) [.int .i64 t218, .int .i64 t219, .slice Ao40 t220.length co40] from (k24_mkF _ _ (⟨t218, t219, t220⟩ : S24) (Kd.R_reads' (Kd.R_mono (ok' := (fun k_ => some k_ ≠ (.slice Ao22 t204.length co22 : Value).ownBlock ∧ k_ ≠ gb207)) (Kd.R_types (HO222.out) BK207.out (by decide)) (fun k_ hk => ⟨hk.1.1, hk.2⟩))).2.1 (Kd.R_F (Kd.R_mono (ok' := (fun k_ => some k_ ≠ (.slice Ao22 t204.length co22 : Value).ownBlock ∧ k_ ≠ gb207)) (Kd.R_types (HO222.out) BK207.out (by decide)) (fun k_ hk => ⟨hk.1.1, hk.2⟩))))) (Reps.none _ _)))); intro v226 w47 ho48 hb hg_ hnew_; clear hg_ hnew_; (first | rw [← Ny225.out] at ho48 | (simp only [Int.reduceToNat] at ho48; rw [← Ny225.out] at ho48)); have n0_ := Aside0.mk (Kd.R_below (rp_ HO206.out) hb); have n1_ := Aside0.mk (Kd.N_lower ho48 (below_size bp_)); have n2_ := Aside0.mk (blk_below (hp_ BK207.out) hb); have n3_ := Aside0.mk (below_step bp_ hb); clear HO206; clear BK207; clear HB; clear HO212; clear HO222; have HO206 := n0_; have HO227 := n1_; have BK207 := n2_; have HB := n3_; clear n0_ n1_ n2_ n3_; clear hb ho48))
 go_loopg [14] k (fun kq v14 w' => ∃ (x14_1 : Int), v14 = .int .i64 x14_1 ∧ Aside0 (chequerlaw03_RectFinds.l0 kq y225 x14_1 t202 t203 t204 = some r) ∧ Aside0 (kq ≤ k) ∧ Aside0 (Kd.N k24 24 w' w.heap.size (fun k_ => some k_ ≠ ((.slice Ao22 t204.length co22) : Value).ownBlock ∧ k_ ≠ gb207) v226 y225) ∧ Aside0 (Kd.R (Kd.int .u64) 46 w' w.heap.size (fun _ => True) (.slice Ao22 t204.length co22) t204) ∧ Aside0 (w'.heap[gb207]? = some (.cells #[.int .i64 t202, .int .i64 t203, (.slice Ao22 t204.length co22)] 24 (0, 0))) ∧ Aside0 (Below w.heap.size w w'))
 case atStart => exact ⟨(0), (by first | rfl | (simp; done) | (simp [*]; done)), H', ⟨Nat.le_refl _⟩, ⟨by (with_reducible repeat (first | apply Kd.N_alloc | apply Kd.N_drewN | apply Kd.N_drew)); exact HO227.out⟩, ⟨by (with_reducible repeat (first | apply Kd.R_alloc | apply Kd.R_drewN | apply Kd.R_drew)); exact Kd.R_mono HO206.out (fun _ hk => trivial)⟩, ⟨hp_ BK207.out⟩, ⟨bp_⟩⟩
 case round =>
  clear H'
  try clear c1
  try clear p2
  try clear c3
  try clear c4
  try clear p6
  try clear c11
  try clear c12
  try clear c43
  try clear c45
  try clear hcz44_0
  try clear hcz44_1
  try clear hcz44_2
  try clear hcz46_0
  try clear hcz46_1
  try clear hcz46_2
  try clear hfz44_0
  try clear hfz44_1
  try clear hfz44_2
  try clear hfz46_0
  try clear hfz46_1
  try clear hfz46_2
  obtain ⟨x14_1, rfl, HA, HK1, HO_13, HO_208002, BK207, HB⟩ := hrel
  cases gk with
  | zero => exact absurd HA.out (by simp [chequerlaw03_RectFinds.l0])
  | succ k1 =>
   have H := HA.out
   clear HA
   simp only [chequerlaw03_RectFinds.l0] at H
   by_cases c49 : x14_1 < 2
   · rw [if_pos c49] at H
     have c49b0 : decide (x14_1 < 2) = true := decide_eq_true c49
     clear c49
     replace H := Option.bind_eq_some_iff.mp H
     obtain ⟨⟨t229, t230, t231⟩, A500, H⟩ := H
     replace H : (if 0 ≤ x14_1 then (if x14_1 < (y225.length : Int) then ((chequerlaw03_of.f ((rd_T24 y225 x14_1).f0) ((rd_T24 y225 x14_1).f1) ((rd_T24 y225 x14_1).f2)).bind fun bt235 => ((rect_Matrix_Find.f k1 t229 t230 t231 bt235.1 bt235.2.1 bt235.2.2).bind fun t240 => ((chequerref03_Find.f k1 t202 t203 t204 ((rd_T24 y225 x14_1).f0) ((rd_T24 y225 x14_1).f1) ((rd_T24 y225 x14_1).f2)).bind fun t244 => (if (t240.length : Int) = (t244.length : Int) then (if x14_1 = 1 then (chequerlaw03_RectFinds.j1 k1 y225 x14_1 t240 t244 ((t240.length : Int) == 0) t202 t203 t204) else (chequerlaw03_RectFinds.j1 k1 y225 x14_1 t240 t244 false t202 t203 t204)) else (chequerlaw03_RectFinds.j1 k1 y225 x14_1 t240 t244 true t202 t203 t204))))) else (none)) else (none)) = some r := H
     have A50 := Aside0.mk A500
     clear A500
     by_cases c51 : 0 ≤ x14_1
     · rw [if_pos c51] at H
       have c51b0 : decide (0 ≤ x14_1) = true := decide_eq_true c51
       clear c51
       by_cases c52 : x14_1 < (y225.length : Int)
       · rw [if_pos c52] at H
         have c52b0 : decide (x14_1 < (y225.length : Int)) = true := decide_eq_true c52
         clear c52
         replace H := Option.bind_eq_some_iff.mp H
         obtain ⟨⟨t235, t236, t237⟩, A530, H⟩ := H
         replace H : ((rect_Matrix_Find.f k1 t229 t230 t231 t235 t236 t237).bind fun t240 => ((chequerref03_Find.f k1 t202 t203 t204 ((rd_T24 y225 x14_1).f0) ((rd_T24 y225 x14_1).f1) ((rd_T24 y225 x14_1).f2)).bind fun t244 => (if (t240.length : Int) = (t244.length : Int) then (if x14_1 = 1 then (chequerlaw03_RectFinds.j1 k1 y225 x14_1 t240 t244 ((t240.length : Int) == 0) t202 t203 t204) else (chequerlaw03_RectFinds.j1 k1 y225 x14_1 t240 t244 false t202 t203 t204)) else (chequerlaw03_RectFinds.j1 k1 y225 x14_1 t240 t244 true t202 t203 t204)))) = some r := H
         have A53 := Aside0.mk A530
         clear A530
         replace H := Option.bind_eq_some_iff.mp H
         obtain ⟨t240, A540, H⟩ := H
         replace H : ((chequerref03_Find.f k1 t202 t203 t204 ((rd_T24 y225 x14_1).f0) ((rd_T24 y225 x14_1).f1) ((rd_T24 y225 x14_1).f2)).bind fun t244 => (if (t240.length : Int) = (t244.length : Int) then (if x14_1 = 1 then (chequerlaw03_RectFinds.j1 k1 y225 x14_1 t240 t244 ((t240.length : Int) == 0) t202 t203 t204) else (chequerlaw03_RectFinds.j1 k1 y225 x14_1 t240 t244 false t202 t203 t204)) else (chequerlaw03_RectFinds.j1 k1 y225 x14_1 t240 t244 true t202 t203 t204))) = some r := H
         have A54 := Aside0.mk A540
         clear A540
         replace H := Option.bind_eq_some_iff.mp H
         obtain ⟨t244, A550, H⟩ := H
         replace H : (if (t240.length : Int) = (t244.length : Int) then (if x14_1 = 1 then (chequerlaw03_RectFinds.j1 k1 y225 x14_1 t240 t244 ((t240.length : Int) == 0) t202 t203 t204) else (chequerlaw03_RectFinds.j1 k1 y225 x14_1 t240 t244 false t202 t203 t204)) else (chequerlaw03_RectFinds.j1 k1 y225 x14_1 t240 t244 true t202 t203 t204)) = some r := H
         have A55 := Aside0.mk A550
         clear A550
         have HC56 := Aside0.mk H
         clear H
         try go_wp2
         (try (rw [drewN_self wr]; generalize hq_ : World.drewN wr _ = wr; have n0_ : Aside0 (Kd.N k24 24 wr w.heap.size (fun k_ => some k_ ≠ (.slice Ao22 t204.length co22 : Value).ownBlock ∧ k_ ≠ gb207) v226 y225) := ⟨by rw [← hq_]; exact (by (with_reducible repeat (first | apply Kd.N_alloc | apply Kd.N_drewN | apply Kd.N_drew)); exact HO_13.out)⟩; have n1_ := Aside0.mk (qrp_ hq_ HO_208002.out); have n2_ := Aside0.mk (qhp_ hq_ BK207.out); have n3_ : Aside0 (Below w.heap.size w wr) := ⟨qbp_ hq_⟩; clear HO_13 HO_208002 BK207 HB hq_; have HO_13 := n0_; have HO_208002 := n1_; have BK207 := n2_; have HB := n3_; clear n0_ n1_ n2_ n3_))
         replace HO_13 := Aside0.mk (Kd.N_drew HO_13.out)
         replace HO_208002 := Aside0.mk (Kd.R_drew HO_208002.out)
         replace BK207 := Aside0.mk (blk_drew BK207.out)
         replace HB := Aside0.mk (below_drew1 HB.out)
         obtain ⟨Ao58, co58, eo58⟩ := Kd.N_slice HO_13.out
         (first | subst eo58 | (injection eo58 with f1_ f2_ f3_; have f4_ := f1_.symm; have f5_ := f3_.symm; clear f1_ f2_ f3_; subst f4_; subst f5_))
         have p234 : 0 ≤ (x14_1 : Int) := of_decide_eq_true (by first | (with_reducible assumption) | assumption)
         have q234 : x14_1 < (y225.length : Int) := of_decide_eq_true (by first | (with_reducible assumption) | assumption)
         obtain ⟨ad234, A234_2, c234_2, e234, hx234_0, hx234_1, hx234_2, hl234_2, hi234_2⟩ := at_T24 (Kd.N_reads' HO_13.out).2.2 x14_1 p234 q234
         cases e234
         obtain ⟨ce234, hce234, hMe234, hcc234⟩ := Kd.N_get HO_13.out z24 x14_1 p234 (by first | exact q234 | exact of_decide_eq_true (by first | (with_reducible assumption) | assumption) | (have e_ := (Kd.N_reads' HO_13.out).1; omega))
         obtain ⟨ua234_2, uc234_2, rfl, ul234_2, ge234_2⟩ := k24_openF hMe234
         have hv234_2 := hcc234 2 _ rfl
         rw [add_field _ _ 2 (by omega)] at hv234_2
         replace hv234_2 := Option.some.inj (hv234_2.symm.trans hx234_2)
         injection hv234_2 with hva_ hvn_ hvc_
         rw [hva_] at ge234_2
         rw [hvc_] at ul234_2
         have HL234_2 := Aside0.mk (show Kd.V (Kd.int .u64) 46 _ w.heap.size _ _ ((rd_T24 y225 x14_1).f2) from Kd.V_mk ul234_2 ge234_2)
         clear hva_ hvn_ hvc_ ge234_2 ul234_2
         clear hcc234 hce234
         have HR234_2 := Aside0.mk hi234_2
         have HC234_2 := Aside0.mk hl234_2
         clear hi234_2 hl234_2
         replace p234 := eq_true p234
         replace q234 := eq_true q234
         refine start_ (n := 9) (S := fun w' => w'.cell? ⟨gb207, 0, none⟩ = some (.int .i64 t202) ∧ w'.cell? ⟨gb207, 1, none⟩ = some (.int .i64 t203) ∧ w'.cell? ⟨gb207, 2, none⟩ = some (.slice Ao22 t204.length co22) ∧ w'.cell? (ad234.add ((x14_1).toNat * 3)) = some (.int .i64 ((rd_T24 y225 x14_1).f0)) ∧ w'.cell? ⟨(ad234.add ((x14_1).toNat * 3)).block, (ad234.add ((x14_1).toNat * 3)).off + 1, none⟩ = some (.int .i64 ((rd_T24 y225 x14_1).f1)) ∧ w'.cell? ⟨(ad234.add ((x14_1).toNat * 3)).block, (ad234.add ((x14_1).toNat * 3)).off + 2, none⟩ = some (.slice A234_2 ((rd_T24 y225 x14_1).f2).length c234_2)) (ds := []) Fl22 (by kernel_rfl) rfl rfl ⟨(blk_cell BK207.out 0).trans rfl, (blk_cell BK207.out 1).trans rfl, (blk_cell BK207.out 2).trans rfl, hx234_0, hx234_1, hx234_2⟩ (fun hHeld => ?_); refine with_tabW chequerlaw03_RectFinds.tab10 chequerlaw03_RectFinds.bits10 (fun HT_ HW_ => ?_)
         generalize wr.drew = w57 at HO_13 HO_208002 BK207 HB HL234_2 HR234_2 hx234_0 hx234_1 hx234_2 hHeld ⊢
         refine pur_ (i := 2) (N := some 64) #[false, false, true, false, false, false, false, false, false] (any_of HT_.out (by kernel_rfl)) ?_
         refine pur_ (i := 3) (N := some 65) #[false, false, true, true, false, false, false, false, false] (any_of HT_.out (by kernel_rfl)) ?_
         refine pur_ (i := 4) (N := some 66) #[false, false, true, true, true, false, false, false, false] (any_of HT_.out (by kernel_rfl)) ?_
         refine take_ (i := 0) (N := some 62) (v := ?_) (a' := ?_) #[true, false, true, true, true, false, false, false, false] rfl rfl (take_ofW HT_.out HW_.out (by kernel_rfl)) (fun _ _ _ h => h) (Or.inl ⟨by rfl, ?_⟩) hHeld ?_ ?_
         rotate_left
         · rintro w' ⟨s0, s1, s2, s3, s4, s5⟩
           go_simp
           with_reducible rfl
         rotate_left
         · simp only [Act.put, List.setIfInBounds_toArray, List.set_cons_zero, List.set_cons_succ, i64_w, i32_w]
           rfl
         refine take_ (i := 5) (N := some 67) (v := ?_) (a' := ?_) #[true, false, true, true, true, true, false, false, false] rfl rfl (take_ofW HT_.out HW_.out (by kernel_rfl)) (fun _ _ _ h => h) (Or.inl ⟨by rfl, ?_⟩) hHeld ?_ ?_
         rotate_left
         · rintro w' ⟨s0, s1, s2, s3, s4, s5⟩
           go_simp
           with_reducible rfl
         rotate_left
         · simp only [Act.put, List.setIfInBounds_toArray, List.set_cons_zero, List.set_cons_succ, i64_w, i32_w]
           rfl
         refine one_ (i := 1) (N := some 63) #[true, true, true, true, true, true, false, false, false] rfl rfl (one_of HT_.out (by kernel_rfl)) (by decide) (fun K hK => ?_)
         refine goes_ Try.func13 (by kernel_rfl) rfl #[.agg #[.int .i64 t202, .int .i64 t203, .slice Ao22 t204.length co22]] (by rfl) rfl rfl (by (try simp only [List.map_toArray, List.map_cons, List.map_nil]); first | done | rfl | (simp only [List.length_drop, List.length_take]; rfl)) ?_
         with_reducible refine (chequerlaw03_of.calls t202 t203 (fun k_ => some k_ = (.slice Ao22 t204.length co22 : Value).ownBlock) _ _ t204 t229 t230 t231 _ ?side1 A50.out).mono ?_
         (case side1 => exact Kd.R_V (Kd.R_tight rfl (Kd.R_types (Kd.R_apart' (HO_208002.out) (Kd.N_typed HO_13.out) (by decide)) BK207.out (by decide))))
         rintro e w59 ⟨v232, rfl, ho0, hb⟩
         have HS3_ := (hb.cell (World.block_lt_of_cell? _ _ (hHeld.2.2.2.1))).trans (hHeld.2.2.2.1)
         have HS4_ := (hb.cell (World.block_lt_of_cell? _ _ (hHeld.2.2.2.2.1))).trans (hHeld.2.2.2.2.1)
         have HS5_ := (hb.cell (World.block_lt_of_cell? _ _ (hHeld.2.2.2.2.2))).trans (hHeld.2.2.2.2.2)
         refine ⟨_, rfl, ?_⟩
         replace HL234_2 := Aside0.mk (Kd.V_below (vp_ HL234_2.out) hb)
         have HO233 := Aside0.mk (Kd.V_lower (Kd.V_mono (ok' := fun k_ => some k_ ≠ (.slice (some ad234) y225.length co58 : Value).ownBlock ∧ k_ ≠ gb207) ho0 (fun k_ hk_ => ⟨Or.elim hk_ (fun hs_ => ((Kd.R_types (Kd.R_apart' (HO_208002.out) (Kd.N_typed HO_13.out) (by decide)) BK207.out (by decide)).1 k_ hs_.symm).1.2) (fun hn_ => (Kd.fresh' (Kd.N_lt (by (with_reducible repeat (first | apply Kd.N_alloc | apply Kd.N_drewN | apply Kd.N_drew)); exact HO_13.out)) k_ hn_)), Or.elim hk_ (fun hs_ => ((Kd.R_types (Kd.R_apart' (HO_208002.out) (Kd.N_typed HO_13.out) (by decide)) BK207.out (by decide)).1 k_ hs_.symm).2) (fun hn_ => (Kd.freshB (g := gb207) (o := .cells #[.int .i64 t202, .int .i64 t203, .slice Ao22 t204.length co22] 24 (0, 0)) (hp_ BK207.out) k_ hn_))⟩)) (below_size bp_))
         replace HO_13 := Aside0.mk (Kd.N_below (by (with_reducible repeat (first | apply Kd.N_alloc | apply Kd.N_drewN | apply Kd.N_drew)); exact HO_13.out) hb)
         replace HO_208002 := Aside0.mk (Kd.R_below (rp_ HO_208002.out) hb)
         replace BK207 := Aside0.mk (blk_below (hp_ BK207.out) hb)
         replace HR234_2 := Aside0.mk (Kd.C_below (by repeat (first | (with_reducible exact HR234_2.out) | (with_reducible refine Kd.C_alloc ?_ _) | (with_reducible refine Kd.C_drewN ?_ _) | (with_reducible refine Kd.C_drew ?_) | exact HR234_2.out)) hb)
         replace HB := Aside0.mk (below_step bp_ hb)
         (try clear hb)
         (try clear hb2)
         (try clear hk)
         (try clear hi)
         (try clear ho0)
         refine hK.out _ _ ⟨(blk_cell BK207.out 0).trans rfl, (blk_cell BK207.out 1).trans rfl, (blk_cell BK207.out 2).trans rfl, HS3_, HS4_, HS5_⟩ (fun hHeld => ?_)
         clear hK K
         refine norm_ (a' := ?_) ?_ ?_
         rotate_left
         · show Act.put _ (some 63) _ = _
           simp only [Act.put, List.setIfInBounds_toArray, List.set_cons_zero, List.set_cons_succ, i64_w, i32_w]
           rfl
         refine one_ (i := 6) (N := some 68) #[true, true, true, true, true, true, true, false, false] rfl rfl (one_of HT_.out (by kernel_rfl)) (by decide) (fun K hK => ?_)
         refine goes_ Try.func13 (by kernel_rfl) rfl #[.agg #[.int .i64 ((rd_T24 y225 x14_1).f0), .int .i64 ((rd_T24 y225 x14_1).f1), .slice A234_2 ((rd_T24 y225 x14_1).f2).length c234_2]] (by rfl) rfl rfl (by (try simp only [List.map_toArray, List.map_cons, List.map_nil]); first | done | rfl | (simp only [List.length_drop, List.length_take]; rfl)) ?_
         with_reducible refine (chequerlaw03_of.calls ((rd_T24 y225 x14_1).f0) ((rd_T24 y225 x14_1).f1) (fun k_ => ((some k_ ≠ (.slice Ao22 t204.length co22 : Value).ownBlock ∧ k_ ≠ gb207) ∧ some k_ ≠ (.slice (some ad234) y225.length co58 : Value).ownBlock)) _ _ ((rd_T24 y225 x14_1).f2) t235 t236 t237 _ ?side1 A53.out).mono ?_
         (case side1 => exact HL234_2.out)
         rintro e w60 ⟨v238, rfl, ho0, hb⟩
         have HS3_ := (hb.cell (World.block_lt_of_cell? _ _ (hHeld.2.2.2.1))).trans (hHeld.2.2.2.1)
         have HS4_ := (hb.cell (World.block_lt_of_cell? _ _ (hHeld.2.2.2.2.1))).trans (hHeld.2.2.2.2.1)
         have HS5_ := (hb.cell (World.block_lt_of_cell? _ _ (hHeld.2.2.2.2.2))).trans (hHeld.2.2.2.2.2)
         refine ⟨_, rfl, ?_⟩
         replace HL234_2 := Aside0.mk (Kd.V_below (vp_ HL234_2.out) hb)
         replace HO233 := Aside0.mk (Kd.V_below (vp_ HO233.out) hb)
         have HO239 := Aside0.mk (Kd.V_lower (Kd.V_mono (ok' := fun k_ => some k_ ≠ (.slice (some ad234) y225.length co58 : Value).ownBlock ∧ some k_ ≠ (.slice Ao22 t204.length co22 : Value).ownBlock ∧ k_ ≠ gb207) ho0 (fun k_ hk_ => ⟨Or.elim hk_ (fun hs_ => hs_.2) (fun hn_ => (Kd.fresh' (Kd.N_lt (by (with_reducible repeat (first | apply Kd.N_alloc | apply Kd.N_drewN | apply Kd.N_drew)); exact HO_13.out)) k_ hn_)), Or.elim hk_ (fun hs_ => hs_.1.1) (fun hn_ => (Kd.fresh' (Kd.R_lt (rp_ HO_208002.out)) k_ hn_)), Or.elim hk_ (fun hs_ => hs_.1.2) (fun hn_ => (Kd.freshB (g := gb207) (o := .cells #[.int .i64 t202, .int .i64 t203, .slice Ao22 t204.length co22] 24 (0, 0)) (hp_ BK207.out) k_ hn_))⟩)) (below_size bp_))
         replace HO_13 := Aside0.mk (Kd.N_below (by (with_reducible repeat (first | apply Kd.N_alloc | apply Kd.N_drewN | apply Kd.N_drew)); exact HO_13.out) hb)
         replace HO_208002 := Aside0.mk (Kd.R_below (rp_ HO_208002.out) hb)
         replace BK207 := Aside0.mk (blk_below (hp_ BK207.out) hb)
         replace HR234_2 := Aside0.mk (Kd.C_below (by repeat (first | (with_reducible exact HR234_2.out) | (with_reducible refine Kd.C_alloc ?_ _) | (with_reducible refine Kd.C_drewN ?_ _) | (with_reducible refine Kd.C_drew ?_) | exact HR234_2.out)) hb)
         replace HB := Aside0.mk (below_step bp_ hb)
         (try clear hb)
         (try clear hb2)
         (try clear hk)
         (try clear hi)
         (try clear ho0)
         obtain ⟨Ao61, co61, eo61⟩ := Kd.V_slice HO233.out
         (first | subst eo61 | (injection eo61 with f1_ f2_ f3_; have f4_ := f1_.symm; have f5_ := f3_.symm; clear f1_ f2_ f3_; subst f4_; subst f5_))
         obtain ⟨Ao62, co62, eo62⟩ := Kd.V_slice HO239.out
         (first | subst eo62 | (injection eo62 with f1_ f2_ f3_; have f4_ := f1_.symm; have f5_ := f3_.symm; clear f1_ f2_ f3_; subst f4_; subst f5_))
         refine hK.out _ _ ⟨(blk_cell BK207.out 0).trans rfl, (blk_cell BK207.out 1).trans rfl, (blk_cell BK207.out 2).trans rfl, HS3_, HS4_, HS5_⟩ (fun hHeld => ?_)
         clear hK K
         refine norm_ (a' := ?_) ?_ ?_
         rotate_left
         · show Act.put _ (some 68) _ = _
           simp only [Act.put, List.setIfInBounds_toArray, List.set_cons_zero, List.set_cons_succ, i64_w, i32_w]
           rfl
         refine one_ (i := 7) (N := some 69) #[true, true, true, true, true, true, true, true, false] rfl rfl (one_of HT_.out (by kernel_rfl)) (by decide) (fun K hK => ?_)
         refine goes_ Try.func14 (by kernel_rfl) rfl #[.agg #[.int .i64 t229, .int .i64 t230, .slice Ao61 t231.length co61], .agg #[.int .i64 t235, .int .i64 t236, .slice Ao62 t237.length co62]] (by rfl) rfl rfl (by (try simp only [List.map_toArray, List.map_cons, List.map_nil]); first | done | rfl | (simp only [List.length_drop, List.length_take]; rfl)) ?_
         with_reducible refine (rect_Matrix_Find.calls k1 t229 t230 _ _ t231 t235 t236 _ _ t237 t240 _ ?side1 ?side2 ?side3 ?side4 A54.out).mono ?_
         (case side1 => exact cp_ (Kd.V_reads' HO233.out).2.2)
         (case side2 => exact (Kd.V_reads' HO233.out).2.1)
         (case side3 => exact cp_ (Kd.V_reads' HO239.out).2.2)
         (case side4 => exact (Kd.V_reads' HO239.out).2.1)
         rintro e w63 ⟨v241, rfl, ho0, hb⟩
         have HS3_ := (hb.cell (World.block_lt_of_cell? _ _ (hHeld.2.2.2.1))).trans (hHeld.2.2.2.1)
         have HS4_ := (hb.cell (World.block_lt_of_cell? _ _ (hHeld.2.2.2.2.1))).trans (hHeld.2.2.2.2.1)
         have HS5_ := (hb.cell (World.block_lt_of_cell? _ _ (hHeld.2.2.2.2.2))).trans (hHeld.2.2.2.2.2)
         refine ⟨_, rfl, ?_⟩
         replace HO_13 := Aside0.mk (Kd.N_elder' (by (with_reducible repeat (first | apply Kd.N_alloc | apply Kd.N_drewN | apply Kd.N_drew)); exact HO_13.out) (Kd.R_base ho0) hb)
         replace HO_208002 := Aside0.mk (Kd.R_below (rp_ HO_208002.out) hb)
         replace HL234_2 := Aside0.mk (Kd.V_elder' (vp_ HL234_2.out) (Kd.R_base ho0) hb)
         replace HO233 := Aside0.mk (Kd.V_elder' (vp_ HO233.out) (Kd.R_base ho0) hb)
         replace HO239 := Aside0.mk (Kd.V_elder' (vp_ HO239.out) (Kd.R_base ho0) hb)
         have HO242 := Aside0.mk (Kd.R_lower ho0 (below_size bp_))
         replace BK207 := Aside0.mk (blk_below (hp_ BK207.out) hb)
         replace HR234_2 := Aside0.mk (Kd.C_below (by repeat (first | (with_reducible exact HR234_2.out) | (with_reducible refine Kd.C_alloc ?_ _) | (with_reducible refine Kd.C_drewN ?_ _) | (with_reducible refine Kd.C_drew ?_) | exact HR234_2.out)) hb)
         replace HB := Aside0.mk (below_step bp_ hb)
         (try clear hb)
         (try clear hb2)
         (try clear hk)
         (try clear hi)
         (try clear ho0)
         refine hK.out _ _ ⟨(blk_cell BK207.out 0).trans rfl, (blk_cell BK207.out 1).trans rfl, (blk_cell BK207.out 2).trans rfl, HS3_, HS4_, HS5_⟩ (fun hHeld => ?_)
         clear hK K
         refine norm_ (a' := ?_) ?_ ?_
         rotate_left
         · show Act.put _ (some 69) _ = _
           simp only [Act.put, List.setIfInBounds_toArray, List.set_cons_zero, List.set_cons_succ, i64_w, i32_w]
           rfl
         refine pur_ (i := 8) (N := some 15) #[true, true, true, true, true, true, true, true, true] (any_of HT_.out (by kernel_rfl)) ?_
         refine done_ (done_of HT_.out (by kernel_rfl)) ?_
         try go_wp2
         replace HO_13 := Aside0.mk (Kd.N_drew HO_13.out)
         replace HO_208002 := Aside0.mk (Kd.R_drew HO_208002.out)
         replace HL234_2 := Aside0.mk (Kd.V_drew HL234_2.out)
         replace HO233 := Aside0.mk (Kd.V_drew HO233.out)
         replace HO239 := Aside0.mk (Kd.V_drew HO239.out)
         replace HO242 := Aside0.mk (Kd.R_drew HO242.out)
         replace BK207 := Aside0.mk (blk_drew BK207.out)
         replace HR234_2 := Aside0.mk (Kd.C_drew HR234_2.out)
         replace HB := Aside0.mk (below_drew1 HB.out)
         have p243 : 0 ≤ (x14_1 : Int) := of_decide_eq_true (by first | (with_reducible assumption) | assumption)
         have q243 : x14_1 < (y225.length : Int) := of_decide_eq_true (by first | (with_reducible assumption) | assumption)
         obtain ⟨ad243, A243_2, c243_2, e243, hx243_0, hx243_1, hx243_2, hl243_2, hi243_2⟩ := at_T24 (Kd.N_reads' HO_13.out).2.2 x14_1 p243 q243
         obtain rfl : ad234 = ad243 := (by injection e243)
         obtain ⟨ce243, hce243, hMe243, hcc243⟩ := Kd.N_get HO_13.out z24 x14_1 p243 (by first | exact q243 | exact of_decide_eq_true (by first | (with_reducible assumption) | assumption) | (have e_ := (Kd.N_reads' HO_13.out).1; omega))
         obtain ⟨ua243_2, uc243_2, rfl, ul243_2, ge243_2⟩ := k24_openF hMe243
         have hv243_2 := hcc243 2 _ rfl
         rw [add_field _ _ 2 (by omega)] at hv243_2
         replace hv243_2 := Option.some.inj (hv243_2.symm.trans hx243_2)
         injection hv243_2 with hva_ hvn_ hvc_
         rw [hva_] at ge243_2
         rw [hvc_] at ul243_2
         have HL243_2 := Aside0.mk (show Kd.V (Kd.int .u64) 46 _ w.heap.size _ _ ((rd_T24 y225 x14_1).f2) from Kd.V_mk ul243_2 ge243_2)
         clear hva_ hvn_ hvc_ ge243_2 ul243_2
         clear hcc243 hce243
         have HR243_2 := Aside0.mk hi243_2
         have HC243_2 := Aside0.mk hl243_2
         clear hi243_2 hl243_2
         replace p243 := eq_true p243
         replace q243 := eq_true q243
         refine start_ (n := 7) (S := fun w' => w'.cell? ⟨gb207, 0, none⟩ = some (.int .i64 t202) ∧ w'.cell? ⟨gb207, 1, none⟩ = some (.int .i64 t203) ∧ w'.cell? ⟨gb207, 2, none⟩ = some (.slice Ao22 t204.length co22) ∧ w'.cell? (ad234.add ((x14_1).toNat * 3)) = some (.int .i64 ((rd_T24 y225 x14_1).f0)) ∧ w'.cell? ⟨(ad234.add ((x14_1).toNat * 3)).block, (ad234.add ((x14_1).toNat * 3)).off + 1, none⟩ = some (.int .i64 ((rd_T24 y225 x14_1).f1)) ∧ w'.cell? ⟨(ad234.add ((x14_1).toNat * 3)).block, (ad234.add ((x14_1).toNat * 3)).off + 2, none⟩ = some (.slice A243_2 ((rd_T24 y225 x14_1).f2).length c243_2)) (ds := []) #[false, false, false, false, false, false, false] (by kernel_rfl) rfl rfl ⟨(blk_cell BK207.out 0).trans rfl, (blk_cell BK207.out 1).trans rfl, (blk_cell BK207.out 2).trans rfl, hx243_0, hx243_1, hx243_2⟩ (fun hHeld => ?_)
         generalize w63.drew = w64 at HO_13 HO_208002 HL234_2 HO233 HO239 HO242 BK207 HR234_2 HB HL243_2 HR243_2 hx243_0 hx243_1 hx243_2 hHeld ⊢
         refine pure_ (i := 1) (N := some 71) (v := ?_) (a' := ?_) #[false, true, false, false, false, false, false] rfl rfl (by kernel_rfl) (fun _ _ _ h => h) (Or.inl ⟨by rfl, ?_⟩) ?_ ?_
         rotate_left
         · intro w'
           go_simp
           with_reducible rfl
         rotate_left
         · simp only [Act.put, List.setIfInBounds_toArray, List.set_cons_zero, List.set_cons_succ, i64_w, i32_w]
           rfl
         refine pure_ (i := 2) (N := some 72) (v := ?_) (a' := ?_) #[false, true, true, false, false, false, false] rfl rfl (by kernel_rfl) (fun _ _ _ h => h) (Or.inl ⟨by rfl, ?_⟩) ?_ ?_
         rotate_left
         · intro w'
           go_simp
           with_reducible rfl
         rotate_left
         · simp only [Act.put, List.setIfInBounds_toArray, List.set_cons_zero, List.set_cons_succ, i64_w, i32_w]
           rfl
         refine pure_ (i := 3) (N := some 73) (v := ?_) (a' := ?_) #[false, true, true, true, false, false, false] rfl rfl (by kernel_rfl) (fun _ _ _ h => h) (Or.inl ⟨by rfl, ?_⟩) ?_ ?_
         rotate_left
         · intro w'
           go_simp
           with_reducible rfl
         rotate_left
         · simp only [Act.put, List.setIfInBounds_toArray, List.set_cons_zero, List.set_cons_succ, i64_w, i32_w]
           rfl
         refine take_ (i := 0) (N := some 70) (v := ?_) (a' := ?_) #[true, true, true, true, false, false, false] rfl rfl (by kernel_rfl) (fun _ _ _ h => h) (Or.inl ⟨by rfl, ?_⟩) hHeld ?_ ?_
         rotate_left
         · rintro w' ⟨s0, s1, s2, s3, s4, s5⟩
           go_simp
           with_reducible rfl
         rotate_left
         · simp only [Act.put, List.setIfInBounds_toArray, List.set_cons_zero, List.set_cons_succ, i64_w, i32_w]
           rfl
         refine take_ (i := 4) (N := some 74) (v := ?_) (a' := ?_) #[true, true, true, true, true, false, false] rfl rfl (by kernel_rfl) (fun _ _ _ h => h) (Or.inl ⟨by rfl, ?_⟩) hHeld ?_ ?_
         rotate_left
         · rintro w' ⟨s0, s1, s2, s3, s4, s5⟩
           go_simp
           with_reducible rfl
         rotate_left
         · simp only [Act.put, List.setIfInBounds_toArray, List.set_cons_zero, List.set_cons_succ, i64_w, i32_w]
           rfl
         refine one_ (i := 5) (N := some 75) #[true, true, true, true, true, true, false] rfl rfl (by kernel_rfl) (by decide) (fun K hK => ?_)
         refine goes_ Try.func15 (by kernel_rfl) rfl #[.agg #[.int .i64 t202, .int .i64 t203, .slice Ao22 t204.length co22], .agg #[.int .i64 ((rd_T24 y225 x14_1).f0), .int .i64 ((rd_T24 y225 x14_1).f1), .slice A243_2 ((rd_T24 y225 x14_1).f2).length c243_2]] (by rfl) rfl rfl (by (try simp only [List.map_toArray, List.map_cons, List.map_nil]); first | done | rfl | (simp only [List.length_drop, List.length_take]; rfl)) ?_
         with_reducible refine (chequerref03_Find.calls k1 t202 t203 _ _ t204 ((rd_T24 y225 x14_1).f0) ((rd_T24 y225 x14_1).f1) _ _ ((rd_T24 y225 x14_1).f2) t244 _ ?side1 ?side2 ?side3 ?side4 A55.out).mono ?_
         (case side1 => exact cp_ (Kd.R_reads' HO_208002.out).2.2)
         (case side2 => exact (Kd.R_reads' HO_208002.out).2.1)
         (case side3 => repeat (first | exact (by repeat (first | (with_reducible exact HR243_2.out) | (with_reducible refine Kd.C_alloc ?_ _) | (with_reducible refine Kd.C_drewN ?_ _) | (with_reducible refine Kd.C_drew ?_) | exact HR243_2.out)) | (with_reducible refine Kd.C_alloc ?_ _) | (with_reducible refine Kd.C_drewN ?_ _) | (with_reducible refine Kd.C_drew ?_)))
         (case side4 => exact HC243_2.out)
         rintro e w65 ⟨v245, rfl, ho0, hb⟩
         have HS3_ := (hb.cell (World.block_lt_of_cell? _ _ (hHeld.2.2.2.1))).trans (hHeld.2.2.2.1)
         have HS4_ := (hb.cell (World.block_lt_of_cell? _ _ (hHeld.2.2.2.2.1))).trans (hHeld.2.2.2.2.1)
         have HS5_ := (hb.cell (World.block_lt_of_cell? _ _ (hHeld.2.2.2.2.2))).trans (hHeld.2.2.2.2.2)
         refine ⟨_, rfl, ?_⟩
         replace HO_13 := Aside0.mk (Kd.N_elder' (by (with_reducible repeat (first | apply Kd.N_alloc | apply Kd.N_drewN | apply Kd.N_drew)); exact HO_13.out) (Kd.R_base ho0) hb)
         replace HO_208002 := Aside0.mk (Kd.R_below (rp_ HO_208002.out) hb)
         replace HL234_2 := Aside0.mk (Kd.V_elder' (vp_ HL234_2.out) (Kd.R_base ho0) hb)
         replace HO233 := Aside0.mk (Kd.V_elder' (vp_ HO233.out) (Kd.R_base ho0) hb)
         replace HO239 := Aside0.mk (Kd.V_elder' (vp_ HO239.out) (Kd.R_base ho0) hb)
         replace HL243_2 := Aside0.mk (Kd.V_elder' (vp_ HL243_2.out) (Kd.R_base ho0) hb)
         have HO246 := Aside0.mk (Kd.R_lower (Kd.R_new' ho0 (Kd.R_lt (rp_ HO242.out))) (below_size bp_))
         replace HO242 := Aside0.mk (Kd.R_elder' (rp_ HO242.out) (Kd.R_base ho0) hb)
         replace BK207 := Aside0.mk (blk_below (hp_ BK207.out) hb)
         replace HR234_2 := Aside0.mk (Kd.C_below (by repeat (first | (with_reducible exact HR234_2.out) | (with_reducible refine Kd.C_alloc ?_ _) | (with_reducible refine Kd.C_drewN ?_ _) | (with_reducible refine Kd.C_drew ?_) | exact HR234_2.out)) hb)
         replace HR243_2 := Aside0.mk (Kd.C_below (by repeat (first | (with_reducible exact HR243_2.out) | (with_reducible refine Kd.C_alloc ?_ _) | (with_reducible refine Kd.C_drewN ?_ _) | (with_reducible refine Kd.C_drew ?_) | exact HR243_2.out)) hb)
         replace HB := Aside0.mk (below_step bp_ hb)
         (try clear hb)
         (try clear hb2)
         (try clear hk)
         (try clear hi)
         (try clear ho0)
         refine hK.out _ _ ⟨(blk_cell BK207.out 0).trans rfl, (blk_cell BK207.out 1).trans rfl, (blk_cell BK207.out 2).trans rfl, HS3_, HS4_, HS5_⟩ (fun hHeld => ?_)
         clear hK K
         refine norm_ (a' := ?_) ?_ ?_
         rotate_left
         · show Act.put _ (some 75) _ = _
           simp only [Act.put, List.setIfInBounds_toArray, List.set_cons_zero, List.set_cons_succ, i64_w, i32_w]
           rfl
         refine pure_ (i := 6) (N := some 16) (v := ?_) (a' := ?_) #[true, true, true, true, true, true, true] rfl rfl (by kernel_rfl) (fun _ _ _ h => h) (Or.inl ⟨by rfl, ?_⟩) ?_ ?_
         rotate_left
         · intro w'
           go_simp
           with_reducible rfl
         rotate_left
         · simp only [Act.put, List.setIfInBounds_toArray, List.set_cons_zero, List.set_cons_succ, i64_w, i32_w]
           rfl
         refine done_ (by kernel_rfl) ?_
         go_upto_region 12 with (fail)
         go_cut [89] (fun v89 wc => ∃ (kq : Nat) (x89_55 : Bool), v89 = .bool x89_55 ∧ Aside0 (chequerlaw03_RectFinds.j1 kq y225 x14_1 t240 t244 x89_55 t202 t203 t204 = some r) ∧ Aside0 (kq ≤ k1) ∧ Aside0 (Kd.N k24 24 wc w.heap.size (fun k_ => some k_ ≠ (v241 : Value).ownBlock ∧ some k_ ≠ (v245 : Value).ownBlock ∧ some k_ ≠ ((.slice Ao22 t204.length co22) : Value).ownBlock ∧ k_ ≠ gb207) (.slice (some ad234) y225.length co58) y225) ∧ Aside0 (Kd.R k36 36 wc w.heap.size (fun k_ => some k_ ≠ (v245 : Value).ownBlock) v241 t240) ∧ Aside0 (Kd.R k36 36 wc w.heap.size (fun k_ => some k_ ≠ (v241 : Value).ownBlock) v245 t244) ∧ Aside0 (Kd.R (Kd.int .u64) 46 wc w.heap.size (fun _ => True) (.slice Ao22 t204.length co22) t204) ∧ Aside0 (wc.heap[gb207]? = some (.cells #[.int .i64 t202, .int .i64 t203, (.slice Ao22 t204.length co22)] 24 (0, 0))) ∧ Aside0 (Kd.C (Kd.int .u64) wc A234_2 ((rd_T24 y225 x14_1).f2).length ((rd_T24 y225 x14_1).f2)) ∧ Aside0 (Kd.C (Kd.int .u64) wc A243_2 ((rd_T24 y225 x14_1).f2).length ((rd_T24 y225 x14_1).f2)) ∧ Aside0 (Below w.heap.size w wc))
         case first =>
          have H := HC56.out
          clear HC56
          by_cases c66 : (t240.length : Int) = (t244.length : Int)
          · rw [if_pos c66] at H
            have c66b0 : ((t240.length : Int) == (t244.length : Int)) = true := beq_iff_eq.mpr c66
            have c66b1 : ((t240.length : Int) != (t244.length : Int)) = false := bne_eq_false_iff_eq.mpr c66
            have c66b2 : (t240.length == t244.length) = true := by first | simpa using c66 | (simp at c66 ⊢; omega)
            clear c66
            (first | rw [c66b0] | (simp only [i64_w, i32_w]; rw [c66b0]) | skip)
            by_cases c67 : x14_1 = 1
            · rw [if_pos c67] at H
              have c67b0 : (x14_1 == 1) = true := beq_iff_eq.mpr c67
              have c67b1 : (x14_1 != 1) = false := bne_eq_false_iff_eq.mpr c67
              clear c67
              have H' := Aside0.mk H
              clear H
              obtain ⟨Ao68, co68, eo68⟩ := Kd.R_slice HO242.out
              subst eo68
              obtain ⟨Ao69, co69, eo69⟩ := Kd.R_slice HO246.out
              subst eo69
              go_wp2
              go_meet
              case rel => exact ⟨_, (((t240.length : Int) == 0)), (by first | rfl | (simp; done) | (simp [*]; done)), H', ⟨by have := HK1.out; first | omega | exact Nat.le_refl _⟩, ⟨by (with_reducible repeat (first | apply Kd.N_alloc | apply Kd.N_drewN | apply Kd.N_drew)); exact Kd.N_mono HO_13.out (fun _ hk => ⟨hk.1.2, ⟨hk.2, ⟨hk.1.1.1, hk.1.1.2⟩⟩⟩)⟩, ⟨by (with_reducible repeat (first | apply Kd.R_alloc | apply Kd.R_drewN | apply Kd.R_drew)); exact Kd.R_mono HO242.out (fun _ hk => hk.2)⟩, ⟨by (with_reducible repeat (first | apply Kd.R_alloc | apply Kd.R_drewN | apply Kd.R_drew)); exact Kd.R_mono HO246.out (fun _ hk => hk.2)⟩, ⟨rp_ HO_208002.out⟩, ⟨hp_ BK207.out⟩, ⟨by repeat (first | (with_reducible exact HR234_2.out) | (with_reducible refine Kd.C_alloc ?_ _) | (with_reducible refine Kd.C_drewN ?_ _) | (with_reducible refine Kd.C_drew ?_) | exact HR234_2.out)⟩, ⟨by repeat (first | (with_reducible exact HR243_2.out) | (with_reducible refine Kd.C_alloc ?_ _) | (with_reducible refine Kd.C_drewN ?_ _) | (with_reducible refine Kd.C_drew ?_) | exact HR243_2.out)⟩, ⟨bp_⟩⟩
            · rw [if_neg c67] at H
              have c67b0 : (x14_1 == 1) = false := beq_eq_false_iff_ne.mpr c67
              have c67b1 : (x14_1 != 1) = true := bne_iff_ne.mpr c67
              have H' := Aside0.mk H
              clear H
              obtain ⟨Ao70, co70, eo70⟩ := Kd.R_slice HO242.out
              subst eo70
              obtain ⟨Ao71, co71, eo71⟩ := Kd.R_slice HO246.out
              subst eo71
              go_wp2
              go_meet
              case rel => exact ⟨_, (false), (by first | rfl | (simp; done) | (simp [*]; done)), H', ⟨by have := HK1.out; first | omega | exact Nat.le_refl _⟩, ⟨by (with_reducible repeat (first | apply Kd.N_alloc | apply Kd.N_drewN | apply Kd.N_drew)); exact Kd.N_mono HO_13.out (fun _ hk => ⟨hk.1.2, ⟨hk.2, ⟨hk.1.1.1, hk.1.1.2⟩⟩⟩)⟩, ⟨by (with_reducible repeat (first | apply Kd.R_alloc | apply Kd.R_drewN | apply Kd.R_drew)); exact Kd.R_mono HO242.out (fun _ hk => hk.2)⟩, ⟨by (with_reducible repeat (first | apply Kd.R_alloc | apply Kd.R_drewN | apply Kd.R_drew)); exact Kd.R_mono HO246.out (fun _ hk => hk.2)⟩, ⟨rp_ HO_208002.out⟩, ⟨hp_ BK207.out⟩, ⟨by repeat (first | (with_reducible exact HR234_2.out) | (with_reducible refine Kd.C_alloc ?_ _) | (with_reducible refine Kd.C_drewN ?_ _) | (with_reducible refine Kd.C_drew ?_) | exact HR234_2.out)⟩, ⟨by repeat (first | (with_reducible exact HR243_2.out) | (with_reducible refine Kd.C_alloc ?_ _) | (with_reducible refine Kd.C_drewN ?_ _) | (with_reducible refine Kd.C_drew ?_) | exact HR243_2.out)⟩, ⟨bp_⟩⟩
          · rw [if_neg c66] at H
            have c66b0 : ((t240.length : Int) == (t244.length : Int)) = false := beq_eq_false_iff_ne.mpr c66
            have c66b1 : ((t240.length : Int) != (t244.length : Int)) = true := bne_iff_ne.mpr c66
            have c66b2 : (t240.length == t244.length) = false := by first | simpa using c66 | (simp at c66 ⊢; omega)
            (first | rw [c66b0] | (simp only [i64_w, i32_w]; rw [c66b0]) | skip)
            have H' := Aside0.mk H
            clear H
            obtain ⟨Ao72, co72, eo72⟩ := Kd.R_slice HO242.out
            subst eo72
            obtain ⟨Ao73, co73, eo73⟩ := Kd.R_slice HO246.out
            subst eo73
            go_wp2
            go_meet
            case rel => exact ⟨_, (true), (by first | rfl | (simp; done) | (simp [*]; done)), H', ⟨by have := HK1.out; first | omega | exact Nat.le_refl _⟩, ⟨by (with_reducible repeat (first | apply Kd.N_alloc | apply Kd.N_drewN | apply Kd.N_drew)); exact Kd.N_mono HO_13.out (fun _ hk => ⟨hk.1.2, ⟨hk.2, ⟨hk.1.1.1, hk.1.1.2⟩⟩⟩)⟩, ⟨by (with_reducible repeat (first | apply Kd.R_alloc | apply Kd.R_drewN | apply Kd.R_drew)); exact Kd.R_mono HO242.out (fun _ hk => hk.2)⟩, ⟨by (with_reducible repeat (first | apply Kd.R_alloc | apply Kd.R_drewN | apply Kd.R_drew)); exact Kd.R_mono HO246.out (fun _ hk => hk.2)⟩, ⟨rp_ HO_208002.out⟩, ⟨hp_ BK207.out⟩, ⟨by repeat (first | (with_reducible exact HR234_2.out) | (with_reducible refine Kd.C_alloc ?_ _) | (with_reducible refine Kd.C_drewN ?_ _) | (with_reducible refine Kd.C_drew ?_) | exact HR234_2.out)⟩, ⟨by repeat (first | (with_reducible exact HR243_2.out) | (with_reducible refine Kd.C_alloc ?_ _) | (with_reducible refine Kd.C_drewN ?_ _) | (with_reducible refine Kd.C_drew ?_) | exact HR243_2.out)⟩, ⟨bp_⟩⟩
         case rest =>
          clear HC56
          try clear c1
          try clear c2
          try clear p2
          try clear q2
          try clear hx2
          try clear c3
          try clear c4
          try clear c5
          try clear c6
          try clear p6
          try clear c11
          try clear c12
          try clear c13
          try clear c14
          try clear c15
          try clear c23
          try clear p23
          try clear q23
          try clear hx23
          try clear c24
          try clear p24
          try clear q24
          try clear hx24
          try clear c43
          try clear c45
          try clear c49
          try clear c49b0
          try clear c51
          try clear c51b0
          try clear c52
          try clear c52b0
          try clear c66
          try clear c66b0
          try clear c66b1
          try clear c66b2
          try clear c67
          try clear c67b0
          try clear c67b1
          try clear hcz44_0
          try clear hcz44_1
          try clear hcz44_2
          try clear hcz46_0
          try clear hcz46_1
          try clear hcz46_2
          try clear hfz44_0
          try clear hfz44_1
          try clear hfz44_2
          try clear hfz46_0
          try clear hfz46_1
          try clear hfz46_2
          try clear hx234_0
          try clear hx234_1
          try clear hx234_2
          try clear hx243_0
          try clear hx243_1
          try clear hx243_2
          try clear p2
          try clear p234
          try clear p243
          try clear p6
          try clear q234
          try clear q243
          obtain ⟨kq, x89_55, rfl, HA, HJ55, HO_13, HO_15, HO_16, HO_208002, BK207, HR234_2, HR243_2, HB⟩ := hcut
          cases kq with
          | zero => exact absurd HA.out (by simp [chequerlaw03_RectFinds.j1])
          | succ kj55 =>
           have H := HA.out
           clear HA
           simp only [chequerlaw03_RectFinds.j1] at H
           by_cases c74 : x89_55 = true
           · subst c74
             have H1 : (some false) = some r := by rw [if_pos rfl] at H; exact H
             clear H
             have H := H1
             clear H1
             obtain rfl := Option.some.inj H
             go_wp2
             go_ret
             exact ⟨by first | rfl | (simp [errW_none, errW_some] <;> rfl) | (simp [*, errW_none, errW_some] <;> rfl), bp_⟩
           · replace c74 := Bool.eq_false_iff.mpr c74
             subst c74
             have H1 : (chequerlaw03_RectFinds.l1 kj55 y225 x14_1 t240 t244 0 t202 t203 t204) = some r := by rw [if_neg (show ¬ (false = true) by decide)] at H; exact H
             clear H
             have H := H1
             clear H1
             have H' := Aside0.mk H
             clear H
             go_wp2
             go_loopg [17] kj55 (fun kq v17 w' => ∃ (x17_3 : Int), v17 = .int .i64 x17_3 ∧ Aside0 (chequerlaw03_RectFinds.l1 kq y225 x14_1 t240 t244 x17_3 t202 t203 t204 = some r) ∧ Aside0 (kq ≤ kj55) ∧ Aside0 (Kd.N k24 24 w' w.heap.size (fun k_ => some k_ ≠ (v241 : Value).ownBlock ∧ some k_ ≠ (v245 : Value).ownBlock ∧ some k_ ≠ ((.slice Ao22 t204.length co22) : Value).ownBlock ∧ k_ ≠ gb207) (.slice (some ad234) y225.length co58) y225) ∧ Aside0 (Kd.R k36 36 w' w.heap.size (fun k_ => some k_ ≠ (v245 : Value).ownBlock) v241 t240) ∧ Aside0 (Kd.R k36 36 w' w.heap.size (fun k_ => some k_ ≠ (v241 : Value).ownBlock) v245 t244) ∧ Aside0 (Kd.R (Kd.int .u64) 46 w' w.heap.size (fun _ => True) (.slice Ao22 t204.length co22) t204) ∧ Aside0 (w'.heap[gb207]? = some (.cells #[.int .i64 t202, .int .i64 t203, (.slice Ao22 t204.length co22)] 24 (0, 0))) ∧ Aside0 (Kd.C (Kd.int .u64) w' A234_2 ((rd_T24 y225 x14_1).f2).length ((rd_T24 y225 x14_1).f2)) ∧ Aside0 (Kd.C (Kd.int .u64) w' A243_2 ((rd_T24 y225 x14_1).f2).length ((rd_T24 y225 x14_1).f2)) ∧ Aside0 (Below w.heap.size w w'))
             case atStart => exact ⟨(0), (by first | rfl | (simp; done) | (simp [*]; done)), H', ⟨Nat.le_refl _⟩, ⟨by (with_reducible repeat (first | apply Kd.N_alloc | apply Kd.N_drewN | apply Kd.N_drew)); exact HO_13.out⟩, ⟨rp_ HO_15.out⟩, ⟨rp_ HO_16.out⟩, ⟨rp_ HO_208002.out⟩, ⟨hp_ BK207.out⟩, ⟨by repeat (first | (with_reducible exact HR234_2.out) | (with_reducible refine Kd.C_alloc ?_ _) | (with_reducible refine Kd.C_drewN ?_ _) | (with_reducible refine Kd.C_drew ?_) | exact HR234_2.out)⟩, ⟨by repeat (first | (with_reducible exact HR243_2.out) | (with_reducible refine Kd.C_alloc ?_ _) | (with_reducible refine Kd.C_drewN ?_ _) | (with_reducible refine Kd.C_drew ?_) | exact HR243_2.out)⟩, ⟨bp_⟩⟩
             case round =>
              clear H'
              try clear c1
              try clear c2
              try clear p2
              try clear q2
              try clear hx2
              try clear c3
              try clear c4
              try clear c5
              try clear c6
              try clear p6
              try clear c7
              try clear c11
              try clear c12
              try clear c13
              try clear c14
              try clear c15
              try clear c23
              try clear p23
              try clear q23
              try clear hx23
              try clear c24
              try clear p24
              try clear q24
              try clear hx24
              try clear c43
              try clear c45
              try clear c49
              try clear c49b0
              try clear c51
              try clear c51b0
              try clear c52
              try clear c52b0
              try clear c66
              try clear c66b0
              try clear c66b1
              try clear c66b2
              try clear c67
              try clear c67b0
              try clear c67b1
              try clear c74
              try clear hcz44_0
              try clear hcz44_1
              try clear hcz44_2
              try clear hcz46_0
              try clear hcz46_1
              try clear hcz46_2
              try clear hfz44_0
              try clear hfz44_1
              try clear hfz44_2
              try clear hfz46_0
              try clear hfz46_1
              try clear hfz46_2
              try clear hx234_0
              try clear hx234_1
              try clear hx234_2
              try clear hx243_0
              try clear hx243_1
              try clear hx243_2
              try clear p2
              try clear p23
              try clear p234
              try clear p24
              try clear p243
              try clear p6
              try clear q2
              try clear q23
              try clear q234
              try clear q24
              try clear q243
              obtain ⟨x17_3, rfl, HA, HK3, HO_13, HO_15, HO_16, HO_208002, BK207, HR234_2, HR243_2, HB⟩ := hrel
              cases gk with
              | zero => exact absurd HA.out (by simp [chequerlaw03_RectFinds.l1])
              | succ k3 =>
               have H := HA.out
               clear HA
               simp only [chequerlaw03_RectFinds.l1] at H
               by_cases c75 : x17_3 < (t240.length : Int)
               · rw [if_pos c75] at H
                 have c75b0 : decide (x17_3 < (t240.length : Int)) = true := decide_eq_true c75
                 clear c75
                 by_cases c76 : 0 ≤ x17_3
                 · rw [if_pos c76] at H
                   have c76b0 : decide (0 ≤ x17_3) = true := decide_eq_true c76
                   clear c76
                   by_cases c77 : x17_3 < (t244.length : Int)
                   · rw [if_pos c77] at H
                     have c77b0 : decide (x17_3 < (t244.length : Int)) = true := decide_eq_true c77
                     clear c77
                     by_cases c78 : (!(((rd_T36 t240 x17_3).f0) == ((rd_T36 t244 x17_3).f0)) || (!(((rd_T36 t240 x17_3).f1) == ((rd_T36 t244 x17_3).f1)))) = true
                     · rw [if_pos c78] at H
                       have c78b0 : (!(((rd_T36 t240 x17_3).f0) == ((rd_T36 t244 x17_3).f0)) || (!(((rd_T36 t240 x17_3).f1) == ((rd_T36 t244 x17_3).f1)))) = true := c78
                       clear c78
                       obtain rfl := Option.some.inj H
                       obtain ⟨Ao79, co79, eo79⟩ := Kd.R_slice HO_15.out
                       subst eo79
                       try go_wp2
                       (try (rw [drewN_self wr]; generalize hq_ : World.drewN wr _ = wr; have n0_ : Aside0 (Kd.N k24 24 wr w.heap.size (fun k_ => some k_ ≠ (.slice Ao79 t240.length co79 : Value).ownBlock ∧ some k_ ≠ (v245 : Value).ownBlock ∧ some k_ ≠ (.slice Ao22 t204.length co22 : Value).ownBlock ∧ k_ ≠ gb207) (.slice (some ad234) y225.length co58) y225) := ⟨by rw [← hq_]; exact (by (with_reducible repeat (first | apply Kd.N_alloc | apply Kd.N_drewN | apply Kd.N_drew)); exact HO_13.out)⟩; have n1_ := Aside0.mk (qrp_ hq_ HO_15.out); have n2_ := Aside0.mk (qrp_ hq_ HO_16.out); have n3_ := Aside0.mk (qrp_ hq_ HO_208002.out); have n4_ : Aside0 (Below w.heap.size w wr) := ⟨qbp_ hq_⟩; have n5_ : Aside0 (Kd.C (Kd.int .u64) wr A234_2 ((rd_T24 y225 x14_1).f2).length ((rd_T24 y225 x14_1).f2)) := ⟨by rw [← hq_]; exact (by repeat (first | (with_reducible exact HR234_2.out) | (with_reducible refine Kd.C_alloc ?_ _) | (with_reducible refine Kd.C_drewN ?_ _) | (with_reducible refine Kd.C_drew ?_) | exact HR234_2.out))⟩; have n6_ : Aside0 (Kd.C (Kd.int .u64) wr A243_2 ((rd_T24 y225 x14_1).f2).length ((rd_T24 y225 x14_1).f2)) := ⟨by rw [← hq_]; exact (by repeat (first | (with_reducible exact HR243_2.out) | (with_reducible refine Kd.C_alloc ?_ _) | (with_reducible refine Kd.C_drewN ?_ _) | (with_reducible refine Kd.C_drew ?_) | exact HR243_2.out))⟩; clear HO_13 HO_15 HO_16 HO_208002 HB HR234_2 HR243_2 hq_; have HO_13 := n0_; have HO_15 := n1_; have HO_16 := n2_; have HO_208002 := n3_; have HB := n4_; have HR234_2 := n5_; have HR243_2 := n6_; clear n0_ n1_ n2_ n3_ n4_ n5_ n6_))
                       replace HO_13 := Aside0.mk (Kd.N_drew HO_13.out)
                       replace HO_15 := Aside0.mk (Kd.R_drew HO_15.out)
                       replace HO_16 := Aside0.mk (Kd.R_drew HO_16.out)
                       replace HO_208002 := Aside0.mk (Kd.R_drew HO_208002.out)
                       replace HR234_2 := Aside0.mk (Kd.C_drew HR234_2.out)
                       replace HR243_2 := Aside0.mk (Kd.C_drew HR243_2.out)
                       replace HB := Aside0.mk (below_drew1 HB.out)
                       have p247 : 0 ≤ (x17_3 : Int) := of_decide_eq_true (by first | (with_reducible assumption) | assumption)
                       have q247 : x17_3 < (t240.length : Int) := of_decide_eq_true (by first | (with_reducible assumption) | assumption)
                       obtain ⟨ad247, e247, hx247_0, hx247_1⟩ := at_T36 (Kd.R_reads' HO_15.out).2.2 x17_3 p247 q247
                       cases e247
                       replace p247 := eq_true p247
                       replace q247 := eq_true q247
                       obtain ⟨Ao81, co81, eo81⟩ := Kd.R_slice HO_16.out
                       (first | subst eo81 | (injection eo81 with f1_ f2_ f3_; have f4_ := f1_.symm; have f5_ := f3_.symm; clear f1_ f2_ f3_; subst f4_; subst f5_))
                       have p248 : 0 ≤ (x17_3 : Int) := of_decide_eq_true (by first | (with_reducible assumption) | assumption)
                       have q248 : x17_3 < (t244.length : Int) := of_decide_eq_true (by first | (with_reducible assumption) | assumption)
                       obtain ⟨ad248, e248, hx248_0, hx248_1⟩ := at_T36 (Kd.R_reads' HO_16.out).2.2 x17_3 p248 q248
                       cases e248
                       replace p248 := eq_true p248
                       replace q248 := eq_true q248
                       refine start_ (n := 9) (S := fun w' => w'.cell? (ad247.add ((x17_3).toNat * 2)) = some (.int .i64 ((rd_T36 t240 x17_3).f0)) ∧ w'.cell? ⟨(ad247.add ((x17_3).toNat * 2)).block, (ad247.add ((x17_3).toNat * 2)).off + 1, none⟩ = some (.int .i64 ((rd_T36 t240 x17_3).f1)) ∧ w'.cell? (ad248.add ((x17_3).toNat * 2)) = some (.int .i64 ((rd_T36 t244 x17_3).f0)) ∧ w'.cell? ⟨(ad248.add ((x17_3).toNat * 2)).block, (ad248.add ((x17_3).toNat * 2)).off + 1, none⟩ = some (.int .i64 ((rd_T36 t244 x17_3).f1))) (ds := []) Fl22 (by kernel_rfl) rfl rfl ⟨hx247_0, hx247_1, hx248_0, hx248_1⟩ (fun hHeld => ?_); refine with_tabW chequerlaw03_RectFinds.tab17 chequerlaw03_RectFinds.bits17 (fun HT_ HW_ => ?_)
                       generalize wr.drew = w80 at HO_13 HO_15 HO_16 HO_208002 HR234_2 HR243_2 HB hx247_0 hx247_1 hx248_0 hx248_1 hHeld ⊢
                       refine pur_ (i := 0) (N := some 96) Fl27 (any_of HT_.out (by kernel_rfl)) ?_
                       refine pur_ (i := 1) (N := some 97) Fl28 (any_of HT_.out (by kernel_rfl)) ?_
                       refine pur_ (i := 2) (N := some 98) Fl29 (any_of HT_.out (by kernel_rfl)) ?_
                       refine pur_ (i := 4) (N := some 100) #[true, true, true, false, true, false, false, false, false] (any_of HT_.out (by kernel_rfl)) ?_
                       refine pur_ (i := 5) (N := some 101) #[true, true, true, false, true, true, false, false, false] (any_of HT_.out (by kernel_rfl)) ?_
                       refine pur_ (i := 6) (N := some 102) #[true, true, true, false, true, true, true, false, false] (any_of HT_.out (by kernel_rfl)) ?_
                       refine take_ (i := 3) (N := some 99) (v := ?_) (a' := ?_) #[true, true, true, true, true, true, true, false, false] rfl rfl (take_ofW HT_.out HW_.out (by kernel_rfl)) (fun _ _ _ h => h) (Or.inl ⟨by rfl, ?_⟩) hHeld ?_ ?_
                       rotate_left
                       · rintro w' ⟨s0, s1, s2, s3⟩
                         go_simp
                         with_reducible rfl
                       rotate_left
                       · simp only [Act.put, List.setIfInBounds_toArray, List.set_cons_zero, List.set_cons_succ, i64_w, i32_w]
                         rfl
                       refine take_ (i := 7) (N := some 103) (v := ?_) (a' := ?_) #[true, true, true, true, true, true, true, true, false] rfl rfl (take_ofW HT_.out HW_.out (by kernel_rfl)) (fun _ _ _ h => h) (Or.inl ⟨by rfl, ?_⟩) hHeld ?_ ?_
                       rotate_left
                       · rintro w' ⟨s0, s1, s2, s3⟩
                         go_simp
                         with_reducible rfl
                       rotate_left
                       · simp only [Act.put, List.setIfInBounds_toArray, List.set_cons_zero, List.set_cons_succ, i64_w, i32_w]
                         rfl
                       refine pur_ (i := 8) (N := some 104) #[true, true, true, true, true, true, true, true, true] (any_of HT_.out (by kernel_rfl)) ?_
                       refine done_ (done_of HT_.out (by kernel_rfl)) ?_
                       try go_wp2
                       go_ret
                       exact ⟨by first | rfl | (simp [errW_none, errW_some] <;> rfl) | (simp [*, errW_none, errW_some] <;> rfl), bp_⟩
                     · rw [if_neg c78] at H
                       have c78b0 : (!(((rd_T36 t240 x17_3).f0) == ((rd_T36 t244 x17_3).f0)) || (!(((rd_T36 t240 x17_3).f1) == ((rd_T36 t244 x17_3).f1)))) = false := by simpa using c78
                       clear c78
                       have H' := Aside0.mk H
                       clear H
                       obtain ⟨Ao82, co82, eo82⟩ := Kd.R_slice HO_15.out
                       subst eo82
                       try go_wp2
                       (try (rw [drewN_self wr]; generalize hq_ : World.drewN wr _ = wr; have n0_ : Aside0 (Kd.N k24 24 wr w.heap.size (fun k_ => some k_ ≠ (.slice Ao82 t240.length co82 : Value).ownBlock ∧ some k_ ≠ (v245 : Value).ownBlock ∧ some k_ ≠ (.slice Ao22 t204.length co22 : Value).ownBlock ∧ k_ ≠ gb207) (.slice (some ad234) y225.length co58) y225) := ⟨by rw [← hq_]; exact (by (with_reducible repeat (first | apply Kd.N_alloc | apply Kd.N_drewN | apply Kd.N_drew)); exact HO_13.out)⟩; have n1_ := Aside0.mk (qrp_ hq_ HO_15.out); have n2_ := Aside0.mk (qrp_ hq_ HO_16.out); have n3_ := Aside0.mk (qrp_ hq_ HO_208002.out); have n4_ := Aside0.mk (qhp_ hq_ BK207.out); have n5_ : Aside0 (Below w.heap.size w wr) := ⟨qbp_ hq_⟩; have n6_ : Aside0 (Kd.C (Kd.int .u64) wr A234_2 ((rd_T24 y225 x14_1).f2).length ((rd_T24 y225 x14_1).f2)) := ⟨by rw [← hq_]; exact (by repeat (first | (with_reducible exact HR234_2.out) | (with_reducible refine Kd.C_alloc ?_ _) | (with_reducible refine Kd.C_drewN ?_ _) | (with_reducible refine Kd.C_drew ?_) | exact HR234_2.out))⟩; have n7_ : Aside0 (Kd.C (Kd.int .u64) wr A243_2 ((rd_T24 y225 x14_1).f2).length ((rd_T24 y225 x14_1).f2)) := ⟨by rw [← hq_]; exact (by repeat (first | (with_reducible exact HR243_2.out) | (with_reducible refine Kd.C_alloc ?_ _) | (with_reducible refine Kd.C_drewN ?_ _) | (with_reducible refine Kd.C_drew ?_) | exact HR243_2.out))⟩; clear HO_13 HO_15 HO_16 HO_208002 BK207 HB HR234_2 HR243_2 hq_; have HO_13 := n0_; have HO_15 := n1_; have HO_16 := n2_; have HO_208002 := n3_; have BK207 := n4_; have HB := n5_; have HR234_2 := n6_; have HR243_2 := n7_; clear n0_ n1_ n2_ n3_ n4_ n5_ n6_ n7_))
                       replace HO_13 := Aside0.mk (Kd.N_drew HO_13.out)
                       replace HO_15 := Aside0.mk (Kd.R_drew HO_15.out)
                       replace HO_16 := Aside0.mk (Kd.R_drew HO_16.out)
                       replace HO_208002 := Aside0.mk (Kd.R_drew HO_208002.out)
                       replace BK207 := Aside0.mk (blk_drew BK207.out)
                       replace HR234_2 := Aside0.mk (Kd.C_drew HR234_2.out)
                       replace HR243_2 := Aside0.mk (Kd.C_drew HR243_2.out)
                       replace HB := Aside0.mk (below_drew1 HB.out)
                       have p247 : 0 ≤ (x17_3 : Int) := of_decide_eq_true (by first | (with_reducible assumption) | assumption)
                       have q247 : x17_3 < (t240.length : Int) := of_decide_eq_true (by first | (with_reducible assumption) | assumption)
                       obtain ⟨ad247, e247, hx247_0, hx247_1⟩ := at_T36 (Kd.R_reads' HO_15.out).2.2 x17_3 p247 q247
                       cases e247
                       replace p247 := eq_true p247
                       replace q247 := eq_true q247
                       obtain ⟨Ao84, co84, eo84⟩ := Kd.R_slice HO_16.out
                       (first | subst eo84 | (injection eo84 with f1_ f2_ f3_; have f4_ := f1_.symm; have f5_ := f3_.symm; clear f1_ f2_ f3_; subst f4_; subst f5_))
                       have p248 : 0 ≤ (x17_3 : Int) := of_decide_eq_true (by first | (with_reducible assumption) | assumption)
                       have q248 : x17_3 < (t244.length : Int) := of_decide_eq_true (by first | (with_reducible assumption) | assumption)
                       obtain ⟨ad248, e248, hx248_0, hx248_1⟩ := at_T36 (Kd.R_reads' HO_16.out).2.2 x17_3 p248 q248
                       cases e248
                       replace p248 := eq_true p248
                       replace q248 := eq_true q248
                       refine start_ (n := 9) (S := fun w' => w'.cell? (ad247.add ((x17_3).toNat * 2)) = some (.int .i64 ((rd_T36 t240 x17_3).f0)) ∧ w'.cell? ⟨(ad247.add ((x17_3).toNat * 2)).block, (ad247.add ((x17_3).toNat * 2)).off + 1, none⟩ = some (.int .i64 ((rd_T36 t240 x17_3).f1)) ∧ w'.cell? (ad248.add ((x17_3).toNat * 2)) = some (.int .i64 ((rd_T36 t244 x17_3).f0)) ∧ w'.cell? ⟨(ad248.add ((x17_3).toNat * 2)).block, (ad248.add ((x17_3).toNat * 2)).off + 1, none⟩ = some (.int .i64 ((rd_T36 t244 x17_3).f1))) (ds := []) Fl22 (by kernel_rfl) rfl rfl ⟨hx247_0, hx247_1, hx248_0, hx248_1⟩ (fun hHeld => ?_); refine with_tabW chequerlaw03_RectFinds.tab17 chequerlaw03_RectFinds.bits17 (fun HT_ HW_ => ?_)
                       generalize wr.drew = w83 at HO_13 HO_15 HO_16 HO_208002 BK207 HR234_2 HR243_2 HB hx247_0 hx247_1 hx248_0 hx248_1 hHeld ⊢
                       refine pur_ (i := 0) (N := some 96) Fl27 (any_of HT_.out (by kernel_rfl)) ?_
                       refine pur_ (i := 1) (N := some 97) Fl28 (any_of HT_.out (by kernel_rfl)) ?_
                       refine pur_ (i := 2) (N := some 98) Fl29 (any_of HT_.out (by kernel_rfl)) ?_
                       refine pur_ (i := 4) (N := some 100) #[true, true, true, false, true, false, false, false, false] (any_of HT_.out (by kernel_rfl)) ?_
                       refine pur_ (i := 5) (N := some 101) #[true, true, true, false, true, true, false, false, false] (any_of HT_.out (by kernel_rfl)) ?_
                       refine pur_ (i := 6) (N := some 102) #[true, true, true, false, true, true, true, false, false] (any_of HT_.out (by kernel_rfl)) ?_
                       refine take_ (i := 3) (N := some 99) (v := ?_) (a' := ?_) #[true, true, true, true, true, true, true, false, false] rfl rfl (take_ofW HT_.out HW_.out (by kernel_rfl)) (fun _ _ _ h => h) (Or.inl ⟨by rfl, ?_⟩) hHeld ?_ ?_
                       rotate_left
                       · rintro w' ⟨s0, s1, s2, s3⟩
                         go_simp
                         with_reducible rfl
                       rotate_left
                       · simp only [Act.put, List.setIfInBounds_toArray, List.set_cons_zero, List.set_cons_succ, i64_w, i32_w]
                         rfl
                       refine take_ (i := 7) (N := some 103) (v := ?_) (a' := ?_) #[true, true, true, true, true, true, true, true, false] rfl rfl (take_ofW HT_.out HW_.out (by kernel_rfl)) (fun _ _ _ h => h) (Or.inl ⟨by rfl, ?_⟩) hHeld ?_ ?_
                       rotate_left
                       · rintro w' ⟨s0, s1, s2, s3⟩
                         go_simp
                         with_reducible rfl
                       rotate_left
                       · simp only [Act.put, List.setIfInBounds_toArray, List.set_cons_zero, List.set_cons_succ, i64_w, i32_w]
                         rfl
                       refine pur_ (i := 8) (N := some 104) #[true, true, true, true, true, true, true, true, true] (any_of HT_.out (by kernel_rfl)) ?_
                       refine done_ (done_of HT_.out (by kernel_rfl)) ?_
                       try go_wp2
                       go_roundg k3
                       case measure => have := HK1.out; have := HJ55.out; have := HK3.out; omega
                       case rel => exact ⟨(wrap64 (x17_3 + 1)), (by first | rfl | (simp; done) | (simp [*]; done)), H', ⟨by have := HK1.out; have := HJ55.out; have := HK3.out; omega⟩, ⟨by (with_reducible repeat (first | apply Kd.N_alloc | apply Kd.N_drewN | apply Kd.N_drew)); exact HO_13.out⟩, ⟨rp_ HO_15.out⟩, ⟨rp_ HO_16.out⟩, ⟨rp_ HO_208002.out⟩, ⟨hp_ BK207.out⟩, ⟨by repeat (first | (with_reducible exact HR234_2.out) | (with_reducible refine Kd.C_alloc ?_ _) | (with_reducible refine Kd.C_drewN ?_ _) | (with_reducible refine Kd.C_drew ?_) | exact HR234_2.out)⟩, ⟨by repeat (first | (with_reducible exact HR243_2.out) | (with_reducible refine Kd.C_alloc ?_ _) | (with_reducible refine Kd.C_drewN ?_ _) | (with_reducible refine Kd.C_drew ?_) | exact HR243_2.out)⟩, ⟨bp_⟩⟩
                   · rw [if_neg c77] at H
                     exact absurd H (by simp)
                 · rw [if_neg c76] at H
                   exact absurd H (by simp)
               · rw [if_neg c75] at H
                 have c75b0 : decide (x17_3 < (t240.length : Int)) = false := decide_eq_false c75
                 clear c75
                 have H' := Aside0.mk H
                 clear H
                 obtain ⟨Ao85, co85, eo85⟩ := Kd.R_slice HO_15.out
                 subst eo85
                 go_wp2
                 go_roundg k3
                 case measure => have := HK1.out; have := HJ55.out; have := HK3.out; omega
                 case rel => exact ⟨(wrap64 (x14_1 + 1)), (by first | rfl | (simp; done) | (simp [*]; done)), H', ⟨by have := HK1.out; have := HJ55.out; have := HK3.out; omega⟩, ⟨by (with_reducible repeat (first | apply Kd.N_alloc | apply Kd.N_drewN | apply Kd.N_drew)); exact Kd.N_mono HO_13.out (fun _ hk => ⟨hk.2.2.1, hk.2.2.2⟩)⟩, ⟨rp_ HO_208002.out⟩, ⟨hp_ BK207.out⟩, ⟨bp_⟩⟩
       · rw [if_neg c52] at H
         exact absurd H (by simp)
     · rw [if_neg c51] at H
       exact absurd H (by simp)
   · rw [if_neg c49] at H
     have c49b0 : decide (x14_1 < 2) = false := decide_eq_false c49
     clear c49
     replace H := Option.bind_eq_some_iff.mp H
     obtain ⟨t228, A860, H⟩ := H
     replace H : (some t228) = some r := H
     have A86 := Aside0.mk A860
     clear A860
     obtain rfl := Option.some.inj H
     go_wp2_with (first | ((with_reducible refine gate_callee (f := 16) rfl ?_); refine goQ_ (some 105) Try.func16 #[] ?_; (with_reducible refine (chequerlaw03_lives.calls k1  t228 _ A86.out).mono ?_); rintro e w87 ⟨rfl, hb⟩; refine ⟨_, rfl, ?_⟩; replace HO_13 := Aside0.mk (Kd.N_below (by (with_reducible repeat (first | apply Kd.N_alloc | apply Kd.N_drewN | apply Kd.N_drew)); exact HO_13.out) hb); replace HO_208002 := Aside0.mk (Kd.R_below (rp_ HO_208002.out) hb); replace HB := Aside0.mk (below_step bp_ hb); (try clear hb); (try clear hb2); (try clear hk); (try clear hi)))
     go_ret
     exact ⟨by first | rfl | (simp [errW_none, errW_some] <;> rfl) | (simp [*, errW_none, errW_some] <;> rfl), bp_⟩

/-- THE ONE PURE STATEMENT of chequerlaw03_RectFinds. -/
def chequerlaw03_RectFinds.Pure : Prop := ∀ (a0_0 : Int) (a0_1 : Int) (l0_2 : List Int) (a1_0 : Int) (a1_1 : Int) (l1_2 : List Int) (a2_0 : Int) (a2_1 : Int) (a2_2 : Int) (a2_3 : Int), (Lit.int .i64 a0_0).wf = true → (Lit.int .i64 a0_1).wf = true → l0_2.length ≤ maxLen → (∀ x ∈ l0_2, (Lit.int .u64 x).wf = true) → (Lit.int .i64 a1_0).wf = true → (Lit.int .i64 a1_1).wf = true → l1_2.length ≤ maxLen → (∀ x ∈ l1_2, (Lit.int .u64 x).wf = true) → (Lit.int .i64 a2_0).wf = true → (Lit.int .i64 a2_1).wf = true → (Lit.int .i64 a2_2).wf = true → (Lit.int .i64 a2_3).wf = true → ∃ k, chequerlaw03_RectFinds.f k a0_0 a0_1 l0_2 a1_0 a1_1 l1_2 a2_0 a2_1 a2_2 a2_3 = some true
theorem chequerlaw03_RectFinds.walk (P : chequerlaw03_RectFinds.Pure) (a0_0 : Int) (a0_1 : Int) (a0_2 : Option Addr) (len0_2 cap0_2 : Nat) (z0_2 : List Int) (a1_0 : Int) (a1_1 : Int) (a1_2 : Option Addr) (len1_2 cap1_2 : Nat) (z1_2 : List Int) (a2_0 : Int) (a2_1 : Int) (a2_2 : Int) (a2_3 : Int) (w : World) (w0_0 : (Lit.int .i64 a0_0).wf = true) (w0_1 : (Lit.int .i64 a0_1).wf = true) (w0_2 : (a0_2 = none ∧ len0_2 = 0 ∧ cap0_2 = 0 ∧ z0_2 = []) ∨ ∃ x, a0_2 = some x ∧ len0_2 ≤ cap0_2 ∧ cap0_2 ≤ maxLen ∧ z0_2.length = cap0_2 ∧ (∀ i, i < z0_2.length → w.cell? (x.add i) = some (.int .u64 (z0_2.getD i 0))) ∧ ∀ n ∈ z0_2, (Lit.int .u64 n).wf = true) (w1_0 : (Lit.int .i64 a1_0).wf = true) (w1_1 : (Lit.int .i64 a1_1).wf = true) (w1_2 : (a1_2 = none ∧ len1_2 = 0 ∧ cap1_2 = 0 ∧ z1_2 = []) ∨ ∃ x, a1_2 = some x ∧ len1_2 ≤ cap1_2 ∧ cap1_2 ≤ maxLen ∧ z1_2.length = cap1_2 ∧ (∀ i, i < z1_2.length → w.cell? (x.add i) = some (.int .u64 (z1_2.getD i 0))) ∧ ∀ n ∈ z1_2, (Lit.int .u64 n).wf = true) (w2_0 : (Lit.int .i64 a2_0).wf = true) (w2_1 : (Lit.int .i64 a2_1).wf = true) (w2_2 : (Lit.int .i64 a2_2).wf = true) (w2_3 : (Lit.int .i64 a2_3).wf = true) :
 Calls Try.prog 3 #[.agg #[.int .i64 a0_0, .int .i64 a0_1, .slice a0_2 len0_2 cap0_2], .agg #[.int .i64 a1_0, .int .i64 a1_1, .slice a1_2 len1_2 cap1_2], .agg #[.int .i64 a2_0, .int .i64 a2_1, .int .i64 a2_2, .int .i64 a2_3]] w fun e w' => e = .returned (.bool true) ∧ Below w.heap.size w w' := by
 obtain ⟨l0_2, rfl, hr0_2, hm0_2, hw0_2, hc0_2⟩ := ReadsInt.ofRowC w0_2
 obtain ⟨l1_2, rfl, hr1_2, hm1_2, hw1_2, hc1_2⟩ := ReadsInt.ofRowC w1_2
 obtain ⟨k, h⟩ := P a0_0 a0_1 l0_2 a1_0 a1_1 l1_2 a2_0 a2_1 a2_2 a2_3 w0_0 w0_1 hm0_2 hw0_2 w1_0 w1_1 hm1_2 hw1_2 w2_0 w2_1 w2_2 w2_3
 refine (chequerlaw03_RectFinds.calls k a0_0 a0_1 _ _ l0_2 a1_0 a1_1 _ _ l1_2 a2_0 a2_1 a2_2 a2_3 true w (Kd.C_of_reads (d := (0 : Int)) (h1 := fun _ => rfl) hr0_2) hc0_2 (Kd.C_of_reads (d := (0 : Int)) (h1 := fun _ => rfl) hr1_2) hc1_2 h).mono ?_
 rintro e w' ⟨rfl, hd⟩
 exact ⟨rfl, hd⟩

end Go.Proofs.Ytidpaaemfiopkaa.Q
