-- written by our own program (wip/tools/myprint.py) out of the translation, by the kit's print; Lean checks it
import Derived.Test.YtdjonaajfhbfhaaQ0
import Derived.Test.YtdjonaajfhbfhaaQ1
import Derived.Test.YtdjonaajfhbfhaaQ3
import Derived.Test.YtdjonaajfhbfhaaQ4
import Derived.Test.YtdjonaajfhbfhaaIraw_Write
import Derived.Test.YtdjonaajfhbfhaaQ12
import Derived.Test.YtdjonaajfhbfhaaQ13
import Derived.Test.YtdjonaajfhbfhaaIraw_Read
import Derived.Test.YtdjonaajfhbfhaaQ21
namespace Go.Proofs.Ytdjonaajfhbfhaa.Q
open Go.RowKit Go.Proofs.YtdjonaajfhbfhaaW.PrintWords Go.Proofs.YtdjonaajfhbfhaaW.PrintLast Go.Proofs.YtdjonaajfhbfhaaW.PrintMore
attribute [local go_sem] max2_int min2_int max_two min_two max_three min_three max_four min_four   -- for this text's walks alone
set_option linter.unusedVariables false
set_option linter.unusedSimpArgs false


/-! ### chequerlaw09_RawWrites: function 3 -/
mutual
def chequerlaw09_RawWrites.j0 : Nat → Int → Int → List Int → List Int → List Int → Bool → Int → Int → Int → Int → Option (Bool)
 | 0, _, _, _, _, _, _, _, _, _, _ => none
 | k + 1, x2, x3, x4, x12, x13, x71, x263000, x263001, x263002, x263003 => if x71 = true then (some false) else (if ([] : List Int).length + x13.length < 140737488355328 then ((some (([] : List Int) ++ x13 : List Int)).bind fun y275 => (if 0 ≤ (mn (x4.length : Int) 5) then (if (mn (x4.length : Int) 5) ≤ (x4.length : Int) then (if y275.length + (x4.take ((mn (x4.length : Int) 5) : Int).toNat).length < 140737488355328 then ((raw_Read.f (y275 ++ (x4.take ((mn (x4.length : Int) 5) : Int).toNat)) x263000 x263001 x263002 x263003).bind fun bt282 => (if 0 ≤ (wrap64 ((x13.length : Int) - 1)) then (if (wrap64 ((x13.length : Int) - 1)) ≤ (x13.length : Int) then ((raw_Read.f (x13.take ((wrap64 ((x13.length : Int) - 1)) : Int).toNat) x263000 x263001 x263002 x263003).bind fun bt290 => (if bt282.2 = 0 then ((chequerref03_SameRow.f k bt282.1 x12).bind fun t294 => (if t294 = true then (if bt290.2 = 6 then (chequerlaw09_RawWrites.j1 k x2 x3 x12 ((bt290.1.length : Int) != 0) x263000 x263001 x263002 x263003) else (chequerlaw09_RawWrites.j1 k x2 x3 x12 true x263000 x263001 x263002 x263003)) else (chequerlaw09_RawWrites.j1 k x2 x3 x12 true x263000 x263001 x263002 x263003))) else (chequerlaw09_RawWrites.j1 k x2 x3 x12 true x263000 x263001 x263002 x263003))) else (none)) else (none))) else (none)) else (none)) else (none))) else (none))
def chequerlaw09_RawWrites.j1 : Nat → Int → Int → List Int → Bool → Int → Int → Int → Int → Option (Bool)
 | 0, _, _, _, _, _, _, _, _ => none
 | k + 1, x2, x3, x12, x114, x263000, x263001, x263002, x263003 => if x114 = true then (some false) else ((chequerref01_Around.f x2 (x12.length : Int)).bind fun t295 => (if 0 ≤ t295 then (if t295 < (x12.length : Int) then ((some (x12.set (t295 : Int).toNat x3 : List Int)).bind fun y296 => ((raw_Write.f y296 x263000 x263001 x263002 x263003).bind fun bt297 => ((chequerref09_Write.f k y296 x263000 x263001 x263002 x263003).bind fun bt301 => (if t295 ≤ (x12.length : Int) then ((raw_Write.f (y296.take (t295 : Int).toNat) x263000 x263001 x263002 x263003).bind fun bt309 => (if (strOfNums bt297.1).toList = (strOfNums bt301.1).toList then (if bt297.2 = bt301.2 then (if (bt309.1.length : Int) = 0 then (if bt309.2 = 1 then ((chequerlaw09_lives.f k).bind fun t313 => (some t313)) else (some false)) else (some false)) else (some false)) else (some false))) else (none))))) else (none)) else (none)))
end
def chequerlaw09_RawWrites.f (k : Nat) (a0_0 : Int) (a0_1 : Int) (a0_2 : Int) (a0_3 : Int) (l1 : List Int) (a2 : Int) (a3 : Int) (l4 : List Int) : Option (Bool) := (chequerref09_Head.f a0_0 a0_1 a0_2 a0_3 30).bind fun bt258 => ((chequerref08_Pixels.f k l1 bt258.1 bt258.2.1 (wrap64 (1 + (Int.tmod bt258.2.2.1 4))) bt258.2.2.2).bind fun t263 => ((raw_Write.f t263 bt258.1 bt258.2.1 (wrap64 (1 + (Int.tmod bt258.2.2.1 4))) bt258.2.2.2).bind fun bt266 => ((chequerref09_Write.f k t263 bt258.1 bt258.2.1 (wrap64 (1 + (Int.tmod bt258.2.2.1 4))) bt258.2.2.2).bind fun bt270 => (if (strOfNums bt266.1).toList = (strOfNums bt270.1).toList then (if bt266.2 = bt270.2 then (if bt266.2 = 0 then ((chequerref06_Size.f bt258.1 bt258.2.1 (wrap64 (1 + (Int.tmod bt258.2.2.1 4))) bt258.2.2.2).bind fun t274 => (chequerlaw09_RawWrites.j0 k a2 a3 l4 t263 bt266.1 ((bt266.1.length : Int) != t274) bt258.1 bt258.2.1 (wrap64 (1 + (Int.tmod bt258.2.2.1 4))) bt258.2.2.2)) else (chequerlaw09_RawWrites.j0 k a2 a3 l4 t263 bt266.1 true bt258.1 bt258.2.1 (wrap64 (1 + (Int.tmod bt258.2.2.1 4))) bt258.2.2.2)) else (chequerlaw09_RawWrites.j0 k a2 a3 l4 t263 bt266.1 true bt258.1 bt258.2.1 (wrap64 (1 + (Int.tmod bt258.2.2.1 4))) bt258.2.2.2)) else (chequerlaw09_RawWrites.j0 k a2 a3 l4 t263 bt266.1 true bt258.1 bt258.2.1 (wrap64 (1 + (Int.tmod bt258.2.2.1 4))) bt258.2.2.2)))))
theorem chequerlaw09_RawWrites.mono_l : ∀ k, (∀ y0 y1 y2 y3 y4 y5 y6 y7 y8 y9, LeO (chequerlaw09_RawWrites.j0 k y0 y1 y2 y3 y4 y5 y6 y7 y8 y9) (chequerlaw09_RawWrites.j0 (k + 1) y0 y1 y2 y3 y4 y5 y6 y7 y8 y9)) ∧ (∀ y0 y1 y2 y3 y4 y5 y6 y7, LeO (chequerlaw09_RawWrites.j1 k y0 y1 y2 y3 y4 y5 y6 y7) (chequerlaw09_RawWrites.j1 (k + 1) y0 y1 y2 y3 y4 y5 y6 y7))
 | 0 => ⟨fun _ _ _ _ _ _ _ _ _ _ r h => by simp [chequerlaw09_RawWrites.j0] at h, fun _ _ _ _ _ _ _ _ r h => by simp [chequerlaw09_RawWrites.j1] at h⟩
 | k + 1 => by
  obtain ⟨ih0, ih1⟩ := chequerlaw09_RawWrites.mono_l k
  refine ⟨?_, ?_⟩
  · intro y0 y1 y2 y3 y4 y5 y6 y7 y8 y9
    unfold chequerlaw09_RawWrites.j0
    repeat' first
    | (with_reducible exact ih0 _ _ _ _ _ _ _ _ _ _)
    | (with_reducible exact ih1 _ _ _ _ _ _ _ _)
    | (with_reducible exact chequerlaw09_lives.mono _)
    | (with_reducible exact chequerref03_SameRow.mono _ _ _)
    | (with_reducible exact chequerref08_Pixels.mono _ _ _ _ _ _)
    | (with_reducible exact chequerref09_Write.mono _ _ _ _ _ _)
    | (with_reducible exact LeO.refl _)
    | (with_reducible exact LeO.none _)
    | (with_reducible refine LeO.ite ?_ ?_)
    | (with_reducible refine LeO.bind ?_ (fun _ => ?_))
    | exact ih0 _ _ _ _ _ _ _ _ _ _
    | exact ih1 _ _ _ _ _ _ _ _
    | exact chequerlaw09_lives.mono _
    | exact chequerref03_SameRow.mono _ _ _
    | exact chequerref08_Pixels.mono _ _ _ _ _ _
    | exact chequerref09_Write.mono _ _ _ _ _ _
    | exact LeO.none _
    | refine LeO.ite ?_ ?_
    | refine LeO.bind ?_ (fun _ => ?_)
  · intro y0 y1 y2 y3 y4 y5 y6 y7
    unfold chequerlaw09_RawWrites.j1
    repeat' first
    | (with_reducible exact ih0 _ _ _ _ _ _ _ _ _ _)
    | (with_reducible exact ih1 _ _ _ _ _ _ _ _)
    | (with_reducible exact chequerlaw09_lives.mono _)
    | (with_reducible exact chequerref03_SameRow.mono _ _ _)
    | (with_reducible exact chequerref08_Pixels.mono _ _ _ _ _ _)
    | (with_reducible exact chequerref09_Write.mono _ _ _ _ _ _)
    | (with_reducible exact LeO.refl _)
    | (with_reducible exact LeO.none _)
    | (with_reducible refine LeO.ite ?_ ?_)
    | (with_reducible refine LeO.bind ?_ (fun _ => ?_))
    | exact ih0 _ _ _ _ _ _ _ _ _ _
    | exact ih1 _ _ _ _ _ _ _ _
    | exact chequerlaw09_lives.mono _
    | exact chequerref03_SameRow.mono _ _ _
    | exact chequerref08_Pixels.mono _ _ _ _ _ _
    | exact chequerref09_Write.mono _ _ _ _ _ _
    | exact LeO.none _
    | refine LeO.ite ?_ ?_
    | refine LeO.bind ?_ (fun _ => ?_)
theorem chequerlaw09_RawWrites.mono : ∀ a0 a1 a2 a3 a4 a5 a6 a7 k, LeO (chequerlaw09_RawWrites.f k a0 a1 a2 a3 a4 a5 a6 a7) (chequerlaw09_RawWrites.f (k + 1) a0 a1 a2 a3 a4 a5 a6 a7) := by
 intro a0 a1 a2 a3 a4 a5 a6 a7 k
 obtain ⟨ih0, ih1⟩ := chequerlaw09_RawWrites.mono_l k
 unfold chequerlaw09_RawWrites.f
 repeat' first
  | (with_reducible exact ih0 _ _ _ _ _ _ _ _ _ _)
  | (with_reducible exact ih1 _ _ _ _ _ _ _ _)
  | (with_reducible exact chequerlaw09_lives.mono _)
  | (with_reducible exact chequerref03_SameRow.mono _ _ _)
  | (with_reducible exact chequerref08_Pixels.mono _ _ _ _ _ _)
  | (with_reducible exact chequerref09_Write.mono _ _ _ _ _ _)
  | (with_reducible exact LeO.refl _)
  | (with_reducible exact LeO.none _)
  | (with_reducible refine LeO.ite ?_ ?_)
  | (with_reducible refine LeO.bind ?_ (fun _ => ?_))
  | exact ih0 _ _ _ _ _ _ _ _ _ _
  | exact ih1 _ _ _ _ _ _ _ _
  | exact chequerlaw09_lives.mono _
  | exact chequerref03_SameRow.mono _ _ _
  | exact chequerref08_Pixels.mono _ _ _ _ _ _
  | exact chequerref09_Write.mono _ _ _ _ _ _
  | exact LeO.none _
  | refine LeO.ite ?_ ?_
  | refine LeO.bind ?_ (fun _ => ?_)
def chequerlaw09_RawWrites.T12 : Bool × List (List Nat × List Nat) := (true, [([], []), ([], []), ([1], [1]), ([2], [2]), ([0, 3], [0, 3]), ([], []), ([4, 5], [4, 5]), ([6], [6]), ([7], [7]), ([7], [7]), ([8, 6, 0, 1, 2, 3, 4, 5, 6, 7, 8], [8]), ([9, 10, 0, 1, 2, 3, 4, 5, 6, 7, 8, 9, 10], [9])])
def chequerlaw09_RawWrites.B12 : List Nat := [0, 0, 2, 6, 15, 0, 63, 127, 255, 255, 511, 2047]
theorem chequerlaw09_RawWrites.tab12 : rtab .any (opsOf Try.f3 12) = chequerlaw09_RawWrites.T12 := by kernel_rfl
theorem chequerlaw09_RawWrites.bits12 : waitsOk chequerlaw09_RawWrites.T12.2 chequerlaw09_RawWrites.B12 = true := by kernel_rfl
def chequerlaw09_RawWrites.T19 : Bool × List (List Nat × List Nat) := (true, [([], []), ([], []), ([0, 1], [0, 1]), ([], []), ([2, 3], [2, 3]), ([4], [4]), ([5], [5]), ([5], [5]), ([6, 4, 0, 1, 2, 3, 4, 5, 6], [6]), ([7, 8, 0, 1, 2, 3, 4, 5, 6, 7, 8], [7])])
def chequerlaw09_RawWrites.B19 : List Nat := [0, 0, 3, 0, 15, 31, 63, 63, 127, 511]
theorem chequerlaw09_RawWrites.tab19 : rtab .any (opsOf Try.f3 19) = chequerlaw09_RawWrites.T19 := by kernel_rfl
theorem chequerlaw09_RawWrites.bits19 : waitsOk chequerlaw09_RawWrites.T19.2 chequerlaw09_RawWrites.B19 = true := by kernel_rfl
set_option maxHeartbeats 8000000 in
set_option maxRecDepth 100000 in
theorem chequerlaw09_RawWrites.calls (k : Nat) (a0_0 : Int) (a0_1 : Int) (a0_2 : Int) (a0_3 : Int) (A1 : Option Addr) (c1 : Nat) (l1 : List Int) (a2 : Int) (a3 : Int) (A4 : Option Addr) (c4 : Nat) (l4 : List Int) (r : Bool) (w : World) (hr1 : Kd.C (Kd.int .i64) w A1 l1.length l1) (hc1 : l1.length ≤ c1) (hr4 : Kd.C (Kd.int .u8) w A4 l4.length l4) (hc4 : l4.length ≤ c4) (h : chequerlaw09_RawWrites.f k a0_0 a0_1 a0_2 a0_3 l1 a2 a3 l4 = some r) :
 Calls Try.prog 3 #[.agg #[.int .i64 a0_0, .int .i64 a0_1, .int .i64 a0_2, .int .i64 a0_3], .slice A1 l1.length c1, .int .i64 a2, .int .u64 a3, .slice A4 l4.length c4] w fun e w' => e = .returned (.bool r) ∧ Below w.heap.size w w' := by
 have hu23 := Try.underlying23
 have HR1 := Aside0.mk hr1
 have HC1 := Aside0.mk hc1
 clear hr1 hc1
 have HR4 := Aside0.mk hr4
 have HC4 := Aside0.mk hc4
 clear hr4 hc4
 have HB := Aside0.mk (Below.refl w.heap.size w)
 have H : ((chequerref09_Head.f a0_0 a0_1 a0_2 a0_3 30).bind fun bt258 => ((chequerref08_Pixels.f k l1 bt258.1 bt258.2.1 (wrap64 (1 + (Int.tmod bt258.2.2.1 4))) bt258.2.2.2).bind fun t263 => ((raw_Write.f t263 bt258.1 bt258.2.1 (wrap64 (1 + (Int.tmod bt258.2.2.1 4))) bt258.2.2.2).bind fun bt266 => ((chequerref09_Write.f k t263 bt258.1 bt258.2.1 (wrap64 (1 + (Int.tmod bt258.2.2.1 4))) bt258.2.2.2).bind fun bt270 => (if (strOfNums bt266.1).toList = (strOfNums bt270.1).toList then (if bt266.2 = bt270.2 then (if bt266.2 = 0 then ((chequerref06_Size.f bt258.1 bt258.2.1 (wrap64 (1 + (Int.tmod bt258.2.2.1 4))) bt258.2.2.2).bind fun t274 => (chequerlaw09_RawWrites.j0 k a2 a3 l4 t263 bt266.1 ((bt266.1.length : Int) != t274) bt258.1 bt258.2.1 (wrap64 (1 + (Int.tmod bt258.2.2.1 4))) bt258.2.2.2)) else (chequerlaw09_RawWrites.j0 k a2 a3 l4 t263 bt266.1 true bt258.1 bt258.2.1 (wrap64 (1 + (Int.tmod bt258.2.2.1 4))) bt258.2.2.2)) else (chequerlaw09_RawWrites.j0 k a2 a3 l4 t263 bt266.1 true bt258.1 bt258.2.1 (wrap64 (1 + (Int.tmod bt258.2.2.1 4))) bt258.2.2.2)) else (chequerlaw09_RawWrites.j0 k a2 a3 l4 t263 bt266.1 true bt258.1 bt258.2.1 (wrap64 (1 + (Int.tmod bt258.2.2.1 4))) bt258.2.2.2)))))) = some r := h
 clear h
 replace H := Option.bind_eq_some_iff.mp H
 obtain ⟨⟨t258, t259, t260, t261⟩, A60, H⟩ := H
 replace H : ((chequerref08_Pixels.f k l1 t258 t259 (wrap64 (1 + (Int.tmod t260 4))) t261).bind fun t263 => ((raw_Write.f t263 t258 t259 (wrap64 (1 + (Int.tmod t260 4))) t261).bind fun bt266 => ((chequerref09_Write.f k t263 t258 t259 (wrap64 (1 + (Int.tmod t260 4))) t261).bind fun bt270 => (if (strOfNums bt266.1).toList = (strOfNums bt270.1).toList then (if bt266.2 = bt270.2 then (if bt266.2 = 0 then ((chequerref06_Size.f t258 t259 (wrap64 (1 + (Int.tmod t260 4))) t261).bind fun t274 => (chequerlaw09_RawWrites.j0 k a2 a3 l4 t263 bt266.1 ((bt266.1.length : Int) != t274) t258 t259 (wrap64 (1 + (Int.tmod t260 4))) t261)) else (chequerlaw09_RawWrites.j0 k a2 a3 l4 t263 bt266.1 true t258 t259 (wrap64 (1 + (Int.tmod t260 4))) t261)) else (chequerlaw09_RawWrites.j0 k a2 a3 l4 t263 bt266.1 true t258 t259 (wrap64 (1 + (Int.tmod t260 4))) t261)) else (chequerlaw09_RawWrites.j0 k a2 a3 l4 t263 bt266.1 true t258 t259 (wrap64 (1 + (Int.tmod t260 4))) t261))))) = some r := H
 have A6 := Aside0.mk A60
 clear A60
 replace H := Option.bind_eq_some_iff.mp H
 obtain ⟨t263, A70, H⟩ := H
 replace H : ((raw_Write.f t263 t258 t259 (wrap64 (1 + (Int.tmod t260 4))) t261).bind fun bt266 => ((chequerref09_Write.f k t263 t258 t259 (wrap64 (1 + (Int.tmod t260 4))) t261).bind fun bt270 => (if (strOfNums bt266.1).toList = (strOfNums bt270.1).toList then (if bt266.2 = bt270.2 then (if bt266.2 = 0 then ((chequerref06_Size.f t258 t259 (wrap64 (1 + (Int.tmod t260 4))) t261).bind fun t274 => (chequerlaw09_RawWrites.j0 k a2 a3 l4 t263 bt266.1 ((bt266.1.length : Int) != t274) t258 t259 (wrap64 (1 + (Int.tmod t260 4))) t261)) else (chequerlaw09_RawWrites.j0 k a2 a3 l4 t263 bt266.1 true t258 t259 (wrap64 (1 + (Int.tmod t260 4))) t261)) else (chequerlaw09_RawWrites.j0 k a2 a3 l4 t263 bt266.1 true t258 t259 (wrap64 (1 + (Int.tmod t260 4))) t261)) else (chequerlaw09_RawWrites.j0 k a2 a3 l4 t263 bt266.1 true t258 t259 (wrap64 (1 + (Int.tmod t260 4))) t261)))) = some r := H
 have A7 := Aside0.mk A70
 clear A70
 replace H := Option.bind_eq_some_iff.mp H
 obtain ⟨⟨t266, t269⟩, A80, H⟩ := H
 replace H : ((chequerref09_Write.f k t263 t258 t259 (wrap64 (1 + (Int.tmod t260 4))) t261).bind fun bt270 => (if (strOfNums t266).toList = (strOfNums bt270.1).toList then (if t269 = bt270.2 then (if t269 = 0 then ((chequerref06_Size.f t258 t259 (wrap64 (1 + (Int.tmod t260 4))) t261).bind fun t274 => (chequerlaw09_RawWrites.j0 k a2 a3 l4 t263 t266 ((t266.length : Int) != t274) t258 t259 (wrap64 (1 + (Int.tmod t260 4))) t261)) else (chequerlaw09_RawWrites.j0 k a2 a3 l4 t263 t266 true t258 t259 (wrap64 (1 + (Int.tmod t260 4))) t261)) else (chequerlaw09_RawWrites.j0 k a2 a3 l4 t263 t266 true t258 t259 (wrap64 (1 + (Int.tmod t260 4))) t261)) else (chequerlaw09_RawWrites.j0 k a2 a3 l4 t263 t266 true t258 t259 (wrap64 (1 + (Int.tmod t260 4))) t261))) = some r := H
 have A8 := Aside0.mk A80
 clear A80
 replace H := Option.bind_eq_some_iff.mp H
 obtain ⟨⟨t270, t273⟩, A90, H⟩ := H
 replace H : (if (strOfNums t266).toList = (strOfNums t270).toList then (if t269 = t273 then (if t269 = 0 then ((chequerref06_Size.f t258 t259 (wrap64 (1 + (Int.tmod t260 4))) t261).bind fun t274 => (chequerlaw09_RawWrites.j0 k a2 a3 l4 t263 t266 ((t266.length : Int) != t274) t258 t259 (wrap64 (1 + (Int.tmod t260 4))) t261)) else (chequerlaw09_RawWrites.j0 k a2 a3 l4 t263 t266 true t258 t259 (wrap64 (1 + (Int.tmod t260 4))) t261)) else (chequerlaw09_RawWrites.j0 k a2 a3 l4 t263 t266 true t258 t259 (wrap64 (1 + (Int.tmod t260 4))) t261)) else (chequerlaw09_RawWrites.j0 k a2 a3 l4 t263 t266 true t258 t259 (wrap64 (1 + (Int.tmod t260 4))) t261)) = some r := H
 have A9 := Aside0.mk A90
 clear A90
 have HC10 := Aside0.mk H
 clear H
 go_enter Try.func3, Try.ntmps3
 go_upto_region 6 with (first | ((with_reducible refine gate_dst (N := 5) rfl ?_); (try (refine gate_guard (by rfl) ?_; dsimp only)); refine box_event ?hg (N := 5) ?hd (cs := #[.int .i64 a0_0, .int .i64 a0_1, .int .i64 a0_2, .int .i64 a0_3]) (t := 23) ?hr ?_; (case hd => rfl); (case hg => rfl); (case hr => first | (go_simp; done) | (go_simp; rfl)); intro gb257 hg w11 hbox hb; have BK257 := Aside0.mk (hbox); have GW257 := Aside0.mk ((by rw [hg]; exact (below_size bp_) : w.heap.size ≤ gb257)); have GE257 := Aside0.mk ((by rw [hg]; exact (below_size bp_) : w.heap.size ≤ gb257)); replace HB := Aside0.mk (below_step bp_ hb); clear hb hbox hg; have hcz12_0 : w11.cell? ⟨gb257, 0, none⟩ = some (.int .i64 a0_0) := (blk_cell BK257.out 0).trans rfl; have hcz12_1 : w11.cell? ⟨gb257, 1, none⟩ = some (.int .i64 a0_1) := (blk_cell BK257.out 1).trans rfl; have hcz12_2 : w11.cell? ⟨gb257, 2, none⟩ = some (.int .i64 a0_2) := (blk_cell BK257.out 2).trans rfl; have hcz12_3 : w11.cell? ⟨gb257, 3, none⟩ = some (.int .i64 a0_3) := (blk_cell BK257.out 3).trans rfl; have hfz12_0 := blk_frozen BK257.out 0; have hfz12_1 := blk_frozen BK257.out 1; have hfz12_2 := blk_frozen BK257.out 2; have hfz12_3 := blk_frozen BK257.out 3) | ((with_reducible refine gate_callee (f := 8) rfl ?_); refine goQ_ (some 30) Try.func8 #[.agg #[.int .i64 a0_0, .int .i64 a0_1, .int .i64 a0_2, .int .i64 a0_3], .int .i64 30] ?_; (with_reducible refine (chequerref09_Head.calls a0_0 a0_1 a0_2 a0_3 30 t258 t259 t260 t261 _ A6.out).mono ?_); rintro e w13 ⟨rfl, hb⟩; refine ⟨_, rfl, ?_⟩; replace HB := Aside0.mk (below_step bp_ hb); (try clear hb); (try clear hb2); (try clear hk); (try clear hi)) | ((with_reducible refine gate_dst (N := 11) rfl ?_); (try (refine gate_guard (by rfl) ?_; dsimp only)); refine box_event ?hg (N := 11) ?hd (cs := #[.int .i64 0, .int .i64 0, .int .i64 0, .int .i64 0]) (t := 23) ?hr ?_; (case hd => rfl); (case hg => rfl); (case hr => first | (go_simp; done) | (go_simp; rfl)); intro gb262 hg w14 hbox hb; have BK262 := Aside0.mk (hbox); have GW262 := Aside0.mk ((by rw [hg]; exact (below_size bp_) : w.heap.size ≤ gb262)); have GE262 := Aside0.mk ((by rw [hg]; exact (below_size bp_) : w.heap.size ≤ gb262)); replace HB := Aside0.mk (below_step bp_ hb); clear hb hbox hg; have hcz15_0 : w14.cell? ⟨gb262, 0, none⟩ = some (.int .i64 0) := (blk_cell BK262.out 0).trans rfl; have hcz15_1 : w14.cell? ⟨gb262, 1, none⟩ = some (.int .i64 0) := (blk_cell BK262.out 1).trans rfl; have hcz15_2 : w14.cell? ⟨gb262, 2, none⟩ = some (.int .i64 0) := (blk_cell BK262.out 2).trans rfl; have hcz15_3 : w14.cell? ⟨gb262, 3, none⟩ = some (.int .i64 0) := (blk_cell BK262.out 3).trans rfl; have hfz15_0 := blk_frozen BK262.out 0; have hfz15_1 := blk_frozen BK262.out 1; have hfz15_2 := blk_frozen BK262.out 2; have hfz15_3 := blk_frozen BK262.out 3; have hcx_2 : ((((w14.setCell ⟨gb262, 0, none⟩ (.int .i64 t258)).setCell ⟨gb262, 1, none⟩ (.int .i64 t259)).setCell ⟨gb262, 2, none⟩ (.int .i64 t260)).setCell ⟨gb262, 3, none⟩ (.int .i64 t261)).cell? ⟨gb262, 2, none⟩ = some (.int .i64 t260) := (blk_cell (blk_set (blk_set (blk_set (blk_set BK262.out 0 (.int .i64 t258)) 1 (.int .i64 t259)) 2 (.int .i64 t260)) 3 (.int .i64 t261)) 2).trans rfl; have hcy_0 : (((((w14.setCell ⟨gb262, 0, none⟩ (.int .i64 t258)).setCell ⟨gb262, 1, none⟩ (.int .i64 t259)).setCell ⟨gb262, 2, none⟩ (.int .i64 t260)).setCell ⟨gb262, 3, none⟩ (.int .i64 t261)).setCell ⟨gb262, 2, none⟩ (.int .i64 (wrap64 (1 + (Int.tmod t260 4))))).cell? ⟨gb262, 0, none⟩ = some (.int .i64 t258) := (blk_cell (blk_set (blk_set (blk_set (blk_set (blk_set BK262.out 0 (.int .i64 t258)) 1 (.int .i64 t259)) 2 (.int .i64 t260)) 3 (.int .i64 t261)) 2 (.int .i64 (wrap64 (1 + (Int.tmod t260 4))))) 0).trans rfl; have hcy_1 : (((((w14.setCell ⟨gb262, 0, none⟩ (.int .i64 t258)).setCell ⟨gb262, 1, none⟩ (.int .i64 t259)).setCell ⟨gb262, 2, none⟩ (.int .i64 t260)).setCell ⟨gb262, 3, none⟩ (.int .i64 t261)).setCell ⟨gb262, 2, none⟩ (.int .i64 (wrap64 (1 + (Int.tmod t260 4))))).cell? ⟨gb262, 1, none⟩ = some (.int .i64 t259) := (blk_cell (blk_set (blk_set (blk_set (blk_set (blk_set BK262.out 0 (.int .i64 t258)) 1 (.int .i64 t259)) 2 (.int .i64 t260)) 3 (.int .i64 t261)) 2 (.int .i64 (wrap64 (1 + (Int.tmod t260 4))))) 1).trans rfl; have hcy_2 : (((((w14.setCell ⟨gb262, 0, none⟩ (.int .i64 t258)).setCell ⟨gb262, 1, none⟩ (.int .i64 t259)).setCell ⟨gb262, 2, none⟩ (.int .i64 t260)).setCell ⟨gb262, 3, none⟩ (.int .i64 t261)).setCell ⟨gb262, 2, none⟩ (.int .i64 (wrap64 (1 + (Int.tmod t260 4))))).cell? ⟨gb262, 2, none⟩ = some (.int .i64 (wrap64 (1 + (Int.tmod t260 4)))) := (blk_cell (blk_set (blk_set (blk_set (blk_set (blk_set BK262.out 0 (.int .i64 t258)) 1 (.int .i64 t259)) 2 (.int .i64 t260)) 3 (.int .i64 t261)) 2 (.int .i64 (wrap64 (1 + (Int.tmod t260 4))))) 2).trans rfl; have hcy_3 : (((((w14.setCell ⟨gb262, 0, none⟩ (.int .i64 t258)).setCell ⟨gb262, 1, none⟩ (.int .i64 t259)).setCell ⟨gb262, 2, none⟩ (.int .i64 t260)).setCell ⟨gb262, 3, none⟩ (.int .i64 t261)).setCell ⟨gb262, 2, none⟩ (.int .i64 (wrap64 (1 + (Int.tmod t260 4))))).cell? ⟨gb262, 3, none⟩ = some (.int .i64 t261) := (blk_cell (blk_set (blk_set (blk_set (blk_set (blk_set BK262.out 0 (.int .i64 t258)) 1 (.int .i64 t259)) 2 (.int .i64 t260)) 3 (.int .i64 t261)) 2 (.int .i64 (wrap64 (1 + (Int.tmod t260 4))))) 3).trans rfl) | ((with_reducible refine gate_callee (f := 9) rfl ?_); refine goQ_ (some 38) Try.func9 #[.slice A1 l1.length c1, .agg #[.int .i64 t258, .int .i64 t259, .int .i64 (wrap64 (1 + (Int.tmod t260 4))), .int .i64 t261]] ?_; (with_reducible refine (chequerref08_Pixels.calls k _ _ l1 t258 t259 (wrap64 (1 + (Int.tmod t260 4))) t261 t263 _ ?side1 ?side2 A7.out).mono ?_); (case side1 => exact Kd.C_below HR1.out bp_); (case side2 => exact HC1.out); rintro e w16 ⟨v264, rfl, ho0, hb⟩; refine ⟨_, rfl, ?_⟩; have HO265 := Aside0.mk (Kd.R_lower ho0 (below_size bp_)); replace BK262 := Aside0.mk (blk_below (g := gb262) (o := .cells #[.int .i64 t258, .int .i64 t259, .int .i64 (wrap64 (1 + (Int.tmod t260 4))), .int .i64 t261] 23 (0, 0)) (by (with_reducible repeat (first | refine blk_drewN ?_ _ | refine blk_drew ?_ | refine blk_alloc ?_ _)); refine blk_put (cs := #[.int .i64 t258, .int .i64 t259, .int .i64 t260, .int .i64 t261]) ?_ 2 _ rfl; (with_reducible repeat (first | refine blk_drewN ?_ _ | refine blk_drew ?_ | refine blk_alloc ?_ _)); refine blk_put (cs := #[.int .i64 t258, .int .i64 t259, .int .i64 t260, .int .i64 0]) ?_ 3 _ rfl; (with_reducible repeat (first | refine blk_drewN ?_ _ | refine blk_drew ?_ | refine blk_alloc ?_ _)); refine blk_put (cs := #[.int .i64 t258, .int .i64 t259, .int .i64 0, .int .i64 0]) ?_ 2 _ rfl; (with_reducible repeat (first | refine blk_drewN ?_ _ | refine blk_drew ?_ | refine blk_alloc ?_ _)); refine blk_put (cs := #[.int .i64 t258, .int .i64 0, .int .i64 0, .int .i64 0]) ?_ 1 _ rfl; (with_reducible repeat (first | refine blk_drewN ?_ _ | refine blk_drew ?_ | refine blk_alloc ?_ _)); refine blk_put (cs := #[.int .i64 0, .int .i64 0, .int .i64 0, .int .i64 0]) ?_ 0 _ rfl; (with_reducible repeat (first | refine blk_drewN ?_ _ | refine blk_drew ?_ | refine blk_alloc ?_ _)); exact BK262.out) hb); replace HB := Aside0.mk (below_step bp_ hb); clear hcx_2 hcy_0 hcy_1 hcy_2 hcy_3; (try clear hb); (try clear hb2); (try clear hk); (try clear hi); (try clear ho0); have hcz17_0 : w16.cell? ⟨gb262, 0, none⟩ = some (.int .i64 t258) := (blk_cell BK262.out 0).trans rfl; have hcz17_1 : w16.cell? ⟨gb262, 1, none⟩ = some (.int .i64 t259) := (blk_cell BK262.out 1).trans rfl; have hcz17_2 : w16.cell? ⟨gb262, 2, none⟩ = some (.int .i64 (wrap64 (1 + (Int.tmod t260 4)))) := (blk_cell BK262.out 2).trans rfl; have hcz17_3 : w16.cell? ⟨gb262, 3, none⟩ = some (.int .i64 t261) := (blk_cell BK262.out 3).trans rfl; have hfz17_0 := blk_frozen BK262.out 0; have hfz17_1 := blk_frozen BK262.out 1; have hfz17_2 := blk_frozen BK262.out 2; have hfz17_3 := blk_frozen BK262.out 3; obtain ⟨Ao18, co18, eo18⟩ := Kd.R_slice HO265.out; subst eo18) | ((with_reducible refine gate_callee (f := 10) rfl ?_); refine goQ_ (some 42) Try.func10 #[.slice Ao18 t263.length co18, .agg #[.int .i64 t258, .int .i64 t259, .int .i64 (wrap64 (1 + (Int.tmod t260 4))), .int .i64 t261]] ?_; (with_reducible refine (raw_Write.calls _ _ t263 t258 t259 (wrap64 (1 + (Int.tmod t260 4))) t261 t266 t269 _ ?side1 ?side2 A8.out).mono ?_); (case side1 => exact cp_ (Kd.R_reads' HO265.out).2.2); (case side2 => exact (Kd.R_reads' HO265.out).2.1); rintro e w19 ⟨v267, rfl, ho0, hb⟩; refine ⟨_, rfl, ?_⟩; replace HO265 := Aside0.mk (Kd.R_below (rp_ HO265.out) hb); have HO268 := Aside0.mk (Kd.R_lower ho0 (below_size bp_)); replace BK262 := Aside0.mk (blk_below (hp_ BK262.out) hb); replace HB := Aside0.mk (below_step bp_ hb); (try clear hb); (try clear hb2); (try clear hk); (try clear hi); (try clear ho0); have hcz20_0 : w19.cell? ⟨gb262, 0, none⟩ = some (.int .i64 t258) := (blk_cell BK262.out 0).trans rfl; have hcz20_1 : w19.cell? ⟨gb262, 1, none⟩ = some (.int .i64 t259) := (blk_cell BK262.out 1).trans rfl; have hcz20_2 : w19.cell? ⟨gb262, 2, none⟩ = some (.int .i64 (wrap64 (1 + (Int.tmod t260 4)))) := (blk_cell BK262.out 2).trans rfl; have hcz20_3 : w19.cell? ⟨gb262, 3, none⟩ = some (.int .i64 t261) := (blk_cell BK262.out 3).trans rfl; have hfz20_0 := blk_frozen BK262.out 0; have hfz20_1 := blk_frozen BK262.out 1; have hfz20_2 := blk_frozen BK262.out 2; have hfz20_3 := blk_frozen BK262.out 3) | ((with_reducible refine gate_callee (f := 11) rfl ?_); refine goQ_ (some 48) Try.func11 #[.slice Ao18 t263.length co18, .agg #[.int .i64 t258, .int .i64 t259, .int .i64 (wrap64 (1 + (Int.tmod t260 4))), .int .i64 t261]] ?_; (with_reducible refine (chequerref09_Write.calls k _ _ t263 t258 t259 (wrap64 (1 + (Int.tmod t260 4))) t261 t270 t273 _ ?side1 ?side2 A9.out).mono ?_); (case side1 => exact cp_ (Kd.R_reads' HO265.out).2.2); (case side2 => exact (Kd.R_reads' HO265.out).2.1); rintro e w21 ⟨v271, rfl, ho0, hb⟩; refine ⟨_, rfl, ?_⟩; replace HO265 := Aside0.mk (Kd.R_below (rp_ HO265.out) hb); have HO272 := Aside0.mk (Kd.R_lower (Kd.R_new' ho0 (Kd.R_lt (rp_ HO268.out))) (below_size bp_)); replace HO268 := Aside0.mk (Kd.R_elder' (rp_ HO268.out) (Kd.R_base ho0) hb); replace BK262 := Aside0.mk (blk_below (hp_ BK262.out) hb); replace HB := Aside0.mk (below_step bp_ hb); (try clear hb); (try clear hb2); (try clear hk); (try clear hi); (try clear ho0)))
 (try simp only [Act.put, List.setIfInBounds_toArray, List.set_cons_zero, List.set_cons_succ])
 go_cut [71] (fun v71 wc => ∃ (kq : Nat) (x71_9 : Bool), v71 = .bool x71_9 ∧ Aside0 (chequerlaw09_RawWrites.j0 kq a2 a3 l4 t263 t266 x71_9 t258 t259 (wrap64 (1 + (Int.tmod t260 4))) t261 = some r) ∧ Aside0 (kq ≤ k) ∧ Aside0 (Kd.R (Kd.int .u64) 26 wc w.heap.size (fun _ => True) (.slice Ao18 t263.length co18) t263) ∧ Aside0 (Kd.R (Kd.int .u8) 5 wc w.heap.size (fun _ => True) v267 t266) ∧ Aside0 (wc.heap[gb262]? = some (.cells #[.int .i64 t258, .int .i64 t259, .int .i64 (wrap64 (1 + (Int.tmod t260 4))), .int .i64 t261] 23 (0, 0))) ∧ Aside0 (Below w.heap.size w wc))
 case first =>
  have H := HC10.out
  clear HC10
  by_cases c22 : (strOfNums t266).toList = (strOfNums t270).toList
  · rw [if_pos c22] at H
    have c22b0 : ((strOfNums t266).toList == (strOfNums t270).toList) = true := beq_iff_eq.mpr c22
    have c22b1 : ((strOfNums t266).toList != (strOfNums t270).toList) = false := bne_eq_false_iff_eq.mpr c22
    clear c22
    (first | rw [c22b0] | (simp only [i64_w, i32_w]; rw [c22b0]) | skip)
    by_cases c23 : t269 = t273
    · rw [if_pos c23] at H
      have c23b0 : (t269 == t273) = true := beq_iff_eq.mpr c23
      have c23b1 : (t269 != t273) = false := bne_eq_false_iff_eq.mpr c23
      clear c23
      by_cases c24 : t269 = 0
      · rw [if_pos c24] at H
        have c24b0 : (t269 == 0) = true := beq_iff_eq.mpr c24
        have c24b1 : (t269 != 0) = false := bne_eq_false_iff_eq.mpr c24
        clear c24
        replace H := Option.bind_eq_some_iff.mp H
        obtain ⟨t274, A250, H⟩ := H
        replace H : (chequerlaw09_RawWrites.j0 k a2 a3 l4 t263 t266 ((t266.length : Int) != t274) t258 t259 (wrap64 (1 + (Int.tmod t260 4))) t261) = some r := H
        have A25 := Aside0.mk A250
        clear A250
        have H' := Aside0.mk H
        clear H
        have hcv26 := own_string (P := Try.prog) Try.underlying27 Try.underlying5 Try.underlying9 (Kd.own_of_R HO268.out)
        have hcv27 := own_string (P := Try.prog) Try.underlying27 Try.underlying5 Try.underlying9 (Kd.own_of_R HO272.out)
        obtain ⟨Ao28, co28, eo28⟩ := Kd.R_slice HO268.out
        subst eo28
        have hcz29_0 : w21.cell? ⟨gb262, 0, none⟩ = some (.int .i64 t258) := (blk_cell BK262.out 0).trans rfl
        have hcz29_1 : w21.cell? ⟨gb262, 1, none⟩ = some (.int .i64 t259) := (blk_cell BK262.out 1).trans rfl
        have hcz29_2 : w21.cell? ⟨gb262, 2, none⟩ = some (.int .i64 (wrap64 (1 + (Int.tmod t260 4)))) := (blk_cell BK262.out 2).trans rfl
        have hcz29_3 : w21.cell? ⟨gb262, 3, none⟩ = some (.int .i64 t261) := (blk_cell BK262.out 3).trans rfl
        have hfz29_0 := blk_frozen BK262.out 0
        have hfz29_1 := blk_frozen BK262.out 1
        have hfz29_2 := blk_frozen BK262.out 2
        have hfz29_3 := blk_frozen BK262.out 3
        go_wp2_with (first | (go_at_call 12; (with_reducible refine (chequerref06_Size.calls t258 t259 (wrap64 (1 + (Int.tmod t260 4))) t261 t274 _ A25.out).mono ?_); rintro e w30 ⟨rfl, hb⟩; replace HO265 := Aside0.mk (Kd.R_below (rp_ HO265.out) hb); replace HO268 := Aside0.mk (Kd.R_below (rp_ HO268.out) hb); replace HO272 := Aside0.mk (Kd.R_below (rp_ HO272.out) hb); replace BK262 := Aside0.mk (blk_below (hp_ BK262.out) hb); replace HB := Aside0.mk (below_step bp_ hb); (try clear hb); (try clear hb2); (try clear hk); (try clear hi)))
        go_meet
        case rel => exact ⟨_, (((t266.length : Int) != t274)), (by first | rfl | (simp; done) | (simp [*]; done)), H', ⟨by first | omega | exact Nat.le_refl _⟩, ⟨rp_ HO265.out⟩, ⟨by (with_reducible repeat (first | apply Kd.R_alloc | apply Kd.R_drewN | apply Kd.R_drew)); exact Kd.R_mono HO268.out (fun _ hk => trivial)⟩, ⟨hp_ BK262.out⟩, ⟨bp_⟩⟩
      · rw [if_neg c24] at H
        have c24b0 : (t269 == 0) = false := beq_eq_false_iff_ne.mpr c24
        have c24b1 : (t269 != 0) = true := bne_iff_ne.mpr c24
        have H' := Aside0.mk H
        clear H
        have hcv31 := own_string (P := Try.prog) Try.underlying27 Try.underlying5 Try.underlying9 (Kd.own_of_R HO268.out)
        have hcv32 := own_string (P := Try.prog) Try.underlying27 Try.underlying5 Try.underlying9 (Kd.own_of_R HO272.out)
        go_wp2
        go_meet
        case rel => exact ⟨_, (true), (by first | rfl | (simp; done) | (simp [*]; done)), H', ⟨by first | omega | exact Nat.le_refl _⟩, ⟨rp_ HO265.out⟩, ⟨by (with_reducible repeat (first | apply Kd.R_alloc | apply Kd.R_drewN | apply Kd.R_drew)); exact Kd.R_mono HO268.out (fun _ hk => trivial)⟩, ⟨hp_ BK262.out⟩, ⟨bp_⟩⟩
    · rw [if_neg c23] at H
      have c23b0 : (t269 == t273) = false := beq_eq_false_iff_ne.mpr c23
      have c23b1 : (t269 != t273) = true := bne_iff_ne.mpr c23
      have H' := Aside0.mk H
      clear H
      have hcv33 := own_string (P := Try.prog) Try.underlying27 Try.underlying5 Try.underlying9 (Kd.own_of_R HO268.out)
      have hcv34 := own_string (P := Try.prog) Try.underlying27 Try.underlying5 Try.underlying9 (Kd.own_of_R HO272.out)
      go_wp2
      go_meet
      case rel => exact ⟨_, (true), (by first | rfl | (simp; done) | (simp [*]; done)), H', ⟨by first | omega | exact Nat.le_refl _⟩, ⟨rp_ HO265.out⟩, ⟨by (with_reducible repeat (first | apply Kd.R_alloc | apply Kd.R_drewN | apply Kd.R_drew)); exact Kd.R_mono HO268.out (fun _ hk => trivial)⟩, ⟨hp_ BK262.out⟩, ⟨bp_⟩⟩
  · rw [if_neg c22] at H
    have c22b0 : ((strOfNums t266).toList == (strOfNums t270).toList) = false := beq_eq_false_iff_ne.mpr c22
    have c22b1 : ((strOfNums t266).toList != (strOfNums t270).toList) = true := bne_iff_ne.mpr c22
    (first | rw [c22b0] | (simp only [i64_w, i32_w]; rw [c22b0]) | skip)
    have H' := Aside0.mk H
    clear H
    have hcv35 := own_string (P := Try.prog) Try.underlying27 Try.underlying5 Try.underlying9 (Kd.own_of_R HO268.out)
    have hcv36 := own_string (P := Try.prog) Try.underlying27 Try.underlying5 Try.underlying9 (Kd.own_of_R HO272.out)
    go_wp2
    go_meet
    case rel => exact ⟨_, (true), (by first | rfl | (simp; done) | (simp [*]; done)), H', ⟨by first | omega | exact Nat.le_refl _⟩, ⟨rp_ HO265.out⟩, ⟨by (with_reducible repeat (first | apply Kd.R_alloc | apply Kd.R_drewN | apply Kd.R_drew)); exact Kd.R_mono HO268.out (fun _ hk => trivial)⟩, ⟨hp_ BK262.out⟩, ⟨bp_⟩⟩
 case rest =>
  clear HC10
  try clear c1
  try clear c2
  try clear p2
  try clear hcv2
  try clear c3
  try clear hcv3
  try clear c4
  try clear p6
  try clear c8
  try clear c9
  try clear c10
  try clear c11
  try clear c22
  try clear c22b0
  try clear c22b1
  try clear c23
  try clear c23b0
  try clear c23b1
  try clear c24
  try clear c24b0
  try clear c24b1
  try clear hcv26
  try clear hcv27
  try clear hcv31
  try clear hcv32
  try clear hcv33
  try clear hcv34
  try clear hcv35
  try clear hcv36
  try clear hcz12_0
  try clear hcz12_1
  try clear hcz12_2
  try clear hcz12_3
  try clear hcz15_0
  try clear hcz15_1
  try clear hcz15_2
  try clear hcz15_3
  try clear hcz17_0
  try clear hcz17_1
  try clear hcz17_2
  try clear hcz17_3
  try clear hcz20_0
  try clear hcz20_1
  try clear hcz20_2
  try clear hcz20_3
  try clear hcz29_0
  try clear hcz29_1
  try clear hcz29_2
  try clear hcz29_3
  try clear hfz12_0
  try clear hfz12_1
  try clear hfz12_2
  try clear hfz12_3
  try clear hfz15_0
  try clear hfz15_1
  try clear hfz15_2
  try clear hfz15_3
  try clear hfz17_0
  try clear hfz17_1
  try clear hfz17_2
  try clear hfz17_3
  try clear hfz20_0
  try clear hfz20_1
  try clear hfz20_2
  try clear hfz20_3
  try clear hfz29_0
  try clear hfz29_1
  try clear hfz29_2
  try clear hfz29_3
  obtain ⟨kq, x71_9, rfl, HA, HJ9, HO_12, HO_13, BK262, HB⟩ := hcut
  cases kq with
  | zero => exact absurd HA.out (by simp [chequerlaw09_RawWrites.j0])
  | succ kj9 =>
   have H := HA.out
   clear HA
   simp only [chequerlaw09_RawWrites.j0] at H
   by_cases c37 : x71_9 = true
   · subst c37
     have H1 : (some false) = some r := by rw [if_pos rfl] at H; exact H
     clear H
     have H := H1
     clear H1
     obtain rfl := Option.some.inj H
     go_wp2
     go_ret
     exact ⟨by first | rfl | (simp [errW_none, errW_some] <;> rfl) | (simp [*, errW_none, errW_some] <;> rfl), bp_⟩
   · replace c37 := Bool.eq_false_iff.mpr c37
     subst c37
     have H1 : (if ([] : List Int).length + t266.length < 140737488355328 then ((some (([] : List Int) ++ t266 : List Int)).bind fun y275 => (if 0 ≤ (mn (l4.length : Int) 5) then (if (mn (l4.length : Int) 5) ≤ (l4.length : Int) then (if y275.length + (l4.take ((mn (l4.length : Int) 5) : Int).toNat).length < 140737488355328 then ((raw_Read.f (y275 ++ (l4.take ((mn (l4.length : Int) 5) : Int).toNat)) t258 t259 (wrap64 (1 + (Int.tmod t260 4))) t261).bind fun bt282 => (if 0 ≤ (wrap64 ((t266.length : Int) - 1)) then (if (wrap64 ((t266.length : Int) - 1)) ≤ (t266.length : Int) then ((raw_Read.f (t266.take ((wrap64 ((t266.length : Int) - 1)) : Int).toNat) t258 t259 (wrap64 (1 + (Int.tmod t260 4))) t261).bind fun bt290 => (if bt282.2 = 0 then ((chequerref03_SameRow.f kj9 bt282.1 t263).bind fun t294 => (if t294 = true then (if bt290.2 = 6 then (chequerlaw09_RawWrites.j1 kj9 a2 a3 t263 ((bt290.1.length : Int) != 0) t258 t259 (wrap64 (1 + (Int.tmod t260 4))) t261) else (chequerlaw09_RawWrites.j1 kj9 a2 a3 t263 true t258 t259 (wrap64 (1 + (Int.tmod t260 4))) t261)) else (chequerlaw09_RawWrites.j1 kj9 a2 a3 t263 true t258 t259 (wrap64 (1 + (Int.tmod t260 4))) t261))) else (chequerlaw09_RawWrites.j1 kj9 a2 a3 t263 true t258 t259 (wrap64 (1 + (Int.tmod t260 4))) t261))) else (none)) else (none))) else (none)) else (none)) else (none))) else (none)) = some r := by rw [if_neg (show ¬ (false = true) by decide)] at H; exact H
     clear H
     have H := H1
     clear H1
     by_cases c38 : ([] : List Int).length + t266.length < 140737488355328
     · rw [if_pos c38] at H
       have LMc38 := Aside0.mk c38
       clear c38
       obtain ⟨y275, hy275⟩ : ∃ y_ : List Int, y_ = (([] : List Int) ++ t266) := ⟨_, rfl⟩
       replace H : (if 0 ≤ (mn (l4.length : Int) 5) then (if (mn (l4.length : Int) 5) ≤ (l4.length : Int) then (if y275.length + (l4.take ((mn (l4.length : Int) 5) : Int).toNat).length < 140737488355328 then ((raw_Read.f (y275 ++ (l4.take ((mn (l4.length : Int) 5) : Int).toNat)) t258 t259 (wrap64 (1 + (Int.tmod t260 4))) t261).bind fun bt282 => (if 0 ≤ (wrap64 ((t266.length : Int) - 1)) then (if (wrap64 ((t266.length : Int) - 1)) ≤ (t266.length : Int) then ((raw_Read.f (t266.take ((wrap64 ((t266.length : Int) - 1)) : Int).toNat) t258 t259 (wrap64 (1 + (Int.tmod t260 4))) t261).bind fun bt290 => (if bt282.2 = 0 then ((chequerref03_SameRow.f kj9 bt282.1 t263).bind fun t294 => (if t294 = true then (if bt290.2 = 6 then (chequerlaw09_RawWrites.j1 kj9 a2 a3 t263 ((bt290.1.length : Int) != 0) t258 t259 (wrap64 (1 + (Int.tmod t260 4))) t261) else (chequerlaw09_RawWrites.j1 kj9 a2 a3 t263 true t258 t259 (wrap64 (1 + (Int.tmod t260 4))) t261)) else (chequerlaw09_RawWrites.j1 kj9 a2 a3 t263 true t258 t259 (wrap64 (1 + (Int.tmod t260 4))) t261))) else (chequerlaw09_RawWrites.j1 kj9 a2 a3 t263 true t258 t259 (wrap64 (1 + (Int.tmod t260 4))) t261))) else (none)) else (none))) else (none)) else (none)) else (none)) = some r := by first | (rw [hy275]; with_reducible exact H) | (have H2_ := (Option.bind_some _ _).symm.trans H; rw [hy275]; with_reducible exact H2_) | (have H2_ := (Option.bind_some _ _).symm.trans H; with_reducible exact H2_) | with_reducible exact H | (rw [hy275]; exact H) | exact H
       have Ny275 := Aside0.mk hy275
       clear hy275
       obtain ⟨ji39, hji39⟩ : ∃ j_ : Int, (mn (l4.length : Int) 5) = j_ := ⟨_, rfl⟩
       replace H : (if 0 ≤ (ji39) then (if (ji39) ≤ (l4.length : Int) then (if y275.length + (l4.take ((ji39) : Int).toNat).length < 140737488355328 then ((raw_Read.f (y275 ++ (l4.take ((ji39) : Int).toNat)) t258 t259 (wrap64 (1 + (Int.tmod t260 4))) t261).bind fun bt282 => (if 0 ≤ (wrap64 ((t266.length : Int) - 1)) then (if (wrap64 ((t266.length : Int) - 1)) ≤ (t266.length : Int) then ((raw_Read.f (t266.take ((wrap64 ((t266.length : Int) - 1)) : Int).toNat) t258 t259 (wrap64 (1 + (Int.tmod t260 4))) t261).bind fun bt290 => (if bt282.2 = 0 then ((chequerref03_SameRow.f kj9 bt282.1 t263).bind fun t294 => (if t294 = true then (if bt290.2 = 6 then (chequerlaw09_RawWrites.j1 kj9 a2 a3 t263 ((bt290.1.length : Int) != 0) t258 t259 (wrap64 (1 + (Int.tmod t260 4))) t261) else (chequerlaw09_RawWrites.j1 kj9 a2 a3 t263 true t258 t259 (wrap64 (1 + (Int.tmod t260 4))) t261)) else (chequerlaw09_RawWrites.j1 kj9 a2 a3 t263 true t258 t259 (wrap64 (1 + (Int.tmod t260 4))) t261))) else (chequerlaw09_RawWrites.j1 kj9 a2 a3 t263 true t258 t259 (wrap64 (1 + (Int.tmod t260 4))) t261))) else (none)) else (none))) else (none)) else (none)) else (none)) = some r := by first | (rw [hji39] at H; exact H) | (simp only [hji39] at H ⊢; exact H)
       have hji39_ : (if 5 < (l4.length : Int) then 5 else (l4.length : Int)) = ji39 := hji39
       by_cases c40 : 0 ≤ (ji39)
       · rw [if_pos c40] at H
         have c40b0 := eq_true c40
         have c40b1 : decide (0 ≤ (ji39)) = true := decide_eq_true c40
         clear c40
         by_cases c41 : (ji39) ≤ (l4.length : Int)
         · rw [if_pos c41] at H
           have c41b0 := eq_true c41
           have c41b1 : decide ((ji39) ≤ (l4.length : Int)) = true := decide_eq_true c41
           clear c41
           by_cases c42 : y275.length + (l4.take ((ji39) : Int).toNat).length < 140737488355328
           · rw [if_pos c42] at H
             have LMc42 := Aside0.mk c42
             clear c42
             obtain ⟨y279, hy279⟩ : ∃ y_ : List Int, y_ = (y275 ++ (l4.take ((ji39) : Int).toNat)) := ⟨_, rfl⟩
             replace H : ((raw_Read.f y279 t258 t259 (wrap64 (1 + (Int.tmod t260 4))) t261).bind fun bt282 => (if 0 ≤ (wrap64 ((t266.length : Int) - 1)) then (if (wrap64 ((t266.length : Int) - 1)) ≤ (t266.length : Int) then ((raw_Read.f (t266.take ((wrap64 ((t266.length : Int) - 1)) : Int).toNat) t258 t259 (wrap64 (1 + (Int.tmod t260 4))) t261).bind fun bt290 => (if bt282.2 = 0 then ((chequerref03_SameRow.f kj9 bt282.1 t263).bind fun t294 => (if t294 = true then (if bt290.2 = 6 then (chequerlaw09_RawWrites.j1 kj9 a2 a3 t263 ((bt290.1.length : Int) != 0) t258 t259 (wrap64 (1 + (Int.tmod t260 4))) t261) else (chequerlaw09_RawWrites.j1 kj9 a2 a3 t263 true t258 t259 (wrap64 (1 + (Int.tmod t260 4))) t261)) else (chequerlaw09_RawWrites.j1 kj9 a2 a3 t263 true t258 t259 (wrap64 (1 + (Int.tmod t260 4))) t261))) else (chequerlaw09_RawWrites.j1 kj9 a2 a3 t263 true t258 t259 (wrap64 (1 + (Int.tmod t260 4))) t261))) else (none)) else (none))) = some r := by first | (rw [hy279]; with_reducible exact H) | (have H2_ := (Option.bind_some _ _).symm.trans H; rw [hy279]; with_reducible exact H2_) | (have H2_ := (Option.bind_some _ _).symm.trans H; with_reducible exact H2_) | with_reducible exact H | (rw [hy279]; exact H) | exact H
             have Ny279 := Aside0.mk hy279
             clear hy279
             replace H := Option.bind_eq_some_iff.mp H
             obtain ⟨⟨t282, t285⟩, A430, H⟩ := H
             replace H : (if 0 ≤ (wrap64 ((t266.length : Int) - 1)) then (if (wrap64 ((t266.length : Int) - 1)) ≤ (t266.length : Int) then ((raw_Read.f (t266.take ((wrap64 ((t266.length : Int) - 1)) : Int).toNat) t258 t259 (wrap64 (1 + (Int.tmod t260 4))) t261).bind fun bt290 => (if t285 = 0 then ((chequerref03_SameRow.f kj9 t282 t263).bind fun t294 => (if t294 = true then (if bt290.2 = 6 then (chequerlaw09_RawWrites.j1 kj9 a2 a3 t263 ((bt290.1.length : Int) != 0) t258 t259 (wrap64 (1 + (Int.tmod t260 4))) t261) else (chequerlaw09_RawWrites.j1 kj9 a2 a3 t263 true t258 t259 (wrap64 (1 + (Int.tmod t260 4))) t261)) else (chequerlaw09_RawWrites.j1 kj9 a2 a3 t263 true t258 t259 (wrap64 (1 + (Int.tmod t260 4))) t261))) else (chequerlaw09_RawWrites.j1 kj9 a2 a3 t263 true t258 t259 (wrap64 (1 + (Int.tmod t260 4))) t261))) else (none)) else (none)) = some r := H
             have A43 := Aside0.mk A430
             clear A430
             obtain ⟨ji44, hji44⟩ : ∃ j_ : Int, (wrap64 ((t266.length : Int) - 1)) = j_ := ⟨_, rfl⟩
             replace H : (if 0 ≤ (ji44) then (if (ji44) ≤ (t266.length : Int) then ((raw_Read.f (t266.take ((ji44) : Int).toNat) t258 t259 (wrap64 (1 + (Int.tmod t260 4))) t261).bind fun bt290 => (if t285 = 0 then ((chequerref03_SameRow.f kj9 t282 t263).bind fun t294 => (if t294 = true then (if bt290.2 = 6 then (chequerlaw09_RawWrites.j1 kj9 a2 a3 t263 ((bt290.1.length : Int) != 0) t258 t259 (wrap64 (1 + (Int.tmod t260 4))) t261) else (chequerlaw09_RawWrites.j1 kj9 a2 a3 t263 true t258 t259 (wrap64 (1 + (Int.tmod t260 4))) t261)) else (chequerlaw09_RawWrites.j1 kj9 a2 a3 t263 true t258 t259 (wrap64 (1 + (Int.tmod t260 4))) t261))) else (chequerlaw09_RawWrites.j1 kj9 a2 a3 t263 true t258 t259 (wrap64 (1 + (Int.tmod t260 4))) t261))) else (none)) else (none)) = some r := by first | (rw [hji44] at H; exact H) | (simp only [hji44] at H ⊢; exact H)
             (try rw [hji44] at A43)
             have hji44w : (IntKind.i64.wrap ((t266.length : Int) - 1)) = ji44 := (i64_w _).trans hji44
             by_cases c45 : 0 ≤ (ji44)
             · rw [if_pos c45] at H
               have c45b0 := eq_true c45
               have c45b1 : decide (0 ≤ (ji44)) = true := decide_eq_true c45
               clear c45
               by_cases c46 : (ji44) ≤ (t266.length : Int)
               · rw [if_pos c46] at H
                 have c46b0 := eq_true c46
                 have c46b1 : decide ((ji44) ≤ (t266.length : Int)) = true := decide_eq_true c46
                 clear c46
                 obtain ⟨y286, hy286⟩ : ∃ y_ : List Int, y_ = (t266.take ((ji44) : Int).toNat) := ⟨_, rfl⟩
                 replace H : ((raw_Read.f y286 t258 t259 (wrap64 (1 + (Int.tmod t260 4))) t261).bind fun bt290 => (if t285 = 0 then ((chequerref03_SameRow.f kj9 t282 t263).bind fun t294 => (if t294 = true then (if bt290.2 = 6 then (chequerlaw09_RawWrites.j1 kj9 a2 a3 t263 ((bt290.1.length : Int) != 0) t258 t259 (wrap64 (1 + (Int.tmod t260 4))) t261) else (chequerlaw09_RawWrites.j1 kj9 a2 a3 t263 true t258 t259 (wrap64 (1 + (Int.tmod t260 4))) t261)) else (chequerlaw09_RawWrites.j1 kj9 a2 a3 t263 true t258 t259 (wrap64 (1 + (Int.tmod t260 4))) t261))) else (chequerlaw09_RawWrites.j1 kj9 a2 a3 t263 true t258 t259 (wrap64 (1 + (Int.tmod t260 4))) t261))) = some r := by first | (rw [hy286]; with_reducible exact H) | (have H2_ := (Option.bind_some _ _).symm.trans H; rw [hy286]; with_reducible exact H2_) | (have H2_ := (Option.bind_some _ _).symm.trans H; with_reducible exact H2_) | with_reducible exact H | (rw [hy286]; exact H) | exact H
                 have Ny286 := Aside0.mk hy286
                 clear hy286
                 replace H := Option.bind_eq_some_iff.mp H
                 obtain ⟨⟨t290, t293⟩, A470, H⟩ := H
                 replace H : (if t285 = 0 then ((chequerref03_SameRow.f kj9 t282 t263).bind fun t294 => (if t294 = true then (if t293 = 6 then (chequerlaw09_RawWrites.j1 kj9 a2 a3 t263 ((t290.length : Int) != 0) t258 t259 (wrap64 (1 + (Int.tmod t260 4))) t261) else (chequerlaw09_RawWrites.j1 kj9 a2 a3 t263 true t258 t259 (wrap64 (1 + (Int.tmod t260 4))) t261)) else (chequerlaw09_RawWrites.j1 kj9 a2 a3 t263 true t258 t259 (wrap64 (1 + (Int.tmod t260 4))) t261))) else (chequerlaw09_RawWrites.j1 kj9 a2 a3 t263 true t258 t259 (wrap64 (1 + (Int.tmod t260 4))) t261)) = some r := H
                 have A47 := Aside0.mk A470
                 clear A470
                 have HC48 := Aside0.mk H
                 clear H
                 obtain ⟨Ao50, co50, eo50⟩ := Kd.R_slice HO_13.out
                 subst eo50
                 try go_wp2_with (first | ((with_reducible refine gate_builtin (b := .append) (xs := #[.tmp 72, .tmp 73]) rfl ?_); (try (refine gate_guard (by rfl) ?_; dsimp only)); at_builtin; refine Kd.R_append_rows (Kd.int .u8) (w0 := w) w.heap.size rfl (.tmp 72) (.tmp 73) 27 5 (.int .u8 0) 1 rfl Try.underlying27 info5 rfl (by decide) (by omega) (.slice none 0 0) ([] : List Int) t266 _ _ _ (fun k_ => some k_ ≠ (.slice Ao50 t266.length co50 : Value).ownBlock) (fun _ => False) rfl rfl ?aO ?aR (fun _ _ h => h) (fun _ h => h.elim) ?aF ?aB ?aS ?aL ?_; (case aR => repeat (first | exact (Kd.R_reads' HO_13.out).2.2 | (with_reducible refine Kd.C_alloc ?_ _) | (with_reducible refine Kd.C_drewN ?_ _) | (with_reducible refine Kd.C_drew ?_))); (case aB => exact bp_); (case aF => exact (fun k_ hk => Kd.fresh' (Kd.R_lt (rp_ HO_13.out)) k_ hk)); (case aO => exact ((Kd.R_nil _ _ _ _ (fun k_ => some k_ ≠ (.slice Ao50 t266.length co50 : Value).ownBlock)))); (case aS => exact (below_size bp_)); (case aL => have := LMc38.out; omega); intro v276 w49 ho hb hg hat; rw [← Ny275.out] at ho; replace HO_12 := Aside0.mk (Kd.R_grown (rp_ HO_12.out) hg (fun _ _ => by simp [Value.ownBlock])); replace HO_13 := Aside0.mk (Kd.R_after (Kd.R_apart_nil (rp_ HO_13.out)) hg hat); replace BK262 := Aside0.mk (blk_grown (g := gb262) (o := .cells #[.int .i64 t258, .int .i64 t259, .int .i64 (wrap64 (1 + (Int.tmod t260 4))), .int .i64 t261] 23 (0, 0)) (hp_ BK262.out) hg (by simp [Value.ownBlock])); replace HB := Aside0.mk (hb); have HO277 := Aside0.mk (ho); clear ho hb hg hat; obtain ⟨i051, hi051, _, hsz51, _⟩ := info_parts info5; obtain ⟨hcut51, hA51, hC51⟩ := print_take_of (P := Try.prog) (Value.int .u8) 0 27 5 .i64 Try.underlying27 hi051 hsz51 A4 c4 l4 (ji39) (of_decide_eq_true (by first | (with_reducible assumption) | assumption)) (of_decide_eq_true (by first | (with_reducible assumption) | assumption)) HC4.out; have HR278 := Aside0.mk (Kd.C_of_reads (h1 := fun _ => rfl) (hA51 _ (Kd.reads_of_C HR4.out))); have HC278 := Aside0.mk hC51; clear hA51 hC51 hi051 hsz51) | ((with_reducible refine gate_builtin (b := .append) (xs := #[.tmp 75, .tmp 80]) rfl ?_); (try (refine gate_guard (by rfl) ?_; dsimp only)); at_builtin; refine Kd.R_append_rows (Kd.int .u8) (w0 := w) w.heap.size rfl (.tmp 75) (.tmp 80) 27 5 (.int .u8 0) 1 rfl Try.underlying27 info5 rfl (by decide) (by omega) v276 y275 (l4.take ((ji39) : Int).toNat) _ _ _ (fun k_ => some k_ ≠ (.slice Ao50 t266.length co50 : Value).ownBlock) (fun _ => False) rfl rfl ?aO ?aR (fun _ _ h => h) (fun _ h => h.elim) ?aF ?aB ?aS ?aL ?_; (case aR => refine Mo.C_len (d := (Kd.int .u8)) (show (l4.take ((ji39) : Int).toNat).length = (ji39).toNat from (by rw [List.length_take]; have h_ : ((ji39) : Int) ≤ (l4.length : Int) := (by first | exact of_decide_eq_true (by first | (with_reducible assumption) | assumption) | (have h2_ := hji39_; (split at h2_ <;> omega))); omega)) ?_; repeat (first | exact (Kd.C_below HR278.out HB.out) | (with_reducible refine Kd.C_alloc ?_ _) | (with_reducible refine Kd.C_drewN ?_ _) | (with_reducible refine Kd.C_drew ?_))); (case aB => exact bp_); (case aF => exact (fun k_ hk => Kd.fresh' (Kd.R_lt (rp_ HO_13.out)) k_ hk)); (case aO => exact (rp_ HO277.out)); (case aS => exact (below_size bp_)); (case aL => have := LMc42.out; have hlx_ := (show (l4.take ((ji39) : Int).toNat).length = (ji39).toNat from (by rw [List.length_take]; have h_ : ((ji39) : Int) ≤ (l4.length : Int) := (by first | exact of_decide_eq_true (by first | (with_reducible assumption) | assumption) | (have h2_ := hji39_; (split at h2_ <;> omega))); omega)); omega); intro v280 w52 ho hb hg hat; rw [← Ny279.out] at ho; replace HO_12 := Aside0.mk (Kd.R_over' (rp_ HO_12.out) (Kd.R_typed (rp_ HO277.out)) (by decide) hg); replace HO_13 := Aside0.mk (Kd.R_after (ok := (fun _ => True)) (rp_ HO_13.out) hg hat); replace BK262 := Aside0.mk (blk_grown (g := gb262) (o := .cells #[.int .i64 t258, .int .i64 t259, .int .i64 (wrap64 (1 + (Int.tmod t260 4))), .int .i64 t261] 23 (0, 0)) (hp_ BK262.out) hg (Kd.R_ne HO277.out BK262.out (by decide))); replace HB := Aside0.mk (hb); have HO281 := Aside0.mk (ho); clear HO277; clear ho hb hg hat; have hcz53_0 : w52.cell? ⟨gb262, 0, none⟩ = some (.int .i64 t258) := (blk_cell BK262.out 0).trans rfl; have hcz53_1 : w52.cell? ⟨gb262, 1, none⟩ = some (.int .i64 t259) := (blk_cell BK262.out 1).trans rfl; have hcz53_2 : w52.cell? ⟨gb262, 2, none⟩ = some (.int .i64 (wrap64 (1 + (Int.tmod t260 4)))) := (blk_cell BK262.out 2).trans rfl; have hcz53_3 : w52.cell? ⟨gb262, 3, none⟩ = some (.int .i64 t261) := (blk_cell BK262.out 3).trans rfl; have hfz53_0 := blk_frozen BK262.out 0; have hfz53_1 := blk_frozen BK262.out 1; have hfz53_2 := blk_frozen BK262.out 2; have hfz53_3 := blk_frozen BK262.out 3; obtain ⟨Ao54, co54, eo54⟩ := Kd.R_slice HO281.out; subst eo54) | ((with_reducible refine gate_callee (f := 13) rfl ?_); refine goQ_ (some 85) Try.func13 #[.slice Ao54 y279.length co54, .agg #[.int .i64 t258, .int .i64 t259, .int .i64 (wrap64 (1 + (Int.tmod t260 4))), .int .i64 t261]] ?_; (with_reducible refine (raw_Read.calls _ _ y279 t258 t259 (wrap64 (1 + (Int.tmod t260 4))) t261 t282 t285 _ ?side1 ?side2 A43.out).mono ?_); (case side1 => exact cp_ (Kd.R_reads' HO281.out).2.2); (case side2 => exact (Kd.R_reads' HO281.out).2.1); rintro e w55 ⟨v283, rfl, ho0, hb⟩; refine ⟨_, rfl, ?_⟩; replace HO_13 := Aside0.mk (Kd.R_below (rp_ HO_13.out) hb); replace HO281 := Aside0.mk (Kd.R_below (rp_ HO281.out) hb); have HO284 := Aside0.mk (Kd.R_lower (Kd.R_new' ho0 (Kd.R_lt (rp_ HO_12.out))) (below_size bp_)); replace HO_12 := Aside0.mk (Kd.R_elder' (rp_ HO_12.out) (Kd.R_base ho0) hb); replace BK262 := Aside0.mk (blk_below (hp_ BK262.out) hb); replace HB := Aside0.mk (below_step bp_ hb); (try clear hb); (try clear hb2); (try clear hk); (try clear hi); (try clear ho0)))
                 replace HO_12 := Aside0.mk (Kd.R_drew HO_12.out)
                 replace HO_13 := Aside0.mk (Kd.R_drew HO_13.out)
                 replace HO281 := Aside0.mk (Kd.R_drew HO281.out)
                 replace HO284 := Aside0.mk (Kd.R_drew HO284.out)
                 replace BK262 := Aside0.mk (blk_drew BK262.out)
                 replace HB := Aside0.mk (below_drew1 HB.out)
                 have q57 : ((ji44) : Int) ≤ ((t266.length : Int) : Int) := of_decide_eq_true (by first | (with_reducible assumption) | assumption)
                 obtain ⟨i057, hi057, _, hsz57, _⟩ := info_parts info5
                 have hroom57 : t266.length ≤ co50 := (Kd.R_reads' HO_13.out).2.1
                 have hC57 : Kd.C (Kd.int .u8) _ Ao50 t266.length t266 := (Kd.R_reads' HO_13.out).2.2
                 have hcut57 := cut_to (P := Try.prog) 27 5 .i64 Try.underlying27 hi057 Ao50 t266.length co50 (ji44) (of_decide_eq_true (by first | (with_reducible assumption) | assumption)) q57 hroom57
                 have hr57 := Kd.C_take (m := ((ji44) : Int).toNat) hC57 (by omega)
                 have hy57 : y286.length = ((ji44) : Int).toNat := (by rw [Ny286.out, List.length_take]; omega)
                 rw [← Ny286.out] at hr57
                 rw [← hy57] at hcut57
                 have HR289 := Aside0.mk hr57
                 have HC289 := Aside0.mk (show y286.length ≤ co50 from by omega)
                 clear hr57 hC57 hroom57 hi057 hsz57
                 have KY57 := Aside0.mk hy57
                 clear hy57
                 have KL57 := Aside0.mk (show ((ji44) : Int).toNat ≤ t266.length from by omega)
                 replace q57 := eq_true q57
                 refine start_ (n := 12) (S := fun w' => w'.cell? ⟨gb262, 0, none⟩ = some (.int .i64 t258) ∧ w'.cell? ⟨gb262, 1, none⟩ = some (.int .i64 t259) ∧ w'.cell? ⟨gb262, 2, none⟩ = some (.int .i64 (wrap64 (1 + (Int.tmod t260 4)))) ∧ w'.cell? ⟨gb262, 3, none⟩ = some (.int .i64 t261)) (ds := []) #[false, false, false, false, false, false, false, false, false, false, false, false] (by kernel_rfl) rfl rfl ⟨(blk_cell BK262.out 0).trans rfl, (blk_cell BK262.out 1).trans rfl, (blk_cell BK262.out 2).trans rfl, (blk_cell BK262.out 3).trans rfl⟩ (fun hHeld => ?_); refine with_tabW chequerlaw09_RawWrites.tab12 chequerlaw09_RawWrites.bits12 (fun HT_ HW_ => ?_)
                 generalize w55.drew = w56 at HO_12 HO_13 HO281 HO284 BK262 HB HR289 hHeld ⊢
                 refine pur_ (i := 0) (N := some 89) #[true, false, false, false, false, false, false, false, false, false, false, false] (any_of HT_.out (by kernel_rfl)) ?_
                 refine pur_ (i := 1) (N := some 90) #[true, true, false, false, false, false, false, false, false, false, false, false] (any_of HT_.out (by kernel_rfl)) ?_
                 refine pur_ (i := 2) (N := some 91) #[true, true, true, false, false, false, false, false, false, false, false, false] (any_of HT_.out (by kernel_rfl)) ?_
                 refine pur_ (i := 3) (N := some 92) #[true, true, true, true, false, false, false, false, false, false, false, false] (any_of HT_.out (by kernel_rfl)) ?_
                 refine pur_ (i := 4) (N := some 93) #[true, true, true, true, true, false, false, false, false, false, false, false] (any_of HT_.out (by kernel_rfl)) ?_
                 refine take_ (i := 5) (N := some 94) (v := ?_) (a' := ?_) #[true, true, true, true, true, true, false, false, false, false, false, false] rfl rfl (take_ofW HT_.out HW_.out (by kernel_rfl)) (fun _ _ _ h => h) (Or.inl ⟨by rfl, ?_⟩) hHeld ?_ ?_
                 rotate_left
                 · rintro w' ⟨s0, s1, s2, s3⟩
                   go_simp
                   with_reducible rfl
                 rotate_left
                 · simp only [Act.put, List.setIfInBounds_toArray, List.set_cons_zero, List.set_cons_succ, i64_w, i32_w]
                   rfl
                 refine one_ (i := 6) (N := some 95) #[true, true, true, true, true, true, true, false, false, false, false, false] rfl rfl (one_of HT_.out (by kernel_rfl)) (by decide) (fun K hK => ?_)
                 refine goes_ Try.func13 (by kernel_rfl) rfl #[.slice Ao50 y286.length co50, .agg #[.int .i64 t258, .int .i64 t259, .int .i64 (wrap64 (1 + (Int.tmod t260 4))), .int .i64 t261]] (by rfl) rfl rfl (by (try simp only [List.map_toArray, List.map_cons, List.map_nil]); first | done | rfl | (simp only [List.length_drop, List.length_take]; rfl)) ?_
                 with_reducible refine (raw_Read.calls _ _ y286 t258 t259 (wrap64 (1 + (Int.tmod t260 4))) t261 t290 t293 _ ?side1 ?side2 A47.out).mono ?_
                 (case side1 => repeat (first | exact (by repeat (first | (with_reducible exact HR289.out) | (with_reducible refine Kd.C_alloc ?_ _) | (with_reducible refine Kd.C_drewN ?_ _) | (with_reducible refine Kd.C_drew ?_) | exact HR289.out)) | (with_reducible refine Kd.C_alloc ?_ _) | (with_reducible refine Kd.C_drewN ?_ _) | (with_reducible refine Kd.C_drew ?_)))
                 (case side2 => exact HC289.out)
                 rintro e w58 ⟨v291, rfl, ho0, hb⟩
                 refine ⟨_, rfl, ?_⟩
                 replace HO_13 := Aside0.mk (Kd.R_below (rp_ HO_13.out) hb)
                 replace HO281 := Aside0.mk (Kd.R_below (rp_ HO281.out) hb)
                 have HO292 := Aside0.mk (Kd.R_lower (Kd.R_new' (Kd.R_new' ho0 (Kd.R_lt (rp_ HO_12.out))) (Kd.R_lt (rp_ HO284.out))) (below_size bp_))
                 replace HO_12 := Aside0.mk (Kd.R_elder' (rp_ HO_12.out) (Kd.R_base ho0) hb)
                 replace HO284 := Aside0.mk (Kd.R_elder' (rp_ HO284.out) (Kd.R_base ho0) hb)
                 replace BK262 := Aside0.mk (blk_below (hp_ BK262.out) hb)
                 replace HR289 := Aside0.mk (Kd.C_below (by repeat (first | (with_reducible exact HR289.out) | (with_reducible refine Kd.C_alloc ?_ _) | (with_reducible refine Kd.C_drewN ?_ _) | (with_reducible refine Kd.C_drew ?_) | exact HR289.out)) hb)
                 replace HB := Aside0.mk (below_step bp_ hb)
                 (try clear hb)
                 (try clear hb2)
                 (try clear hk)
                 (try clear hi)
                 (try clear ho0)
                 refine hK.out _ _ ⟨(blk_cell BK262.out 0).trans rfl, (blk_cell BK262.out 1).trans rfl, (blk_cell BK262.out 2).trans rfl, (blk_cell BK262.out 3).trans rfl⟩ (fun hHeld => ?_)
                 clear hK K
                 refine norm_ (a' := ?_) ?_ ?_
                 rotate_left
                 · show Act.put _ (some 95) _ = _
                   simp only [Act.put, List.setIfInBounds_toArray, List.set_cons_zero, List.set_cons_succ, i64_w, i32_w]
                   rfl
                 refine pur_ (i := 7) (N := some 88) #[true, true, true, true, true, true, true, true, false, false, false, false] (any_of HT_.out (by kernel_rfl)) ?_
                 refine pur_ (i := 8) (N := some 96) #[true, true, true, true, true, true, true, true, true, false, false, false] (any_of HT_.out (by kernel_rfl)) ?_
                 refine pur_ (i := 9) (N := some 97) #[true, true, true, true, true, true, true, true, true, true, false, false] (any_of HT_.out (by kernel_rfl)) ?_
                 refine pur_ (i := 10) (N := some 20) #[true, true, true, true, true, true, true, true, true, true, true, false] (any_of HT_.out (by kernel_rfl)) ?_
                 refine pur_ (i := 11) (N := some 21) #[true, true, true, true, true, true, true, true, true, true, true, true] (any_of HT_.out (by kernel_rfl)) ?_
                 refine done_ (done_of HT_.out (by kernel_rfl)) ?_
                 go_upto_region 13 with (fail)
                 go_cut [114] (fun v114 wc => ∃ (kq : Nat) (x114_47 : Bool), v114 = .bool x114_47 ∧ Aside0 (chequerlaw09_RawWrites.j1 kq a2 a3 t263 x114_47 t258 t259 (wrap64 (1 + (Int.tmod t260 4))) t261 = some r) ∧ Aside0 (kq ≤ kj9) ∧ Aside0 (Kd.R (Kd.int .u64) 26 wc w.heap.size (fun _ => True) (.slice Ao18 t263.length co18) t263) ∧ Aside0 (wc.heap[gb262]? = some (.cells #[.int .i64 t258, .int .i64 t259, .int .i64 (wrap64 (1 + (Int.tmod t260 4))), .int .i64 t261] 23 (0, 0))) ∧ Aside0 (Kd.C (Kd.int .u8) wc Ao50 y286.length y286) ∧ Aside0 (Below w.heap.size w wc))
                 case first =>
                  have H := HC48.out
                  clear HC48
                  by_cases c59 : t285 = 0
                  · rw [if_pos c59] at H
                    have c59b0 : (t285 == 0) = true := beq_iff_eq.mpr c59
                    have c59b1 : (t285 != 0) = false := bne_eq_false_iff_eq.mpr c59
                    clear c59
                    (first | rw [c59b0] | (simp only [i64_w, i32_w]; rw [c59b0]) | skip)
                    replace H := Option.bind_eq_some_iff.mp H
                    obtain ⟨t294, A600, H⟩ := H
                    replace H : (if t294 = true then (if t293 = 6 then (chequerlaw09_RawWrites.j1 kj9 a2 a3 t263 ((t290.length : Int) != 0) t258 t259 (wrap64 (1 + (Int.tmod t260 4))) t261) else (chequerlaw09_RawWrites.j1 kj9 a2 a3 t263 true t258 t259 (wrap64 (1 + (Int.tmod t260 4))) t261)) else (chequerlaw09_RawWrites.j1 kj9 a2 a3 t263 true t258 t259 (wrap64 (1 + (Int.tmod t260 4))) t261)) = some r := H
                    have A60 := Aside0.mk A600
                    clear A600
                    by_cases c61 : t294 = true
                    · subst c61
                      have H1 : (if t293 = 6 then (chequerlaw09_RawWrites.j1 kj9 a2 a3 t263 ((t290.length : Int) != 0) t258 t259 (wrap64 (1 + (Int.tmod t260 4))) t261) else (chequerlaw09_RawWrites.j1 kj9 a2 a3 t263 true t258 t259 (wrap64 (1 + (Int.tmod t260 4))) t261)) = some r := by rw [if_pos rfl] at H; exact H
                      clear H
                      have H := H1
                      clear H1
                      by_cases c62 : t293 = 6
                      · rw [if_pos c62] at H
                        have c62b0 : (t293 == 6) = true := beq_iff_eq.mpr c62
                        have c62b1 : (t293 != 6) = false := bne_eq_false_iff_eq.mpr c62
                        clear c62
                        have H' := Aside0.mk H
                        clear H
                        obtain ⟨Ao63, co63, eo63⟩ := Kd.R_slice HO284.out
                        subst eo63
                        go_wp2_with (first | (go_at_call 14; (with_reducible refine (chequerref03_SameRow.calls kj9 _ _ t282 _ _ t263 true _ ?side1 ?side2 ?side3 ?side4 A60.out).mono ?_); (case side1 => exact cp_ (Kd.R_reads' HO284.out).2.2); (case side2 => exact (Kd.R_reads' HO284.out).2.1); (case side3 => exact cp_ (Kd.R_reads' HO_12.out).2.2); (case side4 => exact (Kd.R_reads' HO_12.out).2.1); rintro e w' ⟨rfl, ⟨nd, rfl⟩⟩; obtain ⟨Ao64, co64, eo64⟩ := Kd.R_slice HO292.out; subst eo64))
                        go_meet
                        case rel => exact ⟨_, (((t290.length : Int) != 0)), (by first | rfl | (simp; done) | (simp [*]; done)), H', ⟨by have := HJ9.out; first | omega | exact Nat.le_refl _⟩, ⟨by (with_reducible repeat (first | apply Kd.R_alloc | apply Kd.R_drewN | apply Kd.R_drew)); exact Kd.R_mono HO_12.out (fun _ hk => trivial)⟩, ⟨hp_ BK262.out⟩, ⟨by repeat (first | (with_reducible exact HR289.out) | (with_reducible refine Kd.C_alloc ?_ _) | (with_reducible refine Kd.C_drewN ?_ _) | (with_reducible refine Kd.C_drew ?_) | exact HR289.out)⟩, ⟨bp_⟩⟩
                      · rw [if_neg c62] at H
                        have c62b0 : (t293 == 6) = false := beq_eq_false_iff_ne.mpr c62
                        have c62b1 : (t293 != 6) = true := bne_iff_ne.mpr c62
                        have H' := Aside0.mk H
                        clear H
                        obtain ⟨Ao65, co65, eo65⟩ := Kd.R_slice HO284.out
                        subst eo65
                        go_wp2_with (first | (go_at_call 14; (with_reducible refine (chequerref03_SameRow.calls kj9 _ _ t282 _ _ t263 true _ ?side1 ?side2 ?side3 ?side4 A60.out).mono ?_); (case side1 => exact cp_ (Kd.R_reads' HO284.out).2.2); (case side2 => exact (Kd.R_reads' HO284.out).2.1); (case side3 => exact cp_ (Kd.R_reads' HO_12.out).2.2); (case side4 => exact (Kd.R_reads' HO_12.out).2.1); rintro e w' ⟨rfl, ⟨nd, rfl⟩⟩))
                        go_meet
                        case rel => exact ⟨_, (true), (by first | rfl | (simp; done) | (simp [*]; done)), H', ⟨by have := HJ9.out; first | omega | exact Nat.le_refl _⟩, ⟨by (with_reducible repeat (first | apply Kd.R_alloc | apply Kd.R_drewN | apply Kd.R_drew)); exact Kd.R_mono HO_12.out (fun _ hk => trivial)⟩, ⟨hp_ BK262.out⟩, ⟨by repeat (first | (with_reducible exact HR289.out) | (with_reducible refine Kd.C_alloc ?_ _) | (with_reducible refine Kd.C_drewN ?_ _) | (with_reducible refine Kd.C_drew ?_) | exact HR289.out)⟩, ⟨bp_⟩⟩
                    · replace c61 := Bool.eq_false_iff.mpr c61
                      subst c61
                      have H1 : (chequerlaw09_RawWrites.j1 kj9 a2 a3 t263 true t258 t259 (wrap64 (1 + (Int.tmod t260 4))) t261) = some r := by rw [if_neg (show ¬ (false = true) by decide)] at H; exact H
                      clear H
                      have H := H1
                      clear H1
                      have H' := Aside0.mk H
                      clear H
                      obtain ⟨Ao66, co66, eo66⟩ := Kd.R_slice HO284.out
                      subst eo66
                      go_wp2_with (first | (go_at_call 14; (with_reducible refine (chequerref03_SameRow.calls kj9 _ _ t282 _ _ t263 false _ ?side1 ?side2 ?side3 ?side4 A60.out).mono ?_); (case side1 => exact cp_ (Kd.R_reads' HO284.out).2.2); (case side2 => exact (Kd.R_reads' HO284.out).2.1); (case side3 => exact cp_ (Kd.R_reads' HO_12.out).2.2); (case side4 => exact (Kd.R_reads' HO_12.out).2.1); rintro e w' ⟨rfl, ⟨nd, rfl⟩⟩))
                      go_meet
                      case rel => exact ⟨_, (true), (by first | rfl | (simp; done) | (simp [*]; done)), H', ⟨by have := HJ9.out; first | omega | exact Nat.le_refl _⟩, ⟨by (with_reducible repeat (first | apply Kd.R_alloc | apply Kd.R_drewN | apply Kd.R_drew)); exact Kd.R_mono HO_12.out (fun _ hk => trivial)⟩, ⟨hp_ BK262.out⟩, ⟨by repeat (first | (with_reducible exact HR289.out) | (with_reducible refine Kd.C_alloc ?_ _) | (with_reducible refine Kd.C_drewN ?_ _) | (with_reducible refine Kd.C_drew ?_) | exact HR289.out)⟩, ⟨bp_⟩⟩
                  · rw [if_neg c59] at H
                    have c59b0 : (t285 == 0) = false := beq_eq_false_iff_ne.mpr c59
                    have c59b1 : (t285 != 0) = true := bne_iff_ne.mpr c59
                    (first | rw [c59b0] | (simp only [i64_w, i32_w]; rw [c59b0]) | skip)
                    have H' := Aside0.mk H
                    clear H
                    go_wp2
                    go_meet
                    case rel => exact ⟨_, (true), (by first | rfl | (simp; done) | (simp [*]; done)), H', ⟨by have := HJ9.out; first | omega | exact Nat.le_refl _⟩, ⟨by (with_reducible repeat (first | apply Kd.R_alloc | apply Kd.R_drewN | apply Kd.R_drew)); exact Kd.R_mono HO_12.out (fun _ hk => trivial)⟩, ⟨hp_ BK262.out⟩, ⟨by repeat (first | (with_reducible exact HR289.out) | (with_reducible refine Kd.C_alloc ?_ _) | (with_reducible refine Kd.C_drewN ?_ _) | (with_reducible refine Kd.C_drew ?_) | exact HR289.out)⟩, ⟨bp_⟩⟩
                 case rest =>
                  clear HC48
                  try clear c1
                  try clear c2
                  try clear p2
                  try clear hcv2
                  try clear c3
                  try clear hcv3
                  try clear c4
                  try clear c5
                  try clear q5
                  try clear c6
                  try clear p6
                  try clear c8
                  try clear c9
                  try clear c10
                  try clear c11
                  try clear c13
                  try clear c22
                  try clear c22b0
                  try clear c22b1
                  try clear c23
                  try clear c23b0
                  try clear c23b1
                  try clear c24
                  try clear c24b0
                  try clear c24b1
                  try clear hcv26
                  try clear hcv27
                  try clear hcv31
                  try clear hcv32
                  try clear hcv33
                  try clear hcv34
                  try clear hcv35
                  try clear hcv36
                  try clear c37
                  try clear c38
                  try clear c40
                  try clear c40b0
                  try clear c40b1
                  try clear c41
                  try clear c41b0
                  try clear c41b1
                  try clear c42
                  try clear c45
                  try clear c45b0
                  try clear c45b1
                  try clear c46
                  try clear c46b0
                  try clear c46b1
                  try clear q57
                  try clear c59
                  try clear c59b0
                  try clear c59b1
                  try clear c61
                  try clear c62
                  try clear c62b0
                  try clear c62b1
                  try clear p64
                  try clear hcz12_0
                  try clear hcz12_1
                  try clear hcz12_2
                  try clear hcz12_3
                  try clear hcz15_0
                  try clear hcz15_1
                  try clear hcz15_2
                  try clear hcz15_3
                  try clear hcz17_0
                  try clear hcz17_1
                  try clear hcz17_2
                  try clear hcz17_3
                  try clear hcz20_0
                  try clear hcz20_1
                  try clear hcz20_2
                  try clear hcz20_3
                  try clear hcz29_0
                  try clear hcz29_1
                  try clear hcz29_2
                  try clear hcz29_3
                  try clear hcz53_0
                  try clear hcz53_1
                  try clear hcz53_2
                  try clear hcz53_3
                  try clear hfz12_0
                  try clear hfz12_1
                  try clear hfz12_2
                  try clear hfz12_3
                  try clear hfz15_0
                  try clear hfz15_1
                  try clear hfz15_2
                  try clear hfz15_3
                  try clear hfz17_0
                  try clear hfz17_1
                  try clear hfz17_2
                  try clear hfz17_3
                  try clear hfz20_0
                  try clear hfz20_1
                  try clear hfz20_2
                  try clear hfz20_3
                  try clear hfz29_0
                  try clear hfz29_1
                  try clear hfz29_2
                  try clear hfz29_3
                  try clear hfz53_0
                  try clear hfz53_1
                  try clear hfz53_2
                  try clear hfz53_3
                  try clear p2
                  try clear p6
                  try clear q57
                  obtain ⟨kq, x114_47, rfl, HA, HJ47, HO_12, BK262, HR289, HB⟩ := hcut
                  cases kq with
                  | zero => exact absurd HA.out (by simp [chequerlaw09_RawWrites.j1])
                  | succ kj47 =>
                   have H := HA.out
                   clear HA
                   simp only [chequerlaw09_RawWrites.j1] at H
                   by_cases c67 : x114_47 = true
                   · subst c67
                     have H1 : (some false) = some r := by rw [if_pos rfl] at H; exact H
                     clear H
                     have H := H1
                     clear H1
                     obtain rfl := Option.some.inj H
                     go_wp2
                     go_ret
                     exact ⟨by first | rfl | (simp [errW_none, errW_some] <;> rfl) | (simp only [← hji39, ← hji44]; first | rfl | (simp [errW_none, errW_some] <;> rfl)) | (simp [*, errW_none, errW_some] <;> rfl), bp_⟩
                   · replace c67 := Bool.eq_false_iff.mpr c67
                     subst c67
                     have H1 : ((chequerref01_Around.f a2 (t263.length : Int)).bind fun t295 => (if 0 ≤ t295 then (if t295 < (t263.length : Int) then ((some (t263.set (t295 : Int).toNat a3 : List Int)).bind fun y296 => ((raw_Write.f y296 t258 t259 (wrap64 (1 + (Int.tmod t260 4))) t261).bind fun bt297 => ((chequerref09_Write.f kj47 y296 t258 t259 (wrap64 (1 + (Int.tmod t260 4))) t261).bind fun bt301 => (if t295 ≤ (t263.length : Int) then ((raw_Write.f (y296.take (t295 : Int).toNat) t258 t259 (wrap64 (1 + (Int.tmod t260 4))) t261).bind fun bt309 => (if (strOfNums bt297.1).toList = (strOfNums bt301.1).toList then (if bt297.2 = bt301.2 then (if (bt309.1.length : Int) = 0 then (if bt309.2 = 1 then ((chequerlaw09_lives.f kj47).bind fun t313 => (some t313)) else (some false)) else (some false)) else (some false)) else (some false))) else (none))))) else (none)) else (none))) = some r := by rw [if_neg (show ¬ (false = true) by decide)] at H; exact H
                     clear H
                     have H := H1
                     clear H1
                     replace H := Option.bind_eq_some_iff.mp H
                     obtain ⟨t295, A680, H⟩ := H
                     replace H : (if 0 ≤ t295 then (if t295 < (t263.length : Int) then ((some (t263.set (t295 : Int).toNat a3 : List Int)).bind fun y296 => ((raw_Write.f y296 t258 t259 (wrap64 (1 + (Int.tmod t260 4))) t261).bind fun bt297 => ((chequerref09_Write.f kj47 y296 t258 t259 (wrap64 (1 + (Int.tmod t260 4))) t261).bind fun bt301 => (if t295 ≤ (t263.length : Int) then ((raw_Write.f (y296.take (t295 : Int).toNat) t258 t259 (wrap64 (1 + (Int.tmod t260 4))) t261).bind fun bt309 => (if (strOfNums bt297.1).toList = (strOfNums bt301.1).toList then (if bt297.2 = bt301.2 then (if (bt309.1.length : Int) = 0 then (if bt309.2 = 1 then ((chequerlaw09_lives.f kj47).bind fun t313 => (some t313)) else (some false)) else (some false)) else (some false)) else (some false))) else (none))))) else (none)) else (none)) = some r := H
                     have A68 := Aside0.mk A680
                     clear A680
                     by_cases c69 : 0 ≤ t295
                     · rw [if_pos c69] at H
                       have c69b0 : decide (0 ≤ t295) = true := decide_eq_true c69
                       clear c69
                       by_cases c70 : t295 < (t263.length : Int)
                       · rw [if_pos c70] at H
                         have c70b0 : decide (t295 < (t263.length : Int)) = true := decide_eq_true c70
                         clear c70
                         obtain ⟨y296, hy296⟩ : ∃ y_ : List Int, y_ = (t263.set (t295 : Int).toNat a3) := ⟨_, rfl⟩
                         replace H : ((raw_Write.f y296 t258 t259 (wrap64 (1 + (Int.tmod t260 4))) t261).bind fun bt297 => ((chequerref09_Write.f kj47 y296 t258 t259 (wrap64 (1 + (Int.tmod t260 4))) t261).bind fun bt301 => (if t295 ≤ (t263.length : Int) then ((raw_Write.f (y296.take (t295 : Int).toNat) t258 t259 (wrap64 (1 + (Int.tmod t260 4))) t261).bind fun bt309 => (if (strOfNums bt297.1).toList = (strOfNums bt301.1).toList then (if bt297.2 = bt301.2 then (if (bt309.1.length : Int) = 0 then (if bt309.2 = 1 then ((chequerlaw09_lives.f kj47).bind fun t313 => (some t313)) else (some false)) else (some false)) else (some false)) else (some false))) else (none)))) = some r := by first | (rw [hy296]; with_reducible exact H) | (have H2_ := (Option.bind_some _ _).symm.trans H; rw [hy296]; with_reducible exact H2_) | (have H2_ := (Option.bind_some _ _).symm.trans H; with_reducible exact H2_) | with_reducible exact H | (rw [hy296]; exact H) | exact H
                         have Ny296 := Aside0.mk hy296
                         clear hy296
                         replace H := Option.bind_eq_some_iff.mp H
                         obtain ⟨⟨t297, t300⟩, A720, H⟩ := H
                         replace H : ((chequerref09_Write.f kj47 y296 t258 t259 (wrap64 (1 + (Int.tmod t260 4))) t261).bind fun bt301 => (if t295 ≤ (t263.length : Int) then ((raw_Write.f (y296.take (t295 : Int).toNat) t258 t259 (wrap64 (1 + (Int.tmod t260 4))) t261).bind fun bt309 => (if (strOfNums t297).toList = (strOfNums bt301.1).toList then (if t300 = bt301.2 then (if (bt309.1.length : Int) = 0 then (if bt309.2 = 1 then ((chequerlaw09_lives.f kj47).bind fun t313 => (some t313)) else (some false)) else (some false)) else (some false)) else (some false))) else (none))) = some r := H
                         have A72 := Aside0.mk A720
                         clear A720
                         replace H := Option.bind_eq_some_iff.mp H
                         obtain ⟨⟨t301, t304⟩, A730, H⟩ := H
                         replace H : (if t295 ≤ (t263.length : Int) then ((raw_Write.f (y296.take (t295 : Int).toNat) t258 t259 (wrap64 (1 + (Int.tmod t260 4))) t261).bind fun bt309 => (if (strOfNums t297).toList = (strOfNums t301).toList then (if t300 = t304 then (if (bt309.1.length : Int) = 0 then (if bt309.2 = 1 then ((chequerlaw09_lives.f kj47).bind fun t313 => (some t313)) else (some false)) else (some false)) else (some false)) else (some false))) else (none)) = some r := H
                         have A73 := Aside0.mk A730
                         clear A730
                         have c74b0 := eq_true (of_decide_eq_true (by first | (with_reducible assumption) | assumption) : 0 ≤ t295)
                         by_cases c75 : t295 ≤ (t263.length : Int)
                         · rw [if_pos c75] at H
                           have c75b0 := eq_true c75
                           have c75b1 : decide (t295 ≤ (t263.length : Int)) = true := decide_eq_true c75
                           clear c75
                           obtain ⟨y305, hy305⟩ : ∃ y_ : List Int, y_ = (y296.take (t295 : Int).toNat) := ⟨_, rfl⟩
                           replace H : ((raw_Write.f y305 t258 t259 (wrap64 (1 + (Int.tmod t260 4))) t261).bind fun bt309 => (if (strOfNums t297).toList = (strOfNums t301).toList then (if t300 = t304 then (if (bt309.1.length : Int) = 0 then (if bt309.2 = 1 then ((chequerlaw09_lives.f kj47).bind fun t313 => (some t313)) else (some false)) else (some false)) else (some false)) else (some false))) = some r := by first | (rw [hy305]; with_reducible exact H) | (have H2_ := (Option.bind_some _ _).symm.trans H; rw [hy305]; with_reducible exact H2_) | (have H2_ := (Option.bind_some _ _).symm.trans H; with_reducible exact H2_) | with_reducible exact H | (rw [hy305]; exact H) | exact H
                           have Ny305 := Aside0.mk hy305
                           clear hy305
                           replace H := Option.bind_eq_some_iff.mp H
                           obtain ⟨⟨t309, t312⟩, A760, H⟩ := H
                           replace H : (if (strOfNums t297).toList = (strOfNums t301).toList then (if t300 = t304 then (if (t309.length : Int) = 0 then (if t312 = 1 then ((chequerlaw09_lives.f kj47).bind fun t313 => (some t313)) else (some false)) else (some false)) else (some false)) else (some false)) = some r := H
                           have A76 := Aside0.mk A760
                           clear A760
                           have HP77 := Aside0.mk H
                           clear H
                           try go_wp2_with (first | ((with_reducible refine gate_callee (f := 15) rfl ?_); refine goQ_ (some 118) Try.func15 #[.int .i64 a2, .int .i64 (t263.length : Int)] ?_; (with_reducible refine (chequerref01_Around.calls a2 (t263.length : Int) t295 _ A68.out).mono ?_); rintro e w' ⟨rfl, ⟨nd, rfl⟩⟩; refine ⟨_, rfl, ?_⟩; (try (rw [drewN_self wc]; generalize hq_ : World.drewN wc _ = wc; replace HO_12 := Aside0.mk (qrp_ hq_ HO_12.out); replace BK262 := Aside0.mk (qhp_ hq_ BK262.out); replace HB : Aside0 (Below w.heap.size w wc) := ⟨qbp_ hq_⟩; clear hq_)); have p71 : 0 ≤ (t295 : Int) := of_decide_eq_true (by first | (with_reducible assumption) | assumption); have q71 : (t295 : Int) < ((t263.length : Int) : Int) := of_decide_eq_true (by first | (with_reducible assumption) | assumption); obtain ⟨go71, co71, eo71, gb71, gl71, cl71, HG71⟩ := Kd.R_form HO_12.out (by omega); (first | cases eo71 | (injection eo71 with ea_ en_ ec_; (first | subst ea_ | (injection ea_ with ea_; subst ea_)); subst ec_; clear en_)); have GB71 := Aside0.mk gb71; have GG71 := Aside0.mk HG71; clear gb71 gl71 HG71; obtain ⟨hx71_0, hf71_0⟩ := Kd.R_celln 0 HO_12.out (t295 : Int) p71 q71; replace p71 := eq_true p71; replace q71 := eq_true q71; obtain ⟨hy78_, hz78_⟩ := Kd.R_celln 0 HO_12.out (t295 : Int) (of_decide_eq_true (by first | (with_reducible assumption) | assumption)) (of_decide_eq_true (by first | (with_reducible assumption) | assumption)); have HP78 := Kd.R_putg HO_12.out (t295 : Int) a3) | ((with_reducible refine gate_store (t := 26) (p := 122) rfl ?_); refine store_event (t := 26) (p := 122) (v := ?vo_w79) (w1 := (wc.setCell ⟨go71, (t295 : Int).toNat, none⟩ (.int .u64 a3))) ?hg ?ho ?hn ?hr ?_; (case ho => rfl); (case hg => rfl); (case hn => rfl); (case hr => first | (go_simp; done) | (go_simp; rfl)); intro w79 hw; have hg : wc.grownBy w79 (some go71) := (by rw [hw]; exact HP78.2); have hpl_ : Kd.R (Kd.int .u64) 26 w79 w.heap.size (fun _ => True) (.slice (some ⟨go71, 0, none⟩) t263.length co18) y296 := (by rw [hw, Ny296.out]; exact HP78.1); clear HP78; replace BK262 := Aside0.mk (blk_grown (g := gb262) (o := .cells #[.int .i64 t258, .int .i64 t259, .int .i64 (wrap64 (1 + (Int.tmod t260 4))), .int .i64 t261] 23 (0, 0)) (hp_ BK262.out) hg (Kd.R_ne HO_12.out BK262.out (by decide))); replace HO_12 := Aside0.mk (hpl_); replace HB := Aside0.mk ((by rw [hw]; exact below_set (HB.out) GB71.out : Below w.heap.size w w79)); clear hg hw hpl_; have hcz80_0 : w79.cell? ⟨gb262, 0, none⟩ = some (.int .i64 t258) := (blk_cell BK262.out 0).trans rfl; have hcz80_1 : w79.cell? ⟨gb262, 1, none⟩ = some (.int .i64 t259) := (blk_cell BK262.out 1).trans rfl; have hcz80_2 : w79.cell? ⟨gb262, 2, none⟩ = some (.int .i64 (wrap64 (1 + (Int.tmod t260 4)))) := (blk_cell BK262.out 2).trans rfl; have hcz80_3 : w79.cell? ⟨gb262, 3, none⟩ = some (.int .i64 t261) := (blk_cell BK262.out 3).trans rfl; have hfz80_0 := blk_frozen BK262.out 0; have hfz80_1 := blk_frozen BK262.out 1; have hfz80_2 := blk_frozen BK262.out 2; have hfz80_3 := blk_frozen BK262.out 3) | ((with_reducible refine gate_callee (f := 10) rfl ?_); refine goesL_ (some 126) rfl rfl Try.func10 (by kernel_rfl) rfl #[.slice (some ⟨go71, 0, none⟩) y296.length co18, .agg #[.int .i64 t258, .int .i64 t259, .int .i64 (wrap64 (1 + (Int.tmod t260 4))), .int .i64 t261]] rfl (by (try simp only [List.map_toArray, List.map_cons, List.map_nil]); first | done | (rw [show y296.length = t263.length from (Kd.R_reads' HO_12.out).1.symm] <;> rfl) | rfl | (simp only [List.length_drop, List.length_take]; rfl)) ?_; (with_reducible refine (raw_Write.calls _ _ y296 t258 t259 (wrap64 (1 + (Int.tmod t260 4))) t261 t297 t300 _ ?side1 ?side2 A72.out).mono ?_); (case side1 => exact cp_ (Kd.R_reads' HO_12.out).2.2); (case side2 => rw [show y296.length = t263.length from (Kd.R_reads' HO_12.out).1.symm]; exact (Kd.R_reads' HO_12.out).2.1); rintro e w81 ⟨v298, rfl, ho0, hb⟩; refine ⟨_, rfl, ?_⟩; replace HO_12 := Aside0.mk (Kd.R_below (rp_ HO_12.out) hb); have HO299 := Aside0.mk (Kd.R_lower ho0 (below_size bp_)); replace BK262 := Aside0.mk (blk_below (hp_ BK262.out) hb); replace HB := Aside0.mk (below_step bp_ hb); (try clear hb); (try clear hb2); (try clear hk); (try clear hi); (try clear ho0); have hcz82_0 : w81.cell? ⟨gb262, 0, none⟩ = some (.int .i64 t258) := (blk_cell BK262.out 0).trans rfl; have hcz82_1 : w81.cell? ⟨gb262, 1, none⟩ = some (.int .i64 t259) := (blk_cell BK262.out 1).trans rfl; have hcz82_2 : w81.cell? ⟨gb262, 2, none⟩ = some (.int .i64 (wrap64 (1 + (Int.tmod t260 4)))) := (blk_cell BK262.out 2).trans rfl; have hcz82_3 : w81.cell? ⟨gb262, 3, none⟩ = some (.int .i64 t261) := (blk_cell BK262.out 3).trans rfl; have hfz82_0 := blk_frozen BK262.out 0; have hfz82_1 := blk_frozen BK262.out 1; have hfz82_2 := blk_frozen BK262.out 2; have hfz82_3 := blk_frozen BK262.out 3) | ((with_reducible refine gate_callee (f := 11) rfl ?_); refine goesL_ (some 132) rfl rfl Try.func11 (by kernel_rfl) rfl #[.slice (some ⟨go71, 0, none⟩) y296.length co18, .agg #[.int .i64 t258, .int .i64 t259, .int .i64 (wrap64 (1 + (Int.tmod t260 4))), .int .i64 t261]] rfl (by (try simp only [List.map_toArray, List.map_cons, List.map_nil]); first | done | (rw [show y296.length = t263.length from (Kd.R_reads' HO_12.out).1.symm] <;> rfl) | rfl | (simp only [List.length_drop, List.length_take]; rfl)) ?_; (with_reducible refine (chequerref09_Write.calls kj47 _ _ y296 t258 t259 (wrap64 (1 + (Int.tmod t260 4))) t261 t301 t304 _ ?side1 ?side2 A73.out).mono ?_); (case side1 => exact cp_ (Kd.R_reads' HO_12.out).2.2); (case side2 => rw [show y296.length = t263.length from (Kd.R_reads' HO_12.out).1.symm]; exact (Kd.R_reads' HO_12.out).2.1); rintro e w83 ⟨v302, rfl, ho0, hb⟩; refine ⟨_, rfl, ?_⟩; replace HO_12 := Aside0.mk (Kd.R_below (rp_ HO_12.out) hb); have HO303 := Aside0.mk (Kd.R_lower (Kd.R_new' ho0 (Kd.R_lt (rp_ HO299.out))) (below_size bp_)); replace HO299 := Aside0.mk (Kd.R_elder' (rp_ HO299.out) (Kd.R_base ho0) hb); replace BK262 := Aside0.mk (blk_below (hp_ BK262.out) hb); replace HB := Aside0.mk (below_step bp_ hb); (try clear hb); (try clear hb2); (try clear hk); (try clear hi); (try clear ho0)))
                           replace HO_12 := Aside0.mk (Kd.R_drew HO_12.out)
                           replace HO299 := Aside0.mk (Kd.R_drew HO299.out)
                           replace HO303 := Aside0.mk (Kd.R_drew HO303.out)
                           replace BK262 := Aside0.mk (blk_drew BK262.out)
                           replace HB := Aside0.mk (below_drew1 HB.out)
                           have hlx85 := (Kd.R_reads' HO_12.out).1
                           have q85 : (t295 : Int) ≤ ((t263.length : Int) : Int) := of_decide_eq_true (by first | (with_reducible assumption) | assumption)
                           obtain ⟨i085, hi085, _, hsz85, _⟩ := info_parts info26
                           have hroom85 : t263.length ≤ co18 := (Kd.R_reads' HO_12.out).2.1
                           have hroomc85 : y296.length ≤ co18 := (by rw [← hlx85]; exact hroom85)
                           have hC85 : Kd.C (Kd.int .u64) _ (some ⟨go71, 0, none⟩) y296.length y296 := (Kd.R_reads' HO_12.out).2.2
                           have hcut85 := cut_to (P := Try.prog) 29 26 .i64 Try.underlying29 hi085 (some ⟨go71, 0, none⟩) t263.length co18 t295 (of_decide_eq_true (by first | (with_reducible assumption) | assumption)) q85 hroom85
                           have hr85 := Kd.C_take (m := (t295 : Int).toNat) hC85 (by omega)
                           have hy85 : y305.length = (t295 : Int).toNat := (by rw [Ny305.out, List.length_take]; omega)
                           rw [← Ny305.out] at hr85
                           rw [← hy85] at hcut85
                           have HR308 := Aside0.mk hr85
                           have HC308 := Aside0.mk (show y305.length ≤ co18 from by omega)
                           clear hr85 hC85 hroom85 hi085 hsz85 hroomc85
                           have KY85 := Aside0.mk hy85
                           clear hy85
                           have KE85 := Aside0.mk hlx85
                           have KL85 := Aside0.mk (show (t295 : Int).toNat ≤ y296.length from by omega)
                           clear hlx85
                           replace q85 := eq_true q85
                           refine start_ (n := 10) (S := fun w' => w'.cell? ⟨gb262, 0, none⟩ = some (.int .i64 t258) ∧ w'.cell? ⟨gb262, 1, none⟩ = some (.int .i64 t259) ∧ w'.cell? ⟨gb262, 2, none⟩ = some (.int .i64 (wrap64 (1 + (Int.tmod t260 4)))) ∧ w'.cell? ⟨gb262, 3, none⟩ = some (.int .i64 t261)) (ds := []) #[false, false, false, false, false, false, false, false, false, false] (by kernel_rfl) rfl rfl ⟨(blk_cell BK262.out 0).trans rfl, (blk_cell BK262.out 1).trans rfl, (blk_cell BK262.out 2).trans rfl, (blk_cell BK262.out 3).trans rfl⟩ (fun hHeld => ?_); refine with_tabW chequerlaw09_RawWrites.tab19 chequerlaw09_RawWrites.bits19 (fun HT_ HW_ => ?_)
                           generalize w83.drew = w84 at HO_12 HO299 HO303 BK262 HB HR308 hHeld ⊢
                           refine pur_ (i := 0) (N := some 136) #[true, false, false, false, false, false, false, false, false, false] (any_of HT_.out (by kernel_rfl)) ?_
                           refine pur_ (i := 1) (N := some 137) #[true, true, false, false, false, false, false, false, false, false] (any_of HT_.out (by kernel_rfl)) ?_
                           refine pur_ (i := 2) (N := some 138) #[true, true, true, false, false, false, false, false, false, false] (any_of HT_.out (by kernel_rfl)) ?_
                           refine take_ (i := 3) (N := some 139) (v := ?_) (a' := ?_) #[true, true, true, true, false, false, false, false, false, false] rfl rfl (take_ofW HT_.out HW_.out (by kernel_rfl)) (fun _ _ _ h => h) (Or.inl ⟨by rfl, ?_⟩) hHeld ?_ ?_
                           rotate_left
                           · rintro w' ⟨s0, s1, s2, s3⟩
                             go_simp
                             with_reducible rfl
                           rotate_left
                           · simp only [Act.put, List.setIfInBounds_toArray, List.set_cons_zero, List.set_cons_succ, i64_w, i32_w]
                             rfl
                           refine one_ (i := 4) (N := some 140) #[true, true, true, true, true, false, false, false, false, false] rfl rfl (one_of HT_.out (by kernel_rfl)) (by decide) (fun K hK => ?_)
                           refine goes_ Try.func10 (by kernel_rfl) rfl #[.slice (some ⟨go71, 0, none⟩) y305.length co18, .agg #[.int .i64 t258, .int .i64 t259, .int .i64 (wrap64 (1 + (Int.tmod t260 4))), .int .i64 t261]] (by rfl) rfl rfl (by (try simp only [List.map_toArray, List.map_cons, List.map_nil]); first | done | rfl | (simp only [List.length_drop, List.length_take]; rfl)) ?_
                           with_reducible refine (raw_Write.calls _ _ y305 t258 t259 (wrap64 (1 + (Int.tmod t260 4))) t261 t309 t312 _ ?side1 ?side2 A76.out).mono ?_
                           (case side1 => repeat (first | exact (by repeat (first | (with_reducible exact HR308.out) | (with_reducible refine Kd.C_alloc ?_ _) | (with_reducible refine Kd.C_drewN ?_ _) | (with_reducible refine Kd.C_drew ?_) | exact HR308.out)) | (with_reducible refine Kd.C_alloc ?_ _) | (with_reducible refine Kd.C_drewN ?_ _) | (with_reducible refine Kd.C_drew ?_)))
                           (case side2 => exact HC308.out)
                           rintro e w86 ⟨v310, rfl, ho0, hb⟩
                           refine ⟨_, rfl, ?_⟩
                           replace HO_12 := Aside0.mk (Kd.R_below (rp_ HO_12.out) hb)
                           have HO311 := Aside0.mk (Kd.R_lower (Kd.R_new' (Kd.R_new' ho0 (Kd.R_lt (rp_ HO299.out))) (Kd.R_lt (rp_ HO303.out))) (below_size bp_))
                           replace HO299 := Aside0.mk (Kd.R_elder' (rp_ HO299.out) (Kd.R_base ho0) hb)
                           replace HO303 := Aside0.mk (Kd.R_elder' (rp_ HO303.out) (Kd.R_base ho0) hb)
                           replace BK262 := Aside0.mk (blk_below (hp_ BK262.out) hb)
                           replace HR308 := Aside0.mk (Kd.C_below (by repeat (first | (with_reducible exact HR308.out) | (with_reducible refine Kd.C_alloc ?_ _) | (with_reducible refine Kd.C_drewN ?_ _) | (with_reducible refine Kd.C_drew ?_) | exact HR308.out)) hb)
                           replace HB := Aside0.mk (below_step bp_ hb)
                           (try clear hb)
                           (try clear hb2)
                           (try clear hk)
                           (try clear hi)
                           (try clear ho0)
                           refine hK.out _ _ ⟨(blk_cell BK262.out 0).trans rfl, (blk_cell BK262.out 1).trans rfl, (blk_cell BK262.out 2).trans rfl, (blk_cell BK262.out 3).trans rfl⟩ (fun hHeld => ?_)
                           clear hK K
                           refine norm_ (a' := ?_) ?_ ?_
                           rotate_left
                           · show Act.put _ (some 140) _ = _
                             simp only [Act.put, List.setIfInBounds_toArray, List.set_cons_zero, List.set_cons_succ, i64_w, i32_w]
                             rfl
                           refine pur_ (i := 5) (N := some 135) #[true, true, true, true, true, true, false, false, false, false] (any_of HT_.out (by kernel_rfl)) ?_
                           refine pur_ (i := 6) (N := some 141) #[true, true, true, true, true, true, true, false, false, false] (any_of HT_.out (by kernel_rfl)) ?_
                           refine pur_ (i := 7) (N := some 142) #[true, true, true, true, true, true, true, true, false, false] (any_of HT_.out (by kernel_rfl)) ?_
                           refine pur_ (i := 8) (N := some 27) #[true, true, true, true, true, true, true, true, true, false] (any_of HT_.out (by kernel_rfl)) ?_
                           refine pur_ (i := 9) (N := some 28) #[true, true, true, true, true, true, true, true, true, true] (any_of HT_.out (by kernel_rfl)) ?_
                           refine done_ (done_of HT_.out (by kernel_rfl)) ?_
                           go_upto_region 20 with (fail)
                           have H := HP77.out
                           clear HP77
                           by_cases c87 : (strOfNums t297).toList = (strOfNums t301).toList
                           · rw [if_pos c87] at H
                             have c87b0 : ((strOfNums t297).toList == (strOfNums t301).toList) = true := beq_iff_eq.mpr c87
                             have c87b1 : ((strOfNums t297).toList != (strOfNums t301).toList) = false := bne_eq_false_iff_eq.mpr c87
                             clear c87
                             (first | rw [c87b0] | (simp only [i64_w, i32_w]; rw [c87b0]) | skip)
                             by_cases c88 : t300 = t304
                             · rw [if_pos c88] at H
                               have c88b0 : (t300 == t304) = true := beq_iff_eq.mpr c88
                               have c88b1 : (t300 != t304) = false := bne_eq_false_iff_eq.mpr c88
                               clear c88
                               by_cases c89 : (t309.length : Int) = 0
                               · rw [if_pos c89] at H
                                 have c89b0 : ((t309.length : Int) == 0) = true := beq_iff_eq.mpr c89
                                 have c89b1 : ((t309.length : Int) != 0) = false := bne_eq_false_iff_eq.mpr c89
                                 clear c89
                                 by_cases c90 : t312 = 1
                                 · rw [if_pos c90] at H
                                   have c90b0 : (t312 == 1) = true := beq_iff_eq.mpr c90
                                   have c90b1 : (t312 != 1) = false := bne_eq_false_iff_eq.mpr c90
                                   clear c90
                                   replace H := Option.bind_eq_some_iff.mp H
                                   obtain ⟨t313, A910, H⟩ := H
                                   replace H : (some t313) = some r := H
                                   have A91 := Aside0.mk A910
                                   clear A910
                                   obtain rfl := Option.some.inj H
                                   have hcv92 := own_string (P := Try.prog) Try.underlying27 Try.underlying5 Try.underlying9 (Kd.own_of_R HO299.out)
                                   have hcv93 := own_string (P := Try.prog) Try.underlying27 Try.underlying5 Try.underlying9 (Kd.own_of_R HO303.out)
                                   obtain ⟨Ao94, co94, eo94⟩ := Kd.R_slice HO311.out
                                   subst eo94
                                   go_wp2_with (first | (go_at_call 16; (with_reducible refine (chequerlaw09_lives.calls kj47  t313 _ A91.out).mono ?_); rintro e w95 ⟨rfl, hb⟩; replace HO_12 := Aside0.mk (Kd.R_below (rp_ HO_12.out) hb); replace HO299 := Aside0.mk (Kd.R_below (rp_ HO299.out) hb); replace HO303 := Aside0.mk (Kd.R_below (rp_ HO303.out) hb); replace HO311 := Aside0.mk (Kd.R_below (rp_ HO311.out) hb); replace HR308 := Aside0.mk (Kd.C_below (by repeat (first | (with_reducible exact HR308.out) | (with_reducible refine Kd.C_alloc ?_ _) | (with_reducible refine Kd.C_drewN ?_ _) | (with_reducible refine Kd.C_drew ?_) | exact HR308.out)) hb); replace HB := Aside0.mk (below_step bp_ hb); (try clear hb); (try clear hb2); (try clear hk); (try clear hi)))
                                   go_ret
                                   exact ⟨by first | rfl | (simp [errW_none, errW_some] <;> rfl) | (simp only [← hji39, ← hji44]; first | rfl | (simp [errW_none, errW_some] <;> rfl)) | (simp [*, errW_none, errW_some] <;> rfl), bp_⟩
                                 · rw [if_neg c90] at H
                                   have c90b0 : (t312 == 1) = false := beq_eq_false_iff_ne.mpr c90
                                   have c90b1 : (t312 != 1) = true := bne_iff_ne.mpr c90
                                   obtain rfl := Option.some.inj H
                                   have hcv96 := own_string (P := Try.prog) Try.underlying27 Try.underlying5 Try.underlying9 (Kd.own_of_R HO299.out)
                                   have hcv97 := own_string (P := Try.prog) Try.underlying27 Try.underlying5 Try.underlying9 (Kd.own_of_R HO303.out)
                                   obtain ⟨Ao98, co98, eo98⟩ := Kd.R_slice HO311.out
                                   subst eo98
                                   go_wp2
                                   go_ret
                                   exact ⟨by first | rfl | (simp [errW_none, errW_some] <;> rfl) | (simp only [← hji39, ← hji44]; first | rfl | (simp [errW_none, errW_some] <;> rfl)) | (simp [*, errW_none, errW_some] <;> rfl), bp_⟩
                               · rw [if_neg c89] at H
                                 have c89b0 : ((t309.length : Int) == 0) = false := beq_eq_false_iff_ne.mpr c89
                                 have c89b1 : ((t309.length : Int) != 0) = true := bne_iff_ne.mpr c89
                                 have c89b2 : ¬ (t309 = []) := fun h_ => c89 (by rw [h_]; rfl)
                                 obtain rfl := Option.some.inj H
                                 have hcv99 := own_string (P := Try.prog) Try.underlying27 Try.underlying5 Try.underlying9 (Kd.own_of_R HO299.out)
                                 have hcv100 := own_string (P := Try.prog) Try.underlying27 Try.underlying5 Try.underlying9 (Kd.own_of_R HO303.out)
                                 obtain ⟨Ao101, co101, eo101⟩ := Kd.R_slice HO311.out
                                 subst eo101
                                 go_wp2
                                 go_ret
                                 exact ⟨by first | rfl | (simp [errW_none, errW_some] <;> rfl) | (simp only [← hji39, ← hji44]; first | rfl | (simp [errW_none, errW_some] <;> rfl)) | (simp [*, errW_none, errW_some] <;> rfl), bp_⟩
                             · rw [if_neg c88] at H
                               have c88b0 : (t300 == t304) = false := beq_eq_false_iff_ne.mpr c88
                               have c88b1 : (t300 != t304) = true := bne_iff_ne.mpr c88
                               obtain rfl := Option.some.inj H
                               have hcv102 := own_string (P := Try.prog) Try.underlying27 Try.underlying5 Try.underlying9 (Kd.own_of_R HO299.out)
                               have hcv103 := own_string (P := Try.prog) Try.underlying27 Try.underlying5 Try.underlying9 (Kd.own_of_R HO303.out)
                               go_wp2
                               go_ret
                               exact ⟨by first | rfl | (simp [errW_none, errW_some] <;> rfl) | (simp only [← hji39, ← hji44]; first | rfl | (simp [errW_none, errW_some] <;> rfl)) | (simp [*, errW_none, errW_some] <;> rfl), bp_⟩
                           · rw [if_neg c87] at H
                             have c87b0 : ((strOfNums t297).toList == (strOfNums t301).toList) = false := beq_eq_false_iff_ne.mpr c87
                             have c87b1 : ((strOfNums t297).toList != (strOfNums t301).toList) = true := bne_iff_ne.mpr c87
                             (first | rw [c87b0] | (simp only [i64_w, i32_w]; rw [c87b0]) | skip)
                             obtain rfl := Option.some.inj H
                             have hcv104 := own_string (P := Try.prog) Try.underlying27 Try.underlying5 Try.underlying9 (Kd.own_of_R HO299.out)
                             have hcv105 := own_string (P := Try.prog) Try.underlying27 Try.underlying5 Try.underlying9 (Kd.own_of_R HO303.out)
                             go_wp2
                             go_ret
                             exact ⟨by first | rfl | (simp [errW_none, errW_some] <;> rfl) | (simp only [← hji39, ← hji44]; first | rfl | (simp [errW_none, errW_some] <;> rfl)) | (simp [*, errW_none, errW_some] <;> rfl), bp_⟩
                         · rw [if_neg c75] at H
                           exact absurd H (by simp)
                       · rw [if_neg c70] at H
                         exact absurd H (by simp)
                     · rw [if_neg c69] at H
                       exact absurd H (by simp)
               · rw [if_neg c46] at H
                 exact absurd H (by simp)
             · rw [if_neg c45] at H
               exact absurd H (by simp)
           · rw [if_neg c42] at H
             exact absurd H (by simp)
         · rw [if_neg c41] at H
           exact absurd H (by simp)
       · rw [if_neg c40] at H
         exact absurd H (by simp)
     · rw [if_neg c38] at H
       exact absurd H (by simp)

/-- THE ONE PURE STATEMENT of chequerlaw09_RawWrites. -/
def chequerlaw09_RawWrites.Pure : Prop := ∀ (a0_0 : Int) (a0_1 : Int) (a0_2 : Int) (a0_3 : Int) (l1 : List Int) (a2 : Int) (a3 : Int) (l4 : List Int), (Lit.int .i64 a0_0).wf = true → (Lit.int .i64 a0_1).wf = true → (Lit.int .i64 a0_2).wf = true → (Lit.int .i64 a0_3).wf = true → l1.length ≤ maxLen → l1.length * 8 ≤ 140737488351232 → (∀ x ∈ l1, (Lit.int .i64 x).wf = true) → (Lit.int .i64 a2).wf = true → (Lit.int .u64 a3).wf = true → l4.length ≤ maxLen → l4.length * 1 ≤ 140737488351232 → (∀ x ∈ l4, (Lit.int .u8 x).wf = true) → ∃ k, chequerlaw09_RawWrites.f k a0_0 a0_1 a0_2 a0_3 l1 a2 a3 l4 = some true
theorem chequerlaw09_RawWrites.walk (P : chequerlaw09_RawWrites.Pure) (a0_0 : Int) (a0_1 : Int) (a0_2 : Int) (a0_3 : Int) (a1 : Option Addr) (len1 cap1 : Nat) (z1 : List Int) (a2 : Int) (a3 : Int) (a4 : Option Addr) (len4 cap4 : Nat) (z4 : List Int) (w : World) (w0_0 : (Lit.int .i64 a0_0).wf = true) (w0_1 : (Lit.int .i64 a0_1).wf = true) (w0_2 : (Lit.int .i64 a0_2).wf = true) (w0_3 : (Lit.int .i64 a0_3).wf = true) (w1 : (a1 = none ∧ len1 = 0 ∧ cap1 = 0 ∧ z1 = []) ∨ ∃ x, a1 = some x ∧ len1 ≤ cap1 ∧ cap1 ≤ maxLen ∧ z1.length = cap1 ∧ (∀ i, i < z1.length → w.cell? (x.add i) = some (.int .i64 (z1.getD i 0))) ∧ ∀ n ∈ z1, (Lit.int .i64 n).wf = true) (y1 : len1 * 8 ≤ 140737488351232) (w2 : (Lit.int .i64 a2).wf = true) (w3 : (Lit.int .u64 a3).wf = true) (w4 : (a4 = none ∧ len4 = 0 ∧ cap4 = 0 ∧ z4 = []) ∨ ∃ x, a4 = some x ∧ len4 ≤ cap4 ∧ cap4 ≤ maxLen ∧ z4.length = cap4 ∧ (∀ i, i < z4.length → w.cell? (x.add i) = some (.int .u8 (z4.getD i 0))) ∧ ∀ n ∈ z4, (Lit.int .u8 n).wf = true) (y4 : len4 * 1 ≤ 140737488351232) :
 Calls Try.prog 3 #[.agg #[.int .i64 a0_0, .int .i64 a0_1, .int .i64 a0_2, .int .i64 a0_3], .slice a1 len1 cap1, .int .i64 a2, .int .u64 a3, .slice a4 len4 cap4] w fun e w' => e = .returned (.bool true) ∧ Below w.heap.size w w' := by
 obtain ⟨l1, rfl, hr1, hm1, hw1, hc1⟩ := ReadsInt.ofRowC w1
 obtain ⟨l4, rfl, hr4, hm4, hw4, hc4⟩ := ReadsInt.ofRowC w4
 obtain ⟨k, h⟩ := P a0_0 a0_1 a0_2 a0_3 l1 a2 a3 l4 w0_0 w0_1 w0_2 w0_3 hm1 y1 hw1 w2 w3 hm4 y4 hw4
 refine (chequerlaw09_RawWrites.calls k a0_0 a0_1 a0_2 a0_3 _ _ l1 a2 a3 _ _ l4 true w (Kd.C_of_reads (d := (0 : Int)) (h1 := fun _ => rfl) hr1) hc1 (Kd.C_of_reads (d := (0 : Int)) (h1 := fun _ => rfl) hr4) hc4 h).mono ?_
 rintro e w' ⟨rfl, hd⟩
 exact ⟨rfl, hd⟩

end Go.Proofs.Ytdjonaajfhbfhaa.Q
