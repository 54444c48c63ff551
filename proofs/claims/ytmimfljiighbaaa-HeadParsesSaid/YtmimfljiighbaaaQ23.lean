-- written by our own program (wip/tools/myprint.py) out of the translation, by the kit's print; Lean checks it
import Derived.Test.YtmimfljiighbaaaQ0
import Derived.Test.YtmimfljiighbaaaQ1
import Derived.Test.YtmimfljiighbaaaQ4
import Derived.Test.YtmimfljiighbaaaQ5
import Derived.Test.YtmimfljiighbaaaQ6
import Derived.Test.YtmimfljiighbaaaQ7
import Derived.Test.YtmimfljiighbaaaQ8
import Derived.Test.YtmimfljiighbaaaQ19
import Derived.Test.YtmimfljiighbaaaQ21
import Derived.Test.YtmimfljiighbaaaQ22
namespace Go.Proofs.Ytmimfljiighbaaa.Q
open Go.RowKit Go.Proofs.YtmimfljiighbaaaW.PrintWords Go.Proofs.YtmimfljiighbaaaW.PrintLast Go.Proofs.YtmimfljiighbaaaW.PrintMore
attribute [local go_sem] max2_int min2_int max_two min_two max_three min_three max_four min_four   -- for this text's walks alone
set_option linter.unusedVariables false
set_option linter.unusedSimpArgs false

attribute [local go_sem high] eqA25
abbrev Fl44 : Array Bool := #[true, true, true, true, true, true, true, true, true, true, true, false, false, false]
abbrev Fl45 : Array Bool := #[false, false, false, false, false, false, false, false, false, false, false, false, false, false]
abbrev Fl46 : Array Bool := #[true, false, false, false, false, false, false, false, false, false, false, false, false, false]
abbrev Fl47 : Array Bool := #[true, true, true, false, false, false, false, false, false, false, false, false, false, false]
abbrev Fl48 : Array Bool := #[true, true, true, true, false, false, false, false, false, false, false, false, false, false]
abbrev Fl49 : Array Bool := #[true, true, true, true, true, false, false, false, false, false, false, false, false, false]
abbrev Fl50 : Array Bool := #[true, true, true, true, true, true, false, false, false, false, false, false, false, false]
abbrev Fl51 : Array Bool := #[true, true, true, true, true, true, true, false, false, false, false, false, false, false]
abbrev Fl52 : Array Bool := #[true, true, true, true, true, true, true, true, false, false, false, false, false, false]
abbrev Fl53 : Array Bool := #[true, true, true, true, true, true, true, true, true, false, false, false, false, false]
abbrev Fl54 : Array Bool := #[true, true, true, true, true, true, true, true, true, true, false, false, false, false]
abbrev Fl55 : Array Bool := #[true, true, true, true, true, true, true, true, true, true, true, true, false, false]
abbrev Fl56 : Array Bool := #[true, true, true, true, true, true, true, true, true, true, true, true, true, false]
abbrev Fl57 : Array Bool := #[true, true, true, true, true, true, true, true, true, true, true, true, true, true]
abbrev Fl58 : Array Bool := #[true, false, true, false, false, false, false, false, false, false, false, false, false, false]
abbrev Fl59 : Array Bool := #[true, true, false, false, false, false, false, false, false, false, false, false, false, false]
abbrev Fl60 : Array Bool := #[true, true, true, true, true, false, false, false, false, false, true, false, false, false]
abbrev Fl61 : Array Bool := #[true, true, true, true, true, true, false, false, false, false, true, false, false, false]
abbrev Fl62 : Array Bool := #[true, true, true, true, true, true, true, false, false, false, true, false, false, false]
abbrev Fl63 : Array Bool := #[true, true, true, true, true, true, true, true, false, false, true, false, false, false]
abbrev Fl64 : Array Bool := #[true, true, true, true, true, true, true, true, true, false, true, false, false, false]
/-! ### chequerlaw06_HeadParses: function 3 -/
mutual
def chequerlaw06_HeadParses.l0 : Nat → List ByteArray → Int → Int → Int → Int → Option (Bool)
 | 0, _, _, _, _, _ => none
 | k + 1, x14, x15, x261000, x261001, x261002 => if x15 < 5 then (if (Int.tmod x15 2) = 1 then ((head_All.f).bind fun bt279 => (chequerlaw06_HeadParses.j1 k x14 x15 x261000 x261001 x261002 bt279.1 bt279.2.1 bt279.2.2)) else (chequerlaw06_HeadParses.j1 k x14 x15 x261000 x261001 x261002 x261000 x261001 x261002)) else ((chequerlaw06_lives.f k).bind fun t277 => (some t277))
def chequerlaw06_HeadParses.j1 : Nat → List ByteArray → Int → Int → Int → Int → Int → Int → Int → Option (Bool)
 | 0, _, _, _, _, _, _, _, _ => none
 | k + 1, x14, x15, x261000, x261001, x261002, x279000, x279001, x279002 => if 0 ≤ x15 then (if x15 < (x14.length : Int) then ((head_Parse.f k (rdOf ByteArray.empty x14 x15) x279000 x279001 x279002).bind fun bt283 => ((chequerref06_Parse.f k (rdOf ByteArray.empty x14 x15) x279000 x279001 x279002).bind fun bt291 => (if bt291.2.2.2.2.2 = 0 then (chequerlaw06_HeadParses.j2 k x14 x15 bt283.2.2.2.2.1 bt283.2.2.2.2.2 bt291.2.2.2.2.1 bt291.2.2.2.2.2 x261000 x261001 x261002 bt283.1 bt283.2.1 bt283.2.2.1 bt283.2.2.2.1 bt291.1 bt291.2.1 bt291.2.2.1 bt291.2.2.2.1) else (chequerlaw06_HeadParses.j2 k x14 x15 bt283.2.2.2.2.1 bt283.2.2.2.2.2 0 bt291.2.2.2.2.2 x261000 x261001 x261002 bt283.1 bt283.2.1 bt283.2.2.1 bt283.2.2.2.1 bt291.1 bt291.2.1 bt291.2.2.1 bt291.2.2.2.1)))) else (none)) else (none)
def chequerlaw06_HeadParses.j2 : Nat → List ByteArray → Int → Int → Int → Int → Int → Int → Int → Int → Int → Int → Int → Int → Int → Int → Int → Int → Option (Bool)
 | 0, _, _, _, _, _, _, _, _, _, _, _, _, _, _, _, _, _ => none
 | k + 1, x14, x15, x18, x19, x21, x22, x261000, x261001, x261002, x290000, x290001, x290002, x290003, x298000, x298001, x298002, x298003 => (chequerlaw06_as.f x290000 x290001 x290002 x290003).bind fun bt298 => (if (!(bt298.1 == x298000) || (!(bt298.2.1 == x298001) || (!(bt298.2.2.1 == x298002) || (!(bt298.2.2.2 == x298003))))) = true then (some false) else (if x18 = x21 then (if x19 = x22 then (chequerlaw06_HeadParses.l0 k x14 (wrap64 (x15 + 1)) x261000 x261001 x261002) else (some false)) else (some false)))
end
def chequerlaw06_HeadParses.f (k : Nat) (a0 : ByteArray) (a1_0 : Int) (a1_1 : Int) (a1_2 : Int) (a2_0 : Int) (a2_1 : Int) (a2_2 : Int) (a2_3 : Int) (a3 : Int) (a4 : Int) : Option (Bool) := (chequerref05_Few.f a0 60).bind fun t262 => ((chequerref06_Good.f a2_0 a2_1 a2_2 a2_3 4096).bind fun bt263 => ((chequerref06_Write.f k bt263.1 bt263.2.1 bt263.2.2.1 bt263.2.2.2).bind fun bt267 => (if (bt267.1.size : Int) = 0 then ((chequerlaw06_lives.f k).bind fun t269 => (some t269)) else ((chequerref01_Around.f a3 (bt267.1.size : Int)).bind fun t270 => (if 0 ≤ t270 then (if t270 ≤ (bt267.1.size : Int) then ((some (([a4] : List Int) : List Int)).bind fun y271 => (if (bt267.1.extract 0 (t270 : Int).toNat).size + (strOfNums y271).size ≤ 9223372036854775807 then (if 0 ≤ (wrap64 (t270 + 1)) then (if (wrap64 (t270 + 1)) ≤ (bt267.1.size : Int) then (if ((bt267.1.extract 0 (t270 : Int).toNat) ++ (strOfNums y271)).size + (bt267.1.extract ((wrap64 (t270 + 1)) : Int).toNat bt267.1.size).size ≤ 9223372036854775807 then (if 3 + t262.size ≤ 9223372036854775807 then (chequerlaw06_HeadParses.l0 k (([t262, bt267.1, ((bt267.1.extract 0 (t270 : Int).toNat) ++ (strOfNums y271)) ++ (bt267.1.extract ((wrap64 (t270 + 1)) : Int).toNat bt267.1.size), bt267.1.extract 0 (t270 : Int).toNat, (⟨#[80, 53, 10]⟩ : ByteArray) ++ t262] : List ByteArray)) 0 a1_0 a1_1 a1_2) else (none)) else (none)) else (none)) else (none)) else (none))) else (none)) else (none))))))
theorem chequerlaw06_HeadParses.mono_l : ∀ k, (∀ y0 y1 y2 y3 y4, LeO (chequerlaw06_HeadParses.l0 k y0 y1 y2 y3 y4) (chequerlaw06_HeadParses.l0 (k + 1) y0 y1 y2 y3 y4)) ∧ (∀ y0 y1 y2 y3 y4 y5 y6 y7, LeO (chequerlaw06_HeadParses.j1 k y0 y1 y2 y3 y4 y5 y6 y7) (chequerlaw06_HeadParses.j1 (k + 1) y0 y1 y2 y3 y4 y5 y6 y7)) ∧ (∀ y0 y1 y2 y3 y4 y5 y6 y7 y8 y9 y10 y11 y12 y13 y14 y15 y16, LeO (chequerlaw06_HeadParses.j2 k y0 y1 y2 y3 y4 y5 y6 y7 y8 y9 y10 y11 y12 y13 y14 y15 y16) (chequerlaw06_HeadParses.j2 (k + 1) y0 y1 y2 y3 y4 y5 y6 y7 y8 y9 y10 y11 y12 y13 y14 y15 y16))
 | 0 => ⟨fun _ _ _ _ _ r h => by simp [chequerlaw06_HeadParses.l0] at h, fun _ _ _ _ _ _ _ _ r h => by simp [chequerlaw06_HeadParses.j1] at h, fun _ _ _ _ _ _ _ _ _ _ _ _ _ _ _ _ _ r h => by simp [chequerlaw06_HeadParses.j2] at h⟩
 | k + 1 => by
  obtain ⟨ih0, ih1, ih2⟩ := chequerlaw06_HeadParses.mono_l k
  refine ⟨?_, ?_, ?_⟩
  · intro y0 y1 y2 y3 y4
    unfold chequerlaw06_HeadParses.l0
    repeat' first
    | (with_reducible exact ih0 _ _ _ _ _)
    | (with_reducible exact ih1 _ _ _ _ _ _ _ _)
    | (with_reducible exact ih2 _ _ _ _ _ _ _ _ _ _ _ _ _ _ _ _ _)
    | (with_reducible exact chequerlaw06_lives.mono _)
    | (with_reducible exact chequerref06_Parse.mono _ _ _ _ _)
    | (with_reducible exact chequerref06_Write.mono _ _ _ _ _)
    | (with_reducible exact head_Parse.mono _ _ _ _ _)
    | (with_reducible exact LeO.refl _)
    | (with_reducible exact LeO.none _)
    | (with_reducible refine LeO.ite ?_ ?_)
    | (with_reducible refine LeO.bind ?_ (fun _ => ?_))
    | exact ih0 _ _ _ _ _
    | exact ih1 _ _ _ _ _ _ _ _
    | exact ih2 _ _ _ _ _ _ _ _ _ _ _ _ _ _ _ _ _
    | exact chequerlaw06_lives.mono _
    | exact chequerref06_Parse.mono _ _ _ _ _
    | exact chequerref06_Write.mono _ _ _ _ _
    | exact head_Parse.mono _ _ _ _ _
    | exact LeO.none _
    | refine LeO.ite ?_ ?_
    | refine LeO.bind ?_ (fun _ => ?_)
  · intro y0 y1 y2 y3 y4 y5 y6 y7
    unfold chequerlaw06_HeadParses.j1
    repeat' first
    | (with_reducible exact ih0 _ _ _ _ _)
    | (with_reducible exact ih1 _ _ _ _ _ _ _ _)
    | (with_reducible exact ih2 _ _ _ _ _ _ _ _ _ _ _ _ _ _ _ _ _)
    | (with_reducible exact chequerlaw06_lives.mono _)
    | (with_reducible exact chequerref06_Parse.mono _ _ _ _ _)
    | (with_reducible exact chequerref06_Write.mono _ _ _ _ _)
    | (with_reducible exact head_Parse.mono _ _ _ _ _)
    | (with_reducible exact LeO.refl _)
    | (with_reducible exact LeO.none _)
    | (with_reducible refine LeO.ite ?_ ?_)
    | (with_reducible refine LeO.bind ?_ (fun _ => ?_))
    | exact ih0 _ _ _ _ _
    | exact ih1 _ _ _ _ _ _ _ _
    | exact ih2 _ _ _ _ _ _ _ _ _ _ _ _ _ _ _ _ _
    | exact chequerlaw06_lives.mono _
    | exact chequerref06_Parse.mono _ _ _ _ _
    | exact chequerref06_Write.mono _ _ _ _ _
    | exact head_Parse.mono _ _ _ _ _
    | exact LeO.none _
    | refine LeO.ite ?_ ?_
    | refine LeO.bind ?_ (fun _ => ?_)
  intro y0 y1 y2 y3 y4 y5 y6 y7 y8 y9 y10 y11 y12 y13 y14 y15 y16
  unfold chequerlaw06_HeadParses.j2
  repeat' first
  | (with_reducible exact ih0 _ _ _ _ _)
  | (with_reducible exact ih1 _ _ _ _ _ _ _ _)
  | (with_reducible exact ih2 _ _ _ _ _ _ _ _ _ _ _ _ _ _ _ _ _)
  | (with_reducible exact chequerlaw06_lives.mono _)
  | (with_reducible exact chequerref06_Parse.mono _ _ _ _ _)
  | (with_reducible exact chequerref06_Write.mono _ _ _ _ _)
  | (with_reducible exact head_Parse.mono _ _ _ _ _)
  | (with_reducible exact LeO.refl _)
  | (with_reducible exact LeO.none _)
  | (with_reducible refine LeO.ite ?_ ?_)
  | (with_reducible refine LeO.bind ?_ (fun _ => ?_))
  | exact ih0 _ _ _ _ _
  | exact ih1 _ _ _ _ _ _ _ _
  | exact ih2 _ _ _ _ _ _ _ _ _ _ _ _ _ _ _ _ _
  | exact chequerlaw06_lives.mono _
  | exact chequerref06_Parse.mono _ _ _ _ _
  | exact chequerref06_Write.mono _ _ _ _ _
  | exact head_Parse.mono _ _ _ _ _
  | exact LeO.none _
  | refine LeO.ite ?_ ?_
  | refine LeO.bind ?_ (fun _ => ?_)
theorem chequerlaw06_HeadParses.mono : ∀ a0 a1 a2 a3 a4 a5 a6 a7 a8 a9 k, LeO (chequerlaw06_HeadParses.f k a0 a1 a2 a3 a4 a5 a6 a7 a8 a9) (chequerlaw06_HeadParses.f (k + 1) a0 a1 a2 a3 a4 a5 a6 a7 a8 a9) := by
 intro a0 a1 a2 a3 a4 a5 a6 a7 a8 a9 k
 obtain ⟨ih0, ih1, ih2⟩ := chequerlaw06_HeadParses.mono_l k
 unfold chequerlaw06_HeadParses.f
 repeat' first
  | (with_reducible exact ih0 _ _ _ _ _)
  | (with_reducible exact ih1 _ _ _ _ _ _ _ _)
  | (with_reducible exact ih2 _ _ _ _ _ _ _ _ _ _ _ _ _ _ _ _ _)
  | (with_reducible exact chequerlaw06_lives.mono _)
  | (with_reducible exact chequerref06_Parse.mono _ _ _ _ _)
  | (with_reducible exact chequerref06_Write.mono _ _ _ _ _)
  | (with_reducible exact head_Parse.mono _ _ _ _ _)
  | (with_reducible exact LeO.refl _)
  | (with_reducible exact LeO.none _)
  | (with_reducible refine LeO.ite ?_ ?_)
  | (with_reducible refine LeO.bind ?_ (fun _ => ?_))
  | exact ih0 _ _ _ _ _
  | exact ih1 _ _ _ _ _ _ _ _
  | exact ih2 _ _ _ _ _ _ _ _ _ _ _ _ _ _ _ _ _
  | exact chequerlaw06_lives.mono _
  | exact chequerref06_Parse.mono _ _ _ _ _
  | exact chequerref06_Write.mono _ _ _ _ _
  | exact head_Parse.mono _ _ _ _ _
  | exact LeO.none _
  | refine LeO.ite ?_ ?_
  | refine LeO.bind ?_ (fun _ => ?_)
def chequerlaw06_HeadParses.T6 : Bool × List (List Nat × List Nat) := (true, [([], []), ([], []), ([], []), ([], []), ([2, 3], [2, 3]), ([], []), ([5], [5]), ([6], [6]), ([4, 7], [4, 7]), ([], []), ([], []), ([10], [10]), ([9, 11], [9, 11]), ([8, 12], [8, 12]), ([], []), ([], []), ([14, 15], [14, 15]), ([], []), ([17], [17]), ([0, 1, 13, 16, 18], [0, 1, 13, 16, 18]), ([19, 0, 1, 2, 3, 4, 5, 6, 7, 8, 9, 10, 11, 12, 13, 14, 15, 16, 17, 18, 19], [19])])
def chequerlaw06_HeadParses.B6 : List Nat := [0, 0, 0, 0, 12, 0, 32, 96, 252, 0, 0, 1024, 3584, 8188, 0, 0, 49152, 0, 131072, 524287, 1048575]
theorem chequerlaw06_HeadParses.tab6 : rtab .any (opsOf Try.f3 6) = chequerlaw06_HeadParses.T6 := by kernel_rfl
theorem chequerlaw06_HeadParses.bits6 : waitsOk chequerlaw06_HeadParses.T6.2 chequerlaw06_HeadParses.B6 = true := by kernel_rfl
def chequerlaw06_HeadParses.T13 : Bool × List (List Nat × List Nat) := (true, [([], []), ([], []), ([0, 1], [0, 1]), ([2], [2]), ([], []), ([3, 4], [3, 4]), ([5], [5]), ([6], [6]), ([6], [6]), ([6], [6]), ([], []), ([10, 7, 5, 0, 1, 2, 3, 4, 5, 6, 7, 10], [7, 10]), ([8, 11, 0, 1, 2, 3, 4, 5, 6, 7, 8, 10, 11], [8]), ([9, 12, 0, 1, 2, 3, 4, 5, 6, 7, 8, 9, 10, 11, 12], [9])])
def chequerlaw06_HeadParses.B13 : List Nat := [0, 0, 3, 7, 0, 31, 63, 127, 127, 127, 0, 1279, 3583, 8191]
theorem chequerlaw06_HeadParses.tab13 : rtab .any (opsOf Try.f3 13) = chequerlaw06_HeadParses.T13 := by kernel_rfl
theorem chequerlaw06_HeadParses.bits13 : waitsOk chequerlaw06_HeadParses.T13.2 chequerlaw06_HeadParses.B13 = true := by kernel_rfl
def chequerlaw06_HeadParses.T14 : Bool × List (List Nat × List Nat) := (true, [([], []), ([], []), ([0, 1], [0, 1]), ([2], [2]), ([], []), ([3, 4], [3, 4]), ([5], [5]), ([6], [6]), ([6], [6]), ([6], [6]), ([], []), ([10, 7, 5, 0, 1, 2, 3, 4, 5, 6, 7, 10], [7, 10]), ([8, 11, 0, 1, 2, 3, 4, 5, 6, 7, 8, 10, 11], [8]), ([9, 12, 0, 1, 2, 3, 4, 5, 6, 7, 8, 9, 10, 11, 12], [9])])
def chequerlaw06_HeadParses.B14 : List Nat := [0, 0, 3, 7, 0, 31, 63, 127, 127, 127, 0, 1279, 3583, 8191]
theorem chequerlaw06_HeadParses.tab14 : rtab .any (opsOf Try.f3 14) = chequerlaw06_HeadParses.T14 := by kernel_rfl
theorem chequerlaw06_HeadParses.bits14 : waitsOk chequerlaw06_HeadParses.T14.2 chequerlaw06_HeadParses.B14 = true := by kernel_rfl
def chequerlaw06_HeadParses.T17 : Bool × List (List Nat × List Nat) := (true, [([], []), ([0], [0]), ([], []), ([1, 2], [1, 2]), ([3, 1], [3]), ([4], [4]), ([4], [4]), ([5, 6, 4], [4, 5, 6]), ([4, 7], [4, 7]), ([8, 4], [8]), ([9], [9]), ([9], [9]), ([10, 11, 9], [9, 10, 11]), ([9, 12], [9, 12])])
def chequerlaw06_HeadParses.B17 : List Nat := [0, 1, 0, 7, 15, 31, 31, 127, 255, 511, 1023, 1023, 4095, 8191]
theorem chequerlaw06_HeadParses.tab17 : rtab .any (opsOf Try.f3 17) = chequerlaw06_HeadParses.T17 := by kernel_rfl
theorem chequerlaw06_HeadParses.bits17 : waitsOk chequerlaw06_HeadParses.T17.2 chequerlaw06_HeadParses.B17 = true := by kernel_rfl
set_option maxHeartbeats 8000000 in
set_option maxRecDepth 100000 in
theorem chequerlaw06_HeadParses.calls (k : Nat) (a0 : ByteArray) (a1_0 : Int) (a1_1 : Int) (a1_2 : Int) (a2_0 : Int) (a2_1 : Int) (a2_2 : Int) (a2_3 : Int) (a3 : Int) (a4 : Int) (r : Bool) (w : World) (h : chequerlaw06_HeadParses.f k a0 a1_0 a1_1 a1_2 a2_0 a2_1 a2_2 a2_3 a3 a4 = some r) :
 Calls Try.prog 3 #[.string a0, .agg #[.int .i64 a1_0, .int .i64 a1_1, .int .i64 a1_2], .agg #[.int .i64 a2_0, .int .i64 a2_1, .int .i64 a2_2, .int .i64 a2_3], .int .i64 a3, .int .u8 a4] w fun e w' => e = .returned (.bool r) ∧ Below w.heap.size w w' := by
 have hu23 := Try.underlying23
 have hu25 := Try.underlying25
 have hu36 := Try.underlying36
 have HB := Aside0.mk (Below.refl w.heap.size w)
 have H : ((chequerref05_Few.f a0 60).bind fun t262 => ((chequerref06_Good.f a2_0 a2_1 a2_2 a2_3 4096).bind fun bt263 => ((chequerref06_Write.f k bt263.1 bt263.2.1 bt263.2.2.1 bt263.2.2.2).bind fun bt267 => (if (bt267.1.size : Int) = 0 then ((chequerlaw06_lives.f k).bind fun t269 => (some t269)) else ((chequerref01_Around.f a3 (bt267.1.size : Int)).bind fun t270 => (if 0 ≤ t270 then (if t270 ≤ (bt267.1.size : Int) then ((some (([a4] : List Int) : List Int)).bind fun y271 => (if (bt267.1.extract 0 (t270 : Int).toNat).size + (strOfNums y271).size ≤ 9223372036854775807 then (if 0 ≤ (wrap64 (t270 + 1)) then (if (wrap64 (t270 + 1)) ≤ (bt267.1.size : Int) then (if ((bt267.1.extract 0 (t270 : Int).toNat) ++ (strOfNums y271)).size + (bt267.1.extract ((wrap64 (t270 + 1)) : Int).toNat bt267.1.size).size ≤ 9223372036854775807 then (if 3 + t262.size ≤ 9223372036854775807 then (chequerlaw06_HeadParses.l0 k (([t262, bt267.1, ((bt267.1.extract 0 (t270 : Int).toNat) ++ (strOfNums y271)) ++ (bt267.1.extract ((wrap64 (t270 + 1)) : Int).toNat bt267.1.size), bt267.1.extract 0 (t270 : Int).toNat, (⟨#[80, 53, 10]⟩ : ByteArray) ++ t262] : List ByteArray)) 0 a1_0 a1_1 a1_2) else (none)) else (none)) else (none)) else (none)) else (none))) else (none)) else (none))))))) = some r := h
 clear h
 replace H := Option.bind_eq_some_iff.mp H
 obtain ⟨t262, A60, H⟩ := H
 replace H : ((chequerref06_Good.f a2_0 a2_1 a2_2 a2_3 4096).bind fun bt263 => ((chequerref06_Write.f k bt263.1 bt263.2.1 bt263.2.2.1 bt263.2.2.2).bind fun bt267 => (if (bt267.1.size : Int) = 0 then ((chequerlaw06_lives.f k).bind fun t269 => (some t269)) else ((chequerref01_Around.f a3 (bt267.1.size : Int)).bind fun t270 => (if 0 ≤ t270 then (if t270 ≤ (bt267.1.size : Int) then ((some (([a4] : List Int) : List Int)).bind fun y271 => (if (bt267.1.extract 0 (t270 : Int).toNat).size + (strOfNums y271).size ≤ 9223372036854775807 then (if 0 ≤ (wrap64 (t270 + 1)) then (if (wrap64 (t270 + 1)) ≤ (bt267.1.size : Int) then (if ((bt267.1.extract 0 (t270 : Int).toNat) ++ (strOfNums y271)).size + (bt267.1.extract ((wrap64 (t270 + 1)) : Int).toNat bt267.1.size).size ≤ 9223372036854775807 then (if 3 + t262.size ≤ 9223372036854775807 then (chequerlaw06_HeadParses.l0 k (([t262, bt267.1, ((bt267.1.extract 0 (t270 : Int).toNat) ++ (strOfNums y271)) ++ (bt267.1.extract ((wrap64 (t270 + 1)) : Int).toNat bt267.1.size), bt267.1.extract 0 (t270 : Int).toNat, (⟨#[80, 53, 10]⟩ : ByteArray) ++ t262] : List ByteArray)) 0 a1_0 a1_1 a1_2) else (none)) else (none)) else (none)) else (none)) else (none))) else (none)) else (none)))))) = some r := H
 have A6 := Aside0.mk A60
 clear A60
 replace H := Option.bind_eq_some_iff.mp H
 obtain ⟨⟨t263, t264, t265, t266⟩, A70, H⟩ := H
 replace H : ((chequerref06_Write.f k t263 t264 t265 t266).bind fun bt267 => (if (bt267.1.size : Int) = 0 then ((chequerlaw06_lives.f k).bind fun t269 => (some t269)) else ((chequerref01_Around.f a3 (bt267.1.size : Int)).bind fun t270 => (if 0 ≤ t270 then (if t270 ≤ (bt267.1.size : Int) then ((some (([a4] : List Int) : List Int)).bind fun y271 => (if (bt267.1.extract 0 (t270 : Int).toNat).size + (strOfNums y271).size ≤ 9223372036854775807 then (if 0 ≤ (wrap64 (t270 + 1)) then (if (wrap64 (t270 + 1)) ≤ (bt267.1.size : Int) then (if ((bt267.1.extract 0 (t270 : Int).toNat) ++ (strOfNums y271)).size + (bt267.1.extract ((wrap64 (t270 + 1)) : Int).toNat bt267.1.size).size ≤ 9223372036854775807 then (if 3 + t262.size ≤ 9223372036854775807 then (chequerlaw06_HeadParses.l0 k (([t262, bt267.1, ((bt267.1.extract 0 (t270 : Int).toNat) ++ (strOfNums y271)) ++ (bt267.1.extract ((wrap64 (t270 + 1)) : Int).toNat bt267.1.size), bt267.1.extract 0 (t270 : Int).toNat, (⟨#[80, 53, 10]⟩ : ByteArray) ++ t262] : List ByteArray)) 0 a1_0 a1_1 a1_2) else (none)) else (none)) else (none)) else (none)) else (none))) else (none)) else (none))))) = some r := H
 have A7 := Aside0.mk A70
 clear A70
 replace H := Option.bind_eq_some_iff.mp H
 obtain ⟨⟨t267, t268⟩, A80, H⟩ := H
 replace H : (if (t267.size : Int) = 0 then ((chequerlaw06_lives.f k).bind fun t269 => (some t269)) else ((chequerref01_Around.f a3 (t267.size : Int)).bind fun t270 => (if 0 ≤ t270 then (if t270 ≤ (t267.size : Int) then ((some (([a4] : List Int) : List Int)).bind fun y271 => (if (t267.extract 0 (t270 : Int).toNat).size + (strOfNums y271).size ≤ 9223372036854775807 then (if 0 ≤ (wrap64 (t270 + 1)) then (if (wrap64 (t270 + 1)) ≤ (t267.size : Int) then (if ((t267.extract 0 (t270 : Int).toNat) ++ (strOfNums y271)).size + (t267.extract ((wrap64 (t270 + 1)) : Int).toNat t267.size).size ≤ 9223372036854775807 then (if 3 + t262.size ≤ 9223372036854775807 then (chequerlaw06_HeadParses.l0 k (([t262, t267, ((t267.extract 0 (t270 : Int).toNat) ++ (strOfNums y271)) ++ (t267.extract ((wrap64 (t270 + 1)) : Int).toNat t267.size), t267.extract 0 (t270 : Int).toNat, (⟨#[80, 53, 10]⟩ : ByteArray) ++ t262] : List ByteArray)) 0 a1_0 a1_1 a1_2) else (none)) else (none)) else (none)) else (none)) else (none))) else (none)) else (none)))) = some r := H
 have A8 := Aside0.mk A80
 clear A80
 by_cases c9 : (t267.size : Int) = 0
 · rw [if_pos c9] at H
   have c9b0 : ((t267.size : Int) == 0) = true := beq_iff_eq.mpr c9
   have c9b1 : ((t267.size : Int) != 0) = false := bne_eq_false_iff_eq.mpr c9
   clear c9; replace H := Option.bind_eq_some_iff.mp H; obtain ⟨t269, A100, H⟩ := H
   replace H : (some t269) = some r := H
   have A10 := Aside0.mk A100; clear A100
   obtain rfl := Option.some.inj H
   go_enter Try.func3, Try.ntmps3
   go_wp2_with (first | ((with_reducible refine gate_dst (N := 6) rfl ?_); refine box_event ?hg (N := 6) ?hd (cs := #[.int .i64 a1_0, .int .i64 a1_1, .int .i64 a1_2]) (t := 23) ?hr ?_; (case hd => rfl); (case hg => rfl); (case hr => first | (go_simp; done) | (go_simp; rfl)); intro gb260 hg w11 hbox hb; have BK260 := Aside0.mk (hbox); have GW260 := Aside0.mk ((by rw [hg]; exact (below_size bp_) : w.heap.size ≤ gb260)); have GE260 := Aside0.mk ((by rw [hg]; exact (below_size bp_) : w.heap.size ≤ gb260)); replace HB := Aside0.mk (below_step bp_ hb); clear hb hbox hg) | ((with_reducible refine gate_dst (N := 7) rfl ?_); refine box_event ?hg (N := 7) ?hd (cs := #[.int .i64 a2_0, .int .i64 a2_1, .int .i64 a2_2, .int .i64 a2_3]) (t := 25) ?hr ?_; (case hd => rfl); (case hg => rfl); (case hr => first | (go_simp; done) | (go_simp; rfl)); intro gb261 hg w12 hbox hb; have BK261 := Aside0.mk (hbox); have GW261 := Aside0.mk ((by rw [hg]; exact (below_size bp_) : w.heap.size ≤ gb261)); have GE261 := Aside0.mk ((by rw [hg]; exact (below_size bp_) : w.heap.size ≤ gb261)); replace HB := Aside0.mk (below_step bp_ hb); clear hb hbox hg) | ((with_reducible refine gate_callee (f := 9) rfl ?_); refine goQ_ (some 24) Try.func9 #[.string a0, .int .i64 60] ?_; (with_reducible refine (chequerref05_Few.calls a0 60 t262 _ A6.out).mono ?_); rintro e w' ⟨rfl, ⟨nd, rfl⟩⟩; refine ⟨_, rfl, ?_⟩; have hcz13_0 : w12.cell? ⟨gb261, 0, none⟩ = some (.int .i64 a2_0) := (blk_cell BK261.out 0).trans rfl; have hcz13_1 : w12.cell? ⟨gb261, 1, none⟩ = some (.int .i64 a2_1) := (blk_cell BK261.out 1).trans rfl; have hcz13_2 : w12.cell? ⟨gb261, 2, none⟩ = some (.int .i64 a2_2) := (blk_cell BK261.out 2).trans rfl; have hcz13_3 : w12.cell? ⟨gb261, 3, none⟩ = some (.int .i64 a2_3) := (blk_cell BK261.out 3).trans rfl; have hfz13_0 := blk_frozen BK261.out 0; have hfz13_1 := blk_frozen BK261.out 1; have hfz13_2 := blk_frozen BK261.out 2; have hfz13_3 := blk_frozen BK261.out 3) | ((with_reducible refine gate_callee (f := 11) rfl ?_); refine goQ_ (some 27) Try.func11 #[.agg #[.int .i64 a2_0, .int .i64 a2_1, .int .i64 a2_2, .int .i64 a2_3], .int .i64 4096] ?_; (with_reducible refine (chequerref06_Good.calls a2_0 a2_1 a2_2 a2_3 4096 t263 t264 t265 t266 _ A7.out).mono ?_); rintro e w14 ⟨rfl, hb⟩; refine ⟨_, rfl, ?_⟩; replace HB := Aside0.mk (below_step bp_ hb); (try clear hb); (try clear hb2); (try clear hk); (try clear hi)) | ((with_reducible refine gate_callee (f := 10) rfl ?_); refine goQ_ (some 28) Try.func10 #[.agg #[.int .i64 t263, .int .i64 t264, .int .i64 t265, .int .i64 t266]] ?_; (with_reducible refine (chequerref06_Write.calls k t263 t264 t265 t266 t267 t268 _ A8.out).mono ?_); rintro e w15 ⟨rfl, hb⟩; refine ⟨_, rfl, ?_⟩; replace HB := Aside0.mk (below_step bp_ hb); (try clear hb); (try clear hb2); (try clear hk); (try clear hi)) | ((with_reducible refine gate_callee (f := 12) rfl ?_); refine goQ_ (some 34) Try.func12 #[] ?_; (with_reducible refine (chequerlaw06_lives.calls k  t269 _ A10.out).mono ?_); rintro e w16 ⟨rfl, hb⟩; refine ⟨_, rfl, ?_⟩; replace HB := Aside0.mk (below_step bp_ hb); (try clear hb); (try clear hb2); (try clear hk); (try clear hi)))
   go_ret
   exact ⟨by first | rfl | (simp [errW_none, errW_some] <;> rfl) | (simp [*, errW_none, errW_some] <;> rfl), bp_⟩
 rw [if_neg c9] at H
 have c9b0 : ((t267.size : Int) == 0) = false := beq_eq_false_iff_ne.mpr c9
 have c9b1 : ((t267.size : Int) != 0) = true := bne_iff_ne.mpr c9
 replace H := Option.bind_eq_some_iff.mp H
 obtain ⟨t270, A170, H⟩ := H
 replace H : (if 0 ≤ t270 then (if t270 ≤ (t267.size : Int) then ((some (([a4] : List Int) : List Int)).bind fun y271 => (if (t267.extract 0 (t270 : Int).toNat).size + (strOfNums y271).size ≤ 9223372036854775807 then (if 0 ≤ (wrap64 (t270 + 1)) then (if (wrap64 (t270 + 1)) ≤ (t267.size : Int) then (if ((t267.extract 0 (t270 : Int).toNat) ++ (strOfNums y271)).size + (t267.extract ((wrap64 (t270 + 1)) : Int).toNat t267.size).size ≤ 9223372036854775807 then (if 3 + t262.size ≤ 9223372036854775807 then (chequerlaw06_HeadParses.l0 k (([t262, t267, ((t267.extract 0 (t270 : Int).toNat) ++ (strOfNums y271)) ++ (t267.extract ((wrap64 (t270 + 1)) : Int).toNat t267.size), t267.extract 0 (t270 : Int).toNat, (⟨#[80, 53, 10]⟩ : ByteArray) ++ t262] : List ByteArray)) 0 a1_0 a1_1 a1_2) else (none)) else (none)) else (none)) else (none)) else (none))) else (none)) else (none)) = some r := H
 have A17 := Aside0.mk A170
 clear A170
 by_cases c18 : 0 ≤ t270
 · rw [if_pos c18] at H
   have c18b0 := eq_true c18
   have c18b1 : decide (0 ≤ t270) = true := decide_eq_true c18
   clear c18
   by_cases c19 : t270 ≤ (t267.size : Int)
   · rw [if_pos c19] at H; have c19b0 := eq_true c19
     have c19b1 : decide (t270 ≤ (t267.size : Int)) = true := decide_eq_true c19
     clear c19
     obtain ⟨y271, hy271⟩ : ∃ y_ : List Int, y_ = (([a4] : List Int)) := ⟨_, rfl⟩
     replace H : (if (t267.extract 0 (t270 : Int).toNat).size + (strOfNums y271).size ≤ 9223372036854775807 then (if 0 ≤ (wrap64 (t270 + 1)) then (if (wrap64 (t270 + 1)) ≤ (t267.size : Int) then (if ((t267.extract 0 (t270 : Int).toNat) ++ (strOfNums y271)).size + (t267.extract ((wrap64 (t270 + 1)) : Int).toNat t267.size).size ≤ 9223372036854775807 then (if 3 + t262.size ≤ 9223372036854775807 then (chequerlaw06_HeadParses.l0 k (([t262, t267, ((t267.extract 0 (t270 : Int).toNat) ++ (strOfNums y271)) ++ (t267.extract ((wrap64 (t270 + 1)) : Int).toNat t267.size), t267.extract 0 (t270 : Int).toNat, (⟨#[80, 53, 10]⟩ : ByteArray) ++ t262] : List ByteArray)) 0 a1_0 a1_1 a1_2) else (none)) else (none)) else (none)) else (none)) else (none)) = some r := by first | (rw [hy271]; with_reducible exact H) | (have H2_ := (Option.bind_some _ _).symm.trans H; rw [hy271]; with_reducible exact H2_) | (have H2_ := (Option.bind_some _ _).symm.trans H; with_reducible exact H2_) | with_reducible exact H | (rw [hy271]; exact H) | exact H
     have Ny271 := Aside0.mk hy271; clear hy271
     by_cases c20 : (t267.extract 0 (t270 : Int).toNat).size + (strOfNums y271).size ≤ 9223372036854775807
     · rw [if_pos c20] at H; have c20b0 := eq_true c20
       have c20b1 : decide ((t267.extract 0 (t270 : Int).toNat).size + (strOfNums y271).size ≤ 9223372036854775807) = true := decide_eq_true c20
       try have c20b2 : (9223372036854775807 < (t267.extract 0 (t270 : Int).toNat).size + (strOfNums y271).size) = False := eq_false (Nat.not_lt.2 c20)
       have c20z : (9223372036854775807 < t270.toNat + (strOfNums y271).size) = False := eq_false (by have h1_ := c20; have h2_ : t270 ≤ (t267.size : Int) := of_eq_true (by assumption); simp only [ByteArray.size_extract] at h1_; omega)
       obtain ⟨ji21, hji21⟩ : ∃ j_ : Int, (wrap64 (t270 + 1)) = j_ := ⟨_, rfl⟩
       replace H : (if 0 ≤ (ji21) then (if (ji21) ≤ (t267.size : Int) then (if ((t267.extract 0 (t270 : Int).toNat) ++ (strOfNums y271)).size + (t267.extract ((ji21) : Int).toNat t267.size).size ≤ 9223372036854775807 then (if 3 + t262.size ≤ 9223372036854775807 then (chequerlaw06_HeadParses.l0 k (([t262, t267, ((t267.extract 0 (t270 : Int).toNat) ++ (strOfNums y271)) ++ (t267.extract ((ji21) : Int).toNat t267.size), t267.extract 0 (t270 : Int).toNat, (⟨#[80, 53, 10]⟩ : ByteArray) ++ t262] : List ByteArray)) 0 a1_0 a1_1 a1_2) else (none)) else (none)) else (none)) else (none)) = some r := by first | (rw [hji21] at H; exact H) | (simp only [hji21] at H ⊢; exact H)
       (try rw [hji21] at A6)
       (try rw [hji21] at A7)
       (try rw [hji21] at A8)
       (try rw [hji21] at A17)
       have hji21w : (IntKind.i64.wrap (t270 + 1)) = ji21 := (i64_w _).trans hji21
       by_cases c22 : 0 ≤ (ji21)
       · rw [if_pos c22] at H; have c22b0 := eq_true c22
         have c22b1 : decide (0 ≤ (ji21)) = true := decide_eq_true c22
         clear c22
         by_cases c23 : (ji21) ≤ (t267.size : Int)
         · rw [if_pos c23] at H; have c23b0 := eq_true c23
           have c23b1 : decide ((ji21) ≤ (t267.size : Int)) = true := decide_eq_true c23
           clear c23
           by_cases c24 : ((t267.extract 0 (t270 : Int).toNat) ++ (strOfNums y271)).size + (t267.extract ((ji21) : Int).toNat t267.size).size ≤ 9223372036854775807
           · rw [if_pos c24] at H; have c24b0 := eq_true c24
             have c24b1 : decide (((t267.extract 0 (t270 : Int).toNat) ++ (strOfNums y271)).size + (t267.extract ((ji21) : Int).toNat t267.size).size ≤ 9223372036854775807) = true := decide_eq_true c24
             try have c24b2 : (9223372036854775807 < ((t267.extract 0 (t270 : Int).toNat) ++ (strOfNums y271)).size + (t267.extract ((ji21) : Int).toNat t267.size).size) = False := eq_false (Nat.not_lt.2 c24)
             have c24z : (9223372036854775807 < t270.toNat + (strOfNums y271).size + (t267.size - ji21.toNat)) = False := eq_false (by have h1_ := c24; have h2_ : t270 ≤ (t267.size : Int) := of_eq_true (by assumption); simp only [ByteArray.size_append, ByteArray.size_extract] at h1_; omega)
             (try (have c24y := c24b2; simp only [ByteArray.size_append] at c24y))
             have c25b0 := eq_true (of_decide_eq_true (by first | (with_reducible assumption) | assumption) : 0 ≤ t270); have c26b0 := eq_true (of_decide_eq_true (by first | (with_reducible assumption) | assumption) : t270 ≤ (t267.size : Int))
             by_cases c27 : 3 + t262.size ≤ 9223372036854775807
             · rw [if_pos c27] at H; have c27b0 := eq_true c27
               have c27b1 : decide (3 + t262.size ≤ 9223372036854775807) = true := decide_eq_true c27
               try have c27b2 : (9223372036854775807 < 3 + t262.size) = False := eq_false (Nat.not_lt.2 c27)
               obtain ⟨y274, hy274⟩ : ∃ y_ : List ByteArray, y_ = (([t262, t267, ((t267.extract 0 (t270 : Int).toNat) ++ (strOfNums y271)) ++ (t267.extract ((ji21) : Int).toNat t267.size), t267.extract 0 (t270 : Int).toNat, (⟨#[80, 53, 10]⟩ : ByteArray) ++ t262] : List ByteArray)) := ⟨_, rfl⟩
               replace H : (chequerlaw06_HeadParses.l0 k y274 0 a1_0 a1_1 a1_2) = some r := by first | (rw [hy274]; with_reducible exact H) | (have H2_ := (Option.bind_some _ _).symm.trans H; rw [hy274]; with_reducible exact H2_) | (have H2_ := (Option.bind_some _ _).symm.trans H; with_reducible exact H2_) | with_reducible exact H | (rw [hy274]; exact H) | exact H
               have Ny274 := Aside0.mk hy274; clear hy274
               have H' := Aside0.mk H
               clear H
               go_enter Try.func3, Try.ntmps3
               try go_wp2_with (first | ((with_reducible refine gate_dst (N := 6) rfl ?_); refine box_event ?hg (N := 6) ?hd (cs := #[.int .i64 a1_0, .int .i64 a1_1, .int .i64 a1_2]) (t := 23) ?hr ?_; (case hd => rfl); (case hg => rfl); (case hr => first | (go_simp; done) | (go_simp; rfl)); intro gb260 hg w28 hbox hb; have BK260 := Aside0.mk (hbox); have GW260 := Aside0.mk ((by rw [hg]; exact (below_size bp_) : w.heap.size ≤ gb260)); have GE260 := Aside0.mk ((by rw [hg]; exact (below_size bp_) : w.heap.size ≤ gb260)); replace HB := Aside0.mk (below_step bp_ hb); clear hb hbox hg) | ((with_reducible refine gate_dst (N := 7) rfl ?_); refine box_event ?hg (N := 7) ?hd (cs := #[.int .i64 a2_0, .int .i64 a2_1, .int .i64 a2_2, .int .i64 a2_3]) (t := 25) ?hr ?_; (case hd => rfl); (case hg => rfl); (case hr => first | (go_simp; done) | (go_simp; rfl)); intro gb261 hg w29 hbox hb; have BK261 := Aside0.mk (hbox); have GW261 := Aside0.mk ((by rw [hg]; exact (below_size bp_) : w.heap.size ≤ gb261)); have GE261 := Aside0.mk ((by rw [hg]; exact (below_size bp_) : w.heap.size ≤ gb261)); replace HB := Aside0.mk (below_step bp_ hb); have NB260_261 := Aside0.mk ((nlt_ hg (hp_ BK260.out))); have NB261_260 := Aside0.mk ((ngt_ hg (hp_ BK260.out))); replace BK260 := Aside0.mk (blk_below (hp_ BK260.out) hb); clear hb hbox hg) | ((with_reducible refine gate_callee (f := 9) rfl ?_); refine goQ_ (some 24) Try.func9 #[.string a0, .int .i64 60] ?_; (with_reducible refine (chequerref05_Few.calls a0 60 t262 _ A6.out).mono ?_); rintro e w' ⟨rfl, ⟨nd, rfl⟩⟩; refine ⟨_, rfl, ?_⟩; have hnb30 := NB261_260.out; have hnc30 := NB260_261.out; have hcz31_0 : w29.cell? ⟨gb261, 0, none⟩ = some (.int .i64 a2_0) := (blk_cell BK261.out 0).trans rfl; have hcz31_1 : w29.cell? ⟨gb261, 1, none⟩ = some (.int .i64 a2_1) := (blk_cell BK261.out 1).trans rfl; have hcz31_2 : w29.cell? ⟨gb261, 2, none⟩ = some (.int .i64 a2_2) := (blk_cell BK261.out 2).trans rfl; have hcz31_3 : w29.cell? ⟨gb261, 3, none⟩ = some (.int .i64 a2_3) := (blk_cell BK261.out 3).trans rfl; have hfz31_0 := blk_frozen BK261.out 0; have hfz31_1 := blk_frozen BK261.out 1; have hfz31_2 := blk_frozen BK261.out 2; have hfz31_3 := blk_frozen BK261.out 3) | ((with_reducible refine gate_callee (f := 11) rfl ?_); refine goQ_ (some 27) Try.func11 #[.agg #[.int .i64 a2_0, .int .i64 a2_1, .int .i64 a2_2, .int .i64 a2_3], .int .i64 4096] ?_; (with_reducible refine (chequerref06_Good.calls a2_0 a2_1 a2_2 a2_3 4096 t263 t264 t265 t266 _ A7.out).mono ?_); rintro e w32 ⟨rfl, hb⟩; refine ⟨_, rfl, ?_⟩; replace BK260 := Aside0.mk (blk_below (hp_ BK260.out) hb); replace HB := Aside0.mk (below_step bp_ hb); (try clear hb); (try clear hb2); (try clear hk); (try clear hi)) | ((with_reducible refine gate_callee (f := 10) rfl ?_); refine goQ_ (some 28) Try.func10 #[.agg #[.int .i64 t263, .int .i64 t264, .int .i64 t265, .int .i64 t266]] ?_; (with_reducible refine (chequerref06_Write.calls k t263 t264 t265 t266 t267 t268 _ A8.out).mono ?_); rintro e w33 ⟨rfl, hb⟩; refine ⟨_, rfl, ?_⟩; replace BK260 := Aside0.mk (blk_below (hp_ BK260.out) hb); replace HB := Aside0.mk (below_step bp_ hb); (try clear hb); (try clear hb2); (try clear hk); (try clear hi)) | ((with_reducible refine gate_callee (f := 13) rfl ?_); refine goQ_ (some 38) Try.func13 #[.int .i64 a3, .int .i64 (t267.size : Int)] ?_; (with_reducible refine (chequerref01_Around.calls a3 (t267.size : Int) t270 _ A17.out).mono ?_); rintro e w' ⟨rfl, ⟨nd, rfl⟩⟩; refine ⟨_, rfl, ?_⟩))
               (try (rw [drewN_self w33]; generalize hq_ : World.drewN w33 _ = w33; have n0_ := Aside0.mk (qhp_ hq_ BK260.out); have n1_ : Aside0 (Below w.heap.size w w33) := ⟨qbp_ hq_⟩; clear BK260 HB hq_; have BK260 := n0_; have HB := n1_; clear n0_ n1_))
               replace BK260 := Aside0.mk (blk_drew BK260.out); replace HB := Aside0.mk (below_drew1 HB.out); refine start_ (n := 21) (S := fun w' => True) (ds := []) #[false, false, false, false, false, false, false, false, false, false, false, false, false, false, false, false, false, false, false, false, false] (by kernel_rfl) rfl rfl trivial (fun hHeld => ?_); refine with_tabW chequerlaw06_HeadParses.tab6 chequerlaw06_HeadParses.bits6 (fun HT_ HW_ => ?_)
               generalize w33.drew = w34 at BK260 HB hHeld ⊢
               refine pur_ (i := 0) (N := some 39) #[true, false, false, false, false, false, false, false, false, false, false, false, false, false, false, false, false, false, false, false, false] (any_of HT_.out (by kernel_rfl)) ?_; refine pur_ (i := 1) (N := some 40) #[true, true, false, false, false, false, false, false, false, false, false, false, false, false, false, false, false, false, false, false, false] (any_of HT_.out (by kernel_rfl)) ?_; refine pur_ (i := 2) (N := some 41) #[true, true, true, false, false, false, false, false, false, false, false, false, false, false, false, false, false, false, false, false, false] (any_of HT_.out (by kernel_rfl)) ?_; refine pur_ (i := 3) (N := some 42) #[true, true, true, true, false, false, false, false, false, false, false, false, false, false, false, false, false, false, false, false, false] (any_of HT_.out (by kernel_rfl)) ?_; refine pur_ (i := 4) (N := some 43) #[true, true, true, true, true, false, false, false, false, false, false, false, false, false, false, false, false, false, false, false, false] (any_of HT_.out (by kernel_rfl)) ?_; refine pur_ (i := 5) (N := some 44) #[true, true, true, true, true, true, false, false, false, false, false, false, false, false, false, false, false, false, false, false, false] (any_of HT_.out (by kernel_rfl)) ?_; refine pur_ (i := 9) (N := some 48) #[true, true, true, true, true, true, false, false, false, true, false, false, false, false, false, false, false, false, false, false, false] (any_of HT_.out (by kernel_rfl)) ?_; refine pur_ (i := 10) (N := some 49) #[true, true, true, true, true, true, false, false, false, true, true, false, false, false, false, false, false, false, false, false, false] (any_of HT_.out (by kernel_rfl)) ?_; refine pur_ (i := 11) (N := some 50) #[true, true, true, true, true, true, false, false, false, true, true, true, false, false, false, false, false, false, false, false, false] (any_of HT_.out (by kernel_rfl)) ?_; refine pur_ (i := 12) (N := some 51) #[true, true, true, true, true, true, false, false, false, true, true, true, true, false, false, false, false, false, false, false, false] (any_of HT_.out (by kernel_rfl)) ?_; refine pur_ (i := 14) (N := some 53) #[true, true, true, true, true, true, false, false, false, true, true, true, true, false, true, false, false, false, false, false, false] (any_of HT_.out (by kernel_rfl)) ?_; refine pur_ (i := 15) (N := some 54) #[true, true, true, true, true, true, false, false, false, true, true, true, true, false, true, true, false, false, false, false, false] (any_of HT_.out (by kernel_rfl)) ?_; refine pur_ (i := 16) (N := some 55) #[true, true, true, true, true, true, false, false, false, true, true, true, true, false, true, true, true, false, false, false, false] (any_of HT_.out (by kernel_rfl)) ?_; refine pur_ (i := 17) (N := some 56) #[true, true, true, true, true, true, false, false, false, true, true, true, true, false, true, true, true, true, false, false, false] (any_of HT_.out (by kernel_rfl)) ?_; refine pur_ (i := 18) (N := some 57) #[true, true, true, true, true, true, false, false, false, true, true, true, true, false, true, true, true, true, true, false, false] (any_of HT_.out (by kernel_rfl)) ?_; refine one_ (i := 6) (N := some 45) #[true, true, true, true, true, true, true, false, false, true, true, true, true, false, true, true, true, true, true, false, false] rfl rfl (one_of HT_.out (by kernel_rfl)) (by decide) (fun K hK => ?_); refine Kd.R_lit_step (Kd.int .u8) _ 5 ?hg (N := 45) ?hd (xs := ([a4] : List Int)) (inner := [.int .u8 a4]) (ok := fun _ => True) (okp := fun _ => True) ?hr ?hp (fun _ hk => hk) trivial (Below.refl _ _) (Nat.le_refl _) (by simp) ?_; (case hd => rfl); (case hg => rfl); (case hr => first | (go_simp; done) | (go_simp; rfl)); (case hp => exact (Reps.one (show Kd.M (Kd.int .u8) _ _ _ a4 [.int .u8 a4] from rfl) (Reps.none _ _)))
               intro v272 w35 ho36 hb hg_ hnew_
               clear hg_ hnew_
               (first | rw [← Ny271.out] at ho36 | (simp only [Int.reduceToNat] at ho36; rw [← Ny271.out] at ho36))
               have HO273 := Aside0.mk (Kd.R_lower ho36 (below_size bp_)); replace BK260 := Aside0.mk (blk_below (hp_ BK260.out) hb); replace HB := Aside0.mk (below_step bp_ hb); clear hb ho36; refine hK.out _ _ trivial (fun hHeld => ?_); clear hK K; refine norm_ (a' := ?_) ?_ ?_; rotate_left
               · show Act.put _ (some 45) _ = _
                 simp only [Act.put, List.setIfInBounds_toArray, List.set_cons_zero, List.set_cons_succ, i64_w, i32_w]; rfl
               refine one_ (i := 7) (N := some 46) #[true, true, true, true, true, true, true, true, false, true, true, true, true, false, true, true, true, true, true, false, false] rfl rfl (one_of HT_.out (by kernel_rfl)) (by decide) (fun K hK => ?_); have hcv37 := own_string (P := Try.prog) Try.underlying33 Try.underlying5 Try.underlying9 (Kd.own_of_R HO273.out); refine value_ (w1 := ?_) (v := ?_) (by rfl) rfl ?_ ?_
               rotate_left 2
               · go_simp
                 constructor
                 · rfl
                 rfl
               clear hcv37; refine hK.out _ _ trivial (fun hHeld => ?_); clear hK K; refine norm_ (a' := ?_) ?_ ?_; rotate_left
               · show Act.put _ (some 46) _ = _
                 simp only [Act.put, List.setIfInBounds_toArray, List.set_cons_zero, List.set_cons_succ, i64_w, i32_w]; rfl
               refine pur_ (i := 8) (N := some 47) #[true, true, true, true, true, true, true, true, true, true, true, true, true, false, true, true, true, true, true, false, false] (any_of HT_.out (by kernel_rfl)) ?_; refine pur_ (i := 13) (N := some 52) #[true, true, true, true, true, true, true, true, true, true, true, true, true, true, true, true, true, true, true, false, false] (any_of HT_.out (by kernel_rfl)) ?_; refine one_ (i := 19) (N := some 58) #[true, true, true, true, true, true, true, true, true, true, true, true, true, true, true, true, true, true, true, true, false] rfl rfl (one_of HT_.out (by kernel_rfl)) (by decide) (fun K hK => ?_); refine Kd.R_lit_step Kd.string _ 9 ?hg (N := 58) ?hd (xs := ([t262, t267, ((t267.extract 0 (t270 : Int).toNat) ++ (strOfNums y271)) ++ (t267.extract ((ji21) : Int).toNat t267.size), t267.extract 0 (t270 : Int).toNat, (⟨#[80, 53, 10]⟩ : ByteArray) ++ t262] : List ByteArray)) (inner := [.string t262, .string t267, .string (((t267.extract 0 (t270 : Int).toNat) ++ (strOfNums y271)) ++ (t267.extract ((ji21) : Int).toNat t267.size)), .string (t267.extract 0 (t270 : Int).toNat), .string ((⟨#[80, 53, 10]⟩ : ByteArray) ++ t262)]) (ok := fun _ => True) (okp := fun _ => True) ?hr ?hp (fun _ hk => hk) trivial (Below.refl _ _) (Nat.le_refl _) (by simp) ?_; (case hd => rfl); (case hg => rfl); (case hr => first | (go_simp; done) | (go_simp; rfl)); (case hp => exact (Reps.one (show Kd.M Kd.string _ _ _ t262 [.string t262] from rfl) (Reps.one (show Kd.M Kd.string _ _ _ t267 [.string t267] from rfl) (Reps.one (show Kd.M Kd.string _ _ _ (((t267.extract 0 (t270 : Int).toNat) ++ (strOfNums y271)) ++ (t267.extract ((ji21) : Int).toNat t267.size)) [.string (((t267.extract 0 (t270 : Int).toNat) ++ (strOfNums y271)) ++ (t267.extract ((ji21) : Int).toNat t267.size))] from rfl) (Reps.one (show Kd.M Kd.string _ _ _ (t267.extract 0 (t270 : Int).toNat) [.string (t267.extract 0 (t270 : Int).toNat)] from rfl) (Reps.one (show Kd.M Kd.string _ _ _ ((⟨#[80, 53, 10]⟩ : ByteArray) ++ t262) [.string ((⟨#[80, 53, 10]⟩ : ByteArray) ++ t262)] from rfl) (Reps.none _ _)))))))
               intro v275 w38 ho39 hb hg_ hnew_
               clear hg_ hnew_
               (first | rw [← Ny274.out] at ho39 | (simp only [Int.reduceToNat] at ho39; rw [← Ny274.out] at ho39))
               replace HO273 := Aside0.mk (Kd.R_below (rp_ HO273.out) hb); have HO276 := Aside0.mk (Kd.R_lower ho39 (below_size bp_)); replace BK260 := Aside0.mk (blk_below (hp_ BK260.out) hb); replace HB := Aside0.mk (below_step bp_ hb); clear hb ho39; refine hK.out _ _ trivial (fun hHeld => ?_); clear hK K; refine norm_ (a' := ?_) ?_ ?_; rotate_left
               · show Act.put _ (some 58) _ = _
                 simp only [Act.put, List.setIfInBounds_toArray, List.set_cons_zero, List.set_cons_succ, i64_w, i32_w]; rfl
               refine pur_ (i := 20) (N := some 14) #[true, true, true, true, true, true, true, true, true, true, true, true, true, true, true, true, true, true, true, true, true] (any_of HT_.out (by kernel_rfl)) ?_; refine done_ (done_of HT_.out (by kernel_rfl)) ?_
               try go_wp2
               go_loopg [15] k (fun kq v15 w' => ∃ (x15_1 : Int), v15 = .int .i64 x15_1 ∧ Aside0 (chequerlaw06_HeadParses.l0 kq y274 x15_1 a1_0 a1_1 a1_2 = some r) ∧ Aside0 (kq ≤ k) ∧ Aside0 (Kd.R Kd.string 9 w' w.heap.size (fun _ => True) v275 y274) ∧ Aside0 (w'.heap[gb260]? = some (.cells #[.int .i64 a1_0, .int .i64 a1_1, .int .i64 a1_2] 23 (0, 0))) ∧ Aside0 (Below w.heap.size w w'))
               case atStart => exact ⟨(0), (by first | rfl | (simp; done) | (simp [*]; done)), H', ⟨Nat.le_refl _⟩, ⟨rp_ HO276.out⟩, ⟨hp_ BK260.out⟩, ⟨bp_⟩⟩
               case round =>
                clear H'
                try clear c1
                try clear c2
                try clear p2
                try clear c3
                try clear hcv3
                try clear p6
                try clear c9
                try clear c9b0
                try clear c9b1
                try clear c10
                try clear c11
                try clear c12
                try clear c13
                try clear c18
                try clear c18b0
                try clear c18b1
                try clear c19
                try clear c19b0
                try clear c19b1
                try clear c20
                try clear c20b0
                try clear c20b1
                try clear c20b2
                try clear c22
                try clear c22b0
                try clear c22b1
                try clear c23
                try clear c23b0
                try clear c23b1
                try clear c24
                try clear c24b0
                try clear c24b1
                try clear c24b2
                try clear c25
                try clear c25b0
                try clear c26
                try clear c26b0
                try clear c27
                try clear c27b0
                try clear c27b1
                try clear c27b2
                try clear c30
                try clear hcv37
                try clear hcz13_0
                try clear hcz13_1
                try clear hcz13_2
                try clear hcz13_3
                try clear hcz31_0
                try clear hcz31_1
                try clear hcz31_2
                try clear hcz31_3
                try clear hfz13_0
                try clear hfz13_1
                try clear hfz13_2
                try clear hfz13_3
                try clear hfz31_0
                try clear hfz31_1
                try clear hfz31_2
                try clear hfz31_3
                obtain ⟨x15_1, rfl, HA, HK1, HO_14, BK260, HB⟩ := hrel
                cases gk with
                | zero => exact absurd HA.out (by simp [chequerlaw06_HeadParses.l0])
                | succ k1 =>
                 have H := HA.out; clear HA; simp only [chequerlaw06_HeadParses.l0] at H
                 by_cases c40 : x15_1 < 5
                 · rw [if_pos c40] at H
                   have c40b0 : decide (x15_1 < 5) = true := decide_eq_true c40
                   clear c40; have HC41 := Aside0.mk H; clear H
                   have hcz42_0 : wr.cell? ⟨gb260, 0, none⟩ = some (.int .i64 a1_0) := (blk_cell BK260.out 0).trans rfl
                   have hcz42_1 : wr.cell? ⟨gb260, 1, none⟩ = some (.int .i64 a1_1) := (blk_cell BK260.out 1).trans rfl
                   have hcz42_2 : wr.cell? ⟨gb260, 2, none⟩ = some (.int .i64 a1_2) := (blk_cell BK260.out 2).trans rfl
                   have hfz42_0 := blk_frozen BK260.out 0; have hfz42_1 := blk_frozen BK260.out 1; have hfz42_2 := blk_frozen BK260.out 2
                   go_upto_if 66 with (first | ((with_reducible refine gate_dst (N := 16) rfl ?_); refine box_event ?hg (N := 16) ?hd (cs := #[.int .i64 0, .int .i64 0, .int .i64 0]) (t := 23) ?hr ?_; (case hd => rfl); (case hg => rfl); (case hr => first | (go_simp; done) | (go_simp; rfl)); intro gb278 hg w43 hbox hb; replace HO_14 := Aside0.mk (Kd.R_below (rp_ HO_14.out) hb); have BK278 := Aside0.mk (hbox); have GW278 := Aside0.mk ((by rw [hg]; exact (below_size bp_) : w.heap.size ≤ gb278)); have GE278 := Aside0.mk ((by rw [hg]; exact (below_size bp_) : w.heap.size ≤ gb278)); replace HB := Aside0.mk (below_step bp_ hb); have NB260_278 := Aside0.mk ((nlt_ hg (hp_ BK260.out))); have NB278_260 := Aside0.mk ((ngt_ hg (hp_ BK260.out))); replace BK260 := Aside0.mk (blk_below (hp_ BK260.out) hb); clear hb hbox hg; have hnb44 := NB278_260.out; have hnc44 := NB260_278.out; have hcz45_0 : w43.cell? ⟨gb278, 0, none⟩ = some (.int .i64 0) := (blk_cell BK278.out 0).trans rfl; have hcz45_1 : w43.cell? ⟨gb278, 1, none⟩ = some (.int .i64 0) := (blk_cell BK278.out 1).trans rfl; have hcz45_2 : w43.cell? ⟨gb278, 2, none⟩ = some (.int .i64 0) := (blk_cell BK278.out 2).trans rfl; have hfz45_0 := blk_frozen BK278.out 0; have hfz45_1 := blk_frozen BK278.out 1; have hfz45_2 := blk_frozen BK278.out 2))
                   (try simp only [Act.put, List.setIfInBounds_toArray, List.set_cons_zero, List.set_cons_succ])
                   go_cut [] (fun wc => ∃ (kq : Nat) (x279000_40 : Int) (x279001_40 : Int) (x279002_40 : Int), Aside0 (chequerlaw06_HeadParses.j1 kq y274 x15_1 a1_0 a1_1 a1_2 x279000_40 x279001_40 x279002_40 = some r) ∧ Aside0 (kq ≤ k1) ∧ Aside0 (Kd.R Kd.string 9 wc w.heap.size (fun _ => True) v275 y274) ∧ Aside0 (wc.heap[gb260]? = some (.cells #[.int .i64 a1_0, .int .i64 a1_1, .int .i64 a1_2] 23 (0, 0))) ∧ Aside0 (wc.heap[gb278]? = some (.cells #[.int .i64 x279000_40, .int .i64 x279001_40, .int .i64 x279002_40] 23 (0, 0))) ∧ Aside0 (Below w.heap.size w wc))
                   case first =>
                    have H := HC41.out; clear HC41
                    by_cases c46 : (Int.tmod x15_1 2) = 1
                    · rw [if_pos c46] at H
                      have c46b0 : ((Int.tmod x15_1 2) == 1) = true := beq_iff_eq.mpr c46
                      have c46b1 : ((Int.tmod x15_1 2) != 1) = false := bne_eq_false_iff_eq.mpr c46
                      clear c46
                      (first | rw [c46b0] | (simp only [i64_w, i32_w]; rw [c46b0]) | skip)
                      replace H := Option.bind_eq_some_iff.mp H; obtain ⟨⟨t279, t280, t281⟩, A470, H⟩ := H
                      replace H : (chequerlaw06_HeadParses.j1 k1 y274 x15_1 a1_0 a1_1 a1_2 t279 t280 t281) = some r := H
                      have A47 := Aside0.mk A470; clear A470
                      have H' := Aside0.mk H
                      clear H
                      go_wp2_with (first | ((with_reducible refine gate_callee (f := 14) rfl ?_); refine goQ_ (some 67) Try.func14 #[] ?_; (with_reducible refine (head_All.calls  t279 t280 t281 _ A47.out).mono ?_); rintro e w48 ⟨rfl, hb⟩; refine ⟨_, rfl, ?_⟩; replace HO_14 := Aside0.mk (Kd.R_below (by (with_reducible repeat (first | apply Kd.R_alloc | apply Kd.R_drewN | apply Kd.R_drew)); exact (Kd.R_mono (Kd.R_far (p := ⟨gb278, 2, none⟩) (Kd.R_far (p := ⟨gb278, 1, none⟩) (Kd.R_far (p := ⟨gb278, 0, none⟩) (Kd.R_types HO_14.out BK278.out (by decide)) (fun _ hk => hk.2) (.int .i64 a1_0)) (fun _ hk => hk.2) (.int .i64 a1_1)) (fun _ hk => hk.2) (.int .i64 a1_2)) (fun _ h_ => h_.1))) hb); replace BK260 := Aside0.mk (blk_below (hf_ BK260.out NB260_278.out) hb); replace BK278 := Aside0.mk (blk_below (g := gb278) (o := .cells #[.int .i64 a1_0, .int .i64 a1_1, .int .i64 a1_2] 23 (0, 0)) (by (with_reducible repeat (first | refine blk_drewN ?_ _ | refine blk_drew ?_ | refine blk_alloc ?_ _)); refine blk_put (cs := #[.int .i64 a1_0, .int .i64 a1_1, .int .i64 0]) ?_ 2 _ rfl; (with_reducible repeat (first | refine blk_drewN ?_ _ | refine blk_drew ?_ | refine blk_alloc ?_ _)); refine blk_put (cs := #[.int .i64 a1_0, .int .i64 0, .int .i64 0]) ?_ 1 _ rfl; (with_reducible repeat (first | refine blk_drewN ?_ _ | refine blk_drew ?_ | refine blk_alloc ?_ _)); refine blk_put (cs := #[.int .i64 0, .int .i64 0, .int .i64 0]) ?_ 0 _ rfl; (with_reducible repeat (first | refine blk_drewN ?_ _ | refine blk_drew ?_ | refine blk_alloc ?_ _)); exact BK278.out) hb); replace HB := Aside0.mk (below_step bp_ hb); (try clear hb); (try clear hb2); (try clear hk); (try clear hi); have hnb49 := NB278_260.out; have hnc49 := NB260_278.out; have hcz50_0 : w48.cell? ⟨gb278, 0, none⟩ = some (.int .i64 a1_0) := (blk_cell BK278.out 0).trans rfl; have hcz50_1 : w48.cell? ⟨gb278, 1, none⟩ = some (.int .i64 a1_1) := (blk_cell BK278.out 1).trans rfl; have hcz50_2 : w48.cell? ⟨gb278, 2, none⟩ = some (.int .i64 a1_2) := (blk_cell BK278.out 2).trans rfl; have hfz50_0 := blk_frozen BK278.out 0; have hfz50_1 := blk_frozen BK278.out 1; have hfz50_2 := blk_frozen BK278.out 2))
                      go_meet
                      case rel => exact ⟨_, (t279), (t280), (t281), H', ⟨by have := HK1.out; first | omega | exact Nat.le_refl _⟩, ⟨rf_ HO_14.out BK278.out (by decide) (fun _ hk => trivial)⟩, ⟨hf_ BK260.out NB260_278.out⟩, ⟨by (with_reducible repeat (first | refine blk_drewN ?_ _ | refine blk_drew ?_ | refine blk_alloc ?_ _)); refine blk_put (cs := #[.int .i64 t279, .int .i64 t280, .int .i64 a1_2]) ?_ 2 _ rfl; (with_reducible repeat (first | refine blk_drewN ?_ _ | refine blk_drew ?_ | refine blk_alloc ?_ _)); refine blk_put (cs := #[.int .i64 t279, .int .i64 a1_1, .int .i64 a1_2]) ?_ 1 _ rfl; (with_reducible repeat (first | refine blk_drewN ?_ _ | refine blk_drew ?_ | refine blk_alloc ?_ _)); refine blk_put (cs := #[.int .i64 a1_0, .int .i64 a1_1, .int .i64 a1_2]) ?_ 0 _ rfl; (with_reducible repeat (first | refine blk_drewN ?_ _ | refine blk_drew ?_ | refine blk_alloc ?_ _)); exact BK278.out⟩, ⟨bp_⟩⟩
                    rw [if_neg c46] at H
                    have c46b0 : ((Int.tmod x15_1 2) == 1) = false := beq_eq_false_iff_ne.mpr c46
                    have c46b1 : ((Int.tmod x15_1 2) != 1) = true := bne_iff_ne.mpr c46
                    (first | rw [c46b0] | (simp only [i64_w, i32_w]; rw [c46b0]) | skip)
                    have H' := Aside0.mk H
                    clear H
                    go_wp2
                    go_meet
                    case rel => exact ⟨_, (a1_0), (a1_1), (a1_2), H', ⟨by have := HK1.out; first | omega | exact Nat.le_refl _⟩, ⟨rf_ HO_14.out BK278.out (by decide) (fun _ hk => trivial)⟩, ⟨hf_ BK260.out NB260_278.out⟩, ⟨by (with_reducible repeat (first | refine blk_drewN ?_ _ | refine blk_drew ?_ | refine blk_alloc ?_ _)); refine blk_put (cs := #[.int .i64 a1_0, .int .i64 a1_1, .int .i64 0]) ?_ 2 _ rfl; (with_reducible repeat (first | refine blk_drewN ?_ _ | refine blk_drew ?_ | refine blk_alloc ?_ _)); refine blk_put (cs := #[.int .i64 a1_0, .int .i64 0, .int .i64 0]) ?_ 1 _ rfl; (with_reducible repeat (first | refine blk_drewN ?_ _ | refine blk_drew ?_ | refine blk_alloc ?_ _)); refine blk_put (cs := #[.int .i64 0, .int .i64 0, .int .i64 0]) ?_ 0 _ rfl; (with_reducible repeat (first | refine blk_drewN ?_ _ | refine blk_drew ?_ | refine blk_alloc ?_ _)); exact BK278.out⟩, ⟨bp_⟩⟩
                   case rest =>
                    clear HC41
                    try clear c1
                    try clear c2
                    try clear p2
                    try clear c3
                    try clear hcv3
                    try clear c4
                    try clear p6
                    try clear c9
                    try clear c9b0
                    try clear c9b1
                    try clear c10
                    try clear c11
                    try clear c12
                    try clear c13
                    try clear c14
                    try clear c18
                    try clear c18b0
                    try clear c18b1
                    try clear c19
                    try clear c19b0
                    try clear c19b1
                    try clear c20
                    try clear c20b0
                    try clear c20b1
                    try clear c20b2
                    try clear c22
                    try clear c22b0
                    try clear c22b1
                    try clear c23
                    try clear c23b0
                    try clear c23b1
                    try clear c24
                    try clear c24b0
                    try clear c24b1
                    try clear c24b2
                    try clear c25
                    try clear c25b0
                    try clear c26
                    try clear c26b0
                    try clear c27
                    try clear c27b0
                    try clear c27b1
                    try clear c27b2
                    try clear c30
                    try clear hcv37
                    try clear c40
                    try clear c40b0
                    try clear c44
                    try clear c46
                    try clear c46b0
                    try clear c46b1
                    try clear c49
                    try clear hcz13_0
                    try clear hcz13_1
                    try clear hcz13_2
                    try clear hcz13_3
                    try clear hcz31_0
                    try clear hcz31_1
                    try clear hcz31_2
                    try clear hcz31_3
                    try clear hcz42_0
                    try clear hcz42_1
                    try clear hcz42_2
                    try clear hcz45_0
                    try clear hcz45_1
                    try clear hcz45_2
                    try clear hcz50_0
                    try clear hcz50_1
                    try clear hcz50_2
                    try clear hfz13_0
                    try clear hfz13_1
                    try clear hfz13_2
                    try clear hfz13_3
                    try clear hfz31_0
                    try clear hfz31_1
                    try clear hfz31_2
                    try clear hfz31_3
                    try clear hfz42_0
                    try clear hfz42_1
                    try clear hfz42_2
                    try clear hfz45_0
                    try clear hfz45_1
                    try clear hfz45_2
                    try clear hfz50_0
                    try clear hfz50_1
                    try clear hfz50_2
                    try clear p2
                    try clear p6
                    obtain ⟨kq, x279000_40, x279001_40, x279002_40, HA, HJ40, HO_14, BK260, BK278, HB⟩ := hcut
                    cases kq with
                    | zero => exact absurd HA.out (by simp [chequerlaw06_HeadParses.j1])
                    | succ kj40 =>
                     have H := HA.out; clear HA; simp only [chequerlaw06_HeadParses.j1] at H
                     by_cases c51 : 0 ≤ x15_1
                     · rw [if_pos c51] at H
                       have c51b0 : decide (0 ≤ x15_1) = true := decide_eq_true c51
                       clear c51
                       by_cases c52 : x15_1 < (y274.length : Int)
                       · rw [if_pos c52] at H
                         have c52b0 : decide (x15_1 < (y274.length : Int)) = true := decide_eq_true c52
                         clear c52; replace H := Option.bind_eq_some_iff.mp H; obtain ⟨⟨t283, t284, t285, t286, t287, t288⟩, A530, H⟩ := H
                         replace H : ((chequerref06_Parse.f kj40 (rdOf ByteArray.empty y274 x15_1) x279000_40 x279001_40 x279002_40).bind fun bt291 => (if bt291.2.2.2.2.2 = 0 then (chequerlaw06_HeadParses.j2 kj40 y274 x15_1 t287 t288 bt291.2.2.2.2.1 bt291.2.2.2.2.2 a1_0 a1_1 a1_2 t283 t284 t285 t286 bt291.1 bt291.2.1 bt291.2.2.1 bt291.2.2.2.1) else (chequerlaw06_HeadParses.j2 kj40 y274 x15_1 t287 t288 0 bt291.2.2.2.2.2 a1_0 a1_1 a1_2 t283 t284 t285 t286 bt291.1 bt291.2.1 bt291.2.2.1 bt291.2.2.2.1))) = some r := H
                         have A53 := Aside0.mk A530; clear A530; replace H := Option.bind_eq_some_iff.mp H; obtain ⟨⟨t291, t292, t293, t294, t295, t296⟩, A540, H⟩ := H
                         replace H : (if t296 = 0 then (chequerlaw06_HeadParses.j2 kj40 y274 x15_1 t287 t288 t295 t296 a1_0 a1_1 a1_2 t283 t284 t285 t286 t291 t292 t293 t294) else (chequerlaw06_HeadParses.j2 kj40 y274 x15_1 t287 t288 0 t296 a1_0 a1_1 a1_2 t283 t284 t285 t286 t291 t292 t293 t294)) = some r := H
                         have A54 := Aside0.mk A540; clear A540; have HC55 := Aside0.mk H; clear H
                         try go_wp2
                         (try (rw [drewN_self wc]; generalize hq_ : World.drewN wc _ = wc; have n0_ := Aside0.mk (qrp_ hq_ HO_14.out); have n1_ := Aside0.mk (qhp_ hq_ BK260.out); have n2_ := Aside0.mk (qhp_ hq_ BK278.out); have n3_ : Aside0 (Below w.heap.size w wc) := ⟨qbp_ hq_⟩; clear HO_14 BK260 BK278 HB hq_; have HO_14 := n0_; have BK260 := n1_; have BK278 := n2_; have HB := n3_; clear n0_ n1_ n2_ n3_))
                         replace HO_14 := Aside0.mk (Kd.R_drew HO_14.out); replace BK260 := Aside0.mk (blk_drew BK260.out); replace BK278 := Aside0.mk (blk_drew BK278.out); replace HB := Aside0.mk (below_drew1 HB.out)
                         obtain ⟨Ao57, co57, eo57⟩ := Kd.R_slice HO_14.out
                         (first | subst eo57 | (injection eo57 with f1_ f2_ f3_; have f4_ := f1_.symm; have f5_ := f3_.symm; clear f1_ f2_ f3_; subst f4_; subst f5_))
                         have p282 : 0 ≤ (x15_1 : Int) := of_decide_eq_true (by first | (with_reducible assumption) | assumption)
                         have q282 : x15_1 < (y274.length : Int) := of_decide_eq_true (by first | (with_reducible assumption) | assumption)
                         obtain ⟨ad282, e282, hx282_0⟩ := Kd.at_string (Kd.R_reads' HO_14.out).2.2 x15_1 p282 q282
                         cases e282
                         replace p282 := eq_true p282; replace q282 := eq_true q282; refine start_ (n := 14) (S := fun w' => w'.cell? ⟨gb278, 0, none⟩ = some (.int .i64 x279000_40) ∧ w'.cell? ⟨gb278, 1, none⟩ = some (.int .i64 x279001_40) ∧ w'.cell? ⟨gb278, 2, none⟩ = some (.int .i64 x279002_40) ∧ w'.cell? (ad282.add (x15_1).toNat) = some (.string (rdOf ByteArray.empty y274 x15_1))) (ds := []) Fl45 (by kernel_rfl) rfl rfl ⟨(blk_cell BK278.out 0).trans rfl, (blk_cell BK278.out 1).trans rfl, (blk_cell BK278.out 2).trans rfl, hx282_0⟩ (fun hHeld => ?_); refine with_tabW chequerlaw06_HeadParses.tab13 chequerlaw06_HeadParses.bits13 (fun HT_ HW_ => ?_)
                         generalize wc.drew = w56 at HO_14 BK260 BK278 HB hx282_0 hHeld ⊢
                         refine pur_ (i := 0) (N := some 69) Fl46 (any_of HT_.out (by kernel_rfl)) ?_; refine pur_ (i := 1) (N := some 70) Fl59 (any_of HT_.out (by kernel_rfl)) ?_; refine pur_ (i := 2) (N := some 71) Fl47 (any_of HT_.out (by kernel_rfl)) ?_; refine take_ (i := 3) (N := some 72) (v := ?_) (a' := ?_) Fl48 rfl rfl (take_ofW HT_.out HW_.out (by kernel_rfl)) (fun _ _ _ h => h) (Or.inl ⟨by rfl, ?_⟩) hHeld ?_ ?_; rotate_left
                         · rintro w' ⟨s0, s1, s2, s3⟩
                           go_simp; with_reducible rfl
                         rotate_left
                         · simp only [Act.put, List.setIfInBounds_toArray, List.set_cons_zero, List.set_cons_succ, i64_w, i32_w]; rfl
                         refine take_ (i := 4) (N := some 73) (v := ?_) (a' := ?_) Fl49 rfl rfl (take_ofW HT_.out HW_.out (by kernel_rfl)) (fun _ _ _ h => h) (Or.inl ⟨by rfl, ?_⟩) hHeld ?_ ?_; rotate_left
                         · rintro w' ⟨s0, s1, s2, s3⟩
                           go_simp; with_reducible rfl
                         rotate_left
                         · simp only [Act.put, List.setIfInBounds_toArray, List.set_cons_zero, List.set_cons_succ, i64_w, i32_w]; rfl
                         refine join_ (σ := Nat) 3 Fl44 (fun s_ => [(74, .tuple #[.agg #[.int .i64 t283, .int .i64 t284, .int .i64 t285, .int .i64 t286], .int .i64 t287, .int .i64 t288]), (17, .pointer (some ⟨s_, 0, none⟩)), (68, .tuple #[.agg #[.int .i64 t283, .int .i64 t284, .int .i64 t285, .int .i64 t286], .int .i64 t287, .int .i64 t288]), (75, .agg #[.int .i64 t283, .int .i64 t284, .int .i64 t285, .int .i64 t286]), (76, .int .i64 t287), (77, .int .i64 t288)]) (fun s_ w' => (w'.cell? ⟨gb278, 0, none⟩ = some (.int .i64 x279000_40) ∧ w'.cell? ⟨gb278, 1, none⟩ = some (.int .i64 x279001_40) ∧ w'.cell? ⟨gb278, 2, none⟩ = some (.int .i64 x279002_40) ∧ w'.cell? (ad282.add (x15_1).toNat) = some (.string (rdOf ByteArray.empty y274 x15_1))) ∧ (Kd.R Kd.string 9 w' w.heap.size (fun _ => True) (.slice (some ad282) y274.length co57) y274) ∧ (w'.heap[gb260]? = some (.cells #[.int .i64 a1_0, .int .i64 a1_1, .int .i64 a1_2] 23 (0, 0))) ∧ (w'.heap[gb278]? = some (.cells #[.int .i64 x279000_40, .int .i64 x279001_40, .int .i64 x279002_40] 23 (0, 0))) ∧ (w'.heap[s_]? = some (.cells #[.int .i64 0, .int .i64 0, .int .i64 0, .int .i64 0] 36 (0, 0))) ∧ (w.heap.size ≤ s_) ∧ (w.heap.size ≤ s_) ∧ (gb260 ≠ s_) ∧ (s_ ≠ gb260) ∧ (gb278 ≠ s_) ∧ (s_ ≠ gb278) ∧ (Below w.heap.size w w')) ?_ ?_; rotate_left
                         · intro hCont
                           refine two_ (i := 5) (j := 10) (Ni := some 74) (Nj := some 17) Fl50 Fl60 rfl rfl rfl rfl (two_of HT_.out (by kernel_rfl)) (by decide) (by decide) (fun K hK => ?_) (fun K hK => ?_)
                           · skip
                             refine goes_ Try.func15 (by kernel_rfl) rfl #[.string (rdOf ByteArray.empty y274 x15_1), .agg #[.int .i64 x279000_40, .int .i64 x279001_40, .int .i64 x279002_40]] (by rfl) rfl rfl (by (try simp only [List.map_toArray, List.map_cons, List.map_nil]); first | done | rfl | (simp only [List.length_drop, List.length_take]; rfl)) ?_
                             with_reducible refine (head_Parse.calls kj40 (rdOf ByteArray.empty y274 x15_1) x279000_40 x279001_40 x279002_40 t283 t284 t285 t286 t287 t288 _ A53.out).mono ?_
                             rintro e w58 ⟨rfl, hb⟩
                             have HS3_ := (hb.cell (World.block_lt_of_cell? _ _ (hHeld.2.2.2))).trans (hHeld.2.2.2); refine ⟨_, rfl, ?_⟩; replace HO_14 := Aside0.mk (Kd.R_below (rp_ HO_14.out) hb); replace BK260 := Aside0.mk (blk_below (hp_ BK260.out) hb); replace BK278 := Aside0.mk (blk_below (hp_ BK278.out) hb); replace HB := Aside0.mk (below_step bp_ hb)
                             (try clear hb)
                             (try clear hb2)
                             (try clear hk)
                             (try clear hi)
                             refine hK.out _ _ ⟨(blk_cell BK278.out 0).trans rfl, (blk_cell BK278.out 1).trans rfl, (blk_cell BK278.out 2).trans rfl, HS3_⟩ (fun hHeld => ?_); clear hK K; refine norm_ (a' := ?_) ?_ ?_; rotate_left
                             · show Act.put _ (some 74) _ = _
                               simp only [Act.put, List.setIfInBounds_toArray, List.set_cons_zero, List.set_cons_succ, i64_w, i32_w]; rfl
                             refine pur_ (i := 6) (N := some 68) Fl51 (any_of HT_.out (by kernel_rfl)) ?_; refine pur_ (i := 7) (N := some 75) Fl52 (any_of HT_.out (by kernel_rfl)) ?_; refine pur_ (i := 8) (N := some 76) Fl53 (any_of HT_.out (by kernel_rfl)) ?_; refine pur_ (i := 9) (N := some 77) Fl54 (any_of HT_.out (by kernel_rfl)) ?_; refine one_ (i := 10) (N := some 17) Fl44 rfl rfl (one_of HT_.out (by kernel_rfl)) (by decide) (fun K hK => ?_); refine box_step ?hg (N := 17) ?hd (cs := #[.int .i64 0, .int .i64 0, .int .i64 0, .int .i64 0]) (t := 36) ?hr ?_; (case hd => rfl); (case hg => rfl); (case hr => first | (go_simp; done) | (go_simp; rfl))
                             intro gb289 hg w59 hbox hb
                             have HS3_ := (hb.cell (World.block_lt_of_cell? _ _ (hHeld.2.2.2))).trans (hHeld.2.2.2); replace HO_14 := Aside0.mk (Kd.R_below (rp_ HO_14.out) hb); have BK289 := Aside0.mk (hbox); have GW289 := Aside0.mk ((by rw [hg]; exact (below_size bp_) : w.heap.size ≤ gb289)); have GE289 := Aside0.mk ((by rw [hg]; exact (below_size bp_) : w.heap.size ≤ gb289)); replace HB := Aside0.mk (below_step bp_ hb); have NB260_289 := Aside0.mk ((nlt_ hg (hp_ BK260.out))); have NB289_260 := Aside0.mk ((ngt_ hg (hp_ BK260.out))); replace BK260 := Aside0.mk (blk_below (hp_ BK260.out) hb); have NB278_289 := Aside0.mk ((nlt_ hg (hp_ BK278.out))); have NB289_278 := Aside0.mk ((ngt_ hg (hp_ BK278.out))); replace BK278 := Aside0.mk (blk_below (hp_ BK278.out) hb); clear hb hbox hg; refine hK.out _ _ ⟨(blk_cell BK278.out 0).trans rfl, (blk_cell BK278.out 1).trans rfl, (blk_cell BK278.out 2).trans rfl, HS3_⟩ (fun hHeld => ?_); clear hK K; refine norm_ (a' := ?_) ?_ ?_; rotate_left
                             · show Act.put _ (some 17) _ = _
                               simp only [Act.put, List.setIfInBounds_toArray, List.set_cons_zero, List.set_cons_succ, i64_w, i32_w]; rfl
                             exact norm_ (by simp only [putAll, Act.put, List.setIfInBounds_toArray, List.set_cons_zero, List.set_cons_succ]) (hCont (gb289) _ ⟨hHeld, (rp_ HO_14.out), (hp_ BK260.out), (hp_ BK278.out), (hp_ BK289.out), GW289.out, GE289.out, NB260_289.out, NB289_260.out, NB278_289.out, NB289_278.out, bp_⟩)
                           skip
                           refine box_step ?hg (N := 17) ?hd (cs := #[.int .i64 0, .int .i64 0, .int .i64 0, .int .i64 0]) (t := 36) ?hr ?_; (case hd => rfl); (case hg => rfl); (case hr => first | (go_simp; done) | (go_simp; rfl))
                           intro gb289 hg w58 hbox hb
                           have HS3_ := (hb.cell (World.block_lt_of_cell? _ _ (hHeld.2.2.2))).trans (hHeld.2.2.2); replace HO_14 := Aside0.mk (Kd.R_below (rp_ HO_14.out) hb); have BK289 := Aside0.mk (hbox); have GW289 := Aside0.mk ((by rw [hg]; exact (below_size bp_) : w.heap.size ≤ gb289)); have GE289 := Aside0.mk ((by rw [hg]; exact (below_size bp_) : w.heap.size ≤ gb289)); replace HB := Aside0.mk (below_step bp_ hb); have NB260_289 := Aside0.mk ((nlt_ hg (hp_ BK260.out))); have NB289_260 := Aside0.mk ((ngt_ hg (hp_ BK260.out))); replace BK260 := Aside0.mk (blk_below (hp_ BK260.out) hb); have NB278_289 := Aside0.mk ((nlt_ hg (hp_ BK278.out))); have NB289_278 := Aside0.mk ((ngt_ hg (hp_ BK278.out))); replace BK278 := Aside0.mk (blk_below (hp_ BK278.out) hb); clear hb hbox hg; refine hK.out _ _ ⟨(blk_cell BK278.out 0).trans rfl, (blk_cell BK278.out 1).trans rfl, (blk_cell BK278.out 2).trans rfl, HS3_⟩ (fun hHeld => ?_); clear hK K; refine norm_ (a' := ?_) ?_ ?_; rotate_left
                           · show Act.put _ (some 17) _ = _
                             simp only [Act.put, List.setIfInBounds_toArray, List.set_cons_zero, List.set_cons_succ, i64_w, i32_w]; rfl
                           refine one_ (i := 5) (N := some 74) Fl61 rfl rfl (one_of HT_.out (by kernel_rfl)) (by decide) (fun K hK => ?_); refine goes_ Try.func15 (by kernel_rfl) rfl #[.string (rdOf ByteArray.empty y274 x15_1), .agg #[.int .i64 x279000_40, .int .i64 x279001_40, .int .i64 x279002_40]] (by rfl) rfl rfl (by (try simp only [List.map_toArray, List.map_cons, List.map_nil]); first | done | rfl | (simp only [List.length_drop, List.length_take]; rfl)) ?_
                           with_reducible refine (head_Parse.calls kj40 (rdOf ByteArray.empty y274 x15_1) x279000_40 x279001_40 x279002_40 t283 t284 t285 t286 t287 t288 _ A53.out).mono ?_
                           rintro e w59 ⟨rfl, hb⟩
                           have HS3_ := (hb.cell (World.block_lt_of_cell? _ _ (hHeld.2.2.2))).trans (hHeld.2.2.2); refine ⟨_, rfl, ?_⟩; replace HO_14 := Aside0.mk (Kd.R_below (rp_ HO_14.out) hb); replace BK260 := Aside0.mk (blk_below (hp_ BK260.out) hb); replace BK278 := Aside0.mk (blk_below (hp_ BK278.out) hb); replace BK289 := Aside0.mk (blk_below (hp_ BK289.out) hb); replace HB := Aside0.mk (below_step bp_ hb)
                           (try clear hb)
                           (try clear hb2)
                           (try clear hk)
                           (try clear hi)
                           refine hK.out _ _ ⟨(blk_cell BK278.out 0).trans rfl, (blk_cell BK278.out 1).trans rfl, (blk_cell BK278.out 2).trans rfl, HS3_⟩ (fun hHeld => ?_); clear hK K; refine norm_ (a' := ?_) ?_ ?_; rotate_left
                           · show Act.put _ (some 74) _ = _
                             simp only [Act.put, List.setIfInBounds_toArray, List.set_cons_zero, List.set_cons_succ, i64_w, i32_w]; rfl
                           refine pur_ (i := 6) (N := some 68) Fl62 (any_of HT_.out (by kernel_rfl)) ?_; refine pur_ (i := 7) (N := some 75) Fl63 (any_of HT_.out (by kernel_rfl)) ?_; refine pur_ (i := 8) (N := some 76) Fl64 (any_of HT_.out (by kernel_rfl)) ?_; refine pur_ (i := 9) (N := some 77) Fl44 (any_of HT_.out (by kernel_rfl)) ?_
                           exact norm_ (by simp only [putAll, Act.put, List.setIfInBounds_toArray, List.set_cons_zero, List.set_cons_succ]) (hCont (gb289) _ ⟨hHeld, (rp_ HO_14.out), (hp_ BK260.out), (hp_ BK278.out), (hp_ BK289.out), GW289.out, GE289.out, NB260_289.out, NB289_260.out, NB278_289.out, NB289_278.out, bp_⟩)
                         rintro gb289 w60 ⟨hS_, h0_, h1_, h2_, h3_, h4_, h5_, h6_, h7_, h8_, h9_, h10_⟩
                         replace HO_14 : Aside0 (Kd.R Kd.string 9 w60 w.heap.size (fun _ => True) (.slice (some ad282) y274.length co57) y274) := ⟨h0_⟩
                         replace BK260 : Aside0 (w60.heap[gb260]? = some (.cells #[.int .i64 a1_0, .int .i64 a1_1, .int .i64 a1_2] 23 (0, 0))) := ⟨h1_⟩
                         replace BK278 : Aside0 (w60.heap[gb278]? = some (.cells #[.int .i64 x279000_40, .int .i64 x279001_40, .int .i64 x279002_40] 23 (0, 0))) := ⟨h2_⟩
                         have BK289 : Aside0 (w60.heap[gb289]? = some (.cells #[.int .i64 0, .int .i64 0, .int .i64 0, .int .i64 0] 36 (0, 0))) := ⟨h3_⟩
                         have GW289 : Aside0 (w.heap.size ≤ gb289) := ⟨h4_⟩
                         have GE289 : Aside0 (w.heap.size ≤ gb289) := ⟨h5_⟩
                         have NB260_289 : Aside0 (gb260 ≠ gb289) := ⟨h6_⟩
                         have NB289_260 : Aside0 (gb289 ≠ gb260) := ⟨h7_⟩
                         have NB278_289 : Aside0 (gb278 ≠ gb289) := ⟨h8_⟩
                         have NB289_278 : Aside0 (gb289 ≠ gb278) := ⟨h9_⟩
                         replace HB : Aside0 (Below w.heap.size w w60) := ⟨h10_⟩
                         clear h0_ h1_ h2_ h3_ h4_ h5_ h6_ h7_ h8_ h9_ h10_
                         have hHeld : w60.cell? ⟨gb278, 0, none⟩ = some (.int .i64 x279000_40) ∧ w60.cell? ⟨gb278, 1, none⟩ = some (.int .i64 x279001_40) ∧ w60.cell? ⟨gb278, 2, none⟩ = some (.int .i64 x279002_40) ∧ w60.cell? (ad282.add (x15_1).toNat) = some (.string (rdOf ByteArray.empty y274 x15_1)) := hS_
                         refine norm_ (a' := ?_) ?_ ?_; rotate_left
                         · simp only [putAll, Act.put, List.setIfInBounds_toArray, List.set_cons_zero, List.set_cons_succ]; rfl
                         refine one_ (i := 11) (N := none) Fl55 rfl rfl (one_of HT_.out (by kernel_rfl)) (by decide) (fun K hK => ?_)
                         have hs61 : w60.cell? ⟨gb289, 0, none⟩ = some (.int .i64 0) := (blk_cell BK289.out 0).trans rfl
                         have hfs61 := blk_frozen BK289.out 0; have hns61_0 := NB260_289.out; have hns61_1 := NB278_289.out; have hms61_0 := NB289_260.out; have hms61_1 := NB289_278.out
                         have hs62 : w60.cell? ⟨gb289, 1, none⟩ = some (.int .i64 0) := (blk_cell BK289.out 1).trans rfl
                         have hfs62 := blk_frozen BK289.out 1; have hns62_0 := NB260_289.out; have hns62_1 := NB278_289.out; have hms62_0 := NB289_260.out; have hms62_1 := NB289_278.out
                         have hs63 : w60.cell? ⟨gb289, 2, none⟩ = some (.int .i64 0) := (blk_cell BK289.out 2).trans rfl
                         have hfs63 := blk_frozen BK289.out 2; have hns63_0 := NB260_289.out; have hns63_1 := NB278_289.out; have hms63_0 := NB289_260.out; have hms63_1 := NB289_278.out
                         have hs64 : w60.cell? ⟨gb289, 3, none⟩ = some (.int .i64 0) := (blk_cell BK289.out 3).trans rfl
                         have hfs64 := blk_frozen BK289.out 3; have hns64_0 := NB260_289.out; have hns64_1 := NB278_289.out; have hms64_0 := NB289_260.out; have hms64_1 := NB289_278.out; refine skip_ (w1 := ?_) (by rfl) rfl ?_ ?_; rotate_left
                         · go_simp; rfl
                         refine hK.out _ _ ⟨((cell_far (p := ⟨gb289, _, none⟩) NB278_289.out _).trans (((cell_far (p := ⟨gb289, _, none⟩) NB278_289.out _).trans (((cell_far (p := ⟨gb289, _, none⟩) NB278_289.out _).trans (((cell_far (p := ⟨gb289, _, none⟩) NB278_289.out _).trans (hHeld.1)))))))), ((cell_far (p := ⟨gb289, _, none⟩) NB278_289.out _).trans (((cell_far (p := ⟨gb289, _, none⟩) NB278_289.out _).trans (((cell_far (p := ⟨gb289, _, none⟩) NB278_289.out _).trans (((cell_far (p := ⟨gb289, _, none⟩) NB278_289.out _).trans (hHeld.2.1)))))))), ((cell_far (p := ⟨gb289, _, none⟩) NB278_289.out _).trans (((cell_far (p := ⟨gb289, _, none⟩) NB278_289.out _).trans (((cell_far (p := ⟨gb289, _, none⟩) NB278_289.out _).trans (((cell_far (p := ⟨gb289, _, none⟩) NB278_289.out _).trans (hHeld.2.2.1)))))))), ((cell_far (p := ⟨gb289, _, none⟩) (by first | exact Kd.own_blk (Kd.R_ne HO_14.out BK289.out (by decide)) | (rw [add_block]; exact Kd.own_blk (Kd.R_ne HO_14.out BK289.out (by decide))) | (show (Addr.add _ _).block ≠ _; rw [add_block]; exact Kd.own_blk (Kd.R_ne HO_14.out BK289.out (by decide))) | (dsimp only; exact Kd.own_blk (Kd.R_ne HO_14.out BK289.out (by decide)))) _).trans (((cell_far (p := ⟨gb289, _, none⟩) (by first | exact Kd.own_blk (Kd.R_ne HO_14.out BK289.out (by decide)) | (rw [add_block]; exact Kd.own_blk (Kd.R_ne HO_14.out BK289.out (by decide))) | (show (Addr.add _ _).block ≠ _; rw [add_block]; exact Kd.own_blk (Kd.R_ne HO_14.out BK289.out (by decide))) | (dsimp only; exact Kd.own_blk (Kd.R_ne HO_14.out BK289.out (by decide)))) _).trans (((cell_far (p := ⟨gb289, _, none⟩) (by first | exact Kd.own_blk (Kd.R_ne HO_14.out BK289.out (by decide)) | (rw [add_block]; exact Kd.own_blk (Kd.R_ne HO_14.out BK289.out (by decide))) | (show (Addr.add _ _).block ≠ _; rw [add_block]; exact Kd.own_blk (Kd.R_ne HO_14.out BK289.out (by decide))) | (dsimp only; exact Kd.own_blk (Kd.R_ne HO_14.out BK289.out (by decide)))) _).trans (((cell_far (p := ⟨gb289, _, none⟩) (by first | exact Kd.own_blk (Kd.R_ne HO_14.out BK289.out (by decide)) | (rw [add_block]; exact Kd.own_blk (Kd.R_ne HO_14.out BK289.out (by decide))) | (show (Addr.add _ _).block ≠ _; rw [add_block]; exact Kd.own_blk (Kd.R_ne HO_14.out BK289.out (by decide))) | (dsimp only; exact Kd.own_blk (Kd.R_ne HO_14.out BK289.out (by decide)))) _).trans (hHeld.2.2.2))))))))⟩ (fun hHeld => ?_); clear hK K; refine pur_ (i := 12) (N := some 18) Fl56 (any_of HT_.out (by kernel_rfl)) ?_; refine pur_ (i := 13) (N := some 19) Fl57 (any_of HT_.out (by kernel_rfl)) ?_; refine done_ (done_of HT_.out (by kernel_rfl)) ?_
                         try go_wp2
                         have n0_ : Aside0 (Kd.R Kd.string 9 ((((w60.setCell ⟨gb289, 0, none⟩ (.int .i64 t283)).setCell ⟨gb289, 1, none⟩ (.int .i64 t284)).setCell ⟨gb289, 2, none⟩ (.int .i64 t285)).setCell ⟨gb289, 3, none⟩ (.int .i64 t286)) w.heap.size (fun _ => True) (.slice (some ad282) y274.length co57) y274) := ⟨rf_ HO_14.out BK289.out (by decide) (fun _ hk => trivial)⟩
                         have n1_ : Aside0 (((((w60.setCell ⟨gb289, 0, none⟩ (.int .i64 t283)).setCell ⟨gb289, 1, none⟩ (.int .i64 t284)).setCell ⟨gb289, 2, none⟩ (.int .i64 t285)).setCell ⟨gb289, 3, none⟩ (.int .i64 t286)).heap[gb260]? = some (.cells #[.int .i64 a1_0, .int .i64 a1_1, .int .i64 a1_2] 23 (0, 0))) := ⟨hf_ BK260.out NB260_289.out⟩
                         have n2_ : Aside0 (((((w60.setCell ⟨gb289, 0, none⟩ (.int .i64 t283)).setCell ⟨gb289, 1, none⟩ (.int .i64 t284)).setCell ⟨gb289, 2, none⟩ (.int .i64 t285)).setCell ⟨gb289, 3, none⟩ (.int .i64 t286)).heap[gb278]? = some (.cells #[.int .i64 x279000_40, .int .i64 x279001_40, .int .i64 x279002_40] 23 (0, 0))) := ⟨hf_ BK278.out NB278_289.out⟩
                         have n3_ : Aside0 (((((w60.setCell ⟨gb289, 0, none⟩ (.int .i64 t283)).setCell ⟨gb289, 1, none⟩ (.int .i64 t284)).setCell ⟨gb289, 2, none⟩ (.int .i64 t285)).setCell ⟨gb289, 3, none⟩ (.int .i64 t286)).heap[gb289]? = some (.cells #[.int .i64 t283, .int .i64 t284, .int .i64 t285, .int .i64 t286] 36 (0, 0))) := ⟨by (with_reducible repeat (first | refine blk_drewN ?_ _ | refine blk_drew ?_ | refine blk_alloc ?_ _)); refine blk_put (cs := #[.int .i64 t283, .int .i64 t284, .int .i64 t285, .int .i64 0]) ?_ 3 _ rfl; (with_reducible repeat (first | refine blk_drewN ?_ _ | refine blk_drew ?_ | refine blk_alloc ?_ _)); refine blk_put (cs := #[.int .i64 t283, .int .i64 t284, .int .i64 0, .int .i64 0]) ?_ 2 _ rfl; (with_reducible repeat (first | refine blk_drewN ?_ _ | refine blk_drew ?_ | refine blk_alloc ?_ _)); refine blk_put (cs := #[.int .i64 t283, .int .i64 0, .int .i64 0, .int .i64 0]) ?_ 1 _ rfl; (with_reducible repeat (first | refine blk_drewN ?_ _ | refine blk_drew ?_ | refine blk_alloc ?_ _)); refine blk_put (cs := #[.int .i64 0, .int .i64 0, .int .i64 0, .int .i64 0]) ?_ 0 _ rfl; (with_reducible repeat (first | refine blk_drewN ?_ _ | refine blk_drew ?_ | refine blk_alloc ?_ _)); exact BK289.out⟩
                         have n4_ : Aside0 (Below w.heap.size w ((((w60.setCell ⟨gb289, 0, none⟩ (.int .i64 t283)).setCell ⟨gb289, 1, none⟩ (.int .i64 t284)).setCell ⟨gb289, 2, none⟩ (.int .i64 t285)).setCell ⟨gb289, 3, none⟩ (.int .i64 t286))) := ⟨bp_⟩
                         (try clear HO_14)
                         (try clear BK260)
                         (try clear BK278)
                         (try clear BK289)
                         (try clear HB)
                         generalize ((((w60.setCell ⟨gb289, 0, none⟩ (.int .i64 t283)).setCell ⟨gb289, 1, none⟩ (.int .i64 t284)).setCell ⟨gb289, 2, none⟩ (.int .i64 t285)).setCell ⟨gb289, 3, none⟩ (.int .i64 t286)) = w65 at n0_ n1_ n2_ n3_ n4_ ⊢
                         have HO_14 := n0_; have BK260 := n1_; have BK278 := n2_; have BK289 := n3_; have HB := n4_; clear n0_ n1_ n2_ n3_ n4_; replace HO_14 := Aside0.mk (Kd.R_drew HO_14.out); replace BK260 := Aside0.mk (blk_drew BK260.out); replace BK278 := Aside0.mk (blk_drew BK278.out); replace BK289 := Aside0.mk (blk_drew BK289.out); replace HB := Aside0.mk (below_drew1 HB.out)
                         have p290 : 0 ≤ (x15_1 : Int) := of_decide_eq_true (by first | (with_reducible assumption) | assumption)
                         have q290 : x15_1 < (y274.length : Int) := of_decide_eq_true (by first | (with_reducible assumption) | assumption)
                         obtain ⟨ad290, e290, hx290_0⟩ := Kd.at_string (Kd.R_reads' HO_14.out).2.2 x15_1 p290 q290
                         obtain rfl : ad282 = ad290 := (by injection e290)
                         replace p290 := eq_true p290; replace q290 := eq_true q290; refine start_ (n := 14) (S := fun w' => w'.cell? ⟨gb278, 0, none⟩ = some (.int .i64 x279000_40) ∧ w'.cell? ⟨gb278, 1, none⟩ = some (.int .i64 x279001_40) ∧ w'.cell? ⟨gb278, 2, none⟩ = some (.int .i64 x279002_40) ∧ w'.cell? (ad282.add (x15_1).toNat) = some (.string (rdOf ByteArray.empty y274 x15_1))) (ds := []) Fl45 (by kernel_rfl) rfl rfl ⟨(blk_cell BK278.out 0).trans rfl, (blk_cell BK278.out 1).trans rfl, (blk_cell BK278.out 2).trans rfl, hx290_0⟩ (fun hHeld => ?_); refine with_tabW chequerlaw06_HeadParses.tab14 chequerlaw06_HeadParses.bits14 (fun HT_ HW_ => ?_)
                         generalize w65.drew = w66 at HO_14 BK260 BK278 BK289 HB hx290_0 hHeld ⊢
                         refine pur_ (i := 0) (N := some 79) Fl46 (any_of HT_.out (by kernel_rfl)) ?_; refine pur_ (i := 1) (N := some 80) Fl59 (any_of HT_.out (by kernel_rfl)) ?_; refine pur_ (i := 2) (N := some 81) Fl47 (any_of HT_.out (by kernel_rfl)) ?_; refine take_ (i := 3) (N := some 82) (v := ?_) (a' := ?_) Fl48 rfl rfl (take_ofW HT_.out HW_.out (by kernel_rfl)) (fun _ _ _ h => h) (Or.inl ⟨by rfl, ?_⟩) hHeld ?_ ?_; rotate_left
                         · rintro w' ⟨s0, s1, s2, s3⟩
                           go_simp; with_reducible rfl
                         rotate_left
                         · simp only [Act.put, List.setIfInBounds_toArray, List.set_cons_zero, List.set_cons_succ, i64_w, i32_w]; rfl
                         refine take_ (i := 4) (N := some 83) (v := ?_) (a' := ?_) Fl49 rfl rfl (take_ofW HT_.out HW_.out (by kernel_rfl)) (fun _ _ _ h => h) (Or.inl ⟨by rfl, ?_⟩) hHeld ?_ ?_; rotate_left
                         · rintro w' ⟨s0, s1, s2, s3⟩
                           go_simp; with_reducible rfl
                         rotate_left
                         · simp only [Act.put, List.setIfInBounds_toArray, List.set_cons_zero, List.set_cons_succ, i64_w, i32_w]; rfl
                         refine join_ (σ := Nat) 3 Fl44 (fun s_ => [(84, .tuple #[.agg #[.int .i64 t291, .int .i64 t292, .int .i64 t293, .int .i64 t294], .int .i64 t295, .int .i64 t296]), (20, .pointer (some ⟨s_, 0, none⟩)), (78, .tuple #[.agg #[.int .i64 t291, .int .i64 t292, .int .i64 t293, .int .i64 t294], .int .i64 t295, .int .i64 t296]), (85, .agg #[.int .i64 t291, .int .i64 t292, .int .i64 t293, .int .i64 t294]), (86, .int .i64 t295), (87, .int .i64 t296)]) (fun s_ w' => (w'.cell? ⟨gb278, 0, none⟩ = some (.int .i64 x279000_40) ∧ w'.cell? ⟨gb278, 1, none⟩ = some (.int .i64 x279001_40) ∧ w'.cell? ⟨gb278, 2, none⟩ = some (.int .i64 x279002_40) ∧ w'.cell? (ad282.add (x15_1).toNat) = some (.string (rdOf ByteArray.empty y274 x15_1))) ∧ (Kd.R Kd.string 9 w' w.heap.size (fun _ => True) (.slice (some ad282) y274.length co57) y274) ∧ (w'.heap[gb260]? = some (.cells #[.int .i64 a1_0, .int .i64 a1_1, .int .i64 a1_2] 23 (0, 0))) ∧ (w'.heap[gb278]? = some (.cells #[.int .i64 x279000_40, .int .i64 x279001_40, .int .i64 x279002_40] 23 (0, 0))) ∧ (w'.heap[gb289]? = some (.cells #[.int .i64 t283, .int .i64 t284, .int .i64 t285, .int .i64 t286] 36 (0, 0))) ∧ (w'.heap[s_]? = some (.cells #[.int .i64 0, .int .i64 0, .int .i64 0, .int .i64 0] 25 (0, 0))) ∧ (w.heap.size ≤ s_) ∧ (w.heap.size ≤ s_) ∧ (gb260 ≠ s_) ∧ (s_ ≠ gb260) ∧ (gb278 ≠ s_) ∧ (s_ ≠ gb278) ∧ (gb289 ≠ s_) ∧ (s_ ≠ gb289) ∧ (Below w.heap.size w w')) ?_ ?_; rotate_left
                         · intro hCont
                           refine two_ (i := 5) (j := 10) (Ni := some 84) (Nj := some 20) Fl50 Fl60 rfl rfl rfl rfl (two_of HT_.out (by kernel_rfl)) (by decide) (by decide) (fun K hK => ?_) (fun K hK => ?_)
                           · skip
                             refine goes_ Try.func16 (by kernel_rfl) rfl #[.string (rdOf ByteArray.empty y274 x15_1), .agg #[.int .i64 x279000_40, .int .i64 x279001_40, .int .i64 x279002_40]] (by rfl) rfl rfl (by (try simp only [List.map_toArray, List.map_cons, List.map_nil]); first | done | rfl | (simp only [List.length_drop, List.length_take]; rfl)) ?_
                             with_reducible refine (chequerref06_Parse.calls kj40 (rdOf ByteArray.empty y274 x15_1) x279000_40 x279001_40 x279002_40 t291 t292 t293 t294 t295 t296 _ A54.out).mono ?_
                             rintro e w67 ⟨rfl, hb⟩
                             have HS3_ := (hb.cell (World.block_lt_of_cell? _ _ (hHeld.2.2.2))).trans (hHeld.2.2.2); refine ⟨_, rfl, ?_⟩; replace HO_14 := Aside0.mk (Kd.R_below (rp_ HO_14.out) hb); replace BK260 := Aside0.mk (blk_below (hp_ BK260.out) hb); replace BK278 := Aside0.mk (blk_below (hp_ BK278.out) hb); replace BK289 := Aside0.mk (blk_below (hp_ BK289.out) hb); replace HB := Aside0.mk (below_step bp_ hb)
                             (try clear hb)
                             (try clear hb2)
                             (try clear hk)
                             (try clear hi)
                             refine hK.out _ _ ⟨(blk_cell BK278.out 0).trans rfl, (blk_cell BK278.out 1).trans rfl, (blk_cell BK278.out 2).trans rfl, HS3_⟩ (fun hHeld => ?_); clear hK K; refine norm_ (a' := ?_) ?_ ?_; rotate_left
                             · show Act.put _ (some 84) _ = _
                               simp only [Act.put, List.setIfInBounds_toArray, List.set_cons_zero, List.set_cons_succ, i64_w, i32_w]; rfl
                             refine pur_ (i := 6) (N := some 78) Fl51 (any_of HT_.out (by kernel_rfl)) ?_; refine pur_ (i := 7) (N := some 85) Fl52 (any_of HT_.out (by kernel_rfl)) ?_; refine pur_ (i := 8) (N := some 86) Fl53 (any_of HT_.out (by kernel_rfl)) ?_; refine pur_ (i := 9) (N := some 87) Fl54 (any_of HT_.out (by kernel_rfl)) ?_; refine one_ (i := 10) (N := some 20) Fl44 rfl rfl (one_of HT_.out (by kernel_rfl)) (by decide) (fun K hK => ?_); refine box_step ?hg (N := 20) ?hd (cs := #[.int .i64 0, .int .i64 0, .int .i64 0, .int .i64 0]) (t := 25) ?hr ?_; (case hd => rfl); (case hg => rfl); (case hr => first | (go_simp; done) | (go_simp; rfl))
                             intro gb297 hg w68 hbox hb
                             have HS3_ := (hb.cell (World.block_lt_of_cell? _ _ (hHeld.2.2.2))).trans (hHeld.2.2.2); replace HO_14 := Aside0.mk (Kd.R_below (rp_ HO_14.out) hb); have BK297 := Aside0.mk (hbox); have GW297 := Aside0.mk ((by rw [hg]; exact (below_size bp_) : w.heap.size ≤ gb297)); have GE297 := Aside0.mk ((by rw [hg]; exact (below_size bp_) : w.heap.size ≤ gb297)); replace HB := Aside0.mk (below_step bp_ hb); have NB260_297 := Aside0.mk ((nlt_ hg (hp_ BK260.out))); have NB297_260 := Aside0.mk ((ngt_ hg (hp_ BK260.out))); replace BK260 := Aside0.mk (blk_below (hp_ BK260.out) hb); have NB278_297 := Aside0.mk ((nlt_ hg (hp_ BK278.out))); have NB297_278 := Aside0.mk ((ngt_ hg (hp_ BK278.out))); replace BK278 := Aside0.mk (blk_below (hp_ BK278.out) hb); have NB289_297 := Aside0.mk ((nlt_ hg (hp_ BK289.out))); have NB297_289 := Aside0.mk ((ngt_ hg (hp_ BK289.out))); replace BK289 := Aside0.mk (blk_below (hp_ BK289.out) hb); clear hb hbox hg; refine hK.out _ _ ⟨(blk_cell BK278.out 0).trans rfl, (blk_cell BK278.out 1).trans rfl, (blk_cell BK278.out 2).trans rfl, HS3_⟩ (fun hHeld => ?_); clear hK K; refine norm_ (a' := ?_) ?_ ?_; rotate_left
                             · show Act.put _ (some 20) _ = _
                               simp only [Act.put, List.setIfInBounds_toArray, List.set_cons_zero, List.set_cons_succ, i64_w, i32_w]; rfl
                             exact norm_ (by simp only [putAll, Act.put, List.setIfInBounds_toArray, List.set_cons_zero, List.set_cons_succ]) (hCont (gb297) _ ⟨hHeld, (rp_ HO_14.out), (hp_ BK260.out), (hp_ BK278.out), (hp_ BK289.out), (hp_ BK297.out), GW297.out, GE297.out, NB260_297.out, NB297_260.out, NB278_297.out, NB297_278.out, NB289_297.out, NB297_289.out, bp_⟩)
                           skip
                           refine box_step ?hg (N := 20) ?hd (cs := #[.int .i64 0, .int .i64 0, .int .i64 0, .int .i64 0]) (t := 25) ?hr ?_; (case hd => rfl); (case hg => rfl); (case hr => first | (go_simp; done) | (go_simp; rfl))
                           intro gb297 hg w67 hbox hb
                           have HS3_ := (hb.cell (World.block_lt_of_cell? _ _ (hHeld.2.2.2))).trans (hHeld.2.2.2); replace HO_14 := Aside0.mk (Kd.R_below (rp_ HO_14.out) hb); have BK297 := Aside0.mk (hbox); have GW297 := Aside0.mk ((by rw [hg]; exact (below_size bp_) : w.heap.size ≤ gb297)); have GE297 := Aside0.mk ((by rw [hg]; exact (below_size bp_) : w.heap.size ≤ gb297)); replace HB := Aside0.mk (below_step bp_ hb); have NB260_297 := Aside0.mk ((nlt_ hg (hp_ BK260.out))); have NB297_260 := Aside0.mk ((ngt_ hg (hp_ BK260.out))); replace BK260 := Aside0.mk (blk_below (hp_ BK260.out) hb); have NB278_297 := Aside0.mk ((nlt_ hg (hp_ BK278.out))); have NB297_278 := Aside0.mk ((ngt_ hg (hp_ BK278.out))); replace BK278 := Aside0.mk (blk_below (hp_ BK278.out) hb); have NB289_297 := Aside0.mk ((nlt_ hg (hp_ BK289.out))); have NB297_289 := Aside0.mk ((ngt_ hg (hp_ BK289.out))); replace BK289 := Aside0.mk (blk_below (hp_ BK289.out) hb); clear hb hbox hg; refine hK.out _ _ ⟨(blk_cell BK278.out 0).trans rfl, (blk_cell BK278.out 1).trans rfl, (blk_cell BK278.out 2).trans rfl, HS3_⟩ (fun hHeld => ?_); clear hK K; refine norm_ (a' := ?_) ?_ ?_; rotate_left
                           · show Act.put _ (some 20) _ = _
                             simp only [Act.put, List.setIfInBounds_toArray, List.set_cons_zero, List.set_cons_succ, i64_w, i32_w]; rfl
                           refine one_ (i := 5) (N := some 84) Fl61 rfl rfl (one_of HT_.out (by kernel_rfl)) (by decide) (fun K hK => ?_); refine goes_ Try.func16 (by kernel_rfl) rfl #[.string (rdOf ByteArray.empty y274 x15_1), .agg #[.int .i64 x279000_40, .int .i64 x279001_40, .int .i64 x279002_40]] (by rfl) rfl rfl (by (try simp only [List.map_toArray, List.map_cons, List.map_nil]); first | done | rfl | (simp only [List.length_drop, List.length_take]; rfl)) ?_
                           with_reducible refine (chequerref06_Parse.calls kj40 (rdOf ByteArray.empty y274 x15_1) x279000_40 x279001_40 x279002_40 t291 t292 t293 t294 t295 t296 _ A54.out).mono ?_
                           rintro e w68 ⟨rfl, hb⟩
                           have HS3_ := (hb.cell (World.block_lt_of_cell? _ _ (hHeld.2.2.2))).trans (hHeld.2.2.2); refine ⟨_, rfl, ?_⟩; replace HO_14 := Aside0.mk (Kd.R_below (rp_ HO_14.out) hb); replace BK260 := Aside0.mk (blk_below (hp_ BK260.out) hb); replace BK278 := Aside0.mk (blk_below (hp_ BK278.out) hb); replace BK289 := Aside0.mk (blk_below (hp_ BK289.out) hb); replace BK297 := Aside0.mk (blk_below (hp_ BK297.out) hb); replace HB := Aside0.mk (below_step bp_ hb)
                           (try clear hb)
                           (try clear hb2)
                           (try clear hk)
                           (try clear hi)
                           refine hK.out _ _ ⟨(blk_cell BK278.out 0).trans rfl, (blk_cell BK278.out 1).trans rfl, (blk_cell BK278.out 2).trans rfl, HS3_⟩ (fun hHeld => ?_); clear hK K; refine norm_ (a' := ?_) ?_ ?_; rotate_left
                           · show Act.put _ (some 84) _ = _
                             simp only [Act.put, List.setIfInBounds_toArray, List.set_cons_zero, List.set_cons_succ, i64_w, i32_w]; rfl
                           refine pur_ (i := 6) (N := some 78) Fl62 (any_of HT_.out (by kernel_rfl)) ?_; refine pur_ (i := 7) (N := some 85) Fl63 (any_of HT_.out (by kernel_rfl)) ?_; refine pur_ (i := 8) (N := some 86) Fl64 (any_of HT_.out (by kernel_rfl)) ?_; refine pur_ (i := 9) (N := some 87) Fl44 (any_of HT_.out (by kernel_rfl)) ?_
                           exact norm_ (by simp only [putAll, Act.put, List.setIfInBounds_toArray, List.set_cons_zero, List.set_cons_succ]) (hCont (gb297) _ ⟨hHeld, (rp_ HO_14.out), (hp_ BK260.out), (hp_ BK278.out), (hp_ BK289.out), (hp_ BK297.out), GW297.out, GE297.out, NB260_297.out, NB297_260.out, NB278_297.out, NB297_278.out, NB289_297.out, NB297_289.out, bp_⟩)
                         rintro gb297 w69 ⟨hS_, h0_, h1_, h2_, h3_, h4_, h5_, h6_, h7_, h8_, h9_, h10_, h11_, h12_, h13_⟩
                         replace HO_14 : Aside0 (Kd.R Kd.string 9 w69 w.heap.size (fun _ => True) (.slice (some ad282) y274.length co57) y274) := ⟨h0_⟩
                         replace BK260 : Aside0 (w69.heap[gb260]? = some (.cells #[.int .i64 a1_0, .int .i64 a1_1, .int .i64 a1_2] 23 (0, 0))) := ⟨h1_⟩
                         replace BK278 : Aside0 (w69.heap[gb278]? = some (.cells #[.int .i64 x279000_40, .int .i64 x279001_40, .int .i64 x279002_40] 23 (0, 0))) := ⟨h2_⟩
                         replace BK289 : Aside0 (w69.heap[gb289]? = some (.cells #[.int .i64 t283, .int .i64 t284, .int .i64 t285, .int .i64 t286] 36 (0, 0))) := ⟨h3_⟩
                         have BK297 : Aside0 (w69.heap[gb297]? = some (.cells #[.int .i64 0, .int .i64 0, .int .i64 0, .int .i64 0] 25 (0, 0))) := ⟨h4_⟩
                         have GW297 : Aside0 (w.heap.size ≤ gb297) := ⟨h5_⟩
                         have GE297 : Aside0 (w.heap.size ≤ gb297) := ⟨h6_⟩
                         have NB260_297 : Aside0 (gb260 ≠ gb297) := ⟨h7_⟩
                         have NB297_260 : Aside0 (gb297 ≠ gb260) := ⟨h8_⟩
                         have NB278_297 : Aside0 (gb278 ≠ gb297) := ⟨h9_⟩
                         have NB297_278 : Aside0 (gb297 ≠ gb278) := ⟨h10_⟩
                         have NB289_297 : Aside0 (gb289 ≠ gb297) := ⟨h11_⟩
                         have NB297_289 : Aside0 (gb297 ≠ gb289) := ⟨h12_⟩
                         replace HB : Aside0 (Below w.heap.size w w69) := ⟨h13_⟩
                         clear h0_ h1_ h2_ h3_ h4_ h5_ h6_ h7_ h8_ h9_ h10_ h11_ h12_ h13_
                         have hHeld : w69.cell? ⟨gb278, 0, none⟩ = some (.int .i64 x279000_40) ∧ w69.cell? ⟨gb278, 1, none⟩ = some (.int .i64 x279001_40) ∧ w69.cell? ⟨gb278, 2, none⟩ = some (.int .i64 x279002_40) ∧ w69.cell? (ad282.add (x15_1).toNat) = some (.string (rdOf ByteArray.empty y274 x15_1)) := hS_
                         refine norm_ (a' := ?_) ?_ ?_; rotate_left
                         · simp only [putAll, Act.put, List.setIfInBounds_toArray, List.set_cons_zero, List.set_cons_succ]; rfl
                         refine one_ (i := 11) (N := none) Fl55 rfl rfl (one_of HT_.out (by kernel_rfl)) (by decide) (fun K hK => ?_)
                         have hs70 : w69.cell? ⟨gb297, 0, none⟩ = some (.int .i64 0) := (blk_cell BK297.out 0).trans rfl
                         have hfs70 := blk_frozen BK297.out 0; have hns70_0 := NB260_297.out; have hns70_1 := NB278_297.out; have hns70_2 := NB289_297.out; have hms70_0 := NB297_260.out; have hms70_1 := NB297_278.out; have hms70_2 := NB297_289.out
                         have hs71 : w69.cell? ⟨gb297, 1, none⟩ = some (.int .i64 0) := (blk_cell BK297.out 1).trans rfl
                         have hfs71 := blk_frozen BK297.out 1; have hns71_0 := NB260_297.out; have hns71_1 := NB278_297.out; have hns71_2 := NB289_297.out; have hms71_0 := NB297_260.out; have hms71_1 := NB297_278.out; have hms71_2 := NB297_289.out
                         have hs72 : w69.cell? ⟨gb297, 2, none⟩ = some (.int .i64 0) := (blk_cell BK297.out 2).trans rfl
                         have hfs72 := blk_frozen BK297.out 2; have hns72_0 := NB260_297.out; have hns72_1 := NB278_297.out; have hns72_2 := NB289_297.out; have hms72_0 := NB297_260.out; have hms72_1 := NB297_278.out; have hms72_2 := NB297_289.out
                         have hs73 : w69.cell? ⟨gb297, 3, none⟩ = some (.int .i64 0) := (blk_cell BK297.out 3).trans rfl
                         have hfs73 := blk_frozen BK297.out 3; have hns73_0 := NB260_297.out; have hns73_1 := NB278_297.out; have hns73_2 := NB289_297.out; have hms73_0 := NB297_260.out; have hms73_1 := NB297_278.out; have hms73_2 := NB297_289.out; refine skip_ (w1 := ?_) (by rfl) rfl ?_ ?_; rotate_left
                         · go_simp; rfl
                         refine hK.out _ _ ⟨((cell_far (p := ⟨gb297, _, none⟩) NB278_297.out _).trans (((cell_far (p := ⟨gb297, _, none⟩) NB278_297.out _).trans (((cell_far (p := ⟨gb297, _, none⟩) NB278_297.out _).trans (((cell_far (p := ⟨gb297, _, none⟩) NB278_297.out _).trans (hHeld.1)))))))), ((cell_far (p := ⟨gb297, _, none⟩) NB278_297.out _).trans (((cell_far (p := ⟨gb297, _, none⟩) NB278_297.out _).trans (((cell_far (p := ⟨gb297, _, none⟩) NB278_297.out _).trans (((cell_far (p := ⟨gb297, _, none⟩) NB278_297.out _).trans (hHeld.2.1)))))))), ((cell_far (p := ⟨gb297, _, none⟩) NB278_297.out _).trans (((cell_far (p := ⟨gb297, _, none⟩) NB278_297.out _).trans (((cell_far (p := ⟨gb297, _, none⟩) NB278_297.out _).trans (((cell_far (p := ⟨gb297, _, none⟩) NB278_297.out _).trans (hHeld.2.2.1)))))))), ((cell_far (p := ⟨gb297, _, none⟩) (by first | exact Kd.own_blk (Kd.R_ne HO_14.out BK297.out (by decide)) | (rw [add_block]; exact Kd.own_blk (Kd.R_ne HO_14.out BK297.out (by decide))) | (show (Addr.add _ _).block ≠ _; rw [add_block]; exact Kd.own_blk (Kd.R_ne HO_14.out BK297.out (by decide))) | (dsimp only; exact Kd.own_blk (Kd.R_ne HO_14.out BK297.out (by decide)))) _).trans (((cell_far (p := ⟨gb297, _, none⟩) (by first | exact Kd.own_blk (Kd.R_ne HO_14.out BK297.out (by decide)) | (rw [add_block]; exact Kd.own_blk (Kd.R_ne HO_14.out BK297.out (by decide))) | (show (Addr.add _ _).block ≠ _; rw [add_block]; exact Kd.own_blk (Kd.R_ne HO_14.out BK297.out (by decide))) | (dsimp only; exact Kd.own_blk (Kd.R_ne HO_14.out BK297.out (by decide)))) _).trans (((cell_far (p := ⟨gb297, _, none⟩) (by first | exact Kd.own_blk (Kd.R_ne HO_14.out BK297.out (by decide)) | (rw [add_block]; exact Kd.own_blk (Kd.R_ne HO_14.out BK297.out (by decide))) | (show (Addr.add _ _).block ≠ _; rw [add_block]; exact Kd.own_blk (Kd.R_ne HO_14.out BK297.out (by decide))) | (dsimp only; exact Kd.own_blk (Kd.R_ne HO_14.out BK297.out (by decide)))) _).trans (((cell_far (p := ⟨gb297, _, none⟩) (by first | exact Kd.own_blk (Kd.R_ne HO_14.out BK297.out (by decide)) | (rw [add_block]; exact Kd.own_blk (Kd.R_ne HO_14.out BK297.out (by decide))) | (show (Addr.add _ _).block ≠ _; rw [add_block]; exact Kd.own_blk (Kd.R_ne HO_14.out BK297.out (by decide))) | (dsimp only; exact Kd.own_blk (Kd.R_ne HO_14.out BK297.out (by decide)))) _).trans (hHeld.2.2.2))))))))⟩ (fun hHeld => ?_); clear hK K; refine pur_ (i := 12) (N := some 21) Fl56 (any_of HT_.out (by kernel_rfl)) ?_; refine pur_ (i := 13) (N := some 22) Fl57 (any_of HT_.out (by kernel_rfl)) ?_; refine done_ (done_of HT_.out (by kernel_rfl)) ?_
                         go_upto_if 89 with (fail)
                         go_cut [21] (fun v21 wc => ∃ (kq : Nat) (x21_54 : Int), v21 = .int .i64 x21_54 ∧ Aside0 (chequerlaw06_HeadParses.j2 kq y274 x15_1 t287 t288 x21_54 t296 a1_0 a1_1 a1_2 t283 t284 t285 t286 t291 t292 t293 t294 = some r) ∧ Aside0 (kq ≤ kj40) ∧ Aside0 (Kd.R Kd.string 9 wc w.heap.size (fun _ => True) (.slice (some ad282) y274.length co57) y274) ∧ Aside0 (wc.heap[gb260]? = some (.cells #[.int .i64 a1_0, .int .i64 a1_1, .int .i64 a1_2] 23 (0, 0))) ∧ Aside0 (wc.heap[gb278]? = some (.cells #[.int .i64 x279000_40, .int .i64 x279001_40, .int .i64 x279002_40] 23 (0, 0))) ∧ Aside0 (wc.heap[gb289]? = some (.cells #[.int .i64 t283, .int .i64 t284, .int .i64 t285, .int .i64 t286] 36 (0, 0))) ∧ Aside0 (wc.heap[gb297]? = some (.cells #[.int .i64 t291, .int .i64 t292, .int .i64 t293, .int .i64 t294] 25 (0, 0))) ∧ Aside0 (Below w.heap.size w wc))
                         case first =>
                          have H := HC55.out; clear HC55
                          by_cases c74 : t296 = 0
                          · rw [if_pos c74] at H
                            have c74b0 : (t296 == 0) = true := beq_iff_eq.mpr c74
                            have c74b1 : (t296 != 0) = false := bne_eq_false_iff_eq.mpr c74
                            clear c74
                            (first | rw [c74b0] | (simp only [i64_w, i32_w]; rw [c74b0]) | skip)
                            have H' := Aside0.mk H
                            clear H
                            go_wp2
                            go_meet
                            case rel => exact ⟨_, (t295), (by first | rfl | (simp; done) | (simp [*]; done)), H', ⟨by have := HK1.out; have := HJ40.out; first | omega | exact Nat.le_refl _⟩, ⟨rf_ HO_14.out BK297.out (by decide) (fun _ hk => trivial)⟩, ⟨hf_ BK260.out NB260_297.out⟩, ⟨hf_ BK278.out NB278_297.out⟩, ⟨hf_ BK289.out NB289_297.out⟩, ⟨by (with_reducible repeat (first | refine blk_drewN ?_ _ | refine blk_drew ?_ | refine blk_alloc ?_ _)); refine blk_put (cs := #[.int .i64 t291, .int .i64 t292, .int .i64 t293, .int .i64 0]) ?_ 3 _ rfl; (with_reducible repeat (first | refine blk_drewN ?_ _ | refine blk_drew ?_ | refine blk_alloc ?_ _)); refine blk_put (cs := #[.int .i64 t291, .int .i64 t292, .int .i64 0, .int .i64 0]) ?_ 2 _ rfl; (with_reducible repeat (first | refine blk_drewN ?_ _ | refine blk_drew ?_ | refine blk_alloc ?_ _)); refine blk_put (cs := #[.int .i64 t291, .int .i64 0, .int .i64 0, .int .i64 0]) ?_ 1 _ rfl; (with_reducible repeat (first | refine blk_drewN ?_ _ | refine blk_drew ?_ | refine blk_alloc ?_ _)); refine blk_put (cs := #[.int .i64 0, .int .i64 0, .int .i64 0, .int .i64 0]) ?_ 0 _ rfl; (with_reducible repeat (first | refine blk_drewN ?_ _ | refine blk_drew ?_ | refine blk_alloc ?_ _)); exact BK297.out⟩, ⟨bp_⟩⟩
                          rw [if_neg c74] at H
                          have c74b0 : (t296 == 0) = false := beq_eq_false_iff_ne.mpr c74
                          have c74b1 : (t296 != 0) = true := bne_iff_ne.mpr c74
                          (first | rw [c74b0] | (simp only [i64_w, i32_w]; rw [c74b0]) | skip)
                          have H' := Aside0.mk H
                          clear H
                          go_wp2
                          go_meet
                          case rel => exact ⟨_, (0), (by first | rfl | (simp; done) | (simp [*]; done)), H', ⟨by have := HK1.out; have := HJ40.out; first | omega | exact Nat.le_refl _⟩, ⟨rf_ HO_14.out BK297.out (by decide) (fun _ hk => trivial)⟩, ⟨hf_ BK260.out NB260_297.out⟩, ⟨hf_ BK278.out NB278_297.out⟩, ⟨hf_ BK289.out NB289_297.out⟩, ⟨by (with_reducible repeat (first | refine blk_drewN ?_ _ | refine blk_drew ?_ | refine blk_alloc ?_ _)); refine blk_put (cs := #[.int .i64 t291, .int .i64 t292, .int .i64 t293, .int .i64 0]) ?_ 3 _ rfl; (with_reducible repeat (first | refine blk_drewN ?_ _ | refine blk_drew ?_ | refine blk_alloc ?_ _)); refine blk_put (cs := #[.int .i64 t291, .int .i64 t292, .int .i64 0, .int .i64 0]) ?_ 2 _ rfl; (with_reducible repeat (first | refine blk_drewN ?_ _ | refine blk_drew ?_ | refine blk_alloc ?_ _)); refine blk_put (cs := #[.int .i64 t291, .int .i64 0, .int .i64 0, .int .i64 0]) ?_ 1 _ rfl; (with_reducible repeat (first | refine blk_drewN ?_ _ | refine blk_drew ?_ | refine blk_alloc ?_ _)); refine blk_put (cs := #[.int .i64 0, .int .i64 0, .int .i64 0, .int .i64 0]) ?_ 0 _ rfl; (with_reducible repeat (first | refine blk_drewN ?_ _ | refine blk_drew ?_ | refine blk_alloc ?_ _)); exact BK297.out⟩, ⟨bp_⟩⟩
                         case rest =>
                          clear HC55
                          try clear c1
                          try clear p2
                          try clear q2
                          try clear hx2
                          try clear c7
                          try clear c15
                          try clear c16
                          try clear p29
                          try clear q29
                          try clear hx29
                          try clear c74
                          try clear c74b0
                          try clear c74b1
                          try clear hx290_0
                          try clear p290
                          try clear q290
                          obtain ⟨kq, x21_54, rfl, HA, HJ54, HO_14, BK260, BK278, BK289, BK297, HB⟩ := hcut
                          cases kq with
                          | zero => exact absurd HA.out (by simp [chequerlaw06_HeadParses.j2])
                          | succ kj54 =>
                           have H := HA.out; clear HA; simp only [chequerlaw06_HeadParses.j2] at H; have HP75 := Aside0.mk H; clear H
                           go_upto_region 17 with (fail)
                           have H := HP75.out; clear HP75; replace H := Option.bind_eq_some_iff.mp H; obtain ⟨⟨t298, t299, t300, t301⟩, A760, H⟩ := H
                           replace H : (if (!(t298 == t291) || (!(t299 == t292) || (!(t300 == t293) || (!(t301 == t294))))) = true then (some false) else (if t287 = x21_54 then (if t288 = t296 then (chequerlaw06_HeadParses.l0 kj54 y274 (wrap64 (x15_1 + 1)) a1_0 a1_1 a1_2) else (some false)) else (some false))) = some r := H
                           have A76 := Aside0.mk A760; clear A760
                           by_cases c77 : (!(t298 == t291) || (!(t299 == t292) || (!(t300 == t293) || (!(t301 == t294))))) = true
                           · rw [if_pos c77] at H
                             have c77b0 : (!(t298 == t291) || (!(t299 == t292) || (!(t300 == t293) || (!(t301 == t294))))) = true := c77
                             clear c77
                             (first | rw [c77b0] | (simp only [i64_w, i32_w]; rw [c77b0]) | skip)
                             obtain rfl := Option.some.inj H
                             try go_wp2
                             (try (rw [drewN_self wc]; generalize hq_ : World.drewN wc _ = wc; have n0_ := Aside0.mk (qrp_ hq_ HO_14.out); have n1_ := Aside0.mk (qhp_ hq_ BK289.out); have n2_ := Aside0.mk (qhp_ hq_ BK297.out); have n3_ : Aside0 (Below w.heap.size w wc) := ⟨qbp_ hq_⟩; clear HO_14 BK289 BK297 HB hq_; have HO_14 := n0_; have BK289 := n1_; have BK297 := n2_; have HB := n3_; clear n0_ n1_ n2_ n3_))
                             replace HO_14 := Aside0.mk (Kd.R_drew HO_14.out); replace BK289 := Aside0.mk (blk_drew BK289.out); replace BK297 := Aside0.mk (blk_drew BK297.out); replace HB := Aside0.mk (below_drew1 HB.out); refine start_ (n := 14) (S := fun w' => w'.cell? ⟨gb289, 0, none⟩ = some (.int .i64 t283) ∧ w'.cell? ⟨gb289, 1, none⟩ = some (.int .i64 t284) ∧ w'.cell? ⟨gb289, 2, none⟩ = some (.int .i64 t285) ∧ w'.cell? ⟨gb289, 3, none⟩ = some (.int .i64 t286) ∧ w'.cell? ⟨gb297, 0, none⟩ = some (.int .i64 t291) ∧ w'.cell? ⟨gb297, 1, none⟩ = some (.int .i64 t292) ∧ w'.cell? ⟨gb297, 2, none⟩ = some (.int .i64 t293) ∧ w'.cell? ⟨gb297, 3, none⟩ = some (.int .i64 t294)) (ds := []) Fl45 (by kernel_rfl) rfl rfl ⟨(blk_cell BK289.out 0).trans rfl, (blk_cell BK289.out 1).trans rfl, (blk_cell BK289.out 2).trans rfl, (blk_cell BK289.out 3).trans rfl, (blk_cell BK297.out 0).trans rfl, (blk_cell BK297.out 1).trans rfl, (blk_cell BK297.out 2).trans rfl, (blk_cell BK297.out 3).trans rfl⟩ (fun hHeld => ?_); refine with_tabW chequerlaw06_HeadParses.tab17 chequerlaw06_HeadParses.bits17 (fun HT_ HW_ => ?_)
                             generalize wc.drew = w78 at HO_14 BK289 BK297 HB hHeld ⊢
                             refine take_ (i := 0) (N := some 90) (v := ?_) (a' := ?_) Fl46 rfl rfl (take_ofW HT_.out HW_.out (by kernel_rfl)) (fun _ _ _ h => h) (Or.inl ⟨by rfl, ?_⟩) hHeld ?_ ?_; rotate_left
                             · rintro w' ⟨s0, s1, s2, s3, s4, s5, s6, s7⟩
                               go_simp; with_reducible rfl
                             rotate_left
                             · simp only [Act.put, List.setIfInBounds_toArray, List.set_cons_zero, List.set_cons_succ, i64_w, i32_w]; rfl
                             refine take_ (i := 2) (N := some 92) (v := ?_) (a' := ?_) Fl58 rfl rfl (take_ofW HT_.out HW_.out (by kernel_rfl)) (fun _ _ _ h => h) (Or.inl ⟨by rfl, ?_⟩) hHeld ?_ ?_; rotate_left
                             · rintro w' ⟨s0, s1, s2, s3, s4, s5, s6, s7⟩
                               go_simp; with_reducible rfl
                             rotate_left
                             · simp only [Act.put, List.setIfInBounds_toArray, List.set_cons_zero, List.set_cons_succ, i64_w, i32_w]; rfl
                             refine one_ (i := 1) (N := some 91) Fl47 rfl rfl (one_of HT_.out (by kernel_rfl)) (by decide) (fun K hK => ?_); refine goes_ Try.func17 (by kernel_rfl) rfl #[.agg #[.int .i64 t283, .int .i64 t284, .int .i64 t285, .int .i64 t286]] (by rfl) rfl rfl (by (try simp only [List.map_toArray, List.map_cons, List.map_nil]); first | done | rfl | (simp only [List.length_drop, List.length_take]; rfl)) ?_
                             with_reducible refine (chequerlaw06_as.calls t283 t284 t285 t286 t298 t299 t300 t301 _ A76.out).mono ?_
                             rintro e w79 ⟨rfl, hb⟩
                             refine ⟨_, rfl, ?_⟩; replace HO_14 := Aside0.mk (Kd.R_below (rp_ HO_14.out) hb); replace BK289 := Aside0.mk (blk_below (hp_ BK289.out) hb); replace BK297 := Aside0.mk (blk_below (hp_ BK297.out) hb); replace HB := Aside0.mk (below_step bp_ hb)
                             (try clear hb)
                             (try clear hb2)
                             (try clear hk)
                             (try clear hi)
                             refine hK.out _ _ ⟨(blk_cell BK289.out 0).trans rfl, (blk_cell BK289.out 1).trans rfl, (blk_cell BK289.out 2).trans rfl, (blk_cell BK289.out 3).trans rfl, (blk_cell BK297.out 0).trans rfl, (blk_cell BK297.out 1).trans rfl, (blk_cell BK297.out 2).trans rfl, (blk_cell BK297.out 3).trans rfl⟩ (fun hHeld => ?_); clear hK K; refine norm_ (a' := ?_) ?_ ?_; rotate_left
                             · show Act.put _ (some 91) _ = _
                               simp only [Act.put, List.setIfInBounds_toArray, List.set_cons_zero, List.set_cons_succ, i64_w, i32_w]; rfl
                             refine pur_ (i := 3) (N := some 93) Fl48 (any_of HT_.out (by kernel_rfl)) ?_; refine pur_ (i := 4) (N := some 94) Fl49 (any_of HT_.out (by kernel_rfl)) ?_; refine pun_ (i := 5) (N := some 95) Fl50 (any_of HT_.out (by kernel_rfl)) ?_; refine pun_ (i := 6) (N := some 96) Fl51 (any_of HT_.out (by kernel_rfl)) ?_; refine pun_ (i := 7) (N := some 97) Fl52 (any_of HT_.out (by kernel_rfl)) ?_; refine pur_ (i := 8) (N := some 98) Fl53 (any_of HT_.out (by kernel_rfl)) ?_; refine pur_ (i := 9) (N := some 99) Fl54 (any_of HT_.out (by kernel_rfl)) ?_; refine pun_ (i := 10) (N := some 100) Fl44 (any_of HT_.out (by kernel_rfl)) ?_; refine pun_ (i := 11) (N := some 101) Fl55 (any_of HT_.out (by kernel_rfl)) ?_; refine pun_ (i := 12) (N := some 102) Fl56 (any_of HT_.out (by kernel_rfl)) ?_; refine pur_ (i := 13) (N := some 103) Fl57 (any_of HT_.out (by kernel_rfl)) ?_; refine done_ (done_of HT_.out (by kernel_rfl)) ?_
                             try go_wp2
                             go_ret
                             exact ⟨by first | rfl | (simp [errW_none, errW_some] <;> rfl) | (simp only [← hji21]; first | rfl | (simp [errW_none, errW_some] <;> rfl)) | (simp [*, errW_none, errW_some] <;> rfl), bp_⟩
                           rw [if_neg c77] at H
                           have c77b0 : (!(t298 == t291) || (!(t299 == t292) || (!(t300 == t293) || (!(t301 == t294))))) = false := by simpa using c77
                           clear c77
                           (first | rw [c77b0] | (simp only [i64_w, i32_w]; rw [c77b0]) | skip)
                           by_cases c80 : t287 = x21_54
                           · rw [if_pos c80] at H
                             have c80b0 : (t287 == x21_54) = true := beq_iff_eq.mpr c80
                             have c80b1 : (t287 != x21_54) = false := bne_eq_false_iff_eq.mpr c80
                             clear c80
                             by_cases c81 : t288 = t296
                             · rw [if_pos c81] at H
                               have c81b0 : (t288 == t296) = true := beq_iff_eq.mpr c81
                               have c81b1 : (t288 != t296) = false := bne_eq_false_iff_eq.mpr c81
                               clear c81
                               have H' := Aside0.mk H
                               clear H
                               try go_wp2
                               (try (rw [drewN_self wc]; generalize hq_ : World.drewN wc _ = wc; have n0_ := Aside0.mk (qrp_ hq_ HO_14.out); have n1_ := Aside0.mk (qhp_ hq_ BK260.out); have n2_ := Aside0.mk (qhp_ hq_ BK278.out); have n3_ := Aside0.mk (qhp_ hq_ BK289.out); have n4_ := Aside0.mk (qhp_ hq_ BK297.out); have n5_ : Aside0 (Below w.heap.size w wc) := ⟨qbp_ hq_⟩; clear HO_14 BK260 BK278 BK289 BK297 HB hq_; have HO_14 := n0_; have BK260 := n1_; have BK278 := n2_; have BK289 := n3_; have BK297 := n4_; have HB := n5_; clear n0_ n1_ n2_ n3_ n4_ n5_))
                               replace HO_14 := Aside0.mk (Kd.R_drew HO_14.out); replace BK260 := Aside0.mk (blk_drew BK260.out); replace BK278 := Aside0.mk (blk_drew BK278.out); replace BK289 := Aside0.mk (blk_drew BK289.out); replace BK297 := Aside0.mk (blk_drew BK297.out); replace HB := Aside0.mk (below_drew1 HB.out); refine start_ (n := 14) (S := fun w' => w'.cell? ⟨gb289, 0, none⟩ = some (.int .i64 t283) ∧ w'.cell? ⟨gb289, 1, none⟩ = some (.int .i64 t284) ∧ w'.cell? ⟨gb289, 2, none⟩ = some (.int .i64 t285) ∧ w'.cell? ⟨gb289, 3, none⟩ = some (.int .i64 t286) ∧ w'.cell? ⟨gb297, 0, none⟩ = some (.int .i64 t291) ∧ w'.cell? ⟨gb297, 1, none⟩ = some (.int .i64 t292) ∧ w'.cell? ⟨gb297, 2, none⟩ = some (.int .i64 t293) ∧ w'.cell? ⟨gb297, 3, none⟩ = some (.int .i64 t294)) (ds := []) Fl45 (by kernel_rfl) rfl rfl ⟨(blk_cell BK289.out 0).trans rfl, (blk_cell BK289.out 1).trans rfl, (blk_cell BK289.out 2).trans rfl, (blk_cell BK289.out 3).trans rfl, (blk_cell BK297.out 0).trans rfl, (blk_cell BK297.out 1).trans rfl, (blk_cell BK297.out 2).trans rfl, (blk_cell BK297.out 3).trans rfl⟩ (fun hHeld => ?_); refine with_tabW chequerlaw06_HeadParses.tab17 chequerlaw06_HeadParses.bits17 (fun HT_ HW_ => ?_)
                               generalize wc.drew = w82 at HO_14 BK260 BK278 BK289 BK297 HB hHeld ⊢
                               refine take_ (i := 0) (N := some 90) (v := ?_) (a' := ?_) Fl46 rfl rfl (take_ofW HT_.out HW_.out (by kernel_rfl)) (fun _ _ _ h => h) (Or.inl ⟨by rfl, ?_⟩) hHeld ?_ ?_; rotate_left
                               · rintro w' ⟨s0, s1, s2, s3, s4, s5, s6, s7⟩
                                 go_simp; with_reducible rfl
                               rotate_left
                               · simp only [Act.put, List.setIfInBounds_toArray, List.set_cons_zero, List.set_cons_succ, i64_w, i32_w]; rfl
                               refine take_ (i := 2) (N := some 92) (v := ?_) (a' := ?_) Fl58 rfl rfl (take_ofW HT_.out HW_.out (by kernel_rfl)) (fun _ _ _ h => h) (Or.inl ⟨by rfl, ?_⟩) hHeld ?_ ?_; rotate_left
                               · rintro w' ⟨s0, s1, s2, s3, s4, s5, s6, s7⟩
                                 go_simp; with_reducible rfl
                               rotate_left
                               · simp only [Act.put, List.setIfInBounds_toArray, List.set_cons_zero, List.set_cons_succ, i64_w, i32_w]; rfl
                               refine one_ (i := 1) (N := some 91) Fl47 rfl rfl (one_of HT_.out (by kernel_rfl)) (by decide) (fun K hK => ?_); refine goes_ Try.func17 (by kernel_rfl) rfl #[.agg #[.int .i64 t283, .int .i64 t284, .int .i64 t285, .int .i64 t286]] (by rfl) rfl rfl (by (try simp only [List.map_toArray, List.map_cons, List.map_nil]); first | done | rfl | (simp only [List.length_drop, List.length_take]; rfl)) ?_
                               with_reducible refine (chequerlaw06_as.calls t283 t284 t285 t286 t298 t299 t300 t301 _ A76.out).mono ?_
                               rintro e w83 ⟨rfl, hb⟩
                               refine ⟨_, rfl, ?_⟩; replace HO_14 := Aside0.mk (Kd.R_below (rp_ HO_14.out) hb); replace BK260 := Aside0.mk (blk_below (hp_ BK260.out) hb); replace BK278 := Aside0.mk (blk_below (hp_ BK278.out) hb); replace BK289 := Aside0.mk (blk_below (hp_ BK289.out) hb); replace BK297 := Aside0.mk (blk_below (hp_ BK297.out) hb); replace HB := Aside0.mk (below_step bp_ hb)
                               (try clear hb)
                               (try clear hb2)
                               (try clear hk)
                               (try clear hi)
                               refine hK.out _ _ ⟨(blk_cell BK289.out 0).trans rfl, (blk_cell BK289.out 1).trans rfl, (blk_cell BK289.out 2).trans rfl, (blk_cell BK289.out 3).trans rfl, (blk_cell BK297.out 0).trans rfl, (blk_cell BK297.out 1).trans rfl, (blk_cell BK297.out 2).trans rfl, (blk_cell BK297.out 3).trans rfl⟩ (fun hHeld => ?_); clear hK K; refine norm_ (a' := ?_) ?_ ?_; rotate_left
                               · show Act.put _ (some 91) _ = _
                                 simp only [Act.put, List.setIfInBounds_toArray, List.set_cons_zero, List.set_cons_succ, i64_w, i32_w]; rfl
                               refine pur_ (i := 3) (N := some 93) Fl48 (any_of HT_.out (by kernel_rfl)) ?_; refine pur_ (i := 4) (N := some 94) Fl49 (any_of HT_.out (by kernel_rfl)) ?_; refine pur_ (i := 5) (N := some 95) Fl50 (any_of HT_.out (by kernel_rfl)) ?_; refine pur_ (i := 6) (N := some 96) Fl51 (any_of HT_.out (by kernel_rfl)) ?_; refine pur_ (i := 7) (N := some 97) Fl52 (any_of HT_.out (by kernel_rfl)) ?_; refine pur_ (i := 8) (N := some 98) Fl53 (any_of HT_.out (by kernel_rfl)) ?_; refine pur_ (i := 9) (N := some 99) Fl54 (any_of HT_.out (by kernel_rfl)) ?_; refine pur_ (i := 10) (N := some 100) Fl44 (any_of HT_.out (by kernel_rfl)) ?_; refine pur_ (i := 11) (N := some 101) Fl55 (any_of HT_.out (by kernel_rfl)) ?_; refine pur_ (i := 12) (N := some 102) Fl56 (any_of HT_.out (by kernel_rfl)) ?_; refine pur_ (i := 13) (N := some 103) Fl57 (any_of HT_.out (by kernel_rfl)) ?_; refine done_ (done_of HT_.out (by kernel_rfl)) ?_
                               try go_wp2
                               go_roundg kj54
                               case measure => have := HK1.out; have := HJ40.out; have := HJ54.out; omega
                               case rel => exact ⟨(wrap64 (x15_1 + 1)), (by first | rfl | (simp; done) | (simp [*]; done)), H', ⟨by have := HK1.out; have := HJ40.out; have := HJ54.out; omega⟩, ⟨rp_ HO_14.out⟩, ⟨hp_ BK260.out⟩, ⟨bp_⟩⟩
                             rw [if_neg c81] at H
                             have c81b0 : (t288 == t296) = false := beq_eq_false_iff_ne.mpr c81
                             have c81b1 : (t288 != t296) = true := bne_iff_ne.mpr c81
                             obtain rfl := Option.some.inj H
                             try go_wp2
                             (try (rw [drewN_self wc]; generalize hq_ : World.drewN wc _ = wc; have n0_ := Aside0.mk (qrp_ hq_ HO_14.out); have n1_ := Aside0.mk (qhp_ hq_ BK289.out); have n2_ := Aside0.mk (qhp_ hq_ BK297.out); have n3_ : Aside0 (Below w.heap.size w wc) := ⟨qbp_ hq_⟩; clear HO_14 BK289 BK297 HB hq_; have HO_14 := n0_; have BK289 := n1_; have BK297 := n2_; have HB := n3_; clear n0_ n1_ n2_ n3_))
                             replace HO_14 := Aside0.mk (Kd.R_drew HO_14.out); replace BK289 := Aside0.mk (blk_drew BK289.out); replace BK297 := Aside0.mk (blk_drew BK297.out); replace HB := Aside0.mk (below_drew1 HB.out); refine start_ (n := 14) (S := fun w' => w'.cell? ⟨gb289, 0, none⟩ = some (.int .i64 t283) ∧ w'.cell? ⟨gb289, 1, none⟩ = some (.int .i64 t284) ∧ w'.cell? ⟨gb289, 2, none⟩ = some (.int .i64 t285) ∧ w'.cell? ⟨gb289, 3, none⟩ = some (.int .i64 t286) ∧ w'.cell? ⟨gb297, 0, none⟩ = some (.int .i64 t291) ∧ w'.cell? ⟨gb297, 1, none⟩ = some (.int .i64 t292) ∧ w'.cell? ⟨gb297, 2, none⟩ = some (.int .i64 t293) ∧ w'.cell? ⟨gb297, 3, none⟩ = some (.int .i64 t294)) (ds := []) Fl45 (by kernel_rfl) rfl rfl ⟨(blk_cell BK289.out 0).trans rfl, (blk_cell BK289.out 1).trans rfl, (blk_cell BK289.out 2).trans rfl, (blk_cell BK289.out 3).trans rfl, (blk_cell BK297.out 0).trans rfl, (blk_cell BK297.out 1).trans rfl, (blk_cell BK297.out 2).trans rfl, (blk_cell BK297.out 3).trans rfl⟩ (fun hHeld => ?_); refine with_tabW chequerlaw06_HeadParses.tab17 chequerlaw06_HeadParses.bits17 (fun HT_ HW_ => ?_)
                             generalize wc.drew = w84 at HO_14 BK289 BK297 HB hHeld ⊢
                             refine take_ (i := 0) (N := some 90) (v := ?_) (a' := ?_) Fl46 rfl rfl (take_ofW HT_.out HW_.out (by kernel_rfl)) (fun _ _ _ h => h) (Or.inl ⟨by rfl, ?_⟩) hHeld ?_ ?_; rotate_left
                             · rintro w' ⟨s0, s1, s2, s3, s4, s5, s6, s7⟩
                               go_simp; with_reducible rfl
                             rotate_left
                             · simp only [Act.put, List.setIfInBounds_toArray, List.set_cons_zero, List.set_cons_succ, i64_w, i32_w]; rfl
                             refine take_ (i := 2) (N := some 92) (v := ?_) (a' := ?_) Fl58 rfl rfl (take_ofW HT_.out HW_.out (by kernel_rfl)) (fun _ _ _ h => h) (Or.inl ⟨by rfl, ?_⟩) hHeld ?_ ?_; rotate_left
                             · rintro w' ⟨s0, s1, s2, s3, s4, s5, s6, s7⟩
                               go_simp; with_reducible rfl
                             rotate_left
                             · simp only [Act.put, List.setIfInBounds_toArray, List.set_cons_zero, List.set_cons_succ, i64_w, i32_w]; rfl
                             refine one_ (i := 1) (N := some 91) Fl47 rfl rfl (one_of HT_.out (by kernel_rfl)) (by decide) (fun K hK => ?_); refine goes_ Try.func17 (by kernel_rfl) rfl #[.agg #[.int .i64 t283, .int .i64 t284, .int .i64 t285, .int .i64 t286]] (by rfl) rfl rfl (by (try simp only [List.map_toArray, List.map_cons, List.map_nil]); first | done | rfl | (simp only [List.length_drop, List.length_take]; rfl)) ?_
                             with_reducible refine (chequerlaw06_as.calls t283 t284 t285 t286 t298 t299 t300 t301 _ A76.out).mono ?_
                             rintro e w85 ⟨rfl, hb⟩
                             refine ⟨_, rfl, ?_⟩; replace HO_14 := Aside0.mk (Kd.R_below (rp_ HO_14.out) hb); replace BK289 := Aside0.mk (blk_below (hp_ BK289.out) hb); replace BK297 := Aside0.mk (blk_below (hp_ BK297.out) hb); replace HB := Aside0.mk (below_step bp_ hb)
                             (try clear hb)
                             (try clear hb2)
                             (try clear hk)
                             (try clear hi)
                             refine hK.out _ _ ⟨(blk_cell BK289.out 0).trans rfl, (blk_cell BK289.out 1).trans rfl, (blk_cell BK289.out 2).trans rfl, (blk_cell BK289.out 3).trans rfl, (blk_cell BK297.out 0).trans rfl, (blk_cell BK297.out 1).trans rfl, (blk_cell BK297.out 2).trans rfl, (blk_cell BK297.out 3).trans rfl⟩ (fun hHeld => ?_); clear hK K; refine norm_ (a' := ?_) ?_ ?_; rotate_left
                             · show Act.put _ (some 91) _ = _
                               simp only [Act.put, List.setIfInBounds_toArray, List.set_cons_zero, List.set_cons_succ, i64_w, i32_w]; rfl
                             refine pur_ (i := 3) (N := some 93) Fl48 (any_of HT_.out (by kernel_rfl)) ?_; refine pur_ (i := 4) (N := some 94) Fl49 (any_of HT_.out (by kernel_rfl)) ?_; refine pur_ (i := 5) (N := some 95) Fl50 (any_of HT_.out (by kernel_rfl)) ?_; refine pur_ (i := 6) (N := some 96) Fl51 (any_of HT_.out (by kernel_rfl)) ?_; refine pur_ (i := 7) (N := some 97) Fl52 (any_of HT_.out (by kernel_rfl)) ?_; refine pur_ (i := 8) (N := some 98) Fl53 (any_of HT_.out (by kernel_rfl)) ?_; refine pur_ (i := 9) (N := some 99) Fl54 (any_of HT_.out (by kernel_rfl)) ?_; refine pur_ (i := 10) (N := some 100) Fl44 (any_of HT_.out (by kernel_rfl)) ?_; refine pur_ (i := 11) (N := some 101) Fl55 (any_of HT_.out (by kernel_rfl)) ?_; refine pur_ (i := 12) (N := some 102) Fl56 (any_of HT_.out (by kernel_rfl)) ?_; refine pur_ (i := 13) (N := some 103) Fl57 (any_of HT_.out (by kernel_rfl)) ?_; refine done_ (done_of HT_.out (by kernel_rfl)) ?_
                             try go_wp2
                             go_ret
                             exact ⟨by first | rfl | (simp [errW_none, errW_some] <;> rfl) | (simp only [← hji21]; first | rfl | (simp [errW_none, errW_some] <;> rfl)) | (simp [*, errW_none, errW_some] <;> rfl), bp_⟩
                           rw [if_neg c80] at H
                           have c80b0 : (t287 == x21_54) = false := beq_eq_false_iff_ne.mpr c80
                           have c80b1 : (t287 != x21_54) = true := bne_iff_ne.mpr c80
                           obtain rfl := Option.some.inj H
                           try go_wp2
                           (try (rw [drewN_self wc]; generalize hq_ : World.drewN wc _ = wc; have n0_ := Aside0.mk (qrp_ hq_ HO_14.out); have n1_ := Aside0.mk (qhp_ hq_ BK289.out); have n2_ := Aside0.mk (qhp_ hq_ BK297.out); have n3_ : Aside0 (Below w.heap.size w wc) := ⟨qbp_ hq_⟩; clear HO_14 BK289 BK297 HB hq_; have HO_14 := n0_; have BK289 := n1_; have BK297 := n2_; have HB := n3_; clear n0_ n1_ n2_ n3_))
                           replace HO_14 := Aside0.mk (Kd.R_drew HO_14.out); replace BK289 := Aside0.mk (blk_drew BK289.out); replace BK297 := Aside0.mk (blk_drew BK297.out); replace HB := Aside0.mk (below_drew1 HB.out); refine start_ (n := 14) (S := fun w' => w'.cell? ⟨gb289, 0, none⟩ = some (.int .i64 t283) ∧ w'.cell? ⟨gb289, 1, none⟩ = some (.int .i64 t284) ∧ w'.cell? ⟨gb289, 2, none⟩ = some (.int .i64 t285) ∧ w'.cell? ⟨gb289, 3, none⟩ = some (.int .i64 t286) ∧ w'.cell? ⟨gb297, 0, none⟩ = some (.int .i64 t291) ∧ w'.cell? ⟨gb297, 1, none⟩ = some (.int .i64 t292) ∧ w'.cell? ⟨gb297, 2, none⟩ = some (.int .i64 t293) ∧ w'.cell? ⟨gb297, 3, none⟩ = some (.int .i64 t294)) (ds := []) Fl45 (by kernel_rfl) rfl rfl ⟨(blk_cell BK289.out 0).trans rfl, (blk_cell BK289.out 1).trans rfl, (blk_cell BK289.out 2).trans rfl, (blk_cell BK289.out 3).trans rfl, (blk_cell BK297.out 0).trans rfl, (blk_cell BK297.out 1).trans rfl, (blk_cell BK297.out 2).trans rfl, (blk_cell BK297.out 3).trans rfl⟩ (fun hHeld => ?_); refine with_tabW chequerlaw06_HeadParses.tab17 chequerlaw06_HeadParses.bits17 (fun HT_ HW_ => ?_)
                           generalize wc.drew = w86 at HO_14 BK289 BK297 HB hHeld ⊢
                           refine take_ (i := 0) (N := some 90) (v := ?_) (a' := ?_) Fl46 rfl rfl (take_ofW HT_.out HW_.out (by kernel_rfl)) (fun _ _ _ h => h) (Or.inl ⟨by rfl, ?_⟩) hHeld ?_ ?_; rotate_left
                           · rintro w' ⟨s0, s1, s2, s3, s4, s5, s6, s7⟩
                             go_simp; with_reducible rfl
                           rotate_left
                           · simp only [Act.put, List.setIfInBounds_toArray, List.set_cons_zero, List.set_cons_succ, i64_w, i32_w]; rfl
                           refine take_ (i := 2) (N := some 92) (v := ?_) (a' := ?_) Fl58 rfl rfl (take_ofW HT_.out HW_.out (by kernel_rfl)) (fun _ _ _ h => h) (Or.inl ⟨by rfl, ?_⟩) hHeld ?_ ?_; rotate_left
                           · rintro w' ⟨s0, s1, s2, s3, s4, s5, s6, s7⟩
                             go_simp; with_reducible rfl
                           rotate_left
                           · simp only [Act.put, List.setIfInBounds_toArray, List.set_cons_zero, List.set_cons_succ, i64_w, i32_w]; rfl
                           refine one_ (i := 1) (N := some 91) Fl47 rfl rfl (one_of HT_.out (by kernel_rfl)) (by decide) (fun K hK => ?_); refine goes_ Try.func17 (by kernel_rfl) rfl #[.agg #[.int .i64 t283, .int .i64 t284, .int .i64 t285, .int .i64 t286]] (by rfl) rfl rfl (by (try simp only [List.map_toArray, List.map_cons, List.map_nil]); first | done | rfl | (simp only [List.length_drop, List.length_take]; rfl)) ?_
                           with_reducible refine (chequerlaw06_as.calls t283 t284 t285 t286 t298 t299 t300 t301 _ A76.out).mono ?_
                           rintro e w87 ⟨rfl, hb⟩
                           refine ⟨_, rfl, ?_⟩; replace HO_14 := Aside0.mk (Kd.R_below (rp_ HO_14.out) hb); replace BK289 := Aside0.mk (blk_below (hp_ BK289.out) hb); replace BK297 := Aside0.mk (blk_below (hp_ BK297.out) hb); replace HB := Aside0.mk (below_step bp_ hb)
                           (try clear hb)
                           (try clear hb2)
                           (try clear hk)
                           (try clear hi)
                           refine hK.out _ _ ⟨(blk_cell BK289.out 0).trans rfl, (blk_cell BK289.out 1).trans rfl, (blk_cell BK289.out 2).trans rfl, (blk_cell BK289.out 3).trans rfl, (blk_cell BK297.out 0).trans rfl, (blk_cell BK297.out 1).trans rfl, (blk_cell BK297.out 2).trans rfl, (blk_cell BK297.out 3).trans rfl⟩ (fun hHeld => ?_); clear hK K; refine norm_ (a' := ?_) ?_ ?_; rotate_left
                           · show Act.put _ (some 91) _ = _
                             simp only [Act.put, List.setIfInBounds_toArray, List.set_cons_zero, List.set_cons_succ, i64_w, i32_w]; rfl
                           refine pur_ (i := 3) (N := some 93) Fl48 (any_of HT_.out (by kernel_rfl)) ?_; refine pur_ (i := 4) (N := some 94) Fl49 (any_of HT_.out (by kernel_rfl)) ?_; refine pur_ (i := 5) (N := some 95) Fl50 (any_of HT_.out (by kernel_rfl)) ?_; refine pur_ (i := 6) (N := some 96) Fl51 (any_of HT_.out (by kernel_rfl)) ?_; refine pur_ (i := 7) (N := some 97) Fl52 (any_of HT_.out (by kernel_rfl)) ?_; refine pur_ (i := 8) (N := some 98) Fl53 (any_of HT_.out (by kernel_rfl)) ?_; refine pur_ (i := 9) (N := some 99) Fl54 (any_of HT_.out (by kernel_rfl)) ?_; refine pun_ (i := 10) (N := some 100) Fl44 (any_of HT_.out (by kernel_rfl)) ?_; refine pun_ (i := 11) (N := some 101) Fl55 (any_of HT_.out (by kernel_rfl)) ?_; refine pun_ (i := 12) (N := some 102) Fl56 (any_of HT_.out (by kernel_rfl)) ?_; refine pur_ (i := 13) (N := some 103) Fl57 (any_of HT_.out (by kernel_rfl)) ?_; refine done_ (done_of HT_.out (by kernel_rfl)) ?_
                           try go_wp2
                           go_ret
                           exact ⟨by first | rfl | (simp [errW_none, errW_some] <;> rfl) | (simp only [← hji21]; first | rfl | (simp [errW_none, errW_some] <;> rfl)) | (simp [*, errW_none, errW_some] <;> rfl), bp_⟩
                       rw [if_neg c52] at H
                       exact absurd H (by simp)
                     rw [if_neg c51] at H
                     exact absurd H (by simp)
                 rw [if_neg c40] at H
                 have c40b0 : decide (x15_1 < 5) = false := decide_eq_false c40
                 clear c40; replace H := Option.bind_eq_some_iff.mp H; obtain ⟨t277, A880, H⟩ := H
                 replace H : (some t277) = some r := H
                 have A88 := Aside0.mk A880; clear A880
                 obtain rfl := Option.some.inj H
                 go_wp2_with (first | ((with_reducible refine gate_callee (f := 12) rfl ?_); refine goQ_ (some 104) Try.func12 #[] ?_; (with_reducible refine (chequerlaw06_lives.calls k1  t277 _ A88.out).mono ?_); rintro e w89 ⟨rfl, hb⟩; refine ⟨_, rfl, ?_⟩; replace HO_14 := Aside0.mk (Kd.R_below (rp_ HO_14.out) hb); replace HB := Aside0.mk (below_step bp_ hb); (try clear hb); (try clear hb2); (try clear hk); (try clear hi)))
                 go_ret
                 exact ⟨by first | rfl | (simp [errW_none, errW_some] <;> rfl) | (simp only [← hji21]; first | rfl | (simp [errW_none, errW_some] <;> rfl)) | (simp [*, errW_none, errW_some] <;> rfl), bp_⟩
             rw [if_neg c27] at H
             exact absurd H (by simp)
           rw [if_neg c24] at H
           exact absurd H (by simp)
         rw [if_neg c23] at H
         exact absurd H (by simp)
       rw [if_neg c22] at H
       exact absurd H (by simp)
     rw [if_neg c20] at H
     exact absurd H (by simp)
   rw [if_neg c19] at H
   exact absurd H (by simp)
 rw [if_neg c18] at H
 exact absurd H (by simp)

/-- THE ONE PURE STATEMENT of chequerlaw06_HeadParses. -/
def chequerlaw06_HeadParses.Pure : Prop := ∀ (a0 : ByteArray) (a1_0 : Int) (a1_1 : Int) (a1_2 : Int) (a2_0 : Int) (a2_1 : Int) (a2_2 : Int) (a2_3 : Int) (a3 : Int) (a4 : Int), a0.size ≤ 140737488351232 → (Lit.int .i64 a1_0).wf = true → (Lit.int .i64 a1_1).wf = true → (Lit.int .i64 a1_2).wf = true → (Lit.int .i64 a2_0).wf = true → (Lit.int .i64 a2_1).wf = true → (Lit.int .i64 a2_2).wf = true → (Lit.int .i64 a2_3).wf = true → (Lit.int .i64 a3).wf = true → (Lit.int .u8 a4).wf = true → ∃ k, chequerlaw06_HeadParses.f k a0 a1_0 a1_1 a1_2 a2_0 a2_1 a2_2 a2_3 a3 a4 = some true
theorem chequerlaw06_HeadParses.walk (P : chequerlaw06_HeadParses.Pure) (a0 : ByteArray) (a1_0 : Int) (a1_1 : Int) (a1_2 : Int) (a2_0 : Int) (a2_1 : Int) (a2_2 : Int) (a2_3 : Int) (a3 : Int) (a4 : Int) (w : World) (w0 : a0.size ≤ 140737488351232) (w1_0 : (Lit.int .i64 a1_0).wf = true) (w1_1 : (Lit.int .i64 a1_1).wf = true) (w1_2 : (Lit.int .i64 a1_2).wf = true) (w2_0 : (Lit.int .i64 a2_0).wf = true) (w2_1 : (Lit.int .i64 a2_1).wf = true) (w2_2 : (Lit.int .i64 a2_2).wf = true) (w2_3 : (Lit.int .i64 a2_3).wf = true) (w3 : (Lit.int .i64 a3).wf = true) (w4 : (Lit.int .u8 a4).wf = true) :
 Calls Try.prog 3 #[.string a0, .agg #[.int .i64 a1_0, .int .i64 a1_1, .int .i64 a1_2], .agg #[.int .i64 a2_0, .int .i64 a2_1, .int .i64 a2_2, .int .i64 a2_3], .int .i64 a3, .int .u8 a4] w fun e w' => e = .returned (.bool true) ∧ Below w.heap.size w w' := by
 obtain ⟨k, h⟩ := P a0 a1_0 a1_1 a1_2 a2_0 a2_1 a2_2 a2_3 a3 a4 w0 w1_0 w1_1 w1_2 w2_0 w2_1 w2_2 w2_3 w3 w4
 refine (chequerlaw06_HeadParses.calls k a0 a1_0 a1_1 a1_2 a2_0 a2_1 a2_2 a2_3 a3 a4 true w h).mono ?_
 rintro e w' ⟨rfl, hd⟩
 exact ⟨rfl, hd⟩

end Go.Proofs.Ytmimfljiighbaaa.Q
