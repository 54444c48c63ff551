-- written by our own program (wip/tools/myprint.py) out of the translation, by the kit's print; Lean checks it
import Derived.Test.YtmimfljiighbaaaQ0
import Derived.Test.YtmimfljiighbaaaQ4
import Derived.Test.YtmimfljiighbaaaQ19
import Derived.Test.YtmimfljiighbaaaQ20
namespace Go.Proofs.Ytmimfljiighbaaa.Q
open Go.RowKit Go.Proofs.YtmimfljiighbaaaW.PrintWords Go.Proofs.YtmimfljiighbaaaW.PrintLast Go.Proofs.YtmimfljiighbaaaW.PrintMore
attribute [local go_sem] max2_int min2_int max_two min_two max_three min_three max_four min_four   -- for this text's walks alone
set_option linter.unusedVariables false
set_option linter.unusedSimpArgs false

abbrev Fl43 : Array Bool := #[true, true, true, true, true, true, true, true, true, false, false]
/-! ### chequerref06_Parse: function 16 -/
mutual
def chequerref06_Parse.j0 : Nat → ByteArray → Bool → Int → Int → Int → Option (Int × Int × Int × Int × Int × Int)
 | 0, _, _, _, _, _ => none
 | k + 1, x0, x23, x239000, x239001, x239002 => if x23 = true then (some (0, 0, 0, 0, 1, 2)) else (if (x0.size : Int) > 1 then (if 1 < (x0.size : Int) then (if (bt x0 1) < 49 then (chequerref06_Parse.j1 k x0 true x239000 x239001 x239002) else (chequerref06_Parse.j1 k x0 (decide ((bt x0 1) > 54)) x239000 x239001 x239002)) else (none)) else (chequerref06_Parse.j1 k x0 false x239000 x239001 x239002))
def chequerref06_Parse.j1 : Nat → ByteArray → Bool → Int → Int → Int → Option (Int × Int × Int × Int × Int × Int)
 | 0, _, _, _, _, _ => none
 | k + 1, x0, x37, x239000, x239001, x239002 => if x37 = true then (some (0, 0, 0, 0, 2, 2)) else (if (x0.size : Int) > 2 then (if 2 < (x0.size : Int) then (if (bt x0 2) = 35 then (chequerref06_Parse.j2 k x0 false x239000 x239001 x239002) else ((chequerref05_Blank.f (bt x0 2)).bind fun t240 => (chequerref06_Parse.j2 k x0 (!t240) x239000 x239001 x239002))) else (none)) else (chequerref06_Parse.j2 k x0 false x239000 x239001 x239002))
def chequerref06_Parse.j2 : Nat → ByteArray → Bool → Int → Int → Int → Option (Int × Int × Int × Int × Int × Int)
 | 0, _, _, _, _, _ => none
 | k + 1, x0, x52, x239000, x239001, x239002 => if x52 = true then (some (0, 0, 0, 0, 3, 3)) else (if (x0.size : Int) < 3 then (some (0, 0, 0, 0, (x0.size : Int), 6)) else (if 1 < (x0.size : Int) then ((chequerref06_bits.f (wrap64 ((wrap64 (bt x0 1)) - 48))).bind fun t242 => (if t242 = true then (chequerref06_Parse.j3 k x0 2 x239000 x239001 x239002 (wrap64 ((wrap64 (bt x0 1)) - 48)) 0 0 1) else (chequerref06_Parse.j3 k x0 3 x239000 x239001 x239002 (wrap64 ((wrap64 (bt x0 1)) - 48)) 0 0 0))) else (none)))
def chequerref06_Parse.j3 : Nat → ByteArray → Int → Int → Int → Int → Int → Int → Int → Int → Option (Int × Int × Int × Int × Int × Int)
 | 0, _, _, _, _, _, _, _, _, _ => none
 | k + 1, x0, x8, x239000, x239001, x239002, x242000, x242001, x242002, x242003 => (chequerref06_limits.f x239000 x239001 x239002).bind fun t243 => (chequerref06_Parse.l0 k x0 x8 t243 2 0 x242000 x242001 x242002 x242003)
def chequerref06_Parse.l0 : Nat → ByteArray → Int → List Int → Int → Int → Int → Int → Int → Int → Option (Int × Int × Int × Int × Int × Int)
 | 0, _, _, _, _, _, _, _, _, _ => none
 | k + 1, x0, x8, x9, x10, x11, x242000, x242001, x242002, x242003 => if x11 < x8 then (if 0 ≤ x11 then (if x11 < (x9.length : Int) then ((chequerref05_New.f (rd x9 x11)).bind fun bt247 => (chequerref06_Parse.l1 k x0 x8 x9 x10 x11 0 x242000 x242001 x242002 x242003 bt247.1 bt247.2.1 bt247.2.2.1 bt247.2.2.2)) else (none)) else (none)) else (some (x242000, x242001, x242002, x242003, x10, 0))
def chequerref06_Parse.j6 : Nat → ByteArray → Int → List Int → Int → Int → Int → Int → Int → Int → Int → Int → Int → Int → Int → Option (Int × Int × Int × Int × Int × Int)
 | 0, _, _, _, _, _, _, _, _, _, _, _, _, _, _ => none
 | k + 1, x0, x8, x9, x10, x11, x13, x242000, x242001, x242002, x242003, x252000, x252001, x252002, x252003 => if x13 = 0 then (some (0, 0, 0, 0, x10, 6)) else (if x13 = 2 then (some (0, 0, 0, 0, x10, x252003)) else (if x252001 = 0 then (some (0, 0, 0, 0, x10, 4)) else (if x11 = 0 then (chequerref06_Parse.l0 k x0 x8 x9 x10 (wrap64 (x11 + 1)) x242000 x252001 x242002 x242003) else (if x11 = 1 then (chequerref06_Parse.l0 k x0 x8 x9 x10 (wrap64 (x11 + 1)) x242000 x242001 x252001 x242003) else (chequerref06_Parse.l0 k x0 x8 x9 x10 (wrap64 (x11 + 1)) x242000 x242001 x242002 x252001)))))
def chequerref06_Parse.l1 : Nat → ByteArray → Int → List Int → Int → Int → Int → Int → Int → Int → Int → Int → Int → Int → Int → Option (Int × Int × Int × Int × Int × Int)
 | 0, _, _, _, _, _, _, _, _, _, _, _, _, _, _ => none
 | k + 1, x0, x8, x9, x10, x11, x13, x242000, x242001, x242002, x242003, x252000, x252001, x252002, x252003 => if x13 = 0 then (if x10 < (x0.size : Int) then (if 0 ≤ x10 then ((chequerref05_Put.f k x252000 x252001 x252002 x252003 (bt x0 x10)).bind fun bt252 => (chequerref06_Parse.l1 k x0 x8 x9 (wrap64 (x10 + 1)) x11 bt252.2.2.2.2 x242000 x242001 x242002 x242003 bt252.1 bt252.2.1 bt252.2.2.1 bt252.2.2.2.1)) else (none)) else (chequerref06_Parse.j6 k x0 x8 x9 x10 x11 x13 x242000 x242001 x242002 x242003 x252000 x252001 x252002 x252003)) else (chequerref06_Parse.j6 k x0 x8 x9 x10 x11 x13 x242000 x242001 x242002 x242003 x252000 x252001 x252002 x252003)
end
def chequerref06_Parse.f (k : Nat) (a0 : ByteArray) (a1_0 : Int) (a1_1 : Int) (a1_2 : Int) : Option (Int × Int × Int × Int × Int × Int) := if (a0.size : Int) > 0 then (if 0 < (a0.size : Int) then (chequerref06_Parse.j0 k a0 ((bt a0 0) != 80) a1_0 a1_1 a1_2) else (none)) else (chequerref06_Parse.j0 k a0 false a1_0 a1_1 a1_2)
theorem chequerref06_Parse.mono_l : ∀ k, (∀ y0 y1 y2 y3 y4, LeO (chequerref06_Parse.j0 k y0 y1 y2 y3 y4) (chequerref06_Parse.j0 (k + 1) y0 y1 y2 y3 y4)) ∧ (∀ y0 y1 y2 y3 y4, LeO (chequerref06_Parse.j1 k y0 y1 y2 y3 y4) (chequerref06_Parse.j1 (k + 1) y0 y1 y2 y3 y4)) ∧ (∀ y0 y1 y2 y3 y4, LeO (chequerref06_Parse.j2 k y0 y1 y2 y3 y4) (chequerref06_Parse.j2 (k + 1) y0 y1 y2 y3 y4)) ∧ (∀ y0 y1 y2 y3 y4 y5 y6 y7 y8, LeO (chequerref06_Parse.j3 k y0 y1 y2 y3 y4 y5 y6 y7 y8) (chequerref06_Parse.j3 (k + 1) y0 y1 y2 y3 y4 y5 y6 y7 y8)) ∧ (∀ y0 y1 y2 y3 y4 y5 y6 y7 y8, LeO (chequerref06_Parse.l0 k y0 y1 y2 y3 y4 y5 y6 y7 y8) (chequerref06_Parse.l0 (k + 1) y0 y1 y2 y3 y4 y5 y6 y7 y8)) ∧ (∀ y0 y1 y2 y3 y4 y5 y6 y7 y8 y9 y10 y11 y12 y13, LeO (chequerref06_Parse.j6 k y0 y1 y2 y3 y4 y5 y6 y7 y8 y9 y10 y11 y12 y13) (chequerref06_Parse.j6 (k + 1) y0 y1 y2 y3 y4 y5 y6 y7 y8 y9 y10 y11 y12 y13)) ∧ (∀ y0 y1 y2 y3 y4 y5 y6 y7 y8 y9 y10 y11 y12 y13, LeO (chequerref06_Parse.l1 k y0 y1 y2 y3 y4 y5 y6 y7 y8 y9 y10 y11 y12 y13) (chequerref06_Parse.l1 (k + 1) y0 y1 y2 y3 y4 y5 y6 y7 y8 y9 y10 y11 y12 y13))
 | 0 => ⟨fun _ _ _ _ _ r h => by simp [chequerref06_Parse.j0] at h, fun _ _ _ _ _ r h => by simp [chequerref06_Parse.j1] at h, fun _ _ _ _ _ r h => by simp [chequerref06_Parse.j2] at h, fun _ _ _ _ _ _ _ _ _ r h => by simp [chequerref06_Parse.j3] at h, fun _ _ _ _ _ _ _ _ _ r h => by simp [chequerref06_Parse.l0] at h, fun _ _ _ _ _ _ _ _ _ _ _ _ _ _ r h => by simp [chequerref06_Parse.j6] at h, fun _ _ _ _ _ _ _ _ _ _ _ _ _ _ r h => by simp [chequerref06_Parse.l1] at h⟩
 | k + 1 => by
  obtain ⟨ih0, ih1, ih2, ih3, ih4, ih5, ih6⟩ := chequerref06_Parse.mono_l k
  refine ⟨?_, ?_, ?_, ?_, ?_, ?_, ?_⟩
  · intro y0 y1 y2 y3 y4
    unfold chequerref06_Parse.j0
    repeat' first
    | (with_reducible exact ih0 _ _ _ _ _)
    | (with_reducible exact ih1 _ _ _ _ _)
    | (with_reducible exact ih2 _ _ _ _ _)
    | (with_reducible exact ih3 _ _ _ _ _ _ _ _ _)
    | (with_reducible exact ih4 _ _ _ _ _ _ _ _ _)
    | (with_reducible exact ih5 _ _ _ _ _ _ _ _ _ _ _ _ _ _)
    | (with_reducible exact ih6 _ _ _ _ _ _ _ _ _ _ _ _ _ _)
    | (with_reducible exact chequerref05_Put.mono _ _ _ _ _ _)
    | (with_reducible exact LeO.refl _)
    | (with_reducible exact LeO.none _)
    | (with_reducible refine LeO.ite ?_ ?_)
    | (with_reducible refine LeO.bind ?_ (fun _ => ?_))
    | exact ih0 _ _ _ _ _
    | exact ih1 _ _ _ _ _
    | exact ih2 _ _ _ _ _
    | exact ih3 _ _ _ _ _ _ _ _ _
    | exact ih4 _ _ _ _ _ _ _ _ _
    | exact ih5 _ _ _ _ _ _ _ _ _ _ _ _ _ _
    | exact ih6 _ _ _ _ _ _ _ _ _ _ _ _ _ _
    | exact chequerref05_Put.mono _ _ _ _ _ _
    | exact LeO.none _
    | refine LeO.ite ?_ ?_
    | refine LeO.bind ?_ (fun _ => ?_)
  · intro y0 y1 y2 y3 y4
    unfold chequerref06_Parse.j1
    repeat' first
    | (with_reducible exact ih0 _ _ _ _ _)
    | (with_reducible exact ih1 _ _ _ _ _)
    | (with_reducible exact ih2 _ _ _ _ _)
    | (with_reducible exact ih3 _ _ _ _ _ _ _ _ _)
    | (with_reducible exact ih4 _ _ _ _ _ _ _ _ _)
    | (with_reducible exact ih5 _ _ _ _ _ _ _ _ _ _ _ _ _ _)
    | (with_reducible exact ih6 _ _ _ _ _ _ _ _ _ _ _ _ _ _)
    | (with_reducible exact chequerref05_Put.mono _ _ _ _ _ _)
    | (with_reducible exact LeO.refl _)
    | (with_reducible exact LeO.none _)
    | (with_reducible refine LeO.ite ?_ ?_)
    | (with_reducible refine LeO.bind ?_ (fun _ => ?_))
    | exact ih0 _ _ _ _ _
    | exact ih1 _ _ _ _ _
    | exact ih2 _ _ _ _ _
    | exact ih3 _ _ _ _ _ _ _ _ _
    | exact ih4 _ _ _ _ _ _ _ _ _
    | exact ih5 _ _ _ _ _ _ _ _ _ _ _ _ _ _
    | exact ih6 _ _ _ _ _ _ _ _ _ _ _ _ _ _
    | exact chequerref05_Put.mono _ _ _ _ _ _
    | exact LeO.none _
    | refine LeO.ite ?_ ?_
    | refine LeO.bind ?_ (fun _ => ?_)
  · intro y0 y1 y2 y3 y4
    unfold chequerref06_Parse.j2
    repeat' first
    | (with_reducible exact ih0 _ _ _ _ _)
    | (with_reducible exact ih1 _ _ _ _ _)
    | (with_reducible exact ih2 _ _ _ _ _)
    | (with_reducible exact ih3 _ _ _ _ _ _ _ _ _)
    | (with_reducible exact ih4 _ _ _ _ _ _ _ _ _)
    | (with_reducible exact ih5 _ _ _ _ _ _ _ _ _ _ _ _ _ _)
    | (with_reducible exact ih6 _ _ _ _ _ _ _ _ _ _ _ _ _ _)
    | (with_reducible exact chequerref05_Put.mono _ _ _ _ _ _)
    | (with_reducible exact LeO.refl _)
    | (with_reducible exact LeO.none _)
    | (with_reducible refine LeO.ite ?_ ?_)
    | (with_reducible refine LeO.bind ?_ (fun _ => ?_))
    | exact ih0 _ _ _ _ _
    | exact ih1 _ _ _ _ _
    | exact ih2 _ _ _ _ _
    | exact ih3 _ _ _ _ _ _ _ _ _
    | exact ih4 _ _ _ _ _ _ _ _ _
    | exact ih5 _ _ _ _ _ _ _ _ _ _ _ _ _ _
    | exact ih6 _ _ _ _ _ _ _ _ _ _ _ _ _ _
    | exact chequerref05_Put.mono _ _ _ _ _ _
    | exact LeO.none _
    | refine LeO.ite ?_ ?_
    | refine LeO.bind ?_ (fun _ => ?_)
  · intro y0 y1 y2 y3 y4 y5 y6 y7 y8
    unfold chequerref06_Parse.j3
    repeat' first
    | (with_reducible exact ih0 _ _ _ _ _)
    | (with_reducible exact ih1 _ _ _ _ _)
    | (with_reducible exact ih2 _ _ _ _ _)
    | (with_reducible exact ih3 _ _ _ _ _ _ _ _ _)
    | (with_reducible exact ih4 _ _ _ _ _ _ _ _ _)
    | (with_reducible exact ih5 _ _ _ _ _ _ _ _ _ _ _ _ _ _)
    | (with_reducible exact ih6 _ _ _ _ _ _ _ _ _ _ _ _ _ _)
    | (with_reducible exact chequerref05_Put.mono _ _ _ _ _ _)
    | (with_reducible exact LeO.refl _)
    | (with_reducible exact LeO.none _)
    | (with_reducible refine LeO.ite ?_ ?_)
    | (with_reducible refine LeO.bind ?_ (fun _ => ?_))
    | exact ih0 _ _ _ _ _
    | exact ih1 _ _ _ _ _
    | exact ih2 _ _ _ _ _
    | exact ih3 _ _ _ _ _ _ _ _ _
    | exact ih4 _ _ _ _ _ _ _ _ _
    | exact ih5 _ _ _ _ _ _ _ _ _ _ _ _ _ _
    | exact ih6 _ _ _ _ _ _ _ _ _ _ _ _ _ _
    | exact chequerref05_Put.mono _ _ _ _ _ _
    | exact LeO.none _
    | refine LeO.ite ?_ ?_
    | refine LeO.bind ?_ (fun _ => ?_)
  · intro y0 y1 y2 y3 y4 y5 y6 y7 y8
    unfold chequerref06_Parse.l0
    repeat' first
    | (with_reducible exact ih0 _ _ _ _ _)
    | (with_reducible exact ih1 _ _ _ _ _)
    | (with_reducible exact ih2 _ _ _ _ _)
    | (with_reducible exact ih3 _ _ _ _ _ _ _ _ _)
    | (with_reducible exact ih4 _ _ _ _ _ _ _ _ _)
    | (with_reducible exact ih5 _ _ _ _ _ _ _ _ _ _ _ _ _ _)
    | (with_reducible exact ih6 _ _ _ _ _ _ _ _ _ _ _ _ _ _)
    | (with_reducible exact chequerref05_Put.mono _ _ _ _ _ _)
    | (with_reducible exact LeO.refl _)
    | (with_reducible exact LeO.none _)
    | (with_reducible refine LeO.ite ?_ ?_)
    | (with_reducible refine LeO.bind ?_ (fun _ => ?_))
    | exact ih0 _ _ _ _ _
    | exact ih1 _ _ _ _ _
    | exact ih2 _ _ _ _ _
    | exact ih3 _ _ _ _ _ _ _ _ _
    | exact ih4 _ _ _ _ _ _ _ _ _
    | exact ih5 _ _ _ _ _ _ _ _ _ _ _ _ _ _
    | exact ih6 _ _ _ _ _ _ _ _ _ _ _ _ _ _
    | exact chequerref05_Put.mono _ _ _ _ _ _
    | exact LeO.none _
    | refine LeO.ite ?_ ?_
    | refine LeO.bind ?_ (fun _ => ?_)
  · intro y0 y1 y2 y3 y4 y5 y6 y7 y8 y9 y10 y11 y12 y13
    unfold chequerref06_Parse.j6
    repeat' first
    | (with_reducible exact ih0 _ _ _ _ _)
    | (with_reducible exact ih1 _ _ _ _ _)
    | (with_reducible exact ih2 _ _ _ _ _)
    | (with_reducible exact ih3 _ _ _ _ _ _ _ _ _)
    | (with_reducible exact ih4 _ _ _ _ _ _ _ _ _)
    | (with_reducible exact ih5 _ _ _ _ _ _ _ _ _ _ _ _ _ _)
    | (with_reducible exact ih6 _ _ _ _ _ _ _ _ _ _ _ _ _ _)
    | (with_reducible exact chequerref05_Put.mono _ _ _ _ _ _)
    | (with_reducible exact LeO.refl _)
    | (with_reducible exact LeO.none _)
    | (with_reducible refine LeO.ite ?_ ?_)
    | (with_reducible refine LeO.bind ?_ (fun _ => ?_))
    | exact ih0 _ _ _ _ _
    | exact ih1 _ _ _ _ _
    | exact ih2 _ _ _ _ _
    | exact ih3 _ _ _ _ _ _ _ _ _
    | exact ih4 _ _ _ _ _ _ _ _ _
    | exact ih5 _ _ _ _ _ _ _ _ _ _ _ _ _ _
    | exact ih6 _ _ _ _ _ _ _ _ _ _ _ _ _ _
    | exact chequerref05_Put.mono _ _ _ _ _ _
    | exact LeO.none _
    | refine LeO.ite ?_ ?_
    | refine LeO.bind ?_ (fun _ => ?_)
  intro y0 y1 y2 y3 y4 y5 y6 y7 y8 y9 y10 y11 y12 y13
  unfold chequerref06_Parse.l1
  repeat' first
  | (with_reducible exact ih0 _ _ _ _ _)
  | (with_reducible exact ih1 _ _ _ _ _)
  | (with_reducible exact ih2 _ _ _ _ _)
  | (with_reducible exact ih3 _ _ _ _ _ _ _ _ _)
  | (with_reducible exact ih4 _ _ _ _ _ _ _ _ _)
  | (with_reducible exact ih5 _ _ _ _ _ _ _ _ _ _ _ _ _ _)
  | (with_reducible exact ih6 _ _ _ _ _ _ _ _ _ _ _ _ _ _)
  | (with_reducible exact chequerref05_Put.mono _ _ _ _ _ _)
  | (with_reducible exact LeO.refl _)
  | (with_reducible exact LeO.none _)
  | (with_reducible refine LeO.ite ?_ ?_)
  | (with_reducible refine LeO.bind ?_ (fun _ => ?_))
  | exact ih0 _ _ _ _ _
  | exact ih1 _ _ _ _ _
  | exact ih2 _ _ _ _ _
  | exact ih3 _ _ _ _ _ _ _ _ _
  | exact ih4 _ _ _ _ _ _ _ _ _
  | exact ih5 _ _ _ _ _ _ _ _ _ _ _ _ _ _
  | exact ih6 _ _ _ _ _ _ _ _ _ _ _ _ _ _
  | exact chequerref05_Put.mono _ _ _ _ _ _
  | exact LeO.none _
  | refine LeO.ite ?_ ?_
  | refine LeO.bind ?_ (fun _ => ?_)
theorem chequerref06_Parse.mono : ∀ a0 a1 a2 a3 k, LeO (chequerref06_Parse.f k a0 a1 a2 a3) (chequerref06_Parse.f (k + 1) a0 a1 a2 a3) := by
 intro a0 a1 a2 a3 k
 obtain ⟨ih0, ih1, ih2, ih3, ih4, ih5, ih6⟩ := chequerref06_Parse.mono_l k
 unfold chequerref06_Parse.f
 repeat' first
  | (with_reducible exact ih0 _ _ _ _ _)
  | (with_reducible exact ih1 _ _ _ _ _)
  | (with_reducible exact ih2 _ _ _ _ _)
  | (with_reducible exact ih3 _ _ _ _ _ _ _ _ _)
  | (with_reducible exact ih4 _ _ _ _ _ _ _ _ _)
  | (with_reducible exact ih5 _ _ _ _ _ _ _ _ _ _ _ _ _ _)
  | (with_reducible exact ih6 _ _ _ _ _ _ _ _ _ _ _ _ _ _)
  | (with_reducible exact chequerref05_Put.mono _ _ _ _ _ _)
  | (with_reducible exact LeO.refl _)
  | (with_reducible exact LeO.none _)
  | (with_reducible refine LeO.ite ?_ ?_)
  | (with_reducible refine LeO.bind ?_ (fun _ => ?_))
  | exact ih0 _ _ _ _ _
  | exact ih1 _ _ _ _ _
  | exact ih2 _ _ _ _ _
  | exact ih3 _ _ _ _ _ _ _ _ _
  | exact ih4 _ _ _ _ _ _ _ _ _
  | exact ih5 _ _ _ _ _ _ _ _ _ _ _ _ _ _
  | exact ih6 _ _ _ _ _ _ _ _ _ _ _ _ _ _
  | exact chequerref05_Put.mono _ _ _ _ _ _
  | exact LeO.none _
  | refine LeO.ite ?_ ?_
  | refine LeO.bind ?_ (fun _ => ?_)
def chequerref06_Parse.T22 : Bool × List (List Nat × List Nat) := (true, [([], []), ([], []), ([], []), ([1, 2], [1, 2]), ([0, 3], [0, 3]), ([4], [4]), ([5], [5]), ([5], [5]), ([], []), ([8, 6, 4, 0, 1, 2, 3, 4, 5, 6, 8], [6, 8]), ([7, 9, 0, 1, 2, 3, 4, 5, 6, 7, 8, 9], [7])])
def chequerref06_Parse.B22 : List Nat := [0, 0, 0, 6, 15, 31, 63, 63, 0, 383, 1023]
theorem chequerref06_Parse.tab22 : rtab .any (opsOf Try.f16 22) = chequerref06_Parse.T22 := by kernel_rfl
theorem chequerref06_Parse.bits22 : waitsOk chequerref06_Parse.T22.2 chequerref06_Parse.B22 = true := by kernel_rfl
set_option maxHeartbeats 8000000 in
set_option maxRecDepth 100000 in
theorem chequerref06_Parse.calls (k : Nat) (a0 : ByteArray) (a1_0 : Int) (a1_1 : Int) (a1_2 : Int) (r1 : Int) (r2 : Int) (r3 : Int) (r4 : Int) (r5 : Int) (r6 : Int) (w : World) (h : chequerref06_Parse.f k a0 a1_0 a1_1 a1_2 = some (r1, r2, r3, r4, r5, r6)) :
 Calls Try.prog 16 #[.string a0, .agg #[.int .i64 a1_0, .int .i64 a1_1, .int .i64 a1_2]] w fun e w' => e = .returned (.tuple #[.agg #[.int .i64 r1, .int .i64 r2, .int .i64 r3, .int .i64 r4], .int .i64 r5, .int .i64 r6]) ∧ Below w.heap.size w w' := by
 have hu23 := Try.underlying23
 have hu25 := Try.underlying25
 have hu70 := Try.underlying70
 have HB := Aside0.mk (Below.refl w.heap.size w)
 have H : (if (a0.size : Int) > 0 then (if 0 < (a0.size : Int) then (chequerref06_Parse.j0 k a0 ((bt a0 0) != 80) a1_0 a1_1 a1_2) else (none)) else (chequerref06_Parse.j0 k a0 false a1_0 a1_1 a1_2)) = some (r1, r2, r3, r4, r5, r6) := h
 clear h
 have HC3 := Aside0.mk H
 clear H
 go_enter Try.func16, Try.ntmps16
 go_upto_region 1 with (first | ((with_reducible refine gate_dst (N := 3) rfl ?_); (try (refine gate_guard (by rfl) ?_; dsimp only)); refine box_event ?hg (N := 3) ?hd (cs := #[.int .i64 a1_0, .int .i64 a1_1, .int .i64 a1_2]) (t := 23) ?hr ?_; (case hd => rfl); (case hg => rfl); (case hr => first | (go_simp; done) | (go_simp; rfl)); intro gb238 hg w4 hbox hb; have BK238 := Aside0.mk (hbox); have GW238 := Aside0.mk ((by rw [hg]; exact (below_size bp_) : w.heap.size ≤ gb238)); have GE238 := Aside0.mk ((by rw [hg]; exact (below_size bp_) : w.heap.size ≤ gb238)); replace HB := Aside0.mk (below_step bp_ hb); clear hb hbox hg) | ((with_reducible refine gate_dst (N := 4) rfl ?_); (try (refine gate_guard (by rfl) ?_; dsimp only)); refine box_event ?hg (N := 4) ?hd (cs := #[.int .i64 0, .int .i64 0, .int .i64 0, .int .i64 0]) (t := 25) ?hr ?_; (case hd => rfl); (case hg => rfl); (case hr => first | (go_simp; done) | (go_simp; rfl)); intro gb239 hg w5 hbox hb; have BK239 := Aside0.mk (hbox); have GW239 := Aside0.mk ((by rw [hg]; exact (below_size bp_) : w.heap.size ≤ gb239)); have GE239 := Aside0.mk ((by rw [hg]; exact (below_size bp_) : w.heap.size ≤ gb239)); replace HB := Aside0.mk (below_step bp_ hb); have NB238_239 := Aside0.mk ((nlt_ hg (hp_ BK238.out))); have NB239_238 := Aside0.mk ((ngt_ hg (hp_ BK238.out))); replace BK238 := Aside0.mk (blk_below (hp_ BK238.out) hb); clear hb hbox hg))
 (try simp only [Act.put, List.setIfInBounds_toArray, List.set_cons_zero, List.set_cons_succ])
 go_cut [23] (fun v23 wc => ∃ (kq : Nat) (x23_2 : Bool), v23 = .bool x23_2 ∧ Aside0 (chequerref06_Parse.j0 kq a0 x23_2 a1_0 a1_1 a1_2 = some (r1, r2, r3, r4, r5, r6)) ∧ Aside0 (kq ≤ k) ∧ Aside0 (wc.heap[gb238]? = some (.cells #[.int .i64 a1_0, .int .i64 a1_1, .int .i64 a1_2] 23 (0, 0))) ∧ Aside0 (wc.heap[gb239]? = some (.cells #[.int .i64 0, .int .i64 0, .int .i64 0, .int .i64 0] 25 (0, 0))) ∧ Aside0 (Below w.heap.size w wc))
 case first =>
  have H := HC3.out
  clear HC3
  by_cases c6 : (a0.size : Int) > 0
  · rw [if_pos c6] at H
    have c6b0 : decide (0 < (a0.size : Int)) = true := decide_eq_true c6
    have c6b1 : decide (0 < a0.size) = true := decide_eq_true (by omega)
    clear c6
    (first | rw [c6b0] | (simp only [i64_w, i32_w]; rw [c6b0]) | skip)
    by_cases c7 : 0 < (a0.size : Int)
    · rw [if_pos c7] at H
      have c7b0 : decide (0 < (a0.size : Int)) = true := decide_eq_true c7
      have c7b1 : decide (0 < a0.size) = true := decide_eq_true (by omega)
      clear c7
      have H' := Aside0.mk H
      clear H
      have p8 : 0 ≤ (0 : Int) := (by omega)
      have q8 : 0 < a0.size := (by have : (0 : Int) < (a0.size : Int) := of_decide_eq_true (by first | (with_reducible assumption) | assumption); omega)
      have hx8 : ∀ h : 0 < a0.size, ((a0[0]'h).toNat : Int) = bt a0 0 := bt_at a0 0
      clear p8
      have qi8 : (0 < (a0.size : Int)) = True := eq_true (of_decide_eq_true (by first | (with_reducible assumption) | assumption))
      replace q8 := eq_true q8
      go_wp2
      go_meet
      case rel => exact ⟨_, (((bt a0 0) != 80)), (by first | rfl | (simp; done) | (simp [*]; done)), H', ⟨by first | omega | exact Nat.le_refl _⟩, ⟨hp_ BK238.out⟩, ⟨hp_ BK239.out⟩, ⟨bp_⟩⟩
    rw [if_neg c7] at H
    exact absurd H (by simp)
  rw [if_neg c6] at H
  have c6b0 : decide (0 < (a0.size : Int)) = false := decide_eq_false c6
  have c6b1 : decide (0 < a0.size) = false := decide_eq_false (by omega)
  clear c6
  (first | rw [c6b0] | (simp only [i64_w, i32_w]; rw [c6b0]) | skip)
  have H' := Aside0.mk H
  clear H
  go_wp2
  go_meet
  case rel => exact ⟨_, (false), (by first | rfl | (simp; done) | (simp [*]; done)), H', ⟨by first | omega | exact Nat.le_refl _⟩, ⟨hp_ BK238.out⟩, ⟨hp_ BK239.out⟩, ⟨bp_⟩⟩
 case rest =>
  clear HC3
  try clear c1
  try clear p2
  try clear c6
  try clear c6b0
  try clear c6b1
  try clear c7
  try clear c7b0
  try clear c7b1
  try clear p8
  try clear q8
  try clear hx8
  try clear qi8
  try clear p8
  try clear q8
  obtain ⟨kq, x23_2, rfl, HA, HJ2, BK238, BK239, HB⟩ := hcut
  cases kq with
  | zero => exact absurd HA.out (by simp [chequerref06_Parse.j0])
  | succ kj2 =>
   have H := HA.out; clear HA; simp only [chequerref06_Parse.j0] at H
   by_cases c9 : x23_2 = true
   · subst c9
     have H1 : (some (0, 0, 0, 0, 1, 2)) = some (r1, r2, r3, r4, r5, r6) := by rw [if_pos rfl] at H; exact H
     clear H; have H := H1; clear H1; simp only [Option.some.injEq, Prod.mk.injEq] at H; obtain ⟨rfl, rfl, rfl, rfl, rfl, rfl⟩ := H
     have hcz10_0 : wc.cell? ⟨gb239, 0, none⟩ = some (.int .i64 0) := (blk_cell BK239.out 0).trans rfl
     have hcz10_1 : wc.cell? ⟨gb239, 1, none⟩ = some (.int .i64 0) := (blk_cell BK239.out 1).trans rfl
     have hcz10_2 : wc.cell? ⟨gb239, 2, none⟩ = some (.int .i64 0) := (blk_cell BK239.out 2).trans rfl
     have hcz10_3 : wc.cell? ⟨gb239, 3, none⟩ = some (.int .i64 0) := (blk_cell BK239.out 3).trans rfl
     have hfz10_0 := blk_frozen BK239.out 0; have hfz10_1 := blk_frozen BK239.out 1; have hfz10_2 := blk_frozen BK239.out 2; have hfz10_3 := blk_frozen BK239.out 3
     go_wp2
     refine bodyPost_ret (results_ctt rfl _ _ gb239 25 #[.int .i64 0, .int .i64 0, .int .i64 0, .int .i64 0] (0, 0) _ rfl (by (with_reducible repeat (first | refine blk_drewN ?_ _ | refine blk_drew ?_ | refine blk_alloc ?_ _)); refine blk_put (cs := #[.int .i64 0, .int .i64 0, .int .i64 0, .int .i64 0]) ?_ 3 _ rfl; (with_reducible repeat (first | refine blk_drewN ?_ _ | refine blk_drew ?_ | refine blk_alloc ?_ _)); refine blk_put (cs := #[.int .i64 0, .int .i64 0, .int .i64 0, .int .i64 0]) ?_ 2 _ rfl; (with_reducible repeat (first | refine blk_drewN ?_ _ | refine blk_drew ?_ | refine blk_alloc ?_ _)); refine blk_put (cs := #[.int .i64 0, .int .i64 0, .int .i64 0, .int .i64 0]) ?_ 1 _ rfl; (with_reducible repeat (first | refine blk_drewN ?_ _ | refine blk_drew ?_ | refine blk_alloc ?_ _)); refine blk_put (cs := #[.int .i64 0, .int .i64 0, .int .i64 0, .int .i64 0]) ?_ 0 _ rfl; (with_reducible repeat (first | refine blk_drewN ?_ _ | refine blk_drew ?_ | refine blk_alloc ?_ _)); exact BK239.out) Try.underlying25 rfl (by kernel_rfl)) rfl ?_
     exact ⟨by first | rfl | (simp [errW_none, errW_some] <;> rfl) | (simp [*, errW_none, errW_some] <;> rfl), bp_⟩
   replace c9 := Bool.eq_false_iff.mpr c9; subst c9
   have H1 : (if (a0.size : Int) > 1 then (if 1 < (a0.size : Int) then (if (bt a0 1) < 49 then (chequerref06_Parse.j1 kj2 a0 true a1_0 a1_1 a1_2) else (chequerref06_Parse.j1 kj2 a0 (decide ((bt a0 1) > 54)) a1_0 a1_1 a1_2)) else (none)) else (chequerref06_Parse.j1 kj2 a0 false a1_0 a1_1 a1_2)) = some (r1, r2, r3, r4, r5, r6) := by rw [if_neg (show ¬ (false = true) by decide)] at H; exact H
   clear H; have H := H1; clear H1; have HC11 := Aside0.mk H; clear H
   go_upto_region 3 with (fail)
   go_cut [37] (fun v37 wc => ∃ (kq : Nat) (x37_10 : Bool), v37 = .bool x37_10 ∧ Aside0 (chequerref06_Parse.j1 kq a0 x37_10 a1_0 a1_1 a1_2 = some (r1, r2, r3, r4, r5, r6)) ∧ Aside0 (kq ≤ kj2) ∧ Aside0 (wc.heap[gb238]? = some (.cells #[.int .i64 a1_0, .int .i64 a1_1, .int .i64 a1_2] 23 (0, 0))) ∧ Aside0 (wc.heap[gb239]? = some (.cells #[.int .i64 0, .int .i64 0, .int .i64 0, .int .i64 0] 25 (0, 0))) ∧ Aside0 (Below w.heap.size w wc))
   case first =>
    have H := HC11.out; clear HC11
    by_cases c12 : (a0.size : Int) > 1
    · rw [if_pos c12] at H
      have c12b0 : decide (1 < (a0.size : Int)) = true := decide_eq_true c12
      have c12b1 : decide (1 < a0.size) = true := decide_eq_true (by omega)
      clear c12
      (first | rw [c12b0] | (simp only [i64_w, i32_w]; rw [c12b0]) | skip)
      by_cases c13 : 1 < (a0.size : Int)
      · rw [if_pos c13] at H
        have c13b0 : decide (1 < (a0.size : Int)) = true := decide_eq_true c13
        have c13b1 : decide (1 < a0.size) = true := decide_eq_true (by omega)
        clear c13
        by_cases c15 : (bt a0 1) < 49
        · rw [if_pos c15] at H
          have c15b0 : decide ((bt a0 1) < 49) = true := decide_eq_true c15
          clear c15
          have H' := Aside0.mk H
          clear H
          have p14 : 0 ≤ (1 : Int) := (by omega)
          have q14 : 1 < a0.size := (by have : (1 : Int) < (a0.size : Int) := of_decide_eq_true (by first | (with_reducible assumption) | assumption); omega)
          have hx14 : ∀ h : 1 < a0.size, ((a0[1]'h).toNat : Int) = bt a0 1 := bt_at a0 1
          clear p14
          have qi14 : (1 < (a0.size : Int)) = True := eq_true (of_decide_eq_true (by first | (with_reducible assumption) | assumption))
          replace q14 := eq_true q14
          go_wp2
          go_meet
          case rel => exact ⟨_, (true), (by first | rfl | (simp; done) | (simp [*]; done)), H', ⟨by have := HJ2.out; first | omega | exact Nat.le_refl _⟩, ⟨hp_ BK238.out⟩, ⟨hp_ BK239.out⟩, ⟨bp_⟩⟩
        rw [if_neg c15] at H
        have c15b0 : decide ((bt a0 1) < 49) = false := decide_eq_false c15
        clear c15
        have H' := Aside0.mk H
        clear H
        have p14 : 0 ≤ (1 : Int) := (by omega)
        have q14 : 1 < a0.size := (by have : (1 : Int) < (a0.size : Int) := of_decide_eq_true (by first | (with_reducible assumption) | assumption); omega)
        have hx14 : ∀ h : 1 < a0.size, ((a0[1]'h).toNat : Int) = bt a0 1 := bt_at a0 1
        clear p14
        have qi14 : (1 < (a0.size : Int)) = True := eq_true (of_decide_eq_true (by first | (with_reducible assumption) | assumption))
        replace q14 := eq_true q14
        have p16 : 0 ≤ (1 : Int) := (by omega)
        have q16 : 1 < a0.size := (by have : (1 : Int) < (a0.size : Int) := of_decide_eq_true (by first | (with_reducible assumption) | assumption); omega)
        have hx16 : ∀ h : 1 < a0.size, ((a0[1]'h).toNat : Int) = bt a0 1 := bt_at a0 1
        clear p16
        have qi16 : (1 < (a0.size : Int)) = True := eq_true (of_decide_eq_true (by first | (with_reducible assumption) | assumption))
        replace q16 := eq_true q16
        go_wp2
        go_meet
        case rel => exact ⟨_, (decide ((bt a0 1) > 54)), (by first | rfl | (simp; done) | (simp [*]; done)), H', ⟨by have := HJ2.out; first | omega | exact Nat.le_refl _⟩, ⟨hp_ BK238.out⟩, ⟨hp_ BK239.out⟩, ⟨bp_⟩⟩
      rw [if_neg c13] at H
      exact absurd H (by simp)
    rw [if_neg c12] at H
    have c12b0 : decide (1 < (a0.size : Int)) = false := decide_eq_false c12
    have c12b1 : decide (1 < a0.size) = false := decide_eq_false (by omega)
    clear c12
    (first | rw [c12b0] | (simp only [i64_w, i32_w]; rw [c12b0]) | skip)
    have H' := Aside0.mk H
    clear H
    go_wp2
    go_meet
    case rel => exact ⟨_, (false), (by first | rfl | (simp; done) | (simp [*]; done)), H', ⟨by have := HJ2.out; first | omega | exact Nat.le_refl _⟩, ⟨hp_ BK238.out⟩, ⟨hp_ BK239.out⟩, ⟨bp_⟩⟩
   case rest =>
    clear HC11
    try clear c1
    try clear p1
    try clear q1
    try clear hx1
    try clear qi1
    try clear p2
    try clear c6
    try clear c6b0
    try clear c6b1
    try clear c7
    try clear c7b0
    try clear c7b1
    try clear p8
    try clear q8
    try clear hx8
    try clear qi8
    try clear c9
    try clear c12
    try clear c12b0
    try clear c12b1
    try clear c13
    try clear c13b0
    try clear c13b1
    try clear p14
    try clear q14
    try clear hx14
    try clear qi14
    try clear c15
    try clear c15b0
    try clear c16
    try clear p16
    try clear q16
    try clear hx16
    try clear qi16
    try clear hcz10_0
    try clear hcz10_1
    try clear hcz10_2
    try clear hcz10_3
    try clear hfz10_0
    try clear hfz10_1
    try clear hfz10_2
    try clear hfz10_3
    try clear p14
    try clear p16
    try clear p2
    try clear p8
    try clear q14
    try clear q16
    try clear q8
    obtain ⟨kq, x37_10, rfl, HA, HJ10, BK238, BK239, HB⟩ := hcut
    cases kq with
    | zero => exact absurd HA.out (by simp [chequerref06_Parse.j1])
    | succ kj10 =>
     have H := HA.out; clear HA; simp only [chequerref06_Parse.j1] at H
     by_cases c17 : x37_10 = true
     · subst c17
       have H1 : (some (0, 0, 0, 0, 2, 2)) = some (r1, r2, r3, r4, r5, r6) := by rw [if_pos rfl] at H; exact H
       clear H; have H := H1; clear H1; simp only [Option.some.injEq, Prod.mk.injEq] at H; obtain ⟨rfl, rfl, rfl, rfl, rfl, rfl⟩ := H
       have hcz18_0 : wc.cell? ⟨gb239, 0, none⟩ = some (.int .i64 0) := (blk_cell BK239.out 0).trans rfl
       have hcz18_1 : wc.cell? ⟨gb239, 1, none⟩ = some (.int .i64 0) := (blk_cell BK239.out 1).trans rfl
       have hcz18_2 : wc.cell? ⟨gb239, 2, none⟩ = some (.int .i64 0) := (blk_cell BK239.out 2).trans rfl
       have hcz18_3 : wc.cell? ⟨gb239, 3, none⟩ = some (.int .i64 0) := (blk_cell BK239.out 3).trans rfl
       have hfz18_0 := blk_frozen BK239.out 0; have hfz18_1 := blk_frozen BK239.out 1; have hfz18_2 := blk_frozen BK239.out 2; have hfz18_3 := blk_frozen BK239.out 3
       go_wp2
       refine bodyPost_ret (results_ctt rfl _ _ gb239 25 #[.int .i64 0, .int .i64 0, .int .i64 0, .int .i64 0] (0, 0) _ rfl (by (with_reducible repeat (first | refine blk_drewN ?_ _ | refine blk_drew ?_ | refine blk_alloc ?_ _)); refine blk_put (cs := #[.int .i64 0, .int .i64 0, .int .i64 0, .int .i64 0]) ?_ 3 _ rfl; (with_reducible repeat (first | refine blk_drewN ?_ _ | refine blk_drew ?_ | refine blk_alloc ?_ _)); refine blk_put (cs := #[.int .i64 0, .int .i64 0, .int .i64 0, .int .i64 0]) ?_ 2 _ rfl; (with_reducible repeat (first | refine blk_drewN ?_ _ | refine blk_drew ?_ | refine blk_alloc ?_ _)); refine blk_put (cs := #[.int .i64 0, .int .i64 0, .int .i64 0, .int .i64 0]) ?_ 1 _ rfl; (with_reducible repeat (first | refine blk_drewN ?_ _ | refine blk_drew ?_ | refine blk_alloc ?_ _)); refine blk_put (cs := #[.int .i64 0, .int .i64 0, .int .i64 0, .int .i64 0]) ?_ 0 _ rfl; (with_reducible repeat (first | refine blk_drewN ?_ _ | refine blk_drew ?_ | refine blk_alloc ?_ _)); exact BK239.out) Try.underlying25 rfl (by kernel_rfl)) rfl ?_
       exact ⟨by first | rfl | (simp [errW_none, errW_some] <;> rfl) | (simp [*, errW_none, errW_some] <;> rfl), bp_⟩
     replace c17 := Bool.eq_false_iff.mpr c17; subst c17
     have H1 : (if (a0.size : Int) > 2 then (if 2 < (a0.size : Int) then (if (bt a0 2) = 35 then (chequerref06_Parse.j2 kj10 a0 false a1_0 a1_1 a1_2) else ((chequerref05_Blank.f (bt a0 2)).bind fun t240 => (chequerref06_Parse.j2 kj10 a0 (!t240) a1_0 a1_1 a1_2))) else (none)) else (chequerref06_Parse.j2 kj10 a0 false a1_0 a1_1 a1_2)) = some (r1, r2, r3, r4, r5, r6) := by rw [if_neg (show ¬ (false = true) by decide)] at H; exact H
     clear H; have H := H1; clear H1; have HC19 := Aside0.mk H; clear H
     go_upto_region 5 with (fail)
     go_cut [52] (fun v52 wc => ∃ (kq : Nat) (x52_18 : Bool), v52 = .bool x52_18 ∧ Aside0 (chequerref06_Parse.j2 kq a0 x52_18 a1_0 a1_1 a1_2 = some (r1, r2, r3, r4, r5, r6)) ∧ Aside0 (kq ≤ kj10) ∧ Aside0 (wc.heap[gb238]? = some (.cells #[.int .i64 a1_0, .int .i64 a1_1, .int .i64 a1_2] 23 (0, 0))) ∧ Aside0 (wc.heap[gb239]? = some (.cells #[.int .i64 0, .int .i64 0, .int .i64 0, .int .i64 0] 25 (0, 0))) ∧ Aside0 (Below w.heap.size w wc))
     case first =>
      have H := HC19.out; clear HC19
      by_cases c20 : (a0.size : Int) > 2
      · rw [if_pos c20] at H
        have c20b0 : decide (2 < (a0.size : Int)) = true := decide_eq_true c20
        have c20b1 : decide (2 < a0.size) = true := decide_eq_true (by omega)
        clear c20
        (first | rw [c20b0] | (simp only [i64_w, i32_w]; rw [c20b0]) | skip)
        by_cases c21 : 2 < (a0.size : Int)
        · rw [if_pos c21] at H
          have c21b0 : decide (2 < (a0.size : Int)) = true := decide_eq_true c21
          have c21b1 : decide (2 < a0.size) = true := decide_eq_true (by omega)
          clear c21
          by_cases c23 : (bt a0 2) = 35
          · rw [if_pos c23] at H
            have c23b0 : ((bt a0 2) == 35) = true := beq_iff_eq.mpr c23
            have c23b1 : ((bt a0 2) != 35) = false := bne_eq_false_iff_eq.mpr c23
            clear c23
            have H' := Aside0.mk H
            clear H
            have p22 : 0 ≤ (2 : Int) := (by omega)
            have q22 : 2 < a0.size := (by have : (2 : Int) < (a0.size : Int) := of_decide_eq_true (by first | (with_reducible assumption) | assumption); omega)
            have hx22 : ∀ h : 2 < a0.size, ((a0[2]'h).toNat : Int) = bt a0 2 := bt_at a0 2
            clear p22
            have qi22 : (2 < (a0.size : Int)) = True := eq_true (of_decide_eq_true (by first | (with_reducible assumption) | assumption))
            replace q22 := eq_true q22
            go_wp2
            go_meet
            case rel => exact ⟨_, (false), (by first | rfl | (simp; done) | (simp [*]; done)), H', ⟨by have := HJ2.out; have := HJ10.out; first | omega | exact Nat.le_refl _⟩, ⟨hp_ BK238.out⟩, ⟨hp_ BK239.out⟩, ⟨bp_⟩⟩
          rw [if_neg c23] at H
          have c23b0 : ((bt a0 2) == 35) = false := beq_eq_false_iff_ne.mpr c23
          have c23b1 : ((bt a0 2) != 35) = true := bne_iff_ne.mpr c23
          replace H := Option.bind_eq_some_iff.mp H; obtain ⟨t240, A250, H⟩ := H
          replace H : (chequerref06_Parse.j2 kj10 a0 (!t240) a1_0 a1_1 a1_2) = some (r1, r2, r3, r4, r5, r6) := H
          have A25 := Aside0.mk A250; clear A250
          have H' := Aside0.mk H
          clear H
          have p22 : 0 ≤ (2 : Int) := (by omega)
          have q22 : 2 < a0.size := (by have : (2 : Int) < (a0.size : Int) := of_decide_eq_true (by first | (with_reducible assumption) | assumption); omega)
          have hx22 : ∀ h : 2 < a0.size, ((a0[2]'h).toNat : Int) = bt a0 2 := bt_at a0 2
          clear p22
          have qi22 : (2 < (a0.size : Int)) = True := eq_true (of_decide_eq_true (by first | (with_reducible assumption) | assumption))
          replace q22 := eq_true q22
          have p24 : 0 ≤ (2 : Int) := (by omega)
          have q24 : 2 < a0.size := (by have : (2 : Int) < (a0.size : Int) := of_decide_eq_true (by first | (with_reducible assumption) | assumption); omega)
          have hx24 : ∀ h : 2 < a0.size, ((a0[2]'h).toNat : Int) = bt a0 2 := bt_at a0 2
          clear p24
          have qi24 : (2 < (a0.size : Int)) = True := eq_true (of_decide_eq_true (by first | (with_reducible assumption) | assumption))
          replace q24 := eq_true q24
          go_wp2_with (first | (go_at_call 33; (with_reducible refine (chequerref05_Blank.calls (bt a0 2) t240 _ A25.out).mono ?_); rintro e w' ⟨rfl, ⟨nd, rfl⟩⟩))
          go_meet
          case rel => exact ⟨_, (!t240), (by first | rfl | (simp; done) | (simp [*]; done)), H', ⟨by have := HJ2.out; have := HJ10.out; first | omega | exact Nat.le_refl _⟩, ⟨hp_ BK238.out⟩, ⟨hp_ BK239.out⟩, ⟨bp_⟩⟩
        rw [if_neg c21] at H
        exact absurd H (by simp)
      rw [if_neg c20] at H
      have c20b0 : decide (2 < (a0.size : Int)) = false := decide_eq_false c20
      have c20b1 : decide (2 < a0.size) = false := decide_eq_false (by omega)
      clear c20
      (first | rw [c20b0] | (simp only [i64_w, i32_w]; rw [c20b0]) | skip)
      have H' := Aside0.mk H
      clear H
      go_wp2
      go_meet
      case rel => exact ⟨_, (false), (by first | rfl | (simp; done) | (simp [*]; done)), H', ⟨by have := HJ2.out; have := HJ10.out; first | omega | exact Nat.le_refl _⟩, ⟨hp_ BK238.out⟩, ⟨hp_ BK239.out⟩, ⟨bp_⟩⟩
     case rest =>
      clear HC19
      try clear c1
      try clear p1
      try clear q1
      try clear hx1
      try clear qi1
      try clear c2
      try clear p2
      try clear q2
      try clear hx2
      try clear qi2
      try clear c6
      try clear c6b0
      try clear c6b1
      try clear c7
      try clear c7b0
      try clear c7b1
      try clear p8
      try clear q8
      try clear hx8
      try clear qi8
      try clear c9
      try clear c12
      try clear c12b0
      try clear c12b1
      try clear c13
      try clear c13b0
      try clear c13b1
      try clear p14
      try clear q14
      try clear hx14
      try clear qi14
      try clear c15
      try clear c15b0
      try clear c16
      try clear p16
      try clear q16
      try clear hx16
      try clear qi16
      try clear c17
      try clear c20
      try clear c20b0
      try clear c20b1
      try clear c21
      try clear c21b0
      try clear c21b1
      try clear p22
      try clear q22
      try clear hx22
      try clear qi22
      try clear c23
      try clear c23b0
      try clear c23b1
      try clear p24
      try clear q24
      try clear hx24
      try clear qi24
      try clear hcz10_0
      try clear hcz10_1
      try clear hcz10_2
      try clear hcz10_3
      try clear hcz18_0
      try clear hcz18_1
      try clear hcz18_2
      try clear hcz18_3
      try clear hfz10_0
      try clear hfz10_1
      try clear hfz10_2
      try clear hfz10_3
      try clear hfz18_0
      try clear hfz18_1
      try clear hfz18_2
      try clear hfz18_3
      try clear p1
      try clear p14
      try clear p16
      try clear p2
      try clear p22
      try clear p24
      try clear p8
      try clear q1
      try clear q14
      try clear q16
      try clear q22
      try clear q24
      try clear q8
      obtain ⟨kq, x52_18, rfl, HA, HJ18, BK238, BK239, HB⟩ := hcut
      cases kq with
      | zero => exact absurd HA.out (by simp [chequerref06_Parse.j2])
      | succ kj18 =>
       have H := HA.out; clear HA; simp only [chequerref06_Parse.j2] at H
       by_cases c26 : x52_18 = true
       · subst c26
         have H1 : (some (0, 0, 0, 0, 3, 3)) = some (r1, r2, r3, r4, r5, r6) := by rw [if_pos rfl] at H; exact H
         clear H; have H := H1; clear H1; simp only [Option.some.injEq, Prod.mk.injEq] at H; obtain ⟨rfl, rfl, rfl, rfl, rfl, rfl⟩ := H
         have hcz27_0 : wc.cell? ⟨gb239, 0, none⟩ = some (.int .i64 0) := (blk_cell BK239.out 0).trans rfl
         have hcz27_1 : wc.cell? ⟨gb239, 1, none⟩ = some (.int .i64 0) := (blk_cell BK239.out 1).trans rfl
         have hcz27_2 : wc.cell? ⟨gb239, 2, none⟩ = some (.int .i64 0) := (blk_cell BK239.out 2).trans rfl
         have hcz27_3 : wc.cell? ⟨gb239, 3, none⟩ = some (.int .i64 0) := (blk_cell BK239.out 3).trans rfl
         have hfz27_0 := blk_frozen BK239.out 0; have hfz27_1 := blk_frozen BK239.out 1; have hfz27_2 := blk_frozen BK239.out 2; have hfz27_3 := blk_frozen BK239.out 3
         go_wp2
         refine bodyPost_ret (results_ctt rfl _ _ gb239 25 #[.int .i64 0, .int .i64 0, .int .i64 0, .int .i64 0] (0, 0) _ rfl (by (with_reducible repeat (first | refine blk_drewN ?_ _ | refine blk_drew ?_ | refine blk_alloc ?_ _)); refine blk_put (cs := #[.int .i64 0, .int .i64 0, .int .i64 0, .int .i64 0]) ?_ 3 _ rfl; (with_reducible repeat (first | refine blk_drewN ?_ _ | refine blk_drew ?_ | refine blk_alloc ?_ _)); refine blk_put (cs := #[.int .i64 0, .int .i64 0, .int .i64 0, .int .i64 0]) ?_ 2 _ rfl; (with_reducible repeat (first | refine blk_drewN ?_ _ | refine blk_drew ?_ | refine blk_alloc ?_ _)); refine blk_put (cs := #[.int .i64 0, .int .i64 0, .int .i64 0, .int .i64 0]) ?_ 1 _ rfl; (with_reducible repeat (first | refine blk_drewN ?_ _ | refine blk_drew ?_ | refine blk_alloc ?_ _)); refine blk_put (cs := #[.int .i64 0, .int .i64 0, .int .i64 0, .int .i64 0]) ?_ 0 _ rfl; (with_reducible repeat (first | refine blk_drewN ?_ _ | refine blk_drew ?_ | refine blk_alloc ?_ _)); exact BK239.out) Try.underlying25 rfl (by kernel_rfl)) rfl ?_
         exact ⟨by first | rfl | (simp [errW_none, errW_some] <;> rfl) | (simp [*, errW_none, errW_some] <;> rfl), bp_⟩
       replace c26 := Bool.eq_false_iff.mpr c26; subst c26
       have H1 : (if (a0.size : Int) < 3 then (some (0, 0, 0, 0, (a0.size : Int), 6)) else (if 1 < (a0.size : Int) then ((chequerref06_bits.f (wrap64 ((wrap64 (bt a0 1)) - 48))).bind fun t242 => (if t242 = true then (chequerref06_Parse.j3 kj18 a0 2 a1_0 a1_1 a1_2 (wrap64 ((wrap64 (bt a0 1)) - 48)) 0 0 1) else (chequerref06_Parse.j3 kj18 a0 3 a1_0 a1_1 a1_2 (wrap64 ((wrap64 (bt a0 1)) - 48)) 0 0 0))) else (none))) = some (r1, r2, r3, r4, r5, r6) := by rw [if_neg (show ¬ (false = true) by decide)] at H; exact H
       clear H; have H := H1; clear H1
       by_cases c28 : (a0.size : Int) < 3
       · rw [if_pos c28] at H
         have c28b0 : decide ((a0.size : Int) < 3) = true := decide_eq_true c28
         have c28b1 : decide (a0.size < 3) = true := decide_eq_true (by omega)
         clear c28; simp only [Option.some.injEq, Prod.mk.injEq] at H; obtain ⟨rfl, rfl, rfl, rfl, rfl, rfl⟩ := H
         have hcz29_0 : wc.cell? ⟨gb239, 0, none⟩ = some (.int .i64 0) := (blk_cell BK239.out 0).trans rfl
         have hcz29_1 : wc.cell? ⟨gb239, 1, none⟩ = some (.int .i64 0) := (blk_cell BK239.out 1).trans rfl
         have hcz29_2 : wc.cell? ⟨gb239, 2, none⟩ = some (.int .i64 0) := (blk_cell BK239.out 2).trans rfl
         have hcz29_3 : wc.cell? ⟨gb239, 3, none⟩ = some (.int .i64 0) := (blk_cell BK239.out 3).trans rfl
         have hfz29_0 := blk_frozen BK239.out 0; have hfz29_1 := blk_frozen BK239.out 1; have hfz29_2 := blk_frozen BK239.out 2; have hfz29_3 := blk_frozen BK239.out 3
         go_wp2
         refine bodyPost_ret (results_ctt rfl _ _ gb239 25 #[.int .i64 0, .int .i64 0, .int .i64 0, .int .i64 0] (0, 0) _ rfl (by (with_reducible repeat (first | refine blk_drewN ?_ _ | refine blk_drew ?_ | refine blk_alloc ?_ _)); refine blk_put (cs := #[.int .i64 0, .int .i64 0, .int .i64 0, .int .i64 0]) ?_ 3 _ rfl; (with_reducible repeat (first | refine blk_drewN ?_ _ | refine blk_drew ?_ | refine blk_alloc ?_ _)); refine blk_put (cs := #[.int .i64 0, .int .i64 0, .int .i64 0, .int .i64 0]) ?_ 2 _ rfl; (with_reducible repeat (first | refine blk_drewN ?_ _ | refine blk_drew ?_ | refine blk_alloc ?_ _)); refine blk_put (cs := #[.int .i64 0, .int .i64 0, .int .i64 0, .int .i64 0]) ?_ 1 _ rfl; (with_reducible repeat (first | refine blk_drewN ?_ _ | refine blk_drew ?_ | refine blk_alloc ?_ _)); refine blk_put (cs := #[.int .i64 0, .int .i64 0, .int .i64 0, .int .i64 0]) ?_ 0 _ rfl; (with_reducible repeat (first | refine blk_drewN ?_ _ | refine blk_drew ?_ | refine blk_alloc ?_ _)); exact BK239.out) Try.underlying25 rfl (by kernel_rfl)) rfl ?_
         exact ⟨by first | rfl | (simp [errW_none, errW_some] <;> rfl) | (simp [*, errW_none, errW_some] <;> rfl), bp_⟩
       rw [if_neg c28] at H
       have c28b0 : decide ((a0.size : Int) < 3) = false := decide_eq_false c28
       have c28b1 : decide (a0.size < 3) = false := decide_eq_false (by omega)
       clear c28
       by_cases c30 : 1 < (a0.size : Int)
       · rw [if_pos c30] at H
         have c30b0 : decide (1 < (a0.size : Int)) = true := decide_eq_true c30
         have c30b1 : decide (1 < a0.size) = true := decide_eq_true (by omega)
         clear c30; replace H := Option.bind_eq_some_iff.mp H; obtain ⟨t242, A320, H⟩ := H
         replace H : (if t242 = true then (chequerref06_Parse.j3 kj18 a0 2 a1_0 a1_1 a1_2 (wrap64 ((wrap64 (bt a0 1)) - 48)) 0 0 1) else (chequerref06_Parse.j3 kj18 a0 3 a1_0 a1_1 a1_2 (wrap64 ((wrap64 (bt a0 1)) - 48)) 0 0 0)) = some (r1, r2, r3, r4, r5, r6) := H
         have A32 := Aside0.mk A320; clear A320; have HC33 := Aside0.mk H; clear H
         have p31 : 0 ≤ (1 : Int) := (by omega)
         have q31 : 1 < a0.size := (by have : (1 : Int) < (a0.size : Int) := of_decide_eq_true (by first | (with_reducible assumption) | assumption); omega)
         have hx31 : ∀ h : 1 < a0.size, ((a0[1]'h).toNat : Int) = bt a0 1 := bt_at a0 1
         clear p31
         have qi31 : (1 < (a0.size : Int)) = True := eq_true (of_decide_eq_true (by first | (with_reducible assumption) | assumption))
         replace q31 := eq_true q31
         go_upto_if 67 with (first | ((with_reducible refine gate_dst (N := 7) rfl ?_); (try (refine gate_guard (by rfl) ?_; dsimp only)); refine box_event ?hg (N := 7) ?hd (cs := #[.int .i64 0, .int .i64 0, .int .i64 0, .int .i64 0]) (t := 25) ?hr ?_; (case hd => rfl); (case hg => rfl); (case hr => first | (go_simp; done) | (go_simp; rfl)); intro gb241 hg w34 hbox hb; have BK241 := Aside0.mk (hbox); have GW241 := Aside0.mk ((by rw [hg]; exact (below_size bp_) : w.heap.size ≤ gb241)); have GE241 := Aside0.mk ((by rw [hg]; exact (below_size bp_) : w.heap.size ≤ gb241)); replace HB := Aside0.mk (below_step bp_ hb); have NB238_241 := Aside0.mk ((nlt_ hg (hp_ BK238.out))); have NB241_238 := Aside0.mk ((ngt_ hg (hp_ BK238.out))); replace BK238 := Aside0.mk (blk_below (hp_ BK238.out) hb); have NB239_241 := Aside0.mk ((nlt_ hg (hp_ BK239.out))); have NB241_239 := Aside0.mk ((ngt_ hg (hp_ BK239.out))); replace BK239 := Aside0.mk (blk_below (hp_ BK239.out) hb); clear hb hbox hg; have hnb35 := NB241_238.out; have hnc35 := NB238_241.out; have hnb36 := NB241_239.out; have hnc36 := NB239_241.out; have hcz37_0 : w34.cell? ⟨gb241, 0, none⟩ = some (.int .i64 0) := (blk_cell BK241.out 0).trans rfl; have hcz37_1 : w34.cell? ⟨gb241, 1, none⟩ = some (.int .i64 0) := (blk_cell BK241.out 1).trans rfl; have hcz37_2 : w34.cell? ⟨gb241, 2, none⟩ = some (.int .i64 0) := (blk_cell BK241.out 2).trans rfl; have hcz37_3 : w34.cell? ⟨gb241, 3, none⟩ = some (.int .i64 0) := (blk_cell BK241.out 3).trans rfl; have hfz37_0 := blk_frozen BK241.out 0; have hfz37_1 := blk_frozen BK241.out 1; have hfz37_2 := blk_frozen BK241.out 2; have hfz37_3 := blk_frozen BK241.out 3) | ((with_reducible refine gate_callee (f := 32) rfl ?_); refine goQ_ (some 67) Try.func32 #[.int .i64 (wrap64 ((wrap64 (bt a0 1)) - 48))] ?_; (with_reducible refine (chequerref06_bits.calls (wrap64 ((wrap64 (bt a0 1)) - 48)) t242 _ A32.out).mono ?_); rintro e w' ⟨rfl, ⟨nd, rfl⟩⟩; refine ⟨_, rfl, ?_⟩))
         (try simp only [Act.put, List.setIfInBounds_toArray, List.set_cons_zero, List.set_cons_succ])
         go_cut [8] (fun v8 wc => ∃ (kq : Nat) (x8_32 : Int) (x242003_32 : Int), v8 = .int .i64 x8_32 ∧ Aside0 (chequerref06_Parse.j3 kq a0 x8_32 a1_0 a1_1 a1_2 (wrap64 ((wrap64 (bt a0 1)) - 48)) 0 0 x242003_32 = some (r1, r2, r3, r4, r5, r6)) ∧ Aside0 (kq ≤ kj18) ∧ Aside0 (wc.heap[gb238]? = some (.cells #[.int .i64 a1_0, .int .i64 a1_1, .int .i64 a1_2] 23 (0, 0))) ∧ Aside0 (wc.heap[gb239]? = some (.cells #[.int .i64 0, .int .i64 0, .int .i64 0, .int .i64 0] 25 (0, 0))) ∧ Aside0 (wc.heap[gb241]? = some (.cells #[.int .i64 (wrap64 ((wrap64 (bt a0 1)) - 48)), .int .i64 0, .int .i64 0, .int .i64 x242003_32] 25 (0, 0))) ∧ Aside0 (Below w.heap.size w wc))
         case first =>
          have H := HC33.out; clear HC33
          by_cases c38 : t242 = true
          · subst c38
            have H1 : (chequerref06_Parse.j3 kj18 a0 2 a1_0 a1_1 a1_2 (wrap64 ((wrap64 (bt a0 1)) - 48)) 0 0 1) = some (r1, r2, r3, r4, r5, r6) := by rw [if_pos rfl] at H; exact H
            clear H; have H := H1; clear H1
            have H' := Aside0.mk H
            clear H; have hnb39 := NB241_238.out; have hnc39 := NB238_241.out; have hnb40 := NB241_239.out; have hnc40 := NB239_241.out
            have hcz41_0 : w34.cell? ⟨gb241, 0, none⟩ = some (.int .i64 0) := (blk_cell BK241.out 0).trans rfl
            have hcz41_1 : w34.cell? ⟨gb241, 1, none⟩ = some (.int .i64 0) := (blk_cell BK241.out 1).trans rfl
            have hcz41_2 : w34.cell? ⟨gb241, 2, none⟩ = some (.int .i64 0) := (blk_cell BK241.out 2).trans rfl
            have hcz41_3 : w34.cell? ⟨gb241, 3, none⟩ = some (.int .i64 0) := (blk_cell BK241.out 3).trans rfl
            have hfz41_0 := blk_frozen BK241.out 0; have hfz41_1 := blk_frozen BK241.out 1; have hfz41_2 := blk_frozen BK241.out 2; have hfz41_3 := blk_frozen BK241.out 3
            go_wp2
            go_meet
            case rel => exact ⟨_, (2), (1), (by first | rfl | (simp; done) | (simp [*]; done)), H', ⟨by have := HJ2.out; have := HJ10.out; have := HJ18.out; first | omega | exact Nat.le_refl _⟩, ⟨hf_ BK238.out NB238_241.out⟩, ⟨hf_ BK239.out NB239_241.out⟩, ⟨by (with_reducible repeat (first | refine blk_drewN ?_ _ | refine blk_drew ?_ | refine blk_alloc ?_ _)); refine blk_put (cs := #[.int .i64 (wrap64 ((wrap64 (bt a0 1)) - 48)), .int .i64 0, .int .i64 0, .int .i64 0]) ?_ 3 _ rfl; (with_reducible repeat (first | refine blk_drewN ?_ _ | refine blk_drew ?_ | refine blk_alloc ?_ _)); refine blk_put (cs := #[.int .i64 (wrap64 ((wrap64 (bt a0 1)) - 48)), .int .i64 0, .int .i64 0, .int .i64 0]) ?_ 3 _ rfl; (with_reducible repeat (first | refine blk_drewN ?_ _ | refine blk_drew ?_ | refine blk_alloc ?_ _)); refine blk_put (cs := #[.int .i64 (wrap64 ((wrap64 (bt a0 1)) - 48)), .int .i64 0, .int .i64 0, .int .i64 0]) ?_ 2 _ rfl; (with_reducible repeat (first | refine blk_drewN ?_ _ | refine blk_drew ?_ | refine blk_alloc ?_ _)); refine blk_put (cs := #[.int .i64 (wrap64 ((wrap64 (bt a0 1)) - 48)), .int .i64 0, .int .i64 0, .int .i64 0]) ?_ 1 _ rfl; (with_reducible repeat (first | refine blk_drewN ?_ _ | refine blk_drew ?_ | refine blk_alloc ?_ _)); refine blk_put (cs := #[.int .i64 0, .int .i64 0, .int .i64 0, .int .i64 0]) ?_ 0 _ rfl; (with_reducible repeat (first | refine blk_drewN ?_ _ | refine blk_drew ?_ | refine blk_alloc ?_ _)); exact BK241.out⟩, ⟨bp_⟩⟩
          replace c38 := Bool.eq_false_iff.mpr c38; subst c38
          have H1 : (chequerref06_Parse.j3 kj18 a0 3 a1_0 a1_1 a1_2 (wrap64 ((wrap64 (bt a0 1)) - 48)) 0 0 0) = some (r1, r2, r3, r4, r5, r6) := by rw [if_neg (show ¬ (false = true) by decide)] at H; exact H
          clear H; have H := H1; clear H1
          have H' := Aside0.mk H
          clear H
          go_wp2
          go_meet
          case rel => exact ⟨_, (3), (0), (by first | rfl | (simp; done) | (simp [*]; done)), H', ⟨by have := HJ2.out; have := HJ10.out; have := HJ18.out; first | omega | exact Nat.le_refl _⟩, ⟨hf_ BK238.out NB238_241.out⟩, ⟨hf_ BK239.out NB239_241.out⟩, ⟨by (with_reducible repeat (first | refine blk_drewN ?_ _ | refine blk_drew ?_ | refine blk_alloc ?_ _)); refine blk_put (cs := #[.int .i64 (wrap64 ((wrap64 (bt a0 1)) - 48)), .int .i64 0, .int .i64 0, .int .i64 0]) ?_ 3 _ rfl; (with_reducible repeat (first | refine blk_drewN ?_ _ | refine blk_drew ?_ | refine blk_alloc ?_ _)); refine blk_put (cs := #[.int .i64 (wrap64 ((wrap64 (bt a0 1)) - 48)), .int .i64 0, .int .i64 0, .int .i64 0]) ?_ 2 _ rfl; (with_reducible repeat (first | refine blk_drewN ?_ _ | refine blk_drew ?_ | refine blk_alloc ?_ _)); refine blk_put (cs := #[.int .i64 (wrap64 ((wrap64 (bt a0 1)) - 48)), .int .i64 0, .int .i64 0, .int .i64 0]) ?_ 1 _ rfl; (with_reducible repeat (first | refine blk_drewN ?_ _ | refine blk_drew ?_ | refine blk_alloc ?_ _)); refine blk_put (cs := #[.int .i64 0, .int .i64 0, .int .i64 0, .int .i64 0]) ?_ 0 _ rfl; (with_reducible repeat (first | refine blk_drewN ?_ _ | refine blk_drew ?_ | refine blk_alloc ?_ _)); exact BK241.out⟩, ⟨bp_⟩⟩
         case rest =>
          clear HC33
          try clear c1
          try clear p1
          try clear q1
          try clear hx1
          try clear qi1
          try clear c2
          try clear p2
          try clear q2
          try clear hx2
          try clear qi2
          try clear c3
          try clear p3
          try clear q3
          try clear hx3
          try clear qi3
          try clear c4
          try clear c6
          try clear c6b0
          try clear c6b1
          try clear p6
          try clear c7
          try clear c7b0
          try clear c7b1
          try clear p8
          try clear q8
          try clear hx8
          try clear qi8
          try clear c9
          try clear c12
          try clear c12b0
          try clear c12b1
          try clear c13
          try clear c13b0
          try clear c13b1
          try clear p14
          try clear q14
          try clear hx14
          try clear qi14
          try clear c15
          try clear c15b0
          try clear c16
          try clear p16
          try clear q16
          try clear hx16
          try clear qi16
          try clear c17
          try clear c20
          try clear c20b0
          try clear c20b1
          try clear c21
          try clear c21b0
          try clear c21b1
          try clear p22
          try clear q22
          try clear hx22
          try clear qi22
          try clear c23
          try clear c23b0
          try clear c23b1
          try clear p24
          try clear q24
          try clear hx24
          try clear qi24
          try clear c26
          try clear c28
          try clear c28b0
          try clear c28b1
          try clear c30
          try clear c30b0
          try clear c30b1
          try clear p31
          try clear q31
          try clear hx31
          try clear qi31
          try clear c32
          try clear c35
          try clear c36
          try clear c38
          try clear c39
          try clear c40
          try clear hcz10_0
          try clear hcz10_1
          try clear hcz10_2
          try clear hcz10_3
          try clear hcz18_0
          try clear hcz18_1
          try clear hcz18_2
          try clear hcz18_3
          try clear hcz27_0
          try clear hcz27_1
          try clear hcz27_2
          try clear hcz27_3
          try clear hcz29_0
          try clear hcz29_1
          try clear hcz29_2
          try clear hcz29_3
          try clear hcz37_0
          try clear hcz37_1
          try clear hcz37_2
          try clear hcz37_3
          try clear hcz41_0
          try clear hcz41_1
          try clear hcz41_2
          try clear hcz41_3
          try clear hfz10_0
          try clear hfz10_1
          try clear hfz10_2
          try clear hfz10_3
          try clear hfz18_0
          try clear hfz18_1
          try clear hfz18_2
          try clear hfz18_3
          try clear hfz27_0
          try clear hfz27_1
          try clear hfz27_2
          try clear hfz27_3
          try clear hfz29_0
          try clear hfz29_1
          try clear hfz29_2
          try clear hfz29_3
          try clear hfz37_0
          try clear hfz37_1
          try clear hfz37_2
          try clear hfz37_3
          try clear hfz41_0
          try clear hfz41_1
          try clear hfz41_2
          try clear hfz41_3
          try clear p1
          try clear p14
          try clear p16
          try clear p2
          try clear p22
          try clear p24
          try clear p31
          try clear p8
          try clear q1
          try clear q14
          try clear q16
          try clear q2
          try clear q22
          try clear q24
          try clear q31
          try clear q8
          obtain ⟨kq, x8_32, x242003_32, rfl, HA, HJ32, BK238, BK239, BK241, HB⟩ := hcut
          cases kq with
          | zero => exact absurd HA.out (by simp [chequerref06_Parse.j3])
          | succ kj32 =>
           have H := HA.out; clear HA; simp only [chequerref06_Parse.j3] at H; replace H := Option.bind_eq_some_iff.mp H; obtain ⟨t243, A420, H⟩ := H
           replace H : (chequerref06_Parse.l0 kj32 a0 x8_32 t243 2 0 (wrap64 ((wrap64 (bt a0 1)) - 48)) 0 0 x242003_32) = some (r1, r2, r3, r4, r5, r6) := H
           have A42 := Aside0.mk A420; clear A420
           have H' := Aside0.mk H
           clear H; have hnb43 := NB238_239.out; have hnc43 := NB239_238.out; have hnb44 := NB238_241.out; have hnc44 := NB241_238.out
           have hcz45_0 : wc.cell? ⟨gb238, 0, none⟩ = some (.int .i64 a1_0) := (blk_cell BK238.out 0).trans rfl
           have hcz45_1 : wc.cell? ⟨gb238, 1, none⟩ = some (.int .i64 a1_1) := (blk_cell BK238.out 1).trans rfl
           have hcz45_2 : wc.cell? ⟨gb238, 2, none⟩ = some (.int .i64 a1_2) := (blk_cell BK238.out 2).trans rfl
           have hfz45_0 := blk_frozen BK238.out 0; have hfz45_1 := blk_frozen BK238.out 1; have hfz45_2 := blk_frozen BK238.out 2
           go_wp2_with (first | ((with_reducible refine gate_callee (f := 34) rfl ?_); refine goQ_ (some 70) Try.func34 #[.agg #[.int .i64 a1_0, .int .i64 a1_1, .int .i64 a1_2]] ?_; (with_reducible refine (chequerref06_limits.calls a1_0 a1_1 a1_2 t243 _ A42.out).mono ?_); rintro e w46 ⟨v244, rfl, ho0, hb⟩; refine ⟨_, rfl, ?_⟩; have HO245 := Aside0.mk (Kd.R_lower ho0 (below_size bp_)); replace BK239 := Aside0.mk (blk_below (hp_ BK239.out) hb); replace BK241 := Aside0.mk (blk_below (hp_ BK241.out) hb); replace HB := Aside0.mk (below_step bp_ hb); (try clear hb); (try clear hb2); (try clear hk); (try clear hi); (try clear ho0)))
           go_loopg [10, 11] kj32 (fun kq v10 v11 w' => ∃ (x10_5 : Int) (x11_5 : Int) (x240000_5 : Int) (x240001_5 : Int) (x240002_5 : Int) (x240003_5 : Int) (x242001_5 : Int) (x242002_5 : Int) (x242003_5 : Int), v10 = .int .i64 x10_5 ∧ v11 = .int .i64 x11_5 ∧ Aside0 (chequerref06_Parse.l0 kq a0 x8_32 t243 x10_5 x11_5 (wrap64 ((wrap64 (bt a0 1)) - 48)) x242001_5 x242002_5 x242003_5 = some (r1, r2, r3, r4, r5, r6)) ∧ Aside0 (kq ≤ kj32) ∧ Aside0 (Kd.R (Kd.int .i64) 3 w' w.heap.size (fun _ => True) v244 t243) ∧ Aside0 (w'.heap[gb239]? = some (.cells #[.int .i64 x240000_5, .int .i64 x240001_5, .int .i64 x240002_5, .int .i64 x240003_5] 25 (0, 0))) ∧ Aside0 (w'.heap[gb241]? = some (.cells #[.int .i64 (wrap64 ((wrap64 (bt a0 1)) - 48)), .int .i64 x242001_5, .int .i64 x242002_5, .int .i64 x242003_5] 25 (0, 0))) ∧ Aside0 (Below w.heap.size w w'))
           case atStart => exact ⟨(2), (0), (0), (0), (0), (0), (0), (0), (x242003_32), (by first | rfl | (simp; done) | (simp [*]; done)), (by first | rfl | (simp; done) | (simp [*]; done)), H', ⟨Nat.le_refl _⟩, ⟨rp_ HO245.out⟩, ⟨hp_ BK239.out⟩, ⟨hp_ BK241.out⟩, ⟨bp_⟩⟩
           case round =>
            clear H'
            try clear c1
            try clear p1
            try clear q1
            try clear hx1
            try clear qi1
            try clear c2
            try clear p2
            try clear q2
            try clear hx2
            try clear qi2
            try clear c3
            try clear p3
            try clear q3
            try clear hx3
            try clear qi3
            try clear c4
            try clear c6
            try clear c6b0
            try clear c6b1
            try clear p6
            try clear c7
            try clear c7b0
            try clear c7b1
            try clear p8
            try clear q8
            try clear hx8
            try clear qi8
            try clear c9
            try clear c12
            try clear c12b0
            try clear c12b1
            try clear c13
            try clear c13b0
            try clear c13b1
            try clear p14
            try clear q14
            try clear hx14
            try clear qi14
            try clear c15
            try clear c15b0
            try clear c16
            try clear p16
            try clear q16
            try clear hx16
            try clear qi16
            try clear c17
            try clear c20
            try clear c20b0
            try clear c20b1
            try clear c21
            try clear c21b0
            try clear c21b1
            try clear p22
            try clear q22
            try clear hx22
            try clear qi22
            try clear c23
            try clear c23b0
            try clear c23b1
            try clear p24
            try clear q24
            try clear hx24
            try clear qi24
            try clear c26
            try clear c28
            try clear c28b0
            try clear c28b1
            try clear c30
            try clear c30b0
            try clear c30b1
            try clear p31
            try clear q31
            try clear hx31
            try clear qi31
            try clear c32
            try clear c34
            try clear c35
            try clear c36
            try clear c38
            try clear c39
            try clear c40
            try clear c43
            try clear c44
            try clear hcz10_0
            try clear hcz10_1
            try clear hcz10_2
            try clear hcz10_3
            try clear hcz18_0
            try clear hcz18_1
            try clear hcz18_2
            try clear hcz18_3
            try clear hcz27_0
            try clear hcz27_1
            try clear hcz27_2
            try clear hcz27_3
            try clear hcz29_0
            try clear hcz29_1
            try clear hcz29_2
            try clear hcz29_3
            try clear hcz37_0
            try clear hcz37_1
            try clear hcz37_2
            try clear hcz37_3
            try clear hcz41_0
            try clear hcz41_1
            try clear hcz41_2
            try clear hcz41_3
            try clear hcz45_0
            try clear hcz45_1
            try clear hcz45_2
            try clear hfz10_0
            try clear hfz10_1
            try clear hfz10_2
            try clear hfz10_3
            try clear hfz18_0
            try clear hfz18_1
            try clear hfz18_2
            try clear hfz18_3
            try clear hfz27_0
            try clear hfz27_1
            try clear hfz27_2
            try clear hfz27_3
            try clear hfz29_0
            try clear hfz29_1
            try clear hfz29_2
            try clear hfz29_3
            try clear hfz37_0
            try clear hfz37_1
            try clear hfz37_2
            try clear hfz37_3
            try clear hfz41_0
            try clear hfz41_1
            try clear hfz41_2
            try clear hfz41_3
            try clear hfz45_0
            try clear hfz45_1
            try clear hfz45_2
            try clear p1
            try clear p14
            try clear p16
            try clear p2
            try clear p22
            try clear p24
            try clear p3
            try clear p31
            try clear p6
            try clear p8
            try clear q1
            try clear q14
            try clear q16
            try clear q2
            try clear q22
            try clear q24
            try clear q3
            try clear q31
            try clear q8
            obtain ⟨x10_5, x11_5, x240000_5, x240001_5, x240002_5, x240003_5, x242001_5, x242002_5, x242003_5, rfl, rfl, HA, HK5, HO_9, BK239, BK241, HB⟩ := hrel
            cases gk with
            | zero => exact absurd HA.out (by simp [chequerref06_Parse.l0])
            | succ k5 =>
             have H := HA.out; clear HA; simp only [chequerref06_Parse.l0] at H
             by_cases c47 : x11_5 < x8_32
             · rw [if_pos c47] at H
               have c47b0 : decide (x11_5 < x8_32) = true := decide_eq_true c47
               clear c47
               by_cases c48 : 0 ≤ x11_5
               · rw [if_pos c48] at H
                 have c48b0 : decide (0 ≤ x11_5) = true := decide_eq_true c48
                 clear c48
                 by_cases c49 : x11_5 < (t243.length : Int)
                 · rw [if_pos c49] at H
                   have c49b0 : decide (x11_5 < (t243.length : Int)) = true := decide_eq_true c49
                   clear c49; replace H := Option.bind_eq_some_iff.mp H; obtain ⟨⟨t247, t248, t249, t250⟩, A500, H⟩ := H
                   replace H : (chequerref06_Parse.l1 k5 a0 x8_32 t243 x10_5 x11_5 0 (wrap64 ((wrap64 (bt a0 1)) - 48)) x242001_5 x242002_5 x242003_5 t247 t248 t249 t250) = some (r1, r2, r3, r4, r5, r6) := H
                   have A50 := Aside0.mk A500; clear A500; have HC51 := Aside0.mk H; clear H
                   obtain ⟨Ao52, co52, eo52⟩ := Kd.R_slice HO_9.out
                   subst eo52
                   have p246 : 0 ≤ (x11_5 : Int) := of_decide_eq_true (by first | (with_reducible assumption) | assumption)
                   have q246 : x11_5 < (t243.length : Int) := of_decide_eq_true (by first | (with_reducible assumption) | assumption)
                   obtain ⟨ad246, e246, hx246_0⟩ := Kd.at_int (Kd.R_reads' HO_9.out).2.2 x11_5 p246 q246
                   cases e246
                   replace p246 := eq_true p246; replace q246 := eq_true q246
                   go_upto_block 2 with (first | ((with_reducible refine gate_callee (f := 35) rfl ?_); refine goQ_ (some 80) Try.func35 #[.int .i64 (rd t243 x11_5)] ?_; (with_reducible refine (chequerref05_New.calls (rd t243 x11_5) t247 t248 t249 t250 _ A50.out).mono ?_); rintro e w53 ⟨rfl, hb⟩; refine ⟨_, rfl, ?_⟩; replace HO_9 := Aside0.mk (Kd.R_below (rp_ HO_9.out) hb); replace BK239 := Aside0.mk (blk_below (hp_ BK239.out) hb); replace BK241 := Aside0.mk (blk_below (hp_ BK241.out) hb); replace HB := Aside0.mk (below_step bp_ hb); (try clear hb); (try clear hb2); (try clear hk); (try clear hi)) | ((with_reducible refine gate_dst (N := 12) rfl ?_); (try (refine gate_guard (by rfl) ?_; dsimp only)); refine box_event ?hg (N := 12) ?hd (cs := #[.int .i64 0, .int .i64 0, .int .i64 0, .int .i64 0]) (t := 70) ?hr ?_; (case hd => rfl); (case hg => rfl); (case hr => first | (go_simp; done) | (go_simp; rfl)); intro gb251 hg w54 hbox hb; replace HO_9 := Aside0.mk (Kd.R_below (rp_ HO_9.out) hb); have BK251 := Aside0.mk (hbox); have GW251 := Aside0.mk ((by rw [hg]; exact (below_size bp_) : w.heap.size ≤ gb251)); have GE251 := Aside0.mk ((by rw [hg]; exact (below_size bp_) : w.heap.size ≤ gb251)); replace HB := Aside0.mk (below_step bp_ hb); have NB239_251 := Aside0.mk ((nlt_ hg (hp_ BK239.out))); have NB251_239 := Aside0.mk ((ngt_ hg (hp_ BK239.out))); replace BK239 := Aside0.mk (blk_below (hp_ BK239.out) hb); have NB241_251 := Aside0.mk ((nlt_ hg (hp_ BK241.out))); have NB251_241 := Aside0.mk ((ngt_ hg (hp_ BK241.out))); replace BK241 := Aside0.mk (blk_below (hp_ BK241.out) hb); clear hb hbox hg; have hnb55 := NB251_239.out; have hnc55 := NB239_251.out; have hnb56 := NB251_241.out; have hnc56 := NB241_251.out; have hcz57_0 : w54.cell? ⟨gb251, 0, none⟩ = some (.int .i64 0) := (blk_cell BK251.out 0).trans rfl; have hcz57_1 : w54.cell? ⟨gb251, 1, none⟩ = some (.int .i64 0) := (blk_cell BK251.out 1).trans rfl; have hcz57_2 : w54.cell? ⟨gb251, 2, none⟩ = some (.int .i64 0) := (blk_cell BK251.out 2).trans rfl; have hcz57_3 : w54.cell? ⟨gb251, 3, none⟩ = some (.int .i64 0) := (blk_cell BK251.out 3).trans rfl; have hfz57_0 := blk_frozen BK251.out 0; have hfz57_1 := blk_frozen BK251.out 1; have hfz57_2 := blk_frozen BK251.out 2; have hfz57_3 := blk_frozen BK251.out 3))
                   (try simp only [Act.put, List.setIfInBounds_toArray, List.set_cons_zero, List.set_cons_succ])
                   go_cut [10, 13] (fun v10 v13 wc => ∃ (kq : Nat) (x10_50 : Int) (x13_50 : Int) (x252000_50 : Int) (x252001_50 : Int) (x252002_50 : Int) (x252003_50 : Int), v10 = .int .i64 x10_50 ∧ v13 = .int .i64 x13_50 ∧ Aside0 (chequerref06_Parse.j6 kq a0 x8_32 t243 x10_50 x11_5 x13_50 (wrap64 ((wrap64 (bt a0 1)) - 48)) x242001_5 x242002_5 x242003_5 x252000_50 x252001_50 x252002_50 x252003_50 = some (r1, r2, r3, r4, r5, r6)) ∧ Aside0 (kq ≤ k5) ∧ Aside0 (Kd.R (Kd.int .i64) 3 wc w.heap.size (fun _ => True) (.slice (some ad246) t243.length co52) t243) ∧ Aside0 (wc.heap[gb239]? = some (.cells #[.int .i64 x240000_5, .int .i64 x240001_5, .int .i64 x240002_5, .int .i64 x240003_5] 25 (0, 0))) ∧ Aside0 (wc.heap[gb241]? = some (.cells #[.int .i64 (wrap64 ((wrap64 (bt a0 1)) - 48)), .int .i64 x242001_5, .int .i64 x242002_5, .int .i64 x242003_5] 25 (0, 0))) ∧ Aside0 (wc.heap[gb251]? = some (.cells #[.int .i64 x252000_50, .int .i64 x252001_50, .int .i64 x252002_50, .int .i64 x252003_50] 70 (0, 0))) ∧ Aside0 (Below w.heap.size w wc))
                   case first =>
                    have H := HC51.out; clear HC51
                    have H' := Aside0.mk H
                    clear H
                    go_wp2
                    go_loopg [10, 13] k5 (fun kq v10 v13 w' => ∃ (x10_6 : Int) (x13_6 : Int) (x252000_6 : Int) (x252001_6 : Int) (x252002_6 : Int) (x252003_6 : Int), v10 = .int .i64 x10_6 ∧ v13 = .int .i64 x13_6 ∧ Aside0 (chequerref06_Parse.l1 kq a0 x8_32 t243 x10_6 x11_5 x13_6 (wrap64 ((wrap64 (bt a0 1)) - 48)) x242001_5 x242002_5 x242003_5 x252000_6 x252001_6 x252002_6 x252003_6 = some (r1, r2, r3, r4, r5, r6)) ∧ Aside0 (kq ≤ k5) ∧ Aside0 (Kd.R (Kd.int .i64) 3 w' w.heap.size (fun _ => True) (.slice (some ad246) t243.length co52) t243) ∧ Aside0 (w'.heap[gb239]? = some (.cells #[.int .i64 x240000_5, .int .i64 x240001_5, .int .i64 x240002_5, .int .i64 x240003_5] 25 (0, 0))) ∧ Aside0 (w'.heap[gb241]? = some (.cells #[.int .i64 (wrap64 ((wrap64 (bt a0 1)) - 48)), .int .i64 x242001_5, .int .i64 x242002_5, .int .i64 x242003_5] 25 (0, 0))) ∧ Aside0 (w'.heap[gb251]? = some (.cells #[.int .i64 x252000_6, .int .i64 x252001_6, .int .i64 x252002_6, .int .i64 x252003_6] 70 (0, 0))) ∧ Aside0 (Below w.heap.size w w'))
                    case atStart => exact ⟨(x10_5), (0), (t247), (t248), (t249), (t250), (by first | rfl | (simp; done) | (simp [*]; done)), (by first | rfl | (simp; done) | (simp [*]; done)), H', ⟨Nat.le_refl _⟩, ⟨rf_ HO_9.out BK251.out (by decide) (fun _ hk => trivial)⟩, ⟨hf_ BK239.out NB239_251.out⟩, ⟨hf_ BK241.out NB241_251.out⟩, ⟨by (with_reducible repeat (first | refine blk_drewN ?_ _ | refine blk_drew ?_ | refine blk_alloc ?_ _)); refine blk_put (cs := #[.int .i64 t247, .int .i64 t248, .int .i64 t249, .int .i64 0]) ?_ 3 _ rfl; (with_reducible repeat (first | refine blk_drewN ?_ _ | refine blk_drew ?_ | refine blk_alloc ?_ _)); refine blk_put (cs := #[.int .i64 t247, .int .i64 t248, .int .i64 0, .int .i64 0]) ?_ 2 _ rfl; (with_reducible repeat (first | refine blk_drewN ?_ _ | refine blk_drew ?_ | refine blk_alloc ?_ _)); refine blk_put (cs := #[.int .i64 t247, .int .i64 0, .int .i64 0, .int .i64 0]) ?_ 1 _ rfl; (with_reducible repeat (first | refine blk_drewN ?_ _ | refine blk_drew ?_ | refine blk_alloc ?_ _)); refine blk_put (cs := #[.int .i64 0, .int .i64 0, .int .i64 0, .int .i64 0]) ?_ 0 _ rfl; (with_reducible repeat (first | refine blk_drewN ?_ _ | refine blk_drew ?_ | refine blk_alloc ?_ _)); exact BK251.out⟩, ⟨bp_⟩⟩
                    case round =>
                     clear H'
                     try clear c1
                     try clear p1
                     try clear q1
                     try clear hx1
                     try clear qi1
                     try clear c2
                     try clear p2
                     try clear q2
                     try clear hx2
                     try clear qi2
                     try clear c3
                     try clear p3
                     try clear q3
                     try clear hx3
                     try clear qi3
                     try clear c4
                     try clear c5
                     try clear c6
                     try clear c6b0
                     try clear c6b1
                     try clear p6
                     try clear c7
                     try clear c7b0
                     try clear c7b1
                     try clear p8
                     try clear q8
                     try clear hx8
                     try clear qi8
                     try clear c9
                     try clear c12
                     try clear c12b0
                     try clear c12b1
                     try clear c13
                     try clear c13b0
                     try clear c13b1
                     try clear p14
                     try clear q14
                     try clear hx14
                     try clear qi14
                     try clear c15
                     try clear c15b0
                     try clear c16
                     try clear p16
                     try clear q16
                     try clear hx16
                     try clear qi16
                     try clear c17
                     try clear c20
                     try clear c20b0
                     try clear c20b1
                     try clear c21
                     try clear c21b0
                     try clear c21b1
                     try clear p22
                     try clear q22
                     try clear hx22
                     try clear qi22
                     try clear c23
                     try clear c23b0
                     try clear c23b1
                     try clear p24
                     try clear q24
                     try clear hx24
                     try clear qi24
                     try clear c26
                     try clear c28
                     try clear c28b0
                     try clear c28b1
                     try clear c30
                     try clear c30b0
                     try clear c30b1
                     try clear p31
                     try clear q31
                     try clear hx31
                     try clear qi31
                     try clear c32
                     try clear c34
                     try clear c35
                     try clear c36
                     try clear c38
                     try clear c39
                     try clear c40
                     try clear c43
                     try clear c44
                     try clear c47
                     try clear c47b0
                     try clear c48
                     try clear c48b0
                     try clear c49
                     try clear c49b0
                     try clear c55
                     try clear c56
                     try clear hcz10_0
                     try clear hcz10_1
                     try clear hcz10_2
                     try clear hcz10_3
                     try clear hcz18_0
                     try clear hcz18_1
                     try clear hcz18_2
                     try clear hcz18_3
                     try clear hcz27_0
                     try clear hcz27_1
                     try clear hcz27_2
                     try clear hcz27_3
                     try clear hcz29_0
                     try clear hcz29_1
                     try clear hcz29_2
                     try clear hcz29_3
                     try clear hcz37_0
                     try clear hcz37_1
                     try clear hcz37_2
                     try clear hcz37_3
                     try clear hcz41_0
                     try clear hcz41_1
                     try clear hcz41_2
                     try clear hcz41_3
                     try clear hcz45_0
                     try clear hcz45_1
                     try clear hcz45_2
                     try clear hcz57_0
                     try clear hcz57_1
                     try clear hcz57_2
                     try clear hcz57_3
                     try clear hfz10_0
                     try clear hfz10_1
                     try clear hfz10_2
                     try clear hfz10_3
                     try clear hfz18_0
                     try clear hfz18_1
                     try clear hfz18_2
                     try clear hfz18_3
                     try clear hfz27_0
                     try clear hfz27_1
                     try clear hfz27_2
                     try clear hfz27_3
                     try clear hfz29_0
                     try clear hfz29_1
                     try clear hfz29_2
                     try clear hfz29_3
                     try clear hfz37_0
                     try clear hfz37_1
                     try clear hfz37_2
                     try clear hfz37_3
                     try clear hfz41_0
                     try clear hfz41_1
                     try clear hfz41_2
                     try clear hfz41_3
                     try clear hfz45_0
                     try clear hfz45_1
                     try clear hfz45_2
                     try clear hfz57_0
                     try clear hfz57_1
                     try clear hfz57_2
                     try clear hfz57_3
                     try clear hx246_0
                     try clear p1
                     try clear p14
                     try clear p16
                     try clear p2
                     try clear p22
                     try clear p24
                     try clear p246
                     try clear p3
                     try clear p31
                     try clear p6
                     try clear p8
                     try clear q1
                     try clear q14
                     try clear q16
                     try clear q2
                     try clear q22
                     try clear q24
                     try clear q246
                     try clear q3
                     try clear q31
                     try clear q8
                     obtain ⟨x10_6, x13_6, x252000_6, x252001_6, x252002_6, x252003_6, rfl, rfl, HA, HK6, HO_9, BK239, BK241, BK251, HB⟩ := hrel
                     cases gk with
                     | zero => exact absurd HA.out (by simp [chequerref06_Parse.l1])
                     | succ k6 =>
                      have H := HA.out; clear HA; simp only [chequerref06_Parse.l1] at H
                      by_cases c58 : x13_6 = 0
                      · rw [if_pos c58] at H
                        have c58b0 : (x13_6 == 0) = true := beq_iff_eq.mpr c58
                        have c58b1 : (x13_6 != 0) = false := bne_eq_false_iff_eq.mpr c58
                        clear c58
                        (first | rw [c58b0] | (simp only [i64_w, i32_w]; rw [c58b0]) | skip)
                        by_cases c59 : x10_6 < (a0.size : Int)
                        · rw [if_pos c59] at H
                          have c59b0 : decide (x10_6 < (a0.size : Int)) = true := decide_eq_true c59
                          clear c59
                          by_cases c60 : 0 ≤ x10_6
                          · rw [if_pos c60] at H
                            have c60b0 : decide (0 ≤ x10_6) = true := decide_eq_true c60
                            clear c60; replace H := Option.bind_eq_some_iff.mp H; obtain ⟨⟨t252, t253, t254, t255, t256⟩, A620, H⟩ := H
                            replace H : (chequerref06_Parse.l1 k6 a0 x8_32 t243 (wrap64 (x10_6 + 1)) x11_5 t256 (wrap64 ((wrap64 (bt a0 1)) - 48)) x242001_5 x242002_5 x242003_5 t252 t253 t254 t255) = some (r1, r2, r3, r4, r5, r6) := H
                            have A62 := Aside0.mk A620; clear A620
                            have H' := Aside0.mk H
                            clear H
                            try go_wp2
                            (try (rw [drewN_self wr]; generalize hq_ : World.drewN wr _ = wr; have n0_ := Aside0.mk (qrp_ hq_ HO_9.out); have n1_ := Aside0.mk (qhp_ hq_ BK239.out); have n2_ := Aside0.mk (qhp_ hq_ BK241.out); have n3_ := Aside0.mk (qhp_ hq_ BK251.out); have n4_ : Aside0 (Below w.heap.size w wr) := ⟨qbp_ hq_⟩; clear HO_9 BK239 BK241 BK251 HB hq_; have HO_9 := n0_; have BK239 := n1_; have BK241 := n2_; have BK251 := n3_; have HB := n4_; clear n0_ n1_ n2_ n3_ n4_))
                            replace HO_9 := Aside0.mk (Kd.R_drew HO_9.out); replace BK239 := Aside0.mk (blk_drew BK239.out); replace BK241 := Aside0.mk (blk_drew BK241.out); replace BK251 := Aside0.mk (blk_drew BK251.out); replace HB := Aside0.mk (below_drew1 HB.out)
                            have p61 : 0 ≤ (x10_6 : Int) := of_decide_eq_true (by first | (with_reducible assumption) | assumption)
                            have q61 : x10_6 < (a0.size : Int) := of_decide_eq_true (by first | (with_reducible assumption) | assumption)
                            have hx61 := bt_at a0 x10_6; replace p61 := eq_true p61; replace q61 := eq_true q61; refine start_ (n := 11) (S := fun w' => w'.cell? ⟨gb251, 0, none⟩ = some (.int .i64 x252000_6) ∧ w'.cell? ⟨gb251, 1, none⟩ = some (.int .i64 x252001_6) ∧ w'.cell? ⟨gb251, 2, none⟩ = some (.int .i64 x252002_6) ∧ w'.cell? ⟨gb251, 3, none⟩ = some (.int .i64 x252003_6)) (ds := []) #[false, false, false, false, false, false, false, false, false, false, false] (by kernel_rfl) rfl rfl ⟨(blk_cell BK251.out 0).trans rfl, (blk_cell BK251.out 1).trans rfl, (blk_cell BK251.out 2).trans rfl, (blk_cell BK251.out 3).trans rfl⟩ (fun hHeld => ?_); refine with_tabW chequerref06_Parse.tab22 chequerref06_Parse.bits22 (fun HT_ HW_ => ?_)
                            generalize wr.drew = w63 at HO_9 BK239 BK241 BK251 HB hHeld ⊢
                            refine pur_ (i := 1) (N := some 91) #[false, true, false, false, false, false, false, false, false, false, false] (any_of HT_.out (by kernel_rfl)) ?_; refine pur_ (i := 2) (N := some 92) #[false, true, true, false, false, false, false, false, false, false, false] (any_of HT_.out (by kernel_rfl)) ?_; refine take_ (i := 0) (N := some 90) (v := ?_) (a' := ?_) #[true, true, true, false, false, false, false, false, false, false, false] rfl rfl (take_ofW HT_.out HW_.out (by kernel_rfl)) (fun _ _ _ h => h) (Or.inl ⟨by rfl, ?_⟩) hHeld ?_ ?_; rotate_left
                            · rintro w' ⟨s0, s1, s2, s3⟩
                              go_simp; with_reducible rfl
                            rotate_left
                            · simp only [Act.put, List.setIfInBounds_toArray, List.set_cons_zero, List.set_cons_succ, i64_w, i32_w]; rfl
                            refine take_ (i := 3) (N := some 93) (v := ?_) (a' := ?_) #[true, true, true, true, false, false, false, false, false, false, false] rfl rfl (take_ofW HT_.out HW_.out (by kernel_rfl)) (fun _ _ _ h => h) (Or.inl ⟨by rfl, ?_⟩) hHeld ?_ ?_; rotate_left
                            · rintro w' ⟨s0, s1, s2, s3⟩
                              go_simp; with_reducible rfl
                            rotate_left
                            · simp only [Act.put, List.setIfInBounds_toArray, List.set_cons_zero, List.set_cons_succ, i64_w, i32_w]; rfl
                            refine join_ (σ := Nat) 2 Fl43 (fun s_ => [(94, .tuple #[.agg #[.int .i64 t252, .int .i64 t253, .int .i64 t254, .int .i64 t255], .int .i64 t256]), (14, .pointer (some ⟨s_, 0, none⟩)), (89, .tuple #[.agg #[.int .i64 t252, .int .i64 t253, .int .i64 t254, .int .i64 t255], .int .i64 t256]), (95, .agg #[.int .i64 t252, .int .i64 t253, .int .i64 t254, .int .i64 t255]), (96, .int .i64 t256)]) (fun s_ w' => (w'.cell? ⟨gb251, 0, none⟩ = some (.int .i64 x252000_6) ∧ w'.cell? ⟨gb251, 1, none⟩ = some (.int .i64 x252001_6) ∧ w'.cell? ⟨gb251, 2, none⟩ = some (.int .i64 x252002_6) ∧ w'.cell? ⟨gb251, 3, none⟩ = some (.int .i64 x252003_6)) ∧ (Kd.R (Kd.int .i64) 3 w' w.heap.size (fun _ => True) (.slice (some ad246) t243.length co52) t243) ∧ (w'.heap[gb239]? = some (.cells #[.int .i64 x240000_5, .int .i64 x240001_5, .int .i64 x240002_5, .int .i64 x240003_5] 25 (0, 0))) ∧ (w'.heap[gb241]? = some (.cells #[.int .i64 (wrap64 ((wrap64 (bt a0 1)) - 48)), .int .i64 x242001_5, .int .i64 x242002_5, .int .i64 x242003_5] 25 (0, 0))) ∧ (w'.heap[gb251]? = some (.cells #[.int .i64 x252000_6, .int .i64 x252001_6, .int .i64 x252002_6, .int .i64 x252003_6] 70 (0, 0))) ∧ (w'.heap[s_]? = some (.cells #[.int .i64 0, .int .i64 0, .int .i64 0, .int .i64 0] 70 (0, 0))) ∧ (w.heap.size ≤ s_) ∧ (w.heap.size ≤ s_) ∧ (gb239 ≠ s_) ∧ (s_ ≠ gb239) ∧ (gb241 ≠ s_) ∧ (s_ ≠ gb241) ∧ (gb251 ≠ s_) ∧ (s_ ≠ gb251) ∧ (Below w.heap.size w w')) ?_ ?_; rotate_left
                            · intro hCont
                              refine two_ (i := 4) (j := 8) (Ni := some 94) (Nj := some 14) #[true, true, true, true, true, false, false, false, false, false, false] #[true, true, true, true, false, false, false, false, true, false, false] rfl rfl rfl rfl (two_of HT_.out (by kernel_rfl)) (by decide) (by decide) (fun K hK => ?_) (fun K hK => ?_)
                              · skip
                                refine goes_ Try.func36 (by kernel_rfl) rfl #[.agg #[.int .i64 x252000_6, .int .i64 x252001_6, .int .i64 x252002_6, .int .i64 x252003_6], .int .u8 (bt a0 x10_6)] (by rfl) rfl rfl (by (try simp only [List.map_toArray, List.map_cons, List.map_nil]); first | done | rfl | (simp only [List.length_drop, List.length_take]; rfl)) ?_
                                with_reducible refine (chequerref05_Put.calls k6 x252000_6 x252001_6 x252002_6 x252003_6 (bt a0 x10_6) t252 t253 t254 t255 t256 _ A62.out).mono ?_
                                rintro e w64 ⟨rfl, hb⟩
                                refine ⟨_, rfl, ?_⟩; replace HO_9 := Aside0.mk (Kd.R_below (rp_ HO_9.out) hb); replace BK239 := Aside0.mk (blk_below (hp_ BK239.out) hb); replace BK241 := Aside0.mk (blk_below (hp_ BK241.out) hb); replace BK251 := Aside0.mk (blk_below (hp_ BK251.out) hb); replace HB := Aside0.mk (below_step bp_ hb)
                                (try clear hb)
                                (try clear hb2)
                                (try clear hk)
                                (try clear hi)
                                refine hK.out _ _ ⟨(blk_cell BK251.out 0).trans rfl, (blk_cell BK251.out 1).trans rfl, (blk_cell BK251.out 2).trans rfl, (blk_cell BK251.out 3).trans rfl⟩ (fun hHeld => ?_); clear hK K; refine norm_ (a' := ?_) ?_ ?_; rotate_left
                                · show Act.put _ (some 94) _ = _
                                  simp only [Act.put, List.setIfInBounds_toArray, List.set_cons_zero, List.set_cons_succ, i64_w, i32_w]; rfl
                                refine pur_ (i := 5) (N := some 89) #[true, true, true, true, true, true, false, false, false, false, false] (any_of HT_.out (by kernel_rfl)) ?_; refine pur_ (i := 6) (N := some 95) #[true, true, true, true, true, true, true, false, false, false, false] (any_of HT_.out (by kernel_rfl)) ?_; refine pur_ (i := 7) (N := some 96) #[true, true, true, true, true, true, true, true, false, false, false] (any_of HT_.out (by kernel_rfl)) ?_; refine one_ (i := 8) (N := some 14) Fl43 rfl rfl (one_of HT_.out (by kernel_rfl)) (by decide) (fun K hK => ?_); refine box_step ?hg (N := 14) ?hd (cs := #[.int .i64 0, .int .i64 0, .int .i64 0, .int .i64 0]) (t := 70) ?hr ?_; (case hd => rfl); (case hg => rfl); (case hr => first | (go_simp; done) | (go_simp; rfl))
                                intro gb257 hg w65 hbox hb
                                replace HO_9 := Aside0.mk (Kd.R_below (rp_ HO_9.out) hb); have BK257 := Aside0.mk (hbox); have GW257 := Aside0.mk ((by rw [hg]; exact (below_size bp_) : w.heap.size ≤ gb257)); have GE257 := Aside0.mk ((by rw [hg]; exact (below_size bp_) : w.heap.size ≤ gb257)); replace HB := Aside0.mk (below_step bp_ hb); have NB239_257 := Aside0.mk ((nlt_ hg (hp_ BK239.out))); have NB257_239 := Aside0.mk ((ngt_ hg (hp_ BK239.out))); replace BK239 := Aside0.mk (blk_below (hp_ BK239.out) hb); have NB241_257 := Aside0.mk ((nlt_ hg (hp_ BK241.out))); have NB257_241 := Aside0.mk ((ngt_ hg (hp_ BK241.out))); replace BK241 := Aside0.mk (blk_below (hp_ BK241.out) hb); have NB251_257 := Aside0.mk ((nlt_ hg (hp_ BK251.out))); have NB257_251 := Aside0.mk ((ngt_ hg (hp_ BK251.out))); replace BK251 := Aside0.mk (blk_below (hp_ BK251.out) hb); clear hb hbox hg; refine hK.out _ _ ⟨(blk_cell BK251.out 0).trans rfl, (blk_cell BK251.out 1).trans rfl, (blk_cell BK251.out 2).trans rfl, (blk_cell BK251.out 3).trans rfl⟩ (fun hHeld => ?_); clear hK K; refine norm_ (a' := ?_) ?_ ?_; rotate_left
                                · show Act.put _ (some 14) _ = _
                                  simp only [Act.put, List.setIfInBounds_toArray, List.set_cons_zero, List.set_cons_succ, i64_w, i32_w]; rfl
                                exact norm_ (by simp only [putAll, Act.put, List.setIfInBounds_toArray, List.set_cons_zero, List.set_cons_succ]) (hCont (gb257) _ ⟨hHeld, (rp_ HO_9.out), (hp_ BK239.out), (hp_ BK241.out), (hp_ BK251.out), (hp_ BK257.out), GW257.out, GE257.out, NB239_257.out, NB257_239.out, NB241_257.out, NB257_241.out, NB251_257.out, NB257_251.out, bp_⟩)
                              skip
                              refine box_step ?hg (N := 14) ?hd (cs := #[.int .i64 0, .int .i64 0, .int .i64 0, .int .i64 0]) (t := 70) ?hr ?_; (case hd => rfl); (case hg => rfl); (case hr => first | (go_simp; done) | (go_simp; rfl))
                              intro gb257 hg w64 hbox hb
                              replace HO_9 := Aside0.mk (Kd.R_below (rp_ HO_9.out) hb); have BK257 := Aside0.mk (hbox); have GW257 := Aside0.mk ((by rw [hg]; exact (below_size bp_) : w.heap.size ≤ gb257)); have GE257 := Aside0.mk ((by rw [hg]; exact (below_size bp_) : w.heap.size ≤ gb257)); replace HB := Aside0.mk (below_step bp_ hb); have NB239_257 := Aside0.mk ((nlt_ hg (hp_ BK239.out))); have NB257_239 := Aside0.mk ((ngt_ hg (hp_ BK239.out))); replace BK239 := Aside0.mk (blk_below (hp_ BK239.out) hb); have NB241_257 := Aside0.mk ((nlt_ hg (hp_ BK241.out))); have NB257_241 := Aside0.mk ((ngt_ hg (hp_ BK241.out))); replace BK241 := Aside0.mk (blk_below (hp_ BK241.out) hb); have NB251_257 := Aside0.mk ((nlt_ hg (hp_ BK251.out))); have NB257_251 := Aside0.mk ((ngt_ hg (hp_ BK251.out))); replace BK251 := Aside0.mk (blk_below (hp_ BK251.out) hb); clear hb hbox hg; refine hK.out _ _ ⟨(blk_cell BK251.out 0).trans rfl, (blk_cell BK251.out 1).trans rfl, (blk_cell BK251.out 2).trans rfl, (blk_cell BK251.out 3).trans rfl⟩ (fun hHeld => ?_); clear hK K; refine norm_ (a' := ?_) ?_ ?_; rotate_left
                              · show Act.put _ (some 14) _ = _
                                simp only [Act.put, List.setIfInBounds_toArray, List.set_cons_zero, List.set_cons_succ, i64_w, i32_w]; rfl
                              refine one_ (i := 4) (N := some 94) #[true, true, true, true, true, false, false, false, true, false, false] rfl rfl (one_of HT_.out (by kernel_rfl)) (by decide) (fun K hK => ?_); refine goes_ Try.func36 (by kernel_rfl) rfl #[.agg #[.int .i64 x252000_6, .int .i64 x252001_6, .int .i64 x252002_6, .int .i64 x252003_6], .int .u8 (bt a0 x10_6)] (by rfl) rfl rfl (by (try simp only [List.map_toArray, List.map_cons, List.map_nil]); first | done | rfl | (simp only [List.length_drop, List.length_take]; rfl)) ?_
                              with_reducible refine (chequerref05_Put.calls k6 x252000_6 x252001_6 x252002_6 x252003_6 (bt a0 x10_6) t252 t253 t254 t255 t256 _ A62.out).mono ?_
                              rintro e w65 ⟨rfl, hb⟩
                              refine ⟨_, rfl, ?_⟩; replace HO_9 := Aside0.mk (Kd.R_below (rp_ HO_9.out) hb); replace BK239 := Aside0.mk (blk_below (hp_ BK239.out) hb); replace BK241 := Aside0.mk (blk_below (hp_ BK241.out) hb); replace BK251 := Aside0.mk (blk_below (hp_ BK251.out) hb); replace BK257 := Aside0.mk (blk_below (hp_ BK257.out) hb); replace HB := Aside0.mk (below_step bp_ hb)
                              (try clear hb)
                              (try clear hb2)
                              (try clear hk)
                              (try clear hi)
                              refine hK.out _ _ ⟨(blk_cell BK251.out 0).trans rfl, (blk_cell BK251.out 1).trans rfl, (blk_cell BK251.out 2).trans rfl, (blk_cell BK251.out 3).trans rfl⟩ (fun hHeld => ?_); clear hK K; refine norm_ (a' := ?_) ?_ ?_; rotate_left
                              · show Act.put _ (some 94) _ = _
                                simp only [Act.put, List.setIfInBounds_toArray, List.set_cons_zero, List.set_cons_succ, i64_w, i32_w]; rfl
                              refine pur_ (i := 5) (N := some 89) #[true, true, true, true, true, true, false, false, true, false, false] (any_of HT_.out (by kernel_rfl)) ?_; refine pur_ (i := 6) (N := some 95) #[true, true, true, true, true, true, true, false, true, false, false] (any_of HT_.out (by kernel_rfl)) ?_; refine pur_ (i := 7) (N := some 96) Fl43 (any_of HT_.out (by kernel_rfl)) ?_
                              exact norm_ (by simp only [putAll, Act.put, List.setIfInBounds_toArray, List.set_cons_zero, List.set_cons_succ]) (hCont (gb257) _ ⟨hHeld, (rp_ HO_9.out), (hp_ BK239.out), (hp_ BK241.out), (hp_ BK251.out), (hp_ BK257.out), GW257.out, GE257.out, NB239_257.out, NB257_239.out, NB241_257.out, NB257_241.out, NB251_257.out, NB257_251.out, bp_⟩)
                            rintro gb257 w66 ⟨hS_, h0_, h1_, h2_, h3_, h4_, h5_, h6_, h7_, h8_, h9_, h10_, h11_, h12_, h13_⟩
                            replace HO_9 : Aside0 (Kd.R (Kd.int .i64) 3 w66 w.heap.size (fun _ => True) (.slice (some ad246) t243.length co52) t243) := ⟨h0_⟩
                            replace BK239 : Aside0 (w66.heap[gb239]? = some (.cells #[.int .i64 x240000_5, .int .i64 x240001_5, .int .i64 x240002_5, .int .i64 x240003_5] 25 (0, 0))) := ⟨h1_⟩
                            replace BK241 : Aside0 (w66.heap[gb241]? = some (.cells #[.int .i64 (wrap64 ((wrap64 (bt a0 1)) - 48)), .int .i64 x242001_5, .int .i64 x242002_5, .int .i64 x242003_5] 25 (0, 0))) := ⟨h2_⟩
                            replace BK251 : Aside0 (w66.heap[gb251]? = some (.cells #[.int .i64 x252000_6, .int .i64 x252001_6, .int .i64 x252002_6, .int .i64 x252003_6] 70 (0, 0))) := ⟨h3_⟩
                            have BK257 : Aside0 (w66.heap[gb257]? = some (.cells #[.int .i64 0, .int .i64 0, .int .i64 0, .int .i64 0] 70 (0, 0))) := ⟨h4_⟩
                            have GW257 : Aside0 (w.heap.size ≤ gb257) := ⟨h5_⟩
                            have GE257 : Aside0 (w.heap.size ≤ gb257) := ⟨h6_⟩
                            have NB239_257 : Aside0 (gb239 ≠ gb257) := ⟨h7_⟩
                            have NB257_239 : Aside0 (gb257 ≠ gb239) := ⟨h8_⟩
                            have NB241_257 : Aside0 (gb241 ≠ gb257) := ⟨h9_⟩
                            have NB257_241 : Aside0 (gb257 ≠ gb241) := ⟨h10_⟩
                            have NB251_257 : Aside0 (gb251 ≠ gb257) := ⟨h11_⟩
                            have NB257_251 : Aside0 (gb257 ≠ gb251) := ⟨h12_⟩
                            replace HB : Aside0 (Below w.heap.size w w66) := ⟨h13_⟩
                            clear h0_ h1_ h2_ h3_ h4_ h5_ h6_ h7_ h8_ h9_ h10_ h11_ h12_ h13_
                            have hHeld : w66.cell? ⟨gb251, 0, none⟩ = some (.int .i64 x252000_6) ∧ w66.cell? ⟨gb251, 1, none⟩ = some (.int .i64 x252001_6) ∧ w66.cell? ⟨gb251, 2, none⟩ = some (.int .i64 x252002_6) ∧ w66.cell? ⟨gb251, 3, none⟩ = some (.int .i64 x252003_6) := hS_
                            refine norm_ (a' := ?_) ?_ ?_; rotate_left
                            · simp only [putAll, Act.put, List.setIfInBounds_toArray, List.set_cons_zero, List.set_cons_succ]; rfl
                            refine one_ (i := 9) (N := none) #[true, true, true, true, true, true, true, true, true, true, false] rfl rfl (one_of HT_.out (by kernel_rfl)) (by decide) (fun K hK => ?_)
                            have hs67 : w66.cell? ⟨gb257, 0, none⟩ = some (.int .i64 0) := (blk_cell BK257.out 0).trans rfl
                            have hfs67 := blk_frozen BK257.out 0; have hns67_0 := NB239_257.out; have hns67_1 := NB241_257.out; have hns67_2 := NB251_257.out; have hms67_0 := NB257_239.out; have hms67_1 := NB257_241.out; have hms67_2 := NB257_251.out
                            have hs68 : w66.cell? ⟨gb257, 1, none⟩ = some (.int .i64 0) := (blk_cell BK257.out 1).trans rfl
                            have hfs68 := blk_frozen BK257.out 1; have hns68_0 := NB239_257.out; have hns68_1 := NB241_257.out; have hns68_2 := NB251_257.out; have hms68_0 := NB257_239.out; have hms68_1 := NB257_241.out; have hms68_2 := NB257_251.out
                            have hs69 : w66.cell? ⟨gb257, 2, none⟩ = some (.int .i64 0) := (blk_cell BK257.out 2).trans rfl
                            have hfs69 := blk_frozen BK257.out 2; have hns69_0 := NB239_257.out; have hns69_1 := NB241_257.out; have hns69_2 := NB251_257.out; have hms69_0 := NB257_239.out; have hms69_1 := NB257_241.out; have hms69_2 := NB257_251.out
                            have hs70 : w66.cell? ⟨gb257, 3, none⟩ = some (.int .i64 0) := (blk_cell BK257.out 3).trans rfl
                            have hfs70 := blk_frozen BK257.out 3; have hns70_0 := NB239_257.out; have hns70_1 := NB241_257.out; have hns70_2 := NB251_257.out; have hms70_0 := NB257_239.out; have hms70_1 := NB257_241.out; have hms70_2 := NB257_251.out; refine skip_ (w1 := ?_) (by rfl) rfl ?_ ?_; rotate_left
                            · go_simp; rfl
                            refine hK.out _ _ ⟨((cell_far (p := ⟨gb257, _, none⟩) NB251_257.out _).trans (((cell_far (p := ⟨gb257, _, none⟩) NB251_257.out _).trans (((cell_far (p := ⟨gb257, _, none⟩) NB251_257.out _).trans (((cell_far (p := ⟨gb257, _, none⟩) NB251_257.out _).trans (hHeld.1)))))))), ((cell_far (p := ⟨gb257, _, none⟩) NB251_257.out _).trans (((cell_far (p := ⟨gb257, _, none⟩) NB251_257.out _).trans (((cell_far (p := ⟨gb257, _, none⟩) NB251_257.out _).trans (((cell_far (p := ⟨gb257, _, none⟩) NB251_257.out _).trans (hHeld.2.1)))))))), ((cell_far (p := ⟨gb257, _, none⟩) NB251_257.out _).trans (((cell_far (p := ⟨gb257, _, none⟩) NB251_257.out _).trans (((cell_far (p := ⟨gb257, _, none⟩) NB251_257.out _).trans (((cell_far (p := ⟨gb257, _, none⟩) NB251_257.out _).trans (hHeld.2.2.1)))))))), ((cell_far (p := ⟨gb257, _, none⟩) NB251_257.out _).trans (((cell_far (p := ⟨gb257, _, none⟩) NB251_257.out _).trans (((cell_far (p := ⟨gb257, _, none⟩) NB251_257.out _).trans (((cell_far (p := ⟨gb257, _, none⟩) NB251_257.out _).trans (hHeld.2.2.2))))))))⟩ (fun hHeld => ?_); clear hK K; refine pur_ (i := 10) (N := some 15) #[true, true, true, true, true, true, true, true, true, true, true] (any_of HT_.out (by kernel_rfl)) ?_; refine done_ (done_of HT_.out (by kernel_rfl)) ?_; have hnb71 := NB257_239.out; have hnc71 := NB239_257.out; have hnb72 := NB257_241.out; have hnc72 := NB241_257.out; have hnb73 := NB257_251.out; have hnc73 := NB251_257.out
                            have hcz74_0 : w66.cell? ⟨gb257, 0, none⟩ = some (.int .i64 0) := (blk_cell BK257.out 0).trans rfl
                            have hcz74_1 : w66.cell? ⟨gb257, 1, none⟩ = some (.int .i64 0) := (blk_cell BK257.out 1).trans rfl
                            have hcz74_2 : w66.cell? ⟨gb257, 2, none⟩ = some (.int .i64 0) := (blk_cell BK257.out 2).trans rfl
                            have hcz74_3 : w66.cell? ⟨gb257, 3, none⟩ = some (.int .i64 0) := (blk_cell BK257.out 3).trans rfl
                            have hfz74_0 := blk_frozen BK257.out 0; have hfz74_1 := blk_frozen BK257.out 1; have hfz74_2 := blk_frozen BK257.out 2; have hfz74_3 := blk_frozen BK257.out 3; have hnb75 := NB251_239.out; have hnc75 := NB239_251.out; have hnb76 := NB251_241.out; have hnc76 := NB241_251.out
                            have hcz77_0 : w66.cell? ⟨gb251, 0, none⟩ = some (.int .i64 x252000_6) := (blk_cell BK251.out 0).trans rfl
                            have hcz77_1 : w66.cell? ⟨gb251, 1, none⟩ = some (.int .i64 x252001_6) := (blk_cell BK251.out 1).trans rfl
                            have hcz77_2 : w66.cell? ⟨gb251, 2, none⟩ = some (.int .i64 x252002_6) := (blk_cell BK251.out 2).trans rfl
                            have hcz77_3 : w66.cell? ⟨gb251, 3, none⟩ = some (.int .i64 x252003_6) := (blk_cell BK251.out 3).trans rfl
                            have hfz77_0 := blk_frozen BK251.out 0; have hfz77_1 := blk_frozen BK251.out 1; have hfz77_2 := blk_frozen BK251.out 2; have hfz77_3 := blk_frozen BK251.out 3
                            try go_wp2
                            go_roundg k6
                            case measure => have := HJ2.out; have := HJ10.out; have := HJ18.out; have := HJ32.out; have := HK5.out; have := HK6.out; omega
                            case rel => exact ⟨(wrap64 (x10_6 + 1)), (t256), (t252), (t253), (t254), (t255), (by first | rfl | (simp; done) | (simp [*]; done)), (by first | rfl | (simp; done) | (simp [*]; done)), H', ⟨by have := HJ2.out; have := HJ10.out; have := HJ18.out; have := HJ32.out; have := HK5.out; have := HK6.out; omega⟩, ⟨by (with_reducible repeat (first | apply Kd.R_alloc | apply Kd.R_drewN | apply Kd.R_drew)); exact Kd.R_mono (Kd.R_far (p := ⟨gb251, 3, none⟩) (Kd.R_far (p := ⟨gb251, 2, none⟩) (Kd.R_far (p := ⟨gb251, 1, none⟩) (Kd.R_far (p := ⟨gb251, 0, none⟩) (Kd.R_far (p := ⟨gb257, 3, none⟩) (Kd.R_far (p := ⟨gb257, 2, none⟩) (Kd.R_far (p := ⟨gb257, 1, none⟩) (Kd.R_far (p := ⟨gb257, 0, none⟩) (Kd.R_types (Kd.R_types HO_9.out BK257.out (by decide)) BK251.out (by decide)) (fun _ hk => hk.1.2) (.int .i64 t252)) (fun _ hk => hk.1.2) (.int .i64 t253)) (fun _ hk => hk.1.2) (.int .i64 t254)) (fun _ hk => hk.1.2) (.int .i64 t255)) (fun _ hk => hk.2) (.int .i64 t252)) (fun _ hk => hk.2) (.int .i64 t253)) (fun _ hk => hk.2) (.int .i64 t254)) (fun _ hk => hk.2) (.int .i64 t255)) (fun _ hk => trivial)⟩, ⟨by (with_reducible repeat (first | refine blk_drewN ?_ _ | refine blk_drew ?_ | refine blk_alloc ?_ _)); refine blk_far ?_ NB239_251.out _; (with_reducible repeat (first | refine blk_drewN ?_ _ | refine blk_drew ?_ | refine blk_alloc ?_ _)); refine blk_far ?_ NB239_251.out _; (with_reducible repeat (first | refine blk_drewN ?_ _ | refine blk_drew ?_ | refine blk_alloc ?_ _)); refine blk_far ?_ NB239_251.out _; (with_reducible repeat (first | refine blk_drewN ?_ _ | refine blk_drew ?_ | refine blk_alloc ?_ _)); refine blk_far ?_ NB239_251.out _; (with_reducible repeat (first | refine blk_drewN ?_ _ | refine blk_drew ?_ | refine blk_alloc ?_ _)); refine blk_far ?_ NB239_257.out _; (with_reducible repeat (first | refine blk_drewN ?_ _ | refine blk_drew ?_ | refine blk_alloc ?_ _)); refine blk_far ?_ NB239_257.out _; (with_reducible repeat (first | refine blk_drewN ?_ _ | refine blk_drew ?_ | refine blk_alloc ?_ _)); refine blk_far ?_ NB239_257.out _; (with_reducible repeat (first | refine blk_drewN ?_ _ | refine blk_drew ?_ | refine blk_alloc ?_ _)); refine blk_far ?_ NB239_257.out _; (with_reducible repeat (first | refine blk_drewN ?_ _ | refine blk_drew ?_ | refine blk_alloc ?_ _)); exact BK239.out⟩, ⟨by (with_reducible repeat (first | refine blk_drewN ?_ _ | refine blk_drew ?_ | refine blk_alloc ?_ _)); refine blk_far ?_ NB241_251.out _; (with_reducible repeat (first | refine blk_drewN ?_ _ | refine blk_drew ?_ | refine blk_alloc ?_ _)); refine blk_far ?_ NB241_251.out _; (with_reducible repeat (first | refine blk_drewN ?_ _ | refine blk_drew ?_ | refine blk_alloc ?_ _)); refine blk_far ?_ NB241_251.out _; (with_reducible repeat (first | refine blk_drewN ?_ _ | refine blk_drew ?_ | refine blk_alloc ?_ _)); refine blk_far ?_ NB241_251.out _; (with_reducible repeat (first | refine blk_drewN ?_ _ | refine blk_drew ?_ | refine blk_alloc ?_ _)); refine blk_far ?_ NB241_257.out _; (with_reducible repeat (first | refine blk_drewN ?_ _ | refine blk_drew ?_ | refine blk_alloc ?_ _)); refine blk_far ?_ NB241_257.out _; (with_reducible repeat (first | refine blk_drewN ?_ _ | refine blk_drew ?_ | refine blk_alloc ?_ _)); refine blk_far ?_ NB241_257.out _; (with_reducible repeat (first | refine blk_drewN ?_ _ | refine blk_drew ?_ | refine blk_alloc ?_ _)); refine blk_far ?_ NB241_257.out _; (with_reducible repeat (first | refine blk_drewN ?_ _ | refine blk_drew ?_ | refine blk_alloc ?_ _)); exact BK241.out⟩, ⟨by (with_reducible repeat (first | refine blk_drewN ?_ _ | refine blk_drew ?_ | refine blk_alloc ?_ _)); refine blk_put (cs := #[.int .i64 t252, .int .i64 t253, .int .i64 t254, .int .i64 x252003_6]) ?_ 3 _ rfl; (with_reducible repeat (first | refine blk_drewN ?_ _ | refine blk_drew ?_ | refine blk_alloc ?_ _)); refine blk_put (cs := #[.int .i64 t252, .int .i64 t253, .int .i64 x252002_6, .int .i64 x252003_6]) ?_ 2 _ rfl; (with_reducible repeat (first | refine blk_drewN ?_ _ | refine blk_drew ?_ | refine blk_alloc ?_ _)); refine blk_put (cs := #[.int .i64 t252, .int .i64 x252001_6, .int .i64 x252002_6, .int .i64 x252003_6]) ?_ 1 _ rfl; (with_reducible repeat (first | refine blk_drewN ?_ _ | refine blk_drew ?_ | refine blk_alloc ?_ _)); refine blk_put (cs := #[.int .i64 x252000_6, .int .i64 x252001_6, .int .i64 x252002_6, .int .i64 x252003_6]) ?_ 0 _ rfl; (with_reducible repeat (first | refine blk_drewN ?_ _ | refine blk_drew ?_ | refine blk_alloc ?_ _)); refine blk_far ?_ NB251_257.out _; (with_reducible repeat (first | refine blk_drewN ?_ _ | refine blk_drew ?_ | refine blk_alloc ?_ _)); refine blk_far ?_ NB251_257.out _; (with_reducible repeat (first | refine blk_drewN ?_ _ | refine blk_drew ?_ | refine blk_alloc ?_ _)); refine blk_far ?_ NB251_257.out _; (with_reducible repeat (first | refine blk_drewN ?_ _ | refine blk_drew ?_ | refine blk_alloc ?_ _)); refine blk_far ?_ NB251_257.out _; (with_reducible repeat (first | refine blk_drewN ?_ _ | refine blk_drew ?_ | refine blk_alloc ?_ _)); exact BK251.out⟩, ⟨bp_⟩⟩
                          rw [if_neg c60] at H
                          exact absurd H (by simp)
                        rw [if_neg c59] at H
                        have c59b0 : decide (x10_6 < (a0.size : Int)) = false := decide_eq_false c59
                        clear c59
                        have H' := Aside0.mk H
                        clear H
                        go_wp2
                        go_meet
                        case rel => exact ⟨_, (x10_6), (x13_6), (x252000_6), (x252001_6), (x252002_6), (x252003_6), (by first | rfl | (simp; done) | (simp [*]; done)), (by first | rfl | (simp; done) | (simp [*]; done)), H', ⟨by have := HJ2.out; have := HJ10.out; have := HJ18.out; have := HJ32.out; have := HK5.out; have := HK6.out; first | omega | exact Nat.le_refl _⟩, ⟨rp_ HO_9.out⟩, ⟨hp_ BK239.out⟩, ⟨hp_ BK241.out⟩, ⟨hp_ BK251.out⟩, ⟨bp_⟩⟩
                      rw [if_neg c58] at H
                      have c58b0 : (x13_6 == 0) = false := beq_eq_false_iff_ne.mpr c58
                      have c58b1 : (x13_6 != 0) = true := bne_iff_ne.mpr c58
                      (first | rw [c58b0] | (simp only [i64_w, i32_w]; rw [c58b0]) | skip)
                      have H' := Aside0.mk H
                      clear H
                      go_wp2
                      go_meet
                      case rel => exact ⟨_, (x10_6), (x13_6), (x252000_6), (x252001_6), (x252002_6), (x252003_6), (by first | rfl | (simp; done) | (simp [*]; done)), (by first | rfl | (simp; done) | (simp [*]; done)), H', ⟨by have := HJ2.out; have := HJ10.out; have := HJ18.out; have := HJ32.out; have := HK5.out; have := HK6.out; first | omega | exact Nat.le_refl _⟩, ⟨rp_ HO_9.out⟩, ⟨hp_ BK239.out⟩, ⟨hp_ BK241.out⟩, ⟨hp_ BK251.out⟩, ⟨bp_⟩⟩
                   case rest =>
                    clear HC51
                    try clear c1
                    try clear p1
                    try clear q1
                    try clear hx1
                    try clear qi1
                    try clear c2
                    try clear p2
                    try clear q2
                    try clear hx2
                    try clear qi2
                    try clear c3
                    try clear p3
                    try clear q3
                    try clear hx3
                    try clear qi3
                    try clear c4
                    try clear c5
                    try clear c6
                    try clear c6b0
                    try clear c6b1
                    try clear p6
                    try clear q6
                    try clear hx6
                    try clear c7
                    try clear c7b0
                    try clear c7b1
                    try clear p8
                    try clear q8
                    try clear hx8
                    try clear qi8
                    try clear c9
                    try clear c12
                    try clear c12b0
                    try clear c12b1
                    try clear c13
                    try clear c13b0
                    try clear c13b1
                    try clear p14
                    try clear q14
                    try clear hx14
                    try clear qi14
                    try clear c15
                    try clear c15b0
                    try clear c16
                    try clear p16
                    try clear q16
                    try clear hx16
                    try clear qi16
                    try clear c17
                    try clear c20
                    try clear c20b0
                    try clear c20b1
                    try clear c21
                    try clear c21b0
                    try clear c21b1
                    try clear p22
                    try clear q22
                    try clear hx22
                    try clear qi22
                    try clear c23
                    try clear c23b0
                    try clear c23b1
                    try clear p24
                    try clear q24
                    try clear hx24
                    try clear qi24
                    try clear c26
                    try clear c28
                    try clear c28b0
                    try clear c28b1
                    try clear c30
                    try clear c30b0
                    try clear c30b1
                    try clear p31
                    try clear q31
                    try clear hx31
                    try clear qi31
                    try clear c32
                    try clear c34
                    try clear c35
                    try clear c36
                    try clear c38
                    try clear c39
                    try clear c40
                    try clear c43
                    try clear c44
                    try clear c47
                    try clear c47b0
                    try clear c48
                    try clear c48b0
                    try clear c49
                    try clear c49b0
                    try clear c55
                    try clear c56
                    try clear c58
                    try clear c58b0
                    try clear c58b1
                    try clear c59
                    try clear c59b0
                    try clear c60
                    try clear c60b0
                    try clear p61
                    try clear q61
                    try clear hx61
                    try clear p64
                    try clear c71
                    try clear c72
                    try clear c73
                    try clear c75
                    try clear c76
                    try clear hcz10_0
                    try clear hcz10_1
                    try clear hcz10_2
                    try clear hcz10_3
                    try clear hcz18_0
                    try clear hcz18_1
                    try clear hcz18_2
                    try clear hcz18_3
                    try clear hcz27_0
                    try clear hcz27_1
                    try clear hcz27_2
                    try clear hcz27_3
                    try clear hcz29_0
                    try clear hcz29_1
                    try clear hcz29_2
                    try clear hcz29_3
                    try clear hcz37_0
                    try clear hcz37_1
                    try clear hcz37_2
                    try clear hcz37_3
                    try clear hcz41_0
                    try clear hcz41_1
                    try clear hcz41_2
                    try clear hcz41_3
                    try clear hcz45_0
                    try clear hcz45_1
                    try clear hcz45_2
                    try clear hcz57_0
                    try clear hcz57_1
                    try clear hcz57_2
                    try clear hcz57_3
                    try clear hcz74_0
                    try clear hcz74_1
                    try clear hcz74_2
                    try clear hcz74_3
                    try clear hcz77_0
                    try clear hcz77_1
                    try clear hcz77_2
                    try clear hcz77_3
                    try clear hfz10_0
                    try clear hfz10_1
                    try clear hfz10_2
                    try clear hfz10_3
                    try clear hfz18_0
                    try clear hfz18_1
                    try clear hfz18_2
                    try clear hfz18_3
                    try clear hfz27_0
                    try clear hfz27_1
                    try clear hfz27_2
                    try clear hfz27_3
                    try clear hfz29_0
                    try clear hfz29_1
                    try clear hfz29_2
                    try clear hfz29_3
                    try clear hfz37_0
                    try clear hfz37_1
                    try clear hfz37_2
                    try clear hfz37_3
                    try clear hfz41_0
                    try clear hfz41_1
                    try clear hfz41_2
                    try clear hfz41_3
                    try clear hfz45_0
                    try clear hfz45_1
                    try clear hfz45_2
                    try clear hfz57_0
                    try clear hfz57_1
                    try clear hfz57_2
                    try clear hfz57_3
                    try clear hfz74_0
                    try clear hfz74_1
                    try clear hfz74_2
                    try clear hfz74_3
                    try clear hfz77_0
                    try clear hfz77_1
                    try clear hfz77_2
                    try clear hfz77_3
                    try clear hx246_0
                    try clear p1
                    try clear p14
                    try clear p16
                    try clear p2
                    try clear p22
                    try clear p24
                    try clear p246
                    try clear p3
                    try clear p31
                    try clear p6
                    try clear p61
                    try clear p8
                    try clear q1
                    try clear q14
                    try clear q16
                    try clear q2
                    try clear q22
                    try clear q24
                    try clear q246
                    try clear q3
                    try clear q31
                    try clear q61
                    try clear q8
                    obtain ⟨kq, x10_50, x13_50, x252000_50, x252001_50, x252002_50, x252003_50, rfl, rfl, HA, HJ50, HO_9, BK239, BK241, BK251, HB⟩ := hcut
                    cases kq with
                    | zero => exact absurd HA.out (by simp [chequerref06_Parse.j6])
                    | succ kj50 =>
                     have H := HA.out; clear HA; simp only [chequerref06_Parse.j6] at H
                     by_cases c78 : x13_50 = 0
                     · rw [if_pos c78] at H
                       have c78b0 : (x13_50 == 0) = true := beq_iff_eq.mpr c78
                       have c78b1 : (x13_50 != 0) = false := bne_eq_false_iff_eq.mpr c78
                       clear c78; simp only [Option.some.injEq, Prod.mk.injEq] at H; obtain ⟨rfl, rfl, rfl, rfl, rfl, rfl⟩ := H
                       have hcz79_0 : wc.cell? ⟨gb239, 0, none⟩ = some (.int .i64 x240000_5) := (blk_cell BK239.out 0).trans rfl
                       have hcz79_1 : wc.cell? ⟨gb239, 1, none⟩ = some (.int .i64 x240001_5) := (blk_cell BK239.out 1).trans rfl
                       have hcz79_2 : wc.cell? ⟨gb239, 2, none⟩ = some (.int .i64 x240002_5) := (blk_cell BK239.out 2).trans rfl
                       have hcz79_3 : wc.cell? ⟨gb239, 3, none⟩ = some (.int .i64 x240003_5) := (blk_cell BK239.out 3).trans rfl
                       have hfz79_0 := blk_frozen BK239.out 0; have hfz79_1 := blk_frozen BK239.out 1; have hfz79_2 := blk_frozen BK239.out 2; have hfz79_3 := blk_frozen BK239.out 3
                       go_wp2
                       refine bodyPost_ret (results_ctt rfl _ _ gb239 25 #[.int .i64 0, .int .i64 0, .int .i64 0, .int .i64 0] (0, 0) _ rfl (by (with_reducible repeat (first | refine blk_drewN ?_ _ | refine blk_drew ?_ | refine blk_alloc ?_ _)); refine blk_put (cs := #[.int .i64 0, .int .i64 0, .int .i64 0, .int .i64 x240003_5]) ?_ 3 _ rfl; (with_reducible repeat (first | refine blk_drewN ?_ _ | refine blk_drew ?_ | refine blk_alloc ?_ _)); refine blk_put (cs := #[.int .i64 0, .int .i64 0, .int .i64 x240002_5, .int .i64 x240003_5]) ?_ 2 _ rfl; (with_reducible repeat (first | refine blk_drewN ?_ _ | refine blk_drew ?_ | refine blk_alloc ?_ _)); refine blk_put (cs := #[.int .i64 0, .int .i64 x240001_5, .int .i64 x240002_5, .int .i64 x240003_5]) ?_ 1 _ rfl; (with_reducible repeat (first | refine blk_drewN ?_ _ | refine blk_drew ?_ | refine blk_alloc ?_ _)); refine blk_put (cs := #[.int .i64 x240000_5, .int .i64 x240001_5, .int .i64 x240002_5, .int .i64 x240003_5]) ?_ 0 _ rfl; (with_reducible repeat (first | refine blk_drewN ?_ _ | refine blk_drew ?_ | refine blk_alloc ?_ _)); exact BK239.out) Try.underlying25 rfl (by kernel_rfl)) rfl ?_
                       exact ⟨by first | rfl | (simp [errW_none, errW_some] <;> rfl) | (simp [*, errW_none, errW_some] <;> rfl), bp_⟩
                     rw [if_neg c78] at H
                     have c78b0 : (x13_50 == 0) = false := beq_eq_false_iff_ne.mpr c78
                     have c78b1 : (x13_50 != 0) = true := bne_iff_ne.mpr c78
                     by_cases c80 : x13_50 = 2
                     · rw [if_pos c80] at H
                       have c80b0 : (x13_50 == 2) = true := beq_iff_eq.mpr c80
                       have c80b1 : (x13_50 != 2) = false := bne_eq_false_iff_eq.mpr c80
                       clear c80; simp only [Option.some.injEq, Prod.mk.injEq] at H; obtain ⟨rfl, rfl, rfl, rfl, rfl, rfl⟩ := H
                       try go_wp2
                       (try (rw [drewN_self wc]; generalize hq_ : World.drewN wc _ = wc; have n0_ := Aside0.mk (qrp_ hq_ HO_9.out); have n1_ := Aside0.mk (qhp_ hq_ BK239.out); have n2_ := Aside0.mk (qhp_ hq_ BK251.out); have n3_ : Aside0 (Below w.heap.size w wc) := ⟨qbp_ hq_⟩; clear HO_9 BK239 BK251 HB hq_; have HO_9 := n0_; have BK239 := n1_; have BK251 := n2_; have HB := n3_; clear n0_ n1_ n2_ n3_))
                       replace HO_9 := Aside0.mk (Kd.R_drew HO_9.out); replace BK239 := Aside0.mk (blk_drew BK239.out); replace BK251 := Aside0.mk (blk_drew BK251.out); replace HB := Aside0.mk (below_drew1 HB.out); refine start_ (n := 7) (S := fun w' => w'.cell? ⟨gb251, 0, none⟩ = some (.int .i64 x252000_50) ∧ w'.cell? ⟨gb251, 1, none⟩ = some (.int .i64 x252001_50) ∧ w'.cell? ⟨gb251, 2, none⟩ = some (.int .i64 x252002_50) ∧ w'.cell? ⟨gb251, 3, none⟩ = some (.int .i64 x252003_50)) (ds := []) #[false, false, false, false, false, false, false] (by kernel_rfl) rfl rfl ⟨(blk_cell BK251.out 0).trans rfl, (blk_cell BK251.out 1).trans rfl, (blk_cell BK251.out 2).trans rfl, (blk_cell BK251.out 3).trans rfl⟩ (fun hHeld => ?_)
                       generalize wc.drew = w81 at HO_9 BK239 BK251 HB hHeld ⊢
                       refine pure_ (i := 0) (N := some 107) (v := ?_) (a' := ?_) #[true, false, false, false, false, false, false] rfl rfl (by kernel_rfl) (fun _ _ _ h => h) (Or.inl ⟨by rfl, ?_⟩) ?_ ?_; rotate_left
                       · intro w'; go_simp; with_reducible rfl
                       rotate_left
                       · simp only [Act.put, List.setIfInBounds_toArray, List.set_cons_zero, List.set_cons_succ, i64_w, i32_w]; rfl
                       refine pure_ (i := 1) (N := some 108) (v := ?_) (a' := ?_) #[true, true, false, false, false, false, false] rfl rfl (by kernel_rfl) (fun _ _ _ h => h) (Or.inl ⟨by rfl, ?_⟩) ?_ ?_; rotate_left
                       · intro w'; go_simp; with_reducible rfl
                       rotate_left
                       · simp only [Act.put, List.setIfInBounds_toArray, List.set_cons_zero, List.set_cons_succ, i64_w, i32_w]; rfl
                       refine pure_ (i := 2) (N := some 109) (v := ?_) (a' := ?_) #[true, true, true, false, false, false, false] rfl rfl (by kernel_rfl) (fun _ _ _ h => h) (Or.inl ⟨by rfl, ?_⟩) ?_ ?_; rotate_left
                       · intro w'; go_simp; with_reducible rfl
                       rotate_left
                       · simp only [Act.put, List.setIfInBounds_toArray, List.set_cons_zero, List.set_cons_succ, i64_w, i32_w]; rfl
                       refine take_ (i := 3) (N := some 110) (v := ?_) (a' := ?_) #[true, true, true, true, false, false, false] rfl rfl (by kernel_rfl) (fun _ _ _ h => h) (Or.inl ⟨by rfl, ?_⟩) hHeld ?_ ?_; rotate_left
                       · rintro w' ⟨s0, s1, s2, s3⟩
                         go_simp; with_reducible rfl
                       rotate_left
                       · simp only [Act.put, List.setIfInBounds_toArray, List.set_cons_zero, List.set_cons_succ, i64_w, i32_w]; rfl
                       refine one_ (i := 4) (N := none) #[true, true, true, true, true, false, false] rfl rfl (by kernel_rfl) (by decide) (fun K hK => ?_)
                       have hs82 : w81.cell? ⟨gb239, 0, none⟩ = some (.int .i64 x240000_5) := (blk_cell BK239.out 0).trans rfl
                       have hfs82 := blk_frozen BK239.out 0; have hns82_1 := NB251_239.out; have hms82_1 := NB239_251.out
                       have hs83 : w81.cell? ⟨gb239, 1, none⟩ = some (.int .i64 x240001_5) := (blk_cell BK239.out 1).trans rfl
                       have hfs83 := blk_frozen BK239.out 1; have hns83_1 := NB251_239.out; have hms83_1 := NB239_251.out
                       have hs84 : w81.cell? ⟨gb239, 2, none⟩ = some (.int .i64 x240002_5) := (blk_cell BK239.out 2).trans rfl
                       have hfs84 := blk_frozen BK239.out 2; have hns84_1 := NB251_239.out; have hms84_1 := NB239_251.out
                       have hs85 : w81.cell? ⟨gb239, 3, none⟩ = some (.int .i64 x240003_5) := (blk_cell BK239.out 3).trans rfl
                       have hfs85 := blk_frozen BK239.out 3; have hns85_1 := NB251_239.out; have hms85_1 := NB239_251.out; refine skip_ (w1 := ?_) (by rfl) rfl ?_ ?_; rotate_left
                       · go_simp; rfl
                       refine hK.out _ _ ⟨((cell_far (p := ⟨gb239, _, none⟩) NB251_239.out _).trans (((cell_far (p := ⟨gb239, _, none⟩) NB251_239.out _).trans (((cell_far (p := ⟨gb239, _, none⟩) NB251_239.out _).trans (((cell_far (p := ⟨gb239, _, none⟩) NB251_239.out _).trans (hHeld.1)))))))), ((cell_far (p := ⟨gb239, _, none⟩) NB251_239.out _).trans (((cell_far (p := ⟨gb239, _, none⟩) NB251_239.out _).trans (((cell_far (p := ⟨gb239, _, none⟩) NB251_239.out _).trans (((cell_far (p := ⟨gb239, _, none⟩) NB251_239.out _).trans (hHeld.2.1)))))))), ((cell_far (p := ⟨gb239, _, none⟩) NB251_239.out _).trans (((cell_far (p := ⟨gb239, _, none⟩) NB251_239.out _).trans (((cell_far (p := ⟨gb239, _, none⟩) NB251_239.out _).trans (((cell_far (p := ⟨gb239, _, none⟩) NB251_239.out _).trans (hHeld.2.2.1)))))))), ((cell_far (p := ⟨gb239, _, none⟩) NB251_239.out _).trans (((cell_far (p := ⟨gb239, _, none⟩) NB251_239.out _).trans (((cell_far (p := ⟨gb239, _, none⟩) NB251_239.out _).trans (((cell_far (p := ⟨gb239, _, none⟩) NB251_239.out _).trans (hHeld.2.2.2))))))))⟩ (fun hHeld => ?_); clear hK K; refine pure_ (i := 5) (N := some 5) (v := ?_) (a' := ?_) #[true, true, true, true, true, true, false] rfl rfl (by kernel_rfl) (fun _ _ _ h => h) (Or.inl ⟨by rfl, ?_⟩) ?_ ?_; rotate_left
                       · intro w'; go_simp; with_reducible rfl
                       rotate_left
                       · simp only [Act.put, List.setIfInBounds_toArray, List.set_cons_zero, List.set_cons_succ, i64_w, i32_w]; rfl
                       refine pure_ (i := 6) (N := some 6) (v := ?_) (a' := ?_) #[true, true, true, true, true, true, true] rfl rfl (by kernel_rfl) (fun _ _ _ h => h) (Or.inl ⟨by rfl, ?_⟩) ?_ ?_; rotate_left
                       · intro w'; go_simp; with_reducible rfl
                       rotate_left
                       · simp only [Act.put, List.setIfInBounds_toArray, List.set_cons_zero, List.set_cons_succ, i64_w, i32_w]; rfl
                       refine done_ (by kernel_rfl) ?_
                       try go_wp2
                       refine bodyPost_ret (results_ctt rfl _ _ gb239 25 #[.int .i64 0, .int .i64 0, .int .i64 0, .int .i64 0] (0, 0) _ rfl (by (with_reducible repeat (first | refine blk_drewN ?_ _ | refine blk_drew ?_ | refine blk_alloc ?_ _)); refine blk_put (cs := #[.int .i64 0, .int .i64 0, .int .i64 0, .int .i64 x240003_5]) ?_ 3 _ rfl; (with_reducible repeat (first | refine blk_drewN ?_ _ | refine blk_drew ?_ | refine blk_alloc ?_ _)); refine blk_put (cs := #[.int .i64 0, .int .i64 0, .int .i64 x240002_5, .int .i64 x240003_5]) ?_ 2 _ rfl; (with_reducible repeat (first | refine blk_drewN ?_ _ | refine blk_drew ?_ | refine blk_alloc ?_ _)); refine blk_put (cs := #[.int .i64 0, .int .i64 x240001_5, .int .i64 x240002_5, .int .i64 x240003_5]) ?_ 1 _ rfl; (with_reducible repeat (first | refine blk_drewN ?_ _ | refine blk_drew ?_ | refine blk_alloc ?_ _)); refine blk_put (cs := #[.int .i64 x240000_5, .int .i64 x240001_5, .int .i64 x240002_5, .int .i64 x240003_5]) ?_ 0 _ rfl; (with_reducible repeat (first | refine blk_drewN ?_ _ | refine blk_drew ?_ | refine blk_alloc ?_ _)); exact BK239.out) Try.underlying25 rfl (by kernel_rfl)) rfl ?_
                       exact ⟨by first | rfl | (simp [errW_none, errW_some] <;> rfl) | (simp [*, errW_none, errW_some] <;> rfl), bp_⟩
                     rw [if_neg c80] at H
                     have c80b0 : (x13_50 == 2) = false := beq_eq_false_iff_ne.mpr c80
                     have c80b1 : (x13_50 != 2) = true := bne_iff_ne.mpr c80
                     by_cases c86 : x252001_50 = 0
                     · rw [if_pos c86] at H
                       have c86b0 : (x252001_50 == 0) = true := beq_iff_eq.mpr c86
                       have c86b1 : (x252001_50 != 0) = false := bne_eq_false_iff_eq.mpr c86
                       clear c86; simp only [Option.some.injEq, Prod.mk.injEq] at H; obtain ⟨rfl, rfl, rfl, rfl, rfl, rfl⟩ := H; have hnb87 := NB251_239.out; have hnc87 := NB239_251.out
                       have hcz88_0 : wc.cell? ⟨gb251, 0, none⟩ = some (.int .i64 x252000_50) := (blk_cell BK251.out 0).trans rfl
                       have hcz88_1 : wc.cell? ⟨gb251, 1, none⟩ = some (.int .i64 x252001_50) := (blk_cell BK251.out 1).trans rfl
                       have hcz88_2 : wc.cell? ⟨gb251, 2, none⟩ = some (.int .i64 x252002_50) := (blk_cell BK251.out 2).trans rfl
                       have hcz88_3 : wc.cell? ⟨gb251, 3, none⟩ = some (.int .i64 x252003_50) := (blk_cell BK251.out 3).trans rfl
                       have hfz88_0 := blk_frozen BK251.out 0; have hfz88_1 := blk_frozen BK251.out 1; have hfz88_2 := blk_frozen BK251.out 2; have hfz88_3 := blk_frozen BK251.out 3
                       have hcz89_0 : wc.cell? ⟨gb239, 0, none⟩ = some (.int .i64 x240000_5) := (blk_cell BK239.out 0).trans rfl
                       have hcz89_1 : wc.cell? ⟨gb239, 1, none⟩ = some (.int .i64 x240001_5) := (blk_cell BK239.out 1).trans rfl
                       have hcz89_2 : wc.cell? ⟨gb239, 2, none⟩ = some (.int .i64 x240002_5) := (blk_cell BK239.out 2).trans rfl
                       have hcz89_3 : wc.cell? ⟨gb239, 3, none⟩ = some (.int .i64 x240003_5) := (blk_cell BK239.out 3).trans rfl
                       have hfz89_0 := blk_frozen BK239.out 0; have hfz89_1 := blk_frozen BK239.out 1; have hfz89_2 := blk_frozen BK239.out 2; have hfz89_3 := blk_frozen BK239.out 3
                       go_wp2
                       refine bodyPost_ret (results_ctt rfl _ _ gb239 25 #[.int .i64 0, .int .i64 0, .int .i64 0, .int .i64 0] (0, 0) _ rfl (by (with_reducible repeat (first | refine blk_drewN ?_ _ | refine blk_drew ?_ | refine blk_alloc ?_ _)); refine blk_put (cs := #[.int .i64 0, .int .i64 0, .int .i64 0, .int .i64 x240003_5]) ?_ 3 _ rfl; (with_reducible repeat (first | refine blk_drewN ?_ _ | refine blk_drew ?_ | refine blk_alloc ?_ _)); refine blk_put (cs := #[.int .i64 0, .int .i64 0, .int .i64 x240002_5, .int .i64 x240003_5]) ?_ 2 _ rfl; (with_reducible repeat (first | refine blk_drewN ?_ _ | refine blk_drew ?_ | refine blk_alloc ?_ _)); refine blk_put (cs := #[.int .i64 0, .int .i64 x240001_5, .int .i64 x240002_5, .int .i64 x240003_5]) ?_ 1 _ rfl; (with_reducible repeat (first | refine blk_drewN ?_ _ | refine blk_drew ?_ | refine blk_alloc ?_ _)); refine blk_put (cs := #[.int .i64 x240000_5, .int .i64 x240001_5, .int .i64 x240002_5, .int .i64 x240003_5]) ?_ 0 _ rfl; (with_reducible repeat (first | refine blk_drewN ?_ _ | refine blk_drew ?_ | refine blk_alloc ?_ _)); exact BK239.out) Try.underlying25 rfl (by kernel_rfl)) rfl ?_
                       exact ⟨by first | rfl | (simp [errW_none, errW_some] <;> rfl) | (simp [*, errW_none, errW_some] <;> rfl), bp_⟩
                     rw [if_neg c86] at H
                     have c86b0 : (x252001_50 == 0) = false := beq_eq_false_iff_ne.mpr c86
                     have c86b1 : (x252001_50 != 0) = true := bne_iff_ne.mpr c86
                     by_cases c90 : x11_5 = 0
                     · rw [if_pos c90] at H
                       have c90b0 : (x11_5 == 0) = true := beq_iff_eq.mpr c90
                       have c90b1 : (x11_5 != 0) = false := bne_eq_false_iff_eq.mpr c90
                       clear c90
                       have H' := Aside0.mk H
                       clear H; have hnb91 := NB251_239.out; have hnc91 := NB239_251.out; have hnb92 := NB251_241.out; have hnc92 := NB241_251.out
                       have hcz93_0 : wc.cell? ⟨gb251, 0, none⟩ = some (.int .i64 x252000_50) := (blk_cell BK251.out 0).trans rfl
                       have hcz93_1 : wc.cell? ⟨gb251, 1, none⟩ = some (.int .i64 x252001_50) := (blk_cell BK251.out 1).trans rfl
                       have hcz93_2 : wc.cell? ⟨gb251, 2, none⟩ = some (.int .i64 x252002_50) := (blk_cell BK251.out 2).trans rfl
                       have hcz93_3 : wc.cell? ⟨gb251, 3, none⟩ = some (.int .i64 x252003_50) := (blk_cell BK251.out 3).trans rfl
                       have hfz93_0 := blk_frozen BK251.out 0; have hfz93_1 := blk_frozen BK251.out 1; have hfz93_2 := blk_frozen BK251.out 2; have hfz93_3 := blk_frozen BK251.out 3; have hnb94 := NB241_239.out; have hnc94 := NB239_241.out
                       have hcz95_0 : wc.cell? ⟨gb241, 0, none⟩ = some (.int .i64 (wrap64 ((wrap64 (bt a0 1)) - 48))) := (blk_cell BK241.out 0).trans rfl
                       have hcz95_1 : wc.cell? ⟨gb241, 1, none⟩ = some (.int .i64 x242001_5) := (blk_cell BK241.out 1).trans rfl
                       have hcz95_2 : wc.cell? ⟨gb241, 2, none⟩ = some (.int .i64 x242002_5) := (blk_cell BK241.out 2).trans rfl
                       have hcz95_3 : wc.cell? ⟨gb241, 3, none⟩ = some (.int .i64 x242003_5) := (blk_cell BK241.out 3).trans rfl
                       have hfz95_0 := blk_frozen BK241.out 0; have hfz95_1 := blk_frozen BK241.out 1; have hfz95_2 := blk_frozen BK241.out 2; have hfz95_3 := blk_frozen BK241.out 3
                       go_wp2
                       go_roundg kj50
                       case measure => have := HJ2.out; have := HJ10.out; have := HJ18.out; have := HJ32.out; have := HK5.out; have := HJ50.out; omega
                       case rel => exact ⟨(x10_50), (wrap64 (x11_5 + 1)), (x240000_5), (x240001_5), (x240002_5), (x240003_5), (x252001_50), (x242002_5), (x242003_5), (by first | rfl | (simp; done) | (simp [*]; done)), (by first | rfl | (simp; done) | (simp [*]; done)), H', ⟨by have := HJ2.out; have := HJ10.out; have := HJ18.out; have := HJ32.out; have := HK5.out; have := HJ50.out; omega⟩, ⟨rf_ HO_9.out BK241.out (by decide) (fun _ hk => trivial)⟩, ⟨hf_ BK239.out NB239_241.out⟩, ⟨by (with_reducible repeat (first | refine blk_drewN ?_ _ | refine blk_drew ?_ | refine blk_alloc ?_ _)); refine blk_put (cs := #[.int .i64 (wrap64 ((wrap64 (bt a0 1)) - 48)), .int .i64 x242001_5, .int .i64 x242002_5, .int .i64 x242003_5]) ?_ 1 _ rfl; (with_reducible repeat (first | refine blk_drewN ?_ _ | refine blk_drew ?_ | refine blk_alloc ?_ _)); exact BK241.out⟩, ⟨bp_⟩⟩
                     rw [if_neg c90] at H
                     have c90b0 : (x11_5 == 0) = false := beq_eq_false_iff_ne.mpr c90
                     have c90b1 : (x11_5 != 0) = true := bne_iff_ne.mpr c90
                     by_cases c96 : x11_5 = 1
                     · rw [if_pos c96] at H
                       have c96b0 : (x11_5 == 1) = true := beq_iff_eq.mpr c96
                       have c96b1 : (x11_5 != 1) = false := bne_eq_false_iff_eq.mpr c96
                       clear c96
                       have H' := Aside0.mk H
                       clear H; have hnb97 := NB251_239.out; have hnc97 := NB239_251.out; have hnb98 := NB251_241.out; have hnc98 := NB241_251.out
                       have hcz99_0 : wc.cell? ⟨gb251, 0, none⟩ = some (.int .i64 x252000_50) := (blk_cell BK251.out 0).trans rfl
                       have hcz99_1 : wc.cell? ⟨gb251, 1, none⟩ = some (.int .i64 x252001_50) := (blk_cell BK251.out 1).trans rfl
                       have hcz99_2 : wc.cell? ⟨gb251, 2, none⟩ = some (.int .i64 x252002_50) := (blk_cell BK251.out 2).trans rfl
                       have hcz99_3 : wc.cell? ⟨gb251, 3, none⟩ = some (.int .i64 x252003_50) := (blk_cell BK251.out 3).trans rfl
                       have hfz99_0 := blk_frozen BK251.out 0; have hfz99_1 := blk_frozen BK251.out 1; have hfz99_2 := blk_frozen BK251.out 2; have hfz99_3 := blk_frozen BK251.out 3; have hnb100 := NB241_239.out; have hnc100 := NB239_241.out
                       have hcz101_0 : wc.cell? ⟨gb241, 0, none⟩ = some (.int .i64 (wrap64 ((wrap64 (bt a0 1)) - 48))) := (blk_cell BK241.out 0).trans rfl
                       have hcz101_1 : wc.cell? ⟨gb241, 1, none⟩ = some (.int .i64 x242001_5) := (blk_cell BK241.out 1).trans rfl
                       have hcz101_2 : wc.cell? ⟨gb241, 2, none⟩ = some (.int .i64 x242002_5) := (blk_cell BK241.out 2).trans rfl
                       have hcz101_3 : wc.cell? ⟨gb241, 3, none⟩ = some (.int .i64 x242003_5) := (blk_cell BK241.out 3).trans rfl
                       have hfz101_0 := blk_frozen BK241.out 0; have hfz101_1 := blk_frozen BK241.out 1; have hfz101_2 := blk_frozen BK241.out 2; have hfz101_3 := blk_frozen BK241.out 3
                       go_wp2
                       go_roundg kj50
                       case measure => have := HJ2.out; have := HJ10.out; have := HJ18.out; have := HJ32.out; have := HK5.out; have := HJ50.out; omega
                       case rel => exact ⟨(x10_50), (wrap64 (x11_5 + 1)), (x240000_5), (x240001_5), (x240002_5), (x240003_5), (x242001_5), (x252001_50), (x242003_5), (by first | rfl | (simp; done) | (simp [*]; done)), (by first | rfl | (simp; done) | (simp [*]; done)), H', ⟨by have := HJ2.out; have := HJ10.out; have := HJ18.out; have := HJ32.out; have := HK5.out; have := HJ50.out; omega⟩, ⟨rf_ HO_9.out BK241.out (by decide) (fun _ hk => trivial)⟩, ⟨hf_ BK239.out NB239_241.out⟩, ⟨by (with_reducible repeat (first | refine blk_drewN ?_ _ | refine blk_drew ?_ | refine blk_alloc ?_ _)); refine blk_put (cs := #[.int .i64 (wrap64 ((wrap64 (bt a0 1)) - 48)), .int .i64 x242001_5, .int .i64 x242002_5, .int .i64 x242003_5]) ?_ 2 _ rfl; (with_reducible repeat (first | refine blk_drewN ?_ _ | refine blk_drew ?_ | refine blk_alloc ?_ _)); exact BK241.out⟩, ⟨bp_⟩⟩
                     rw [if_neg c96] at H
                     have c96b0 : (x11_5 == 1) = false := beq_eq_false_iff_ne.mpr c96
                     have c96b1 : (x11_5 != 1) = true := bne_iff_ne.mpr c96
                     have H' := Aside0.mk H
                     clear H; have hnb102 := NB251_239.out; have hnc102 := NB239_251.out; have hnb103 := NB251_241.out; have hnc103 := NB241_251.out
                     have hcz104_0 : wc.cell? ⟨gb251, 0, none⟩ = some (.int .i64 x252000_50) := (blk_cell BK251.out 0).trans rfl
                     have hcz104_1 : wc.cell? ⟨gb251, 1, none⟩ = some (.int .i64 x252001_50) := (blk_cell BK251.out 1).trans rfl
                     have hcz104_2 : wc.cell? ⟨gb251, 2, none⟩ = some (.int .i64 x252002_50) := (blk_cell BK251.out 2).trans rfl
                     have hcz104_3 : wc.cell? ⟨gb251, 3, none⟩ = some (.int .i64 x252003_50) := (blk_cell BK251.out 3).trans rfl
                     have hfz104_0 := blk_frozen BK251.out 0; have hfz104_1 := blk_frozen BK251.out 1; have hfz104_2 := blk_frozen BK251.out 2; have hfz104_3 := blk_frozen BK251.out 3; have hnb105 := NB241_239.out; have hnc105 := NB239_241.out
                     have hcz106_0 : wc.cell? ⟨gb241, 0, none⟩ = some (.int .i64 (wrap64 ((wrap64 (bt a0 1)) - 48))) := (blk_cell BK241.out 0).trans rfl
                     have hcz106_1 : wc.cell? ⟨gb241, 1, none⟩ = some (.int .i64 x242001_5) := (blk_cell BK241.out 1).trans rfl
                     have hcz106_2 : wc.cell? ⟨gb241, 2, none⟩ = some (.int .i64 x242002_5) := (blk_cell BK241.out 2).trans rfl
                     have hcz106_3 : wc.cell? ⟨gb241, 3, none⟩ = some (.int .i64 x242003_5) := (blk_cell BK241.out 3).trans rfl
                     have hfz106_0 := blk_frozen BK241.out 0; have hfz106_1 := blk_frozen BK241.out 1; have hfz106_2 := blk_frozen BK241.out 2; have hfz106_3 := blk_frozen BK241.out 3
                     go_wp2
                     go_roundg kj50
                     case measure => have := HJ2.out; have := HJ10.out; have := HJ18.out; have := HJ32.out; have := HK5.out; have := HJ50.out; omega
                     case rel => exact ⟨(x10_50), (wrap64 (x11_5 + 1)), (x240000_5), (x240001_5), (x240002_5), (x240003_5), (x242001_5), (x242002_5), (x252001_50), (by first | rfl | (simp; done) | (simp [*]; done)), (by first | rfl | (simp; done) | (simp [*]; done)), H', ⟨by have := HJ2.out; have := HJ10.out; have := HJ18.out; have := HJ32.out; have := HK5.out; have := HJ50.out; omega⟩, ⟨rf_ HO_9.out BK241.out (by decide) (fun _ hk => trivial)⟩, ⟨hf_ BK239.out NB239_241.out⟩, ⟨by (with_reducible repeat (first | refine blk_drewN ?_ _ | refine blk_drew ?_ | refine blk_alloc ?_ _)); refine blk_put (cs := #[.int .i64 (wrap64 ((wrap64 (bt a0 1)) - 48)), .int .i64 x242001_5, .int .i64 x242002_5, .int .i64 x242003_5]) ?_ 3 _ rfl; (with_reducible repeat (first | refine blk_drewN ?_ _ | refine blk_drew ?_ | refine blk_alloc ?_ _)); exact BK241.out⟩, ⟨bp_⟩⟩
                 rw [if_neg c49] at H
                 exact absurd H (by simp)
               rw [if_neg c48] at H
               exact absurd H (by simp)
             rw [if_neg c47] at H
             have c47b0 : decide (x11_5 < x8_32) = false := decide_eq_false c47
             clear c47; simp only [Option.some.injEq, Prod.mk.injEq] at H; obtain ⟨rfl, rfl, rfl, rfl, rfl, rfl⟩ := H; have hnb107 := NB241_239.out; have hnc107 := NB239_241.out
             have hcz108_0 : wr.cell? ⟨gb241, 0, none⟩ = some (.int .i64 (wrap64 ((wrap64 (bt a0 1)) - 48))) := (blk_cell BK241.out 0).trans rfl
             have hcz108_1 : wr.cell? ⟨gb241, 1, none⟩ = some (.int .i64 x242001_5) := (blk_cell BK241.out 1).trans rfl
             have hcz108_2 : wr.cell? ⟨gb241, 2, none⟩ = some (.int .i64 x242002_5) := (blk_cell BK241.out 2).trans rfl
             have hcz108_3 : wr.cell? ⟨gb241, 3, none⟩ = some (.int .i64 x242003_5) := (blk_cell BK241.out 3).trans rfl
             have hfz108_0 := blk_frozen BK241.out 0; have hfz108_1 := blk_frozen BK241.out 1; have hfz108_2 := blk_frozen BK241.out 2; have hfz108_3 := blk_frozen BK241.out 3
             have hcz109_0 : wr.cell? ⟨gb239, 0, none⟩ = some (.int .i64 x240000_5) := (blk_cell BK239.out 0).trans rfl
             have hcz109_1 : wr.cell? ⟨gb239, 1, none⟩ = some (.int .i64 x240001_5) := (blk_cell BK239.out 1).trans rfl
             have hcz109_2 : wr.cell? ⟨gb239, 2, none⟩ = some (.int .i64 x240002_5) := (blk_cell BK239.out 2).trans rfl
             have hcz109_3 : wr.cell? ⟨gb239, 3, none⟩ = some (.int .i64 x240003_5) := (blk_cell BK239.out 3).trans rfl
             have hfz109_0 := blk_frozen BK239.out 0; have hfz109_1 := blk_frozen BK239.out 1; have hfz109_2 := blk_frozen BK239.out 2; have hfz109_3 := blk_frozen BK239.out 3
             go_wp2
             refine bodyPost_ret (results_ctt rfl _ _ gb239 25 #[.int .i64 (wrap64 ((wrap64 (bt a0 1)) - 48)), .int .i64 x242001_5, .int .i64 x242002_5, .int .i64 x242003_5] (0, 0) _ rfl (by (with_reducible repeat (first | refine blk_drewN ?_ _ | refine blk_drew ?_ | refine blk_alloc ?_ _)); refine blk_put (cs := #[.int .i64 (wrap64 ((wrap64 (bt a0 1)) - 48)), .int .i64 x242001_5, .int .i64 x242002_5, .int .i64 x240003_5]) ?_ 3 _ rfl; (with_reducible repeat (first | refine blk_drewN ?_ _ | refine blk_drew ?_ | refine blk_alloc ?_ _)); refine blk_put (cs := #[.int .i64 (wrap64 ((wrap64 (bt a0 1)) - 48)), .int .i64 x242001_5, .int .i64 x240002_5, .int .i64 x240003_5]) ?_ 2 _ rfl; (with_reducible repeat (first | refine blk_drewN ?_ _ | refine blk_drew ?_ | refine blk_alloc ?_ _)); refine blk_put (cs := #[.int .i64 (wrap64 ((wrap64 (bt a0 1)) - 48)), .int .i64 x240001_5, .int .i64 x240002_5, .int .i64 x240003_5]) ?_ 1 _ rfl; (with_reducible repeat (first | refine blk_drewN ?_ _ | refine blk_drew ?_ | refine blk_alloc ?_ _)); refine blk_put (cs := #[.int .i64 x240000_5, .int .i64 x240001_5, .int .i64 x240002_5, .int .i64 x240003_5]) ?_ 0 _ rfl; (with_reducible repeat (first | refine blk_drewN ?_ _ | refine blk_drew ?_ | refine blk_alloc ?_ _)); exact BK239.out) Try.underlying25 rfl (by kernel_rfl)) rfl ?_
             exact ⟨by first | rfl | (simp [errW_none, errW_some] <;> rfl) | (simp [*, errW_none, errW_some] <;> rfl), bp_⟩
       rw [if_neg c30] at H
       exact absurd H (by simp)

end Go.Proofs.Ytmimfljiighbaaa.Q
