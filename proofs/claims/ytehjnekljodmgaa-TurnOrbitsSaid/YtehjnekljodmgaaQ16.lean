-- written by our own program (wip/tools/myprint.py) out of the translation, by the kit's print; Lean checks it
import Derived.Test.YtehjnekljodmgaaQ0
import Derived.Test.YtehjnekljodmgaaQ1
import Derived.Test.YtehjnekljodmgaaQ3
import Derived.Test.YtehjnekljodmgaaQ6
import Derived.Test.YtehjnekljodmgaaQ13
import Derived.Test.YtehjnekljodmgaaQ14
import Derived.Test.YtehjnekljodmgaaQ15
namespace Go.Proofs.Ytehjnekljodmgaa.Q
open Go.RowKit Go.Proofs.YtehjnekljodmgaaW.PrintWords Go.Proofs.YtehjnekljodmgaaW.PrintLast Go.Proofs.YtehjnekljodmgaaW.PrintMore
attribute [local go_sem] max2_int min2_int max_two min_two max_three min_three max_four min_four   -- for this text's walks alone
set_option linter.unusedVariables false
set_option linter.unusedSimpArgs false

abbrev Fl132 : Array Bool := #[false, false, false, false, false, false, false, false, false, false, false]
abbrev Fl133 : Array Bool := #[true, true, true, true, true, true, true, true, true, false, false]
abbrev Fl134 : Array Bool := #[true, true, true, true, true, true, true, true, true, true, false]
abbrev Fl135 : Array Bool := #[true, true, true, true, true, true, true, true, true, true, true]
abbrev Fl136 : Array Bool := #[true, false, false, false, false, false, false, false, false, false, false]
abbrev Fl137 : Array Bool := #[true, true, false, false, false, false, false, false, false, false, false]
abbrev Fl138 : Array Bool := #[true, true, true, false, false, false, false, false, false, false, false]
abbrev Fl139 : Array Bool := #[true, true, true, false, false, true, false, false, false, false, false]
abbrev Fl140 : Array Bool := #[true, true, true, false, false, true, true, false, false, false, false]
abbrev Fl141 : Array Bool := #[true, true, true, false, false, true, true, true, false, false, false]
abbrev Fl142 : Array Bool := #[true, true, true, true, false, true, true, true, false, false, false]
abbrev Fl143 : Array Bool := #[true, true, true, true, false, true, true, true, true, false, false]
/-! ### chequerlaw04_TurnOrbits: function 7 -/
mutual
def chequerlaw04_TurnOrbits.l0 : Nat → List (List Int) → Int → Int → Int → List Int → Option (Bool)
 | 0, _, _, _, _, _ => none
 | k + 1, x6, x7, x439000, x439001, x439002 => if x7 < 2 then ((chequerlaw04_of.f x439000 x439001 x439002).bind fun bt451 => (if 0 ≤ x7 then (if x7 < (x6.length : Int) then ((turn_Orbit.f k bt451.1 bt451.2.1 bt451.2.2 (rd_L6 x6 x7)).bind fun bt457 => ((chequerref04_Orbit.f k x439000 x439001 x439002 (rd_L6 x6 x7)).bind fun bt464 => (if (bt457.1.length : Int) = (bt464.1.length : Int) then ((chequerref01_Same.f k bt457.2 bt464.2).bind fun t470 => (chequerlaw04_TurnOrbits.j1 k x6 x7 bt457.1 bt464.1 (!t470) x439000 x439001 x439002)) else (chequerlaw04_TurnOrbits.j1 k x6 x7 bt457.1 bt464.1 true x439000 x439001 x439002)))) else (none)) else (none))) else ((chequerlaw04_lives.f k).bind fun t450 => (some t450))
def chequerlaw04_TurnOrbits.j1 : Nat → List (List Int) → Int → List (S26) → List (S24) → Bool → Int → Int → List Int → Option (Bool)
 | 0, _, _, _, _, _, _, _, _ => none
 | k + 1, x6, x7, x8, x10, x55, x439000, x439001, x439002 => if x55 = true then (some false) else (chequerlaw04_TurnOrbits.l1 k x6 x7 x8 x10 0 x439000 x439001 x439002)
def chequerlaw04_TurnOrbits.l1 : Nat → List (List Int) → Int → List (S26) → List (S24) → Int → Int → Int → List Int → Option (Bool)
 | 0, _, _, _, _, _, _, _, _ => none
 | k + 1, x6, x7, x8, x10, x12, x439000, x439001, x439002 => if x12 < (x8.length : Int) then (if 0 ≤ x12 then ((chequerlaw04_as.f ((rd_T26 x8 x12).f0) ((rd_T26 x8 x12).f1) ((rd_T26 x8 x12).f2)).bind fun bt472 => (if x12 < (x10.length : Int) then ((chequerref03_Same.f k bt472.1 bt472.2.1 bt472.2.2 ((rd_T24 x10 x12).f0) ((rd_T24 x10 x12).f1) ((rd_T24 x10 x12).f2)).bind fun t478 => (if t478 = true then (chequerlaw04_TurnOrbits.l1 k x6 x7 x8 x10 (wrap64 (x12 + 1)) x439000 x439001 x439002) else (some false))) else (none))) else (none)) else (chequerlaw04_TurnOrbits.l0 k x6 (wrap64 (x7 + 1)) x439000 x439001 x439002)
end
def chequerlaw04_TurnOrbits.f (k : Nat) (a0_0 : Int) (a0_1 : Int) (l0_2 : List Int) (l1 : List Int) : Option (Bool) := (chequerref03_Good.f k a0_0 a0_1 l0_2 4).bind fun bt433 => (if 0 ≤ (mn (l1.length : Int) 9) then (if (mn (l1.length : Int) 9) ≤ (l1.length : Int) then (chequerlaw04_TurnOrbits.l0 k (([(l1.take ((mn (l1.length : Int) 9) : Int).toNat), (([0, 1, 2, 3, 4, 5, 6, 7] : List Int))] : List (List Int))) 0 bt433.1 bt433.2.1 bt433.2.2) else (none)) else (none))
theorem chequerlaw04_TurnOrbits.mono_l : ∀ k, (∀ y0 y1 y2 y3 y4, LeO (chequerlaw04_TurnOrbits.l0 k y0 y1 y2 y3 y4) (chequerlaw04_TurnOrbits.l0 (k + 1) y0 y1 y2 y3 y4)) ∧ (∀ y0 y1 y2 y3 y4 y5 y6 y7, LeO (chequerlaw04_TurnOrbits.j1 k y0 y1 y2 y3 y4 y5 y6 y7) (chequerlaw04_TurnOrbits.j1 (k + 1) y0 y1 y2 y3 y4 y5 y6 y7)) ∧ (∀ y0 y1 y2 y3 y4 y5 y6 y7, LeO (chequerlaw04_TurnOrbits.l1 k y0 y1 y2 y3 y4 y5 y6 y7) (chequerlaw04_TurnOrbits.l1 (k + 1) y0 y1 y2 y3 y4 y5 y6 y7))
 | 0 => ⟨fun _ _ _ _ _ r h => by simp [chequerlaw04_TurnOrbits.l0] at h, fun _ _ _ _ _ _ _ _ r h => by simp [chequerlaw04_TurnOrbits.j1] at h, fun _ _ _ _ _ _ _ _ r h => by simp [chequerlaw04_TurnOrbits.l1] at h⟩
 | k + 1 => by
  obtain ⟨ih0, ih1, ih2⟩ := chequerlaw04_TurnOrbits.mono_l k
  refine ⟨?_, ?_, ?_⟩
  · intro y0 y1 y2 y3 y4
    unfold chequerlaw04_TurnOrbits.l0
    repeat' first
    | (with_reducible exact ih0 _ _ _ _ _)
    | (with_reducible exact ih1 _ _ _ _ _ _ _ _)
    | (with_reducible exact ih2 _ _ _ _ _ _ _ _)
    | (with_reducible exact chequerlaw04_lives.mono _)
    | (with_reducible exact chequerref01_Same.mono _ _ _)
    | (with_reducible exact chequerref03_Good.mono _ _ _ _ _)
    | (with_reducible exact chequerref03_Same.mono _ _ _ _ _ _ _)
    | (with_reducible exact chequerref04_Orbit.mono _ _ _ _ _)
    | (with_reducible exact turn_Orbit.mono _ _ _ _ _)
    | (with_reducible exact LeO.refl _)
    | (with_reducible exact LeO.none _)
    | (with_reducible refine LeO.ite ?_ ?_)
    | (with_reducible refine LeO.bind ?_ (fun _ => ?_))
    | exact ih0 _ _ _ _ _
    | exact ih1 _ _ _ _ _ _ _ _
    | exact ih2 _ _ _ _ _ _ _ _
    | exact chequerlaw04_lives.mono _
    | exact chequerref01_Same.mono _ _ _
    | exact chequerref03_Good.mono _ _ _ _ _
    | exact chequerref03_Same.mono _ _ _ _ _ _ _
    | exact chequerref04_Orbit.mono _ _ _ _ _
    | exact turn_Orbit.mono _ _ _ _ _
    | exact LeO.none _
    | refine LeO.ite ?_ ?_
    | refine LeO.bind ?_ (fun _ => ?_)
  · intro y0 y1 y2 y3 y4 y5 y6 y7
    unfold chequerlaw04_TurnOrbits.j1
    repeat' first
    | (with_reducible exact ih0 _ _ _ _ _)
    | (with_reducible exact ih1 _ _ _ _ _ _ _ _)
    | (with_reducible exact ih2 _ _ _ _ _ _ _ _)
    | (with_reducible exact chequerlaw04_lives.mono _)
    | (with_reducible exact chequerref01_Same.mono _ _ _)
    | (with_reducible exact chequerref03_Good.mono _ _ _ _ _)
    | (with_reducible exact chequerref03_Same.mono _ _ _ _ _ _ _)
    | (with_reducible exact chequerref04_Orbit.mono _ _ _ _ _)
    | (with_reducible exact turn_Orbit.mono _ _ _ _ _)
    | (with_reducible exact LeO.refl _)
    | (with_reducible exact LeO.none _)
    | (with_reducible refine LeO.ite ?_ ?_)
    | (with_reducible refine LeO.bind ?_ (fun _ => ?_))
    | exact ih0 _ _ _ _ _
    | exact ih1 _ _ _ _ _ _ _ _
    | exact ih2 _ _ _ _ _ _ _ _
    | exact chequerlaw04_lives.mono _
    | exact chequerref01_Same.mono _ _ _
    | exact chequerref03_Good.mono _ _ _ _ _
    | exact chequerref03_Same.mono _ _ _ _ _ _ _
    | exact chequerref04_Orbit.mono _ _ _ _ _
    | exact turn_Orbit.mono _ _ _ _ _
    | exact LeO.none _
    | refine LeO.ite ?_ ?_
    | refine LeO.bind ?_ (fun _ => ?_)
  · intro y0 y1 y2 y3 y4 y5 y6 y7
    unfold chequerlaw04_TurnOrbits.l1
    repeat' first
    | (with_reducible exact ih0 _ _ _ _ _)
    | (with_reducible exact ih1 _ _ _ _ _ _ _ _)
    | (with_reducible exact ih2 _ _ _ _ _ _ _ _)
    | (with_reducible exact chequerlaw04_lives.mono _)
    | (with_reducible exact chequerref01_Same.mono _ _ _)
    | (with_reducible exact chequerref03_Good.mono _ _ _ _ _)
    | (with_reducible exact chequerref03_Same.mono _ _ _ _ _ _ _)
    | (with_reducible exact chequerref04_Orbit.mono _ _ _ _ _)
    | (with_reducible exact turn_Orbit.mono _ _ _ _ _)
    | (with_reducible exact LeO.refl _)
    | (with_reducible exact LeO.none _)
    | (with_reducible refine LeO.ite ?_ ?_)
    | (with_reducible refine LeO.bind ?_ (fun _ => ?_))
    | exact ih0 _ _ _ _ _
    | exact ih1 _ _ _ _ _ _ _ _
    | exact ih2 _ _ _ _ _ _ _ _
    | exact chequerlaw04_lives.mono _
    | exact chequerref01_Same.mono _ _ _
    | exact chequerref03_Good.mono _ _ _ _ _
    | exact chequerref03_Same.mono _ _ _ _ _ _ _
    | exact chequerref04_Orbit.mono _ _ _ _ _
    | exact turn_Orbit.mono _ _ _ _ _
    | exact LeO.none _
    | refine LeO.ite ?_ ?_
    | refine LeO.bind ?_ (fun _ => ?_)
theorem chequerlaw04_TurnOrbits.mono : ∀ a0 a1 a2 a3 k, LeO (chequerlaw04_TurnOrbits.f k a0 a1 a2 a3) (chequerlaw04_TurnOrbits.f (k + 1) a0 a1 a2 a3) := by
 intro a0 a1 a2 a3 k
 obtain ⟨ih0, ih1, ih2⟩ := chequerlaw04_TurnOrbits.mono_l k
 unfold chequerlaw04_TurnOrbits.f
 repeat' first
  | (with_reducible exact ih0 _ _ _ _ _)
  | (with_reducible exact ih1 _ _ _ _ _ _ _ _)
  | (with_reducible exact ih2 _ _ _ _ _ _ _ _)
  | (with_reducible exact chequerlaw04_lives.mono _)
  | (with_reducible exact chequerref01_Same.mono _ _ _)
  | (with_reducible exact chequerref03_Good.mono _ _ _ _ _)
  | (with_reducible exact chequerref03_Same.mono _ _ _ _ _ _ _)
  | (with_reducible exact chequerref04_Orbit.mono _ _ _ _ _)
  | (with_reducible exact turn_Orbit.mono _ _ _ _ _)
  | (with_reducible exact LeO.refl _)
  | (with_reducible exact LeO.none _)
  | (with_reducible refine LeO.ite ?_ ?_)
  | (with_reducible refine LeO.bind ?_ (fun _ => ?_))
  | exact ih0 _ _ _ _ _
  | exact ih1 _ _ _ _ _ _ _ _
  | exact ih2 _ _ _ _ _ _ _ _
  | exact chequerlaw04_lives.mono _
  | exact chequerref01_Same.mono _ _ _
  | exact chequerref03_Good.mono _ _ _ _ _
  | exact chequerref03_Same.mono _ _ _ _ _ _ _
  | exact chequerref04_Orbit.mono _ _ _ _ _
  | exact turn_Orbit.mono _ _ _ _ _
  | exact LeO.none _
  | refine LeO.ite ?_ ?_
  | refine LeO.bind ?_ (fun _ => ?_)
def chequerlaw04_TurnOrbits.T6 : Bool × List (List Nat × List Nat) := (true, [([], []), ([0], [0]), ([], []), ([], []), ([2, 3], [2, 3]), ([4], [4]), ([1, 5, 1], [1, 5]), ([6], [6]), ([7], [7]), ([7], [7]), ([8, 6, 0, 1, 2, 3, 4, 5, 6, 7, 8], [8]), ([9, 10, 0, 1, 2, 3, 4, 5, 6, 7, 8, 9, 10], [9])])
def chequerlaw04_TurnOrbits.B6 : List Nat := [0, 1, 0, 0, 12, 28, 63, 127, 255, 255, 511, 2047]
theorem chequerlaw04_TurnOrbits.tab6 : rtab .any (opsOf Try.f7 6) = chequerlaw04_TurnOrbits.T6 := by kernel_rfl
theorem chequerlaw04_TurnOrbits.bits6 : waitsOk chequerlaw04_TurnOrbits.T6.2 chequerlaw04_TurnOrbits.B6 = true := by kernel_rfl
def chequerlaw04_TurnOrbits.T7 : Bool × List (List Nat × List Nat) := (true, [([], []), ([], []), ([], []), ([1, 2], [1, 2]), ([3], [3]), ([0, 4], [0, 4]), ([5], [5]), ([6], [6]), ([6], [6]), ([7, 5, 0, 1, 2, 3, 4, 5, 6, 7], [7]), ([8, 9, 0, 1, 2, 3, 4, 5, 6, 7, 8, 9], [8])])
def chequerlaw04_TurnOrbits.B7 : List Nat := [0, 0, 0, 6, 14, 31, 63, 127, 127, 255, 1023]
theorem chequerlaw04_TurnOrbits.tab7 : rtab .any (opsOf Try.f7 7) = chequerlaw04_TurnOrbits.T7 := by kernel_rfl
theorem chequerlaw04_TurnOrbits.bits7 : waitsOk chequerlaw04_TurnOrbits.T7.2 chequerlaw04_TurnOrbits.B7 = true := by kernel_rfl
def chequerlaw04_TurnOrbits.T13 : Bool × List (List Nat × List Nat) := (true, [([], []), ([], []), ([0, 1], [0, 1]), ([2], [2]), ([3], [3]), ([], []), ([], []), ([5, 6], [5, 6]), ([7], [7]), ([4, 8, 4], [4, 8]), ([9], [9])])
def chequerlaw04_TurnOrbits.B13 : List Nat := [0, 0, 3, 7, 15, 0, 0, 96, 224, 511, 1023]
theorem chequerlaw04_TurnOrbits.tab13 : rtab .any (opsOf Try.f7 13) = chequerlaw04_TurnOrbits.T13 := by kernel_rfl
theorem chequerlaw04_TurnOrbits.bits13 : waitsOk chequerlaw04_TurnOrbits.T13.2 chequerlaw04_TurnOrbits.B13 = true := by kernel_rfl
set_option maxHeartbeats 8000000 in
set_option maxRecDepth 100000 in
theorem chequerlaw04_TurnOrbits.calls (k : Nat) (a0_0 : Int) (a0_1 : Int) (A0_2 : Option Addr) (c0_2 : Nat) (l0_2 : List Int) (P1_ : Nat → Prop) (A1 : Option Addr) (c1 : Nat) (l1 : List Int) (r : Bool) (w : World) (hr0_2 : Kd.C (Kd.int .u64) w A0_2 l0_2.length l0_2) (hc0_2 : l0_2.length ≤ c0_2) (hs1 : Kd.V (Kd.int .i64) 3 w w.heap.size (fun k_ => P1_ k_) (.slice A1 l1.length c1) l1) (h : chequerlaw04_TurnOrbits.f k a0_0 a0_1 l0_2 l1 = some r) :
 Calls Try.prog 7 #[.agg #[.int .i64 a0_0, .int .i64 a0_1, .slice A0_2 l0_2.length c0_2], .slice A1 l1.length c1] w fun e w' => e = .returned (.bool r) ∧ Below w.heap.size w w' := by
 have hu24 := Try.underlying24
 have hu26 := Try.underlying26
 have HR0_2 := Aside0.mk hr0_2
 have HC0_2 := Aside0.mk hc0_2
 clear hr0_2 hc0_2
 have HO1 := Aside0.mk (show Kd.V (Kd.int .i64) 3 w w.heap.size (fun k_ => (P1_ k_ ∨ w.heap.size ≤ k_)) (.slice A1 l1.length c1) l1 from Kd.V_mono hs1 (fun k_ hk => .inl hk))
 have HB := Aside0.mk (Below.refl w.heap.size w)
 have H : ((chequerref03_Good.f k a0_0 a0_1 l0_2 4).bind fun bt433 => (if 0 ≤ (mn (l1.length : Int) 9) then (if (mn (l1.length : Int) 9) ≤ (l1.length : Int) then (chequerlaw04_TurnOrbits.l0 k (([(l1.take ((mn (l1.length : Int) 9) : Int).toNat), (([0, 1, 2, 3, 4, 5, 6, 7] : List Int))] : List (List Int))) 0 bt433.1 bt433.2.1 bt433.2.2) else (none)) else (none))) = some r := h
 clear h
 replace H := Option.bind_eq_some_iff.mp H
 obtain ⟨⟨t433, t434, t435⟩, A30, H⟩ := H
 replace H : (if 0 ≤ (mn (l1.length : Int) 9) then (if (mn (l1.length : Int) 9) ≤ (l1.length : Int) then (chequerlaw04_TurnOrbits.l0 k (([(l1.take ((mn (l1.length : Int) 9) : Int).toNat), (([0, 1, 2, 3, 4, 5, 6, 7] : List Int))] : List (List Int))) 0 t433 t434 t435) else (none)) else (none)) = some r := H
 have A3 := Aside0.mk A30
 clear A30
 obtain ⟨ji4, hji4⟩ : ∃ j_ : Int, (mn (l1.length : Int) 9) = j_ := ⟨_, rfl⟩
 replace H : (if 0 ≤ (ji4) then (if (ji4) ≤ (l1.length : Int) then (chequerlaw04_TurnOrbits.l0 k (([(l1.take ((ji4) : Int).toNat), (([0, 1, 2, 3, 4, 5, 6, 7] : List Int))] : List (List Int))) 0 t433 t434 t435) else (none)) else (none)) = some r := by first | (rw [hji4] at H; exact H) | (simp only [hji4] at H ⊢; exact H)
 (try rw [hji4] at A3)
 (try (have hji4h : ji4 ≤ 9 := by (rw [← hji4]; unfold mn; (repeat' split) <;> omega)))
 (try (have hji4g : ji4 ≤ 64 := by omega))
 (try (have hji4l : 0 ≤ ji4 := by (rw [← hji4]; unfold mn; (repeat' split) <;> omega)))
 (try (have hji4m : 0 ≤ ji4 := by omega))
 have hji4_ : (if 9 < (l1.length : Int) then 9 else (l1.length : Int)) = ji4 := hji4
 by_cases c5 : 0 ≤ (ji4)
 · rw [if_pos c5] at H
   have c5b0 := eq_true c5
   have c5b1 : decide (0 ≤ (ji4)) = true := decide_eq_true c5
   clear c5
   by_cases c6 : (ji4) ≤ (l1.length : Int)
   · rw [if_pos c6] at H
     have c6b0 := eq_true c6
     have c6b1 : decide ((ji4) ≤ (l1.length : Int)) = true := decide_eq_true c6
     clear c6
     obtain ⟨y439, hy439⟩ : ∃ y_ : List Int, y_ = (l1.take ((ji4) : Int).toNat) := ⟨_, rfl⟩
     replace H : (chequerlaw04_TurnOrbits.l0 k (([y439, (([0, 1, 2, 3, 4, 5, 6, 7] : List Int))] : List (List Int))) 0 t433 t434 t435) = some r := by first | (rw [hy439]; with_reducible exact H) | (have H2_ := (Option.bind_some _ _).symm.trans H; rw [hy439]; with_reducible exact H2_) | (have H2_ := (Option.bind_some _ _).symm.trans H; with_reducible exact H2_) | with_reducible exact H | (rw [hy439]; exact H) | exact H
     have Ny439 := Aside0.mk hy439
     clear hy439
     obtain ⟨y444, hy444⟩ : ∃ y_ : List Int, y_ = (([0, 1, 2, 3, 4, 5, 6, 7] : List Int)) := ⟨_, rfl⟩
     replace H : (chequerlaw04_TurnOrbits.l0 k (([y439, y444] : List (List Int))) 0 t433 t434 t435) = some r := by first | (rw [hy444]; with_reducible exact H) | (have H2_ := (Option.bind_some _ _).symm.trans H; rw [hy444]; with_reducible exact H2_) | (have H2_ := (Option.bind_some _ _).symm.trans H; with_reducible exact H2_) | with_reducible exact H | (rw [hy444]; exact H) | exact H
     have Ny444 := Aside0.mk hy444
     clear hy444
     obtain ⟨y447, hy447⟩ : ∃ y_ : List (List Int), y_ = (([y439, y444] : List (List Int))) := ⟨_, rfl⟩
     replace H : (chequerlaw04_TurnOrbits.l0 k y447 0 t433 t434 t435) = some r := by first | (rw [hy447]; with_reducible exact H) | (have H2_ := (Option.bind_some _ _).symm.trans H; rw [hy447]; with_reducible exact H2_) | (have H2_ := (Option.bind_some _ _).symm.trans H; with_reducible exact H2_) | with_reducible exact H | (rw [hy447]; exact H) | exact H
     have Ny447 := Aside0.mk hy447
     clear hy447
     have H' := Aside0.mk H
     clear H
     go_enter Try.func7, Try.ntmps7
     go_wp2_with (first | ((with_reducible refine gate_dst (N := 2) rfl ?_); refine box_event ?hg (N := 2) ?hd (cs := #[.int .i64 a0_0, .int .i64 a0_1, .slice A0_2 l0_2.length c0_2]) (t := 24) ?hr ?_; (case hd => rfl); (case hg => rfl); (case hr => first | (go_simp; done) | (go_simp; rfl)); intro gb432 hg w7 hbox hb; replace HO1 := Aside0.mk (Kd.V_below (Kd.V_elderB (vp_ HO1.out) gb432 (Nat.le_of_eq hg.symm)) hb); have BK432 := Aside0.mk (hbox); have GW432 := Aside0.mk ((by rw [hg]; exact (below_size bp_) : w.heap.size ≤ gb432)); have GE432 := Aside0.mk ((by rw [hg]; exact (below_size bp_) : w.heap.size ≤ gb432)); replace HB := Aside0.mk (below_step bp_ hb); clear hb hbox hg; have hcz8_0 : w7.cell? ⟨gb432, 0, none⟩ = some (.int .i64 a0_0) := (blk_cell BK432.out 0).trans rfl; have hcz8_1 : w7.cell? ⟨gb432, 1, none⟩ = some (.int .i64 a0_1) := (blk_cell BK432.out 1).trans rfl; have hcz8_2 : w7.cell? ⟨gb432, 2, none⟩ = some (.slice A0_2 l0_2.length c0_2) := (blk_cell BK432.out 2).trans rfl; have hfz8_0 := blk_frozen BK432.out 0; have hfz8_1 := blk_frozen BK432.out 1; have hfz8_2 := blk_frozen BK432.out 2) | ((with_reducible refine gate_callee (f := 11) rfl ?_); refine goQ_ (some 14) Try.func11 #[.agg #[.int .i64 a0_0, .int .i64 a0_1, .slice A0_2 l0_2.length c0_2], .int .i64 4] ?_; (with_reducible refine (chequerref03_Good.calls k a0_0 a0_1 _ _ l0_2 4 t433 t434 t435 _ ?side1 ?side2 A3.out).mono ?_); (case side1 => repeat (first | exact (Kd.C_below HR0_2.out HB.out) | (with_reducible refine Kd.C_alloc ?_ _) | (with_reducible refine Kd.C_drewN ?_ _) | (with_reducible refine Kd.C_drew ?_))); (case side2 => exact HC0_2.out); rintro e w9 ⟨v436, rfl, ho0, hb⟩; refine ⟨_, rfl, ?_⟩; replace HO1 := Aside0.mk (Kd.V_elder' (vp_ HO1.out) (Kd.R_base ho0) hb); have HO437 := Aside0.mk (Kd.R_lower (Kd.R_newM (M := fun k_ => (w.heap.size ≤ k_)) ho0 (below_size bp_) (fun k_ h_ => h_)) (below_size bp_)); replace HB := Aside0.mk (below_step bp_ hb); (try clear hb); (try clear hb2); (try clear hk); (try clear hi); (try clear ho0)) | ((with_reducible refine gate_dst (N := 5) rfl ?_); refine box_event ?hg (N := 5) ?hd (cs := #[.int .i64 0, .int .i64 0, .slice none 0 0]) (t := 24) ?hr ?_; (case hd => rfl); (case hg => rfl); (case hr => first | (go_simp; done) | (go_simp; rfl)); intro gb438 hg w10 hbox hb; replace HO1 := Aside0.mk (Kd.V_below (Kd.V_elderB (vp_ HO1.out) gb438 (Nat.le_of_eq hg.symm)) hb); replace HO437 := Aside0.mk (Kd.R_below (rp_ HO437.out) hb); have BK438 := Aside0.mk (hbox); have GW438 := Aside0.mk ((by rw [hg]; exact (below_size bp_) : w.heap.size ≤ gb438)); have GE438 := Aside0.mk ((by rw [hg]; exact (below_size bp_) : w.heap.size ≤ gb438)); replace HB := Aside0.mk (below_step bp_ hb); clear hb hbox hg; have hcz11_0 : w10.cell? ⟨gb438, 0, none⟩ = some (.int .i64 0) := (blk_cell BK438.out 0).trans rfl; have hcz11_1 : w10.cell? ⟨gb438, 1, none⟩ = some (.int .i64 0) := (blk_cell BK438.out 1).trans rfl; have hcz11_2 : w10.cell? ⟨gb438, 2, none⟩ = some (.slice none 0 0) := (blk_cell BK438.out 2).trans rfl; have hfz11_0 := blk_frozen BK438.out 0; have hfz11_1 := blk_frozen BK438.out 1; have hfz11_2 := blk_frozen BK438.out 2; obtain ⟨Ao12, co12, eo12⟩ := Kd.R_slice HO437.out; subst eo12) | ((with_reducible refine gate_store (t := 24) (p := 5) rfl ?_); refine store_event (t := 24) (p := 5) (v := ?vo_w13) (w1 := (((w10.setCell ⟨gb438, 0, none⟩ (.int .i64 t433)).setCell ⟨gb438, 1, none⟩ (.int .i64 t434)).setCell ⟨gb438, 2, none⟩ (.slice Ao12 t435.length co12))) ?hg ?ho ?hn ?hr ?_; (case ho => rfl); (case hg => rfl); (case hn => rfl); (case hr => first | (go_simp; done) | (go_simp; rfl)); intro w13 hw; replace HO1 : Aside0 (Kd.V (Kd.int .i64) 3 w13 w.heap.size (fun k_ => (P1_ k_ ∨ w.heap.size ≤ k_) ∧ some k_ ≠ (.slice Ao12 t435.length co12 : Value).ownBlock ∧ k_ ≠ gb432 ∧ k_ ≠ gb438) (.slice A1 l1.length c1) l1) := ⟨(by rw [hw]; exact (by (with_reducible repeat (first | apply Kd.V_alloc | apply Kd.V_drewN | apply Kd.V_drew)); exact Kd.V_mono (Kd.V_far (p := ⟨gb438, 2, none⟩) (Kd.V_far (p := ⟨gb438, 1, none⟩) (Kd.V_far (p := ⟨gb438, 0, none⟩) (Kd.V_mono HO1.out (fun k_ hk => (⟨hk, hk.2⟩ : _ ∧ k_ ≠ gb438))) (fun _ hk => hk.2) (.int .i64 t433)) (fun _ hk => hk.2) (.int .i64 t434)) (fun _ hk => hk.2) (.slice Ao12 t435.length co12)) (fun _ hk => ⟨hk.1.1.1.1, ⟨hk.1.1.2, ⟨hk.1.1.1.2, hk.1.2⟩⟩⟩)))⟩; replace HO437 : Aside0 (Kd.R (Kd.int .u64) 41 w13 w.heap.size (fun k_ => (w.heap.size ≤ k_)) (.slice Ao12 t435.length co12) t435) := ⟨(by rw [hw]; exact (rf_ HO437.out BK438.out (by decide) (fun _ hk => hk.1.1)))⟩; replace BK438 : Aside0 (w13.heap[gb438]? = some (.cells #[.int .i64 t433, .int .i64 t434, .slice Ao12 t435.length co12] 24 (0, 0))) := ⟨(by rw [hw]; exact (by (with_reducible repeat (first | refine blk_drewN ?_ _ | refine blk_drew ?_ | refine blk_alloc ?_ _)); refine blk_put (cs := #[.int .i64 t433, .int .i64 t434, .slice none 0 0]) ?_ 2 _ rfl; (with_reducible repeat (first | refine blk_drewN ?_ _ | refine blk_drew ?_ | refine blk_alloc ?_ _)); refine blk_put (cs := #[.int .i64 t433, .int .i64 0, .slice none 0 0]) ?_ 1 _ rfl; (with_reducible repeat (first | refine blk_drewN ?_ _ | refine blk_drew ?_ | refine blk_alloc ?_ _)); refine blk_put (cs := #[.int .i64 0, .int .i64 0, .slice none 0 0]) ?_ 0 _ rfl; (with_reducible repeat (first | refine blk_drewN ?_ _ | refine blk_drew ?_ | refine blk_alloc ?_ _)); exact BK438.out))⟩; replace HB : Aside0 (Below w.heap.size w w13) := ⟨(by rw [hw]; exact bp_)⟩; clear hw; have q14 : ((ji4) : Int) ≤ ((l1.length : Int) : Int) := of_decide_eq_true (by first | (with_reducible assumption) | assumption); obtain ⟨i014, hi014, _, hsz14, _⟩ := info_parts info3; have hroom14 : l1.length ≤ c1 := (Kd.V_reads' HO1.out).2.1; have hC14 : Kd.F (Kd.int .i64) _ _ A1 l1.length l1 := (Kd.V_at (base := w.heap.size) HO1.out).2.2; have hcut14 := cut_to (P := Try.prog) 51 3 .i64 Try.underlying51 hi014 A1 l1.length c1 (ji4) (of_decide_eq_true (by first | (with_reducible assumption) | assumption)) q14 hroom14; have hr14 := Kd.F_take (m := ((ji4) : Int).toNat) hC14 (by omega); have hy14 : y439.length = ((ji4) : Int).toNat := (by rw [Ny439.out, List.length_take]; omega); rw [← Ny439.out] at hr14; rw [← hy14] at hcut14; have HO443 := Aside0.mk (show Kd.V (Kd.int .i64) 3 _ w.heap.size _ (.slice A1 y439.length c1) y439 from Kd.V_mk (by omega) hr14); have HC443 := Aside0.mk (show y439.length ≤ c1 from by omega); clear hr14 hC14 hroom14 hi014 hsz14; have KY14 := Aside0.mk hy14; clear hy14; replace q14 := eq_true q14) | ((with_reducible refine gate_dst (N := 20) rfl ?_); refine Kd.R_lit (Kd.int .i64) _ 3 ?hg (N := 20) ?hd (xs := ([0, 1, 2, 3, 4, 5, 6, 7] : List Int)) (inner := [.int .i64 0, .int .i64 1, .int .i64 2, .int .i64 3, .int .i64 4, .int .i64 5, .int .i64 6, .int .i64 7]) (ok := fun _ => True) (okp := fun _ => True) ?hr ?hp (fun _ hk => hk) trivial (Below.refl _ _) (Nat.le_refl _) (by simp) ?_; (case hd => rfl); (case hg => rfl); (case hr => first | (go_simp; done) | (go_simp; rfl)); (case hp => exact (Reps.one (show Kd.M (Kd.int .i64) _ _ _ 0 [.int .i64 0] from rfl) (Reps.one (show Kd.M (Kd.int .i64) _ _ _ 1 [.int .i64 1] from rfl) (Reps.one (show Kd.M (Kd.int .i64) _ _ _ 2 [.int .i64 2] from rfl) (Reps.one (show Kd.M (Kd.int .i64) _ _ _ 3 [.int .i64 3] from rfl) (Reps.one (show Kd.M (Kd.int .i64) _ _ _ 4 [.int .i64 4] from rfl) (Reps.one (show Kd.M (Kd.int .i64) _ _ _ 5 [.int .i64 5] from rfl) (Reps.one (show Kd.M (Kd.int .i64) _ _ _ 6 [.int .i64 6] from rfl) (Reps.one (show Kd.M (Kd.int .i64) _ _ _ 7 [.int .i64 7] from rfl) (Reps.none _ _)))))))))); intro v445 w15 ho16 hb hg_ hnew_; clear hg_ hnew_; (first | rw [← Ny444.out] at ho16 | (simp only [Int.reduceToNat] at ho16; rw [← Ny444.out] at ho16)); replace HO1 := Aside0.mk (Kd.V_elder' (vp_ HO1.out) (Kd.R_base ho16) hb); replace HO437 := Aside0.mk (Kd.R_below (rp_ HO437.out) hb); replace HO443 := Aside0.mk (Kd.V_elder' (vp_ HO443.out) (Kd.R_base ho16) hb); have HO446 := Aside0.mk (Kd.R_lower (Kd.R_newM (M := fun k_ => (w.heap.size ≤ k_)) ho16 (below_size bp_) (fun k_ h_ => h_)) (below_size bp_)); replace BK438 := Aside0.mk (blk_below (hp_ BK438.out) hb); replace HB := Aside0.mk (below_step bp_ hb); clear hb ho16; obtain ⟨Ao17, co17, eo17⟩ := Kd.R_slice HO446.out; subst eo17) | ((with_reducible refine gate_dst (N := 21) rfl ?_); refine Kd.N_lit (Kd.slice 3 (Kd.int .i64)) _ 51 ?hg (N' := 21) ?hd (xs := ([y439, y444] : List (List Int))) (inner := [.slice A1 y439.length c1, .slice Ao17 y444.length co17]) (ok := (fun k_ => (P1_ k_ ∨ w.heap.size ≤ k_) ∧ some k_ ≠ (.slice Ao12 t435.length co12 : Value).ownBlock ∧ k_ ≠ gb438)) (okp := (fun k_ => (P1_ k_ ∨ w.heap.size ≤ k_) ∧ some k_ ≠ (.slice Ao12 t435.length co12 : Value).ownBlock ∧ k_ ≠ gb438)) ?hr ?hp (fun _ hk => hk) ((show ∀ k_, w15.heap.size ≤ k_ → (fun k_ => (P1_ k_ ∨ w.heap.size ≤ k_) ∧ some k_ ≠ (.slice Ao12 t435.length co12 : Value).ownBlock ∧ k_ ≠ gb438) k_ from fun k_ hk => ⟨(.inr (Nat.le_trans (below_size bp_) hk)), Kd.fresh' (Kd.R_lt (rp_ HO437.out)) k_ hk, Kd.freshB (g := gb438) (o := .cells #[.int .i64 t433, .int .i64 t434, .slice Ao12 t435.length co12] 24 (0, 0)) (hp_ BK438.out) k_ hk⟩) _ (Nat.le_refl _)) (Below.refl _ _) (Nat.le_refl _) (by simp) ?_; (case hd => rfl); (case hg => rfl); (case hr => first | (go_simp; done) | (go_simp; rfl)); (case hp => exact (Reps.one (show Kd.FK (Kd.slice 3 (Kd.int .i64)) _ _ y439 [.slice A1 y439.length c1] from (Kd.FK_slice_mk (Kd.V_reads' (Kd.V_mono (ok' := (fun k_ => (P1_ k_ ∨ w.heap.size ≤ k_) ∧ some k_ ≠ (.slice Ao12 t435.length co12 : Value).ownBlock ∧ k_ ≠ gb438)) (HO443.out) (fun k_ hk => ⟨hk.1.1, ⟨hk.1.2.1, hk.1.2.2.2⟩⟩))).2.1 (Kd.V_F (Kd.V_mono (ok' := (fun k_ => (P1_ k_ ∨ w.heap.size ≤ k_) ∧ some k_ ≠ (.slice Ao12 t435.length co12 : Value).ownBlock ∧ k_ ≠ gb438)) (HO443.out) (fun k_ hk => ⟨hk.1.1, ⟨hk.1.2.1, hk.1.2.2.2⟩⟩))))) (Reps.one (show Kd.FK (Kd.slice 3 (Kd.int .i64)) _ _ y444 [.slice Ao17 y444.length co17] from (Kd.FK_slice_mk (Kd.R_reads' (Kd.R_mono (ok' := (fun k_ => (P1_ k_ ∨ w.heap.size ≤ k_) ∧ some k_ ≠ (.slice Ao12 t435.length co12 : Value).ownBlock ∧ k_ ≠ gb438)) (Kd.R_types (Kd.R_apart' (HO446.out) (Kd.R_typed HO437.out) (by decide)) BK438.out (by decide)) (fun k_ hk => ⟨(.inr (hk.1.1.1)), ⟨hk.1.2, hk.2⟩⟩))).2.1 (Kd.R_F (Kd.R_mono (ok' := (fun k_ => (P1_ k_ ∨ w.heap.size ≤ k_) ∧ some k_ ≠ (.slice Ao12 t435.length co12 : Value).ownBlock ∧ k_ ≠ gb438)) (Kd.R_types (Kd.R_apart' (HO446.out) (Kd.R_typed HO437.out) (by decide)) BK438.out (by decide)) (fun k_ hk => ⟨(.inr (hk.1.1.1)), ⟨hk.1.2, hk.2⟩⟩))))) (Reps.none _ _)))); intro v448 w18 ho19 hb hg_ hnew_; clear hg_ hnew_; (first | rw [← Ny447.out] at ho19 | (simp only [Int.reduceToNat] at ho19; rw [← Ny447.out] at ho19)); replace HO1 := Aside0.mk (Kd.V_elder' (vp_ HO1.out) (Kd.N_base ho19) hb); replace HO437 := Aside0.mk (Kd.R_below (rp_ HO437.out) hb); replace HO443 := Aside0.mk (Kd.V_elder' (vp_ HO443.out) (Kd.N_base ho19) hb); have HO449 := Aside0.mk (Kd.N_lower ho19 (below_size bp_)); replace BK438 := Aside0.mk (blk_below (hp_ BK438.out) hb); replace HB := Aside0.mk (below_step bp_ hb); clear HO446; clear hb ho19))
     go_loopg [7] k (fun kq v7 w' => ∃ (x7_1 : Int), v7 = .int .i64 x7_1 ∧ Aside0 (chequerlaw04_TurnOrbits.l0 kq y447 x7_1 t433 t434 t435 = some r) ∧ Aside0 (kq ≤ k) ∧ Aside0 (Kd.N (Kd.slice 3 (Kd.int .i64)) 51 w' w.heap.size (fun k_ => (P1_ k_ ∨ w.heap.size ≤ k_) ∧ some k_ ≠ ((.slice Ao12 t435.length co12) : Value).ownBlock ∧ k_ ≠ gb438) v448 y447) ∧ Aside0 (Kd.R (Kd.int .u64) 41 w' w.heap.size (fun k_ => (w.heap.size ≤ k_)) (.slice Ao12 t435.length co12) t435) ∧ Aside0 (w'.heap[gb438]? = some (.cells #[.int .i64 t433, .int .i64 t434, (.slice Ao12 t435.length co12)] 24 (0, 0))) ∧ Aside0 (Below w.heap.size w w'))
     case atStart => exact ⟨(0), (by first | rfl | (simp; done) | (simp [*]; done)), H', ⟨Nat.le_refl _⟩, ⟨by (with_reducible repeat (first | apply Kd.N_alloc | apply Kd.N_drewN | apply Kd.N_drew)); exact HO449.out⟩, ⟨rp_ HO437.out⟩, ⟨hp_ BK438.out⟩, ⟨bp_⟩⟩
     case round =>
      clear H'
      try clear c1
      try clear q1
      try clear p2
      try clear c5
      try clear c5b0
      try clear c5b1
      try clear c6
      try clear c6b0
      try clear c6b1
      try clear c7
      try clear c11
      try clear q14
      try clear hcz11_0
      try clear hcz11_1
      try clear hcz11_2
      try clear hcz8_0
      try clear hcz8_1
      try clear hcz8_2
      try clear hfz11_0
      try clear hfz11_1
      try clear hfz11_2
      try clear hfz8_0
      try clear hfz8_1
      try clear hfz8_2
      try clear q14
      obtain ⟨x7_1, rfl, HA, HK1, HO_6, HO_439002, BK438, HB⟩ := hrel
      cases gk with
      | zero => exact absurd HA.out (by simp [chequerlaw04_TurnOrbits.l0])
      | succ k1 =>
       have H := HA.out
       clear HA
       simp only [chequerlaw04_TurnOrbits.l0] at H
       by_cases c20 : x7_1 < 2
       · rw [if_pos c20] at H
         have c20b0 : decide (x7_1 < 2) = true := decide_eq_true c20
         clear c20
         replace H := Option.bind_eq_some_iff.mp H
         obtain ⟨⟨t451, t452, t453⟩, A210, H⟩ := H
         replace H : (if 0 ≤ x7_1 then (if x7_1 < (y447.length : Int) then ((turn_Orbit.f k1 t451 t452 t453 (rd_L6 y447 x7_1)).bind fun bt457 => ((chequerref04_Orbit.f k1 t433 t434 t435 (rd_L6 y447 x7_1)).bind fun bt464 => (if (bt457.1.length : Int) = (bt464.1.length : Int) then ((chequerref01_Same.f k1 bt457.2 bt464.2).bind fun t470 => (chequerlaw04_TurnOrbits.j1 k1 y447 x7_1 bt457.1 bt464.1 (!t470) t433 t434 t435)) else (chequerlaw04_TurnOrbits.j1 k1 y447 x7_1 bt457.1 bt464.1 true t433 t434 t435)))) else (none)) else (none)) = some r := H
         have A21 := Aside0.mk A210
         clear A210
         by_cases c22 : 0 ≤ x7_1
         · rw [if_pos c22] at H
           have c22b0 : decide (0 ≤ x7_1) = true := decide_eq_true c22
           clear c22
           by_cases c23 : x7_1 < (y447.length : Int)
           · rw [if_pos c23] at H
             have c23b0 : decide (x7_1 < (y447.length : Int)) = true := decide_eq_true c23
             clear c23
             replace H := Option.bind_eq_some_iff.mp H
             obtain ⟨⟨t457, t460⟩, A240, H⟩ := H
             replace H : ((chequerref04_Orbit.f k1 t433 t434 t435 (rd_L6 y447 x7_1)).bind fun bt464 => (if (t457.length : Int) = (bt464.1.length : Int) then ((chequerref01_Same.f k1 t460 bt464.2).bind fun t470 => (chequerlaw04_TurnOrbits.j1 k1 y447 x7_1 t457 bt464.1 (!t470) t433 t434 t435)) else (chequerlaw04_TurnOrbits.j1 k1 y447 x7_1 t457 bt464.1 true t433 t434 t435))) = some r := H
             have A24 := Aside0.mk A240
             clear A240
             replace H := Option.bind_eq_some_iff.mp H
             obtain ⟨⟨t464, t467⟩, A250, H⟩ := H
             replace H : (if (t457.length : Int) = (t464.length : Int) then ((chequerref01_Same.f k1 t460 t467).bind fun t470 => (chequerlaw04_TurnOrbits.j1 k1 y447 x7_1 t457 t464 (!t470) t433 t434 t435)) else (chequerlaw04_TurnOrbits.j1 k1 y447 x7_1 t457 t464 true t433 t434 t435)) = some r := H
             have A25 := Aside0.mk A250
             clear A250
             have HC26 := Aside0.mk H
             clear H
             try go_wp2
             (try (rw [drewN_self wr]; generalize hq_ : World.drewN wr _ = wr; have n0_ := Aside0.mk (qrp_ hq_ HO_439002.out); have n1_ : Aside0 (Kd.N (Kd.slice 3 (Kd.int .i64)) 51 wr w.heap.size (fun k_ => (P1_ k_ ∨ w.heap.size ≤ k_) ∧ some k_ ≠ (.slice Ao12 t435.length co12 : Value).ownBlock ∧ k_ ≠ gb438) v448 y447) := ⟨by rw [← hq_]; exact (by (with_reducible repeat (first | apply Kd.N_alloc | apply Kd.N_drewN | apply Kd.N_drew)); exact HO_6.out)⟩; have n2_ := Aside0.mk (qhp_ hq_ BK438.out); have n3_ : Aside0 (Below w.heap.size w wr) := ⟨qbp_ hq_⟩; clear HO_439002 HO_6 BK438 HB hq_; have HO_439002 := n0_; have HO_6 := n1_; have BK438 := n2_; have HB := n3_; clear n0_ n1_ n2_ n3_))
             replace HO_6 := Aside0.mk (Kd.N_drew HO_6.out)
             replace HO_439002 := Aside0.mk (Kd.R_drew HO_439002.out)
             replace BK438 := Aside0.mk (blk_drew BK438.out)
             replace HB := Aside0.mk (below_drew1 HB.out)
             obtain ⟨Ao28, co28, eo28⟩ := Kd.N_slice HO_6.out
             (first | subst eo28 | (injection eo28 with f1_ f2_ f3_; have f4_ := f1_.symm; have f5_ := f3_.symm; clear f1_ f2_ f3_; subst f4_; subst f5_))
             have p456 : 0 ≤ (x7_1 : Int) := of_decide_eq_true (by first | (with_reducible assumption) | assumption)
             have q456 : x7_1 < (y447.length : Int) := of_decide_eq_true (by first | (with_reducible assumption) | assumption)
             obtain ⟨ad456, A456_0, c456_0, e456, hx456_0, hl456_0, hi456_0⟩ := at_L6 (Kd.N_reads' HO_6.out).2.2 x7_1 p456 q456
             cases e456
             obtain ⟨ce456, hce456, hMe456, hcc456⟩ := Kd.N_get HO_6.out [] x7_1 p456 (by first | exact q456 | exact of_decide_eq_true (by first | (with_reducible assumption) | assumption) | (have e_ := (Kd.N_reads' HO_6.out).1; omega))
             obtain ⟨ua456_0, uc456_0, rfl, ul456_0, ge456_0⟩ := Kd.FK_slice_open hMe456
             have hv456_0 := hcc456 0 _ rfl
             rw [Nat.add_zero, show ((Kd.slice 3 (Kd.int .i64))).sz = 1 from rfl, Nat.mul_one] at hv456_0
             replace hv456_0 := Option.some.inj (hv456_0.symm.trans hx456_0)
             injection hv456_0 with hva_ hvn_ hvc_
             rw [hva_] at ge456_0
             rw [hvc_] at ul456_0
             have HL456_0 := Aside0.mk (show Kd.V (Kd.int .i64) 3 _ w.heap.size _ _ (rd_L6 y447 x7_1) from Kd.V_mk ul456_0 ge456_0)
             clear hva_ hvn_ hvc_ ge456_0 ul456_0
             clear hcc456 hce456
             have HR456_0 := Aside0.mk hi456_0
             have HC456_0 := Aside0.mk hl456_0
             clear hi456_0 hl456_0
             replace p456 := eq_true p456
             replace q456 := eq_true q456
             refine start_ (n := 12) (S := fun w' => w'.cell? ⟨gb438, 0, none⟩ = some (.int .i64 t433) ∧ w'.cell? ⟨gb438, 1, none⟩ = some (.int .i64 t434) ∧ w'.cell? ⟨gb438, 2, none⟩ = some (.slice Ao12 t435.length co12) ∧ w'.cell? (ad456.add (x7_1).toNat) = some (.slice A456_0 (rd_L6 y447 x7_1).length c456_0)) (ds := []) #[false, false, false, false, false, false, false, false, false, false, false, false] (by kernel_rfl) rfl rfl ⟨(blk_cell BK438.out 0).trans rfl, (blk_cell BK438.out 1).trans rfl, (blk_cell BK438.out 2).trans rfl, hx456_0⟩ (fun hHeld => ?_); refine with_tabW chequerlaw04_TurnOrbits.tab6 chequerlaw04_TurnOrbits.bits6 (fun HT_ HW_ => ?_)
             generalize wr.drew = w27 at HO_6 HO_439002 BK438 HB HL456_0 HR456_0 hx456_0 hHeld ⊢
             refine pur_ (i := 2) (N := some 29) #[false, false, true, false, false, false, false, false, false, false, false, false] (any_of HT_.out (by kernel_rfl)) ?_
             refine pur_ (i := 3) (N := some 30) #[false, false, true, true, false, false, false, false, false, false, false, false] (any_of HT_.out (by kernel_rfl)) ?_
             refine pur_ (i := 4) (N := some 31) #[false, false, true, true, true, false, false, false, false, false, false, false] (any_of HT_.out (by kernel_rfl)) ?_
             refine take_ (i := 0) (N := some 27) (v := ?_) (a' := ?_) #[true, false, true, true, true, false, false, false, false, false, false, false] rfl rfl (take_ofW HT_.out HW_.out (by kernel_rfl)) (fun _ _ _ h => h) (Or.inl ⟨by rfl, ?_⟩) hHeld ?_ ?_
             rotate_left
             · rintro w' ⟨s0, s1, s2, s3⟩
               go_simp
               with_reducible rfl
             rotate_left
             · simp only [Act.put, List.setIfInBounds_toArray, List.set_cons_zero, List.set_cons_succ, i64_w, i32_w]
               rfl
             refine take_ (i := 5) (N := some 32) (v := ?_) (a' := ?_) #[true, false, true, true, true, true, false, false, false, false, false, false] rfl rfl (take_ofW HT_.out HW_.out (by kernel_rfl)) (fun _ _ _ h => h) (Or.inl ⟨by rfl, ?_⟩) hHeld ?_ ?_
             rotate_left
             · rintro w' ⟨s0, s1, s2, s3⟩
               go_simp
               with_reducible rfl
             rotate_left
             · simp only [Act.put, List.setIfInBounds_toArray, List.set_cons_zero, List.set_cons_succ, i64_w, i32_w]
               rfl
             refine one_ (i := 1) (N := some 28) #[true, true, true, true, true, true, false, false, false, false, false, false] rfl rfl (one_of HT_.out (by kernel_rfl)) (by decide) (fun K hK => ?_)
             refine goes_ Try.func13 (by kernel_rfl) rfl #[.agg #[.int .i64 t433, .int .i64 t434, .slice Ao12 t435.length co12]] (by rfl) rfl rfl (by (try simp only [List.map_toArray, List.map_cons, List.map_nil]); first | done | rfl | (simp only [List.length_drop, List.length_take]; rfl)) ?_
             with_reducible refine (chequerlaw04_of.calls t433 t434 (fun k_ => some k_ = (.slice Ao12 t435.length co12 : Value).ownBlock) _ _ t435 t451 t452 t453 _ ?side1 A21.out).mono ?_
             (case side1 => exact Kd.R_V (Kd.R_tight rfl (Kd.R_types (Kd.R_apart' (HO_439002.out) (Kd.N_typed HO_6.out) (by decide)) BK438.out (by decide))))
             rintro e w29 ⟨v454, rfl, ho0, hb⟩
             have HS3_ := (hb.cell (World.block_lt_of_cell? _ _ (hHeld.2.2.2))).trans (hHeld.2.2.2)
             refine ⟨_, rfl, ?_⟩
             replace HL456_0 := Aside0.mk (Kd.V_below (vp_ HL456_0.out) hb)
             have HO455 := Aside0.mk (Kd.V_lower (Kd.V_mono (ok' := fun k_ => (P1_ k_ ∨ w.heap.size ≤ k_) ∧ some k_ ≠ (.slice (some ad456) y447.length co28 : Value).ownBlock ∧ k_ ≠ gb438) ho0 (fun k_ hk_ => ⟨Or.elim hk_ (fun hs_ => (.inr (((Kd.R_types (Kd.R_apart' (HO_439002.out) (Kd.N_typed HO_6.out) (by decide)) BK438.out (by decide)).1 k_ hs_.symm).1.1))) (fun hn_ => (.inr (Nat.le_trans (below_size bp_) hn_))), Or.elim hk_ (fun hs_ => ((Kd.R_types (Kd.R_apart' (HO_439002.out) (Kd.N_typed HO_6.out) (by decide)) BK438.out (by decide)).1 k_ hs_.symm).1.2) (fun hn_ => (Kd.fresh' (Kd.N_lt (by (with_reducible repeat (first | apply Kd.N_alloc | apply Kd.N_drewN | apply Kd.N_drew)); exact HO_6.out)) k_ hn_)), Or.elim hk_ (fun hs_ => ((Kd.R_types (Kd.R_apart' (HO_439002.out) (Kd.N_typed HO_6.out) (by decide)) BK438.out (by decide)).1 k_ hs_.symm).2) (fun hn_ => (Kd.freshB (g := gb438) (o := .cells #[.int .i64 t433, .int .i64 t434, .slice Ao12 t435.length co12] 24 (0, 0)) (hp_ BK438.out) k_ hn_))⟩)) (below_size bp_))
             replace HO_6 := Aside0.mk (Kd.N_below (by (with_reducible repeat (first | apply Kd.N_alloc | apply Kd.N_drewN | apply Kd.N_drew)); exact HO_6.out) hb)
             replace HO_439002 := Aside0.mk (Kd.R_below (rp_ HO_439002.out) hb)
             replace BK438 := Aside0.mk (blk_below (hp_ BK438.out) hb)
             replace HR456_0 := Aside0.mk (Kd.C_below (by repeat (first | (with_reducible exact HR456_0.out) | (with_reducible refine Kd.C_alloc ?_ _) | (with_reducible refine Kd.C_drewN ?_ _) | (with_reducible refine Kd.C_drew ?_) | exact HR456_0.out)) hb)
             replace HB := Aside0.mk (below_step bp_ hb)
             (try clear hb)
             (try clear hb2)
             (try clear hk)
             (try clear hi)
             (try clear ho0)
             obtain ⟨Ao30, co30, eo30⟩ := Kd.V_slice HO455.out
             (first | subst eo30 | (injection eo30 with f1_ f2_ f3_; have f4_ := f1_.symm; have f5_ := f3_.symm; clear f1_ f2_ f3_; subst f4_; subst f5_))
             refine hK.out _ _ ⟨(blk_cell BK438.out 0).trans rfl, (blk_cell BK438.out 1).trans rfl, (blk_cell BK438.out 2).trans rfl, HS3_⟩ (fun hHeld => ?_)
             clear hK K
             refine norm_ (a' := ?_) ?_ ?_
             rotate_left
             · show Act.put _ (some 28) _ = _
               simp only [Act.put, List.setIfInBounds_toArray, List.set_cons_zero, List.set_cons_succ, i64_w, i32_w]
               rfl
             refine one_ (i := 6) (N := some 33) #[true, true, true, true, true, true, true, false, false, false, false, false] rfl rfl (one_of HT_.out (by kernel_rfl)) (by decide) (fun K hK => ?_)
             refine goes_ Try.func28 (by kernel_rfl) rfl #[.agg #[.int .i64 t451, .int .i64 t452, .slice Ao30 t453.length co30], .slice A456_0 (rd_L6 y447 x7_1).length c456_0] (by rfl) rfl rfl (by (try simp only [List.map_toArray, List.map_cons, List.map_nil]); first | done | rfl | (simp only [List.length_drop, List.length_take]; rfl)) ?_
             with_reducible refine (turn_Orbit.calls k1 t451 t452 _ _ t453 _ _ (rd_L6 y447 x7_1) t457 t460 _ ?side1 ?side2 ?side3 ?side4 A24.out).mono ?_
             (case side1 => exact cp_ (Kd.V_reads' HO455.out).2.2)
             (case side2 => exact (Kd.V_reads' HO455.out).2.1)
             (case side3 => repeat (first | exact (by repeat (first | (with_reducible exact HR456_0.out) | (with_reducible refine Kd.C_alloc ?_ _) | (with_reducible refine Kd.C_drewN ?_ _) | (with_reducible refine Kd.C_drew ?_) | exact HR456_0.out)) | (with_reducible refine Kd.C_alloc ?_ _) | (with_reducible refine Kd.C_drewN ?_ _) | (with_reducible refine Kd.C_drew ?_)))
             (case side4 => exact HC456_0.out)
             rintro e w31 ⟨v458, v461, rfl, ho0, ho1, hb⟩
             have HS3_ := (hb.cell (World.block_lt_of_cell? _ _ (hHeld.2.2.2))).trans (hHeld.2.2.2)
             refine ⟨_, rfl, ?_⟩
             replace HL456_0 := Aside0.mk (Kd.V_mono (Kd.V_told (Kd.V_told (Kd.V_old (vp_ HL456_0.out) hb) (Kd.N_base ho0)) (Kd.R_base ho1)) (fun _ h_ => h_.1))
             replace HO455 := Aside0.mk (Kd.V_mono (Kd.V_told (Kd.V_told (Kd.V_old (vp_ HO455.out) hb) (Kd.N_base ho0)) (Kd.R_base ho1)) (fun _ h_ => h_.1))
             have HO459 := Aside0.mk (Kd.N_lower (Kd.N_mono (ok' := fun k_ => (P1_ k_ ∨ w.heap.size ≤ k_) ∧ some k_ ≠ (v461 : Value).ownBlock ∧ some k_ ≠ (.slice (some ad456) y447.length co28 : Value).ownBlock ∧ some k_ ≠ (.slice Ao12 t435.length co12 : Value).ownBlock ∧ k_ ≠ gb438) ho0 (fun k_ hk_ => ⟨(.inr (Nat.le_trans (below_size bp_) hk_.1)), hk_.2, (Kd.fresh' (Kd.N_lt (by (with_reducible repeat (first | apply Kd.N_alloc | apply Kd.N_drewN | apply Kd.N_drew)); exact HO_6.out)) k_ hk_.1), (Kd.fresh' (Kd.R_lt (rp_ HO_439002.out)) k_ hk_.1), (Kd.freshB (g := gb438) (o := .cells #[.int .i64 t433, .int .i64 t434, .slice Ao12 t435.length co12] 24 (0, 0)) (hp_ BK438.out) k_ hk_.1)⟩)) (below_size bp_))
             replace HO_6 := Aside0.mk (Kd.N_mono (Kd.N_told (Kd.N_told (Kd.N_old (by (with_reducible repeat (first | apply Kd.N_alloc | apply Kd.N_drewN | apply Kd.N_drew)); exact HO_6.out) hb) (Kd.N_base ho0)) (Kd.R_base ho1)) (fun _ h_ => h_.1))
             replace HO_439002 := Aside0.mk (Kd.R_below (rp_ HO_439002.out) hb)
             have HO462 := Aside0.mk (Kd.R_lower (Kd.R_newM (M := fun k_ => (w.heap.size ≤ k_)) (Kd.R_mono (ok' := fun k_ => True) ho1 (fun _ hk_ => trivial)) (below_size bp_) (fun k_ h_ => h_)) (below_size bp_))
             replace BK438 := Aside0.mk (blk_below (hp_ BK438.out) hb)
             replace HR456_0 := Aside0.mk (Kd.C_below (by repeat (first | (with_reducible exact HR456_0.out) | (with_reducible refine Kd.C_alloc ?_ _) | (with_reducible refine Kd.C_drewN ?_ _) | (with_reducible refine Kd.C_drew ?_) | exact HR456_0.out)) hb)
             replace HB := Aside0.mk (below_step bp_ hb)
             (try clear hb)
             (try clear hb2)
             (try clear hk)
             (try clear hi)
             (try clear ho0)
             (try clear ho1)
             refine hK.out _ _ ⟨(blk_cell BK438.out 0).trans rfl, (blk_cell BK438.out 1).trans rfl, (blk_cell BK438.out 2).trans rfl, HS3_⟩ (fun hHeld => ?_)
             clear hK K
             refine norm_ (a' := ?_) ?_ ?_
             rotate_left
             · show Act.put _ (some 33) _ = _
               simp only [Act.put, List.setIfInBounds_toArray, List.set_cons_zero, List.set_cons_succ, i64_w, i32_w]
               rfl
             refine pur_ (i := 7) (N := some 26) #[true, true, true, true, true, true, true, true, false, false, false, false] (any_of HT_.out (by kernel_rfl)) ?_
             refine pur_ (i := 8) (N := some 34) #[true, true, true, true, true, true, true, true, true, false, false, false] (any_of HT_.out (by kernel_rfl)) ?_
             refine pur_ (i := 9) (N := some 35) #[true, true, true, true, true, true, true, true, true, true, false, false] (any_of HT_.out (by kernel_rfl)) ?_
             refine pur_ (i := 10) (N := some 8) #[true, true, true, true, true, true, true, true, true, true, true, false] (any_of HT_.out (by kernel_rfl)) ?_
             refine pur_ (i := 11) (N := some 9) #[true, true, true, true, true, true, true, true, true, true, true, true] (any_of HT_.out (by kernel_rfl)) ?_
             refine done_ (done_of HT_.out (by kernel_rfl)) ?_
             try go_wp2
             replace HO_6 := Aside0.mk (Kd.N_drew HO_6.out)
             replace HO_439002 := Aside0.mk (Kd.R_drew HO_439002.out)
             replace HL456_0 := Aside0.mk (Kd.V_drew HL456_0.out)
             replace HO455 := Aside0.mk (Kd.V_drew HO455.out)
             replace HO459 := Aside0.mk (Kd.N_drew HO459.out)
             replace HO462 := Aside0.mk (Kd.R_drew HO462.out)
             replace BK438 := Aside0.mk (blk_drew BK438.out)
             replace HR456_0 := Aside0.mk (Kd.C_drew HR456_0.out)
             replace HB := Aside0.mk (below_drew1 HB.out)
             have p463 : 0 ≤ (x7_1 : Int) := of_decide_eq_true (by first | (with_reducible assumption) | assumption)
             have q463 : x7_1 < (y447.length : Int) := of_decide_eq_true (by first | (with_reducible assumption) | assumption)
             obtain ⟨ad463, A463_0, c463_0, e463, hx463_0, hl463_0, hi463_0⟩ := at_L6 (Kd.N_reads' HO_6.out).2.2 x7_1 p463 q463
             obtain rfl : ad456 = ad463 := (by injection e463)
             obtain ⟨ce463, hce463, hMe463, hcc463⟩ := Kd.N_get HO_6.out [] x7_1 p463 (by first | exact q463 | exact of_decide_eq_true (by first | (with_reducible assumption) | assumption) | (have e_ := (Kd.N_reads' HO_6.out).1; omega))
             obtain ⟨ua463_0, uc463_0, rfl, ul463_0, ge463_0⟩ := Kd.FK_slice_open hMe463
             have hv463_0 := hcc463 0 _ rfl
             rw [Nat.add_zero, show ((Kd.slice 3 (Kd.int .i64))).sz = 1 from rfl, Nat.mul_one] at hv463_0
             replace hv463_0 := Option.some.inj (hv463_0.symm.trans hx463_0)
             injection hv463_0 with hva_ hvn_ hvc_
             rw [hva_] at ge463_0
             rw [hvc_] at ul463_0
             have HL463_0 := Aside0.mk (show Kd.V (Kd.int .i64) 3 _ w.heap.size _ _ (rd_L6 y447 x7_1) from Kd.V_mk ul463_0 ge463_0)
             clear hva_ hvn_ hvc_ ge463_0 ul463_0
             clear hcc463 hce463
             have HR463_0 := Aside0.mk hi463_0
             have HC463_0 := Aside0.mk hl463_0
             clear hi463_0 hl463_0
             replace p463 := eq_true p463
             replace q463 := eq_true q463
             refine start_ (n := 11) (S := fun w' => w'.cell? ⟨gb438, 0, none⟩ = some (.int .i64 t433) ∧ w'.cell? ⟨gb438, 1, none⟩ = some (.int .i64 t434) ∧ w'.cell? ⟨gb438, 2, none⟩ = some (.slice Ao12 t435.length co12) ∧ w'.cell? (ad456.add (x7_1).toNat) = some (.slice A463_0 (rd_L6 y447 x7_1).length c463_0)) (ds := []) Fl132 (by kernel_rfl) rfl rfl ⟨(blk_cell BK438.out 0).trans rfl, (blk_cell BK438.out 1).trans rfl, (blk_cell BK438.out 2).trans rfl, hx463_0⟩ (fun hHeld => ?_); refine with_tabW chequerlaw04_TurnOrbits.tab7 chequerlaw04_TurnOrbits.bits7 (fun HT_ HW_ => ?_)
             generalize w31.drew = w32 at HO_6 HO_439002 HL456_0 HO455 HO459 HO462 BK438 HR456_0 HB HL463_0 HR463_0 hx463_0 hHeld ⊢
             refine pur_ (i := 1) (N := some 38) #[false, true, false, false, false, false, false, false, false, false, false] (any_of HT_.out (by kernel_rfl)) ?_
             refine pur_ (i := 2) (N := some 39) #[false, true, true, false, false, false, false, false, false, false, false] (any_of HT_.out (by kernel_rfl)) ?_
             refine pur_ (i := 3) (N := some 40) #[false, true, true, true, false, false, false, false, false, false, false] (any_of HT_.out (by kernel_rfl)) ?_
             refine take_ (i := 0) (N := some 37) (v := ?_) (a' := ?_) #[true, true, true, true, false, false, false, false, false, false, false] rfl rfl (take_ofW HT_.out HW_.out (by kernel_rfl)) (fun _ _ _ h => h) (Or.inl ⟨by rfl, ?_⟩) hHeld ?_ ?_
             rotate_left
             · rintro w' ⟨s0, s1, s2, s3⟩
               go_simp
               with_reducible rfl
             rotate_left
             · simp only [Act.put, List.setIfInBounds_toArray, List.set_cons_zero, List.set_cons_succ, i64_w, i32_w]
               rfl
             refine take_ (i := 4) (N := some 41) (v := ?_) (a' := ?_) #[true, true, true, true, true, false, false, false, false, false, false] rfl rfl (take_ofW HT_.out HW_.out (by kernel_rfl)) (fun _ _ _ h => h) (Or.inl ⟨by rfl, ?_⟩) hHeld ?_ ?_
             rotate_left
             · rintro w' ⟨s0, s1, s2, s3⟩
               go_simp
               with_reducible rfl
             rotate_left
             · simp only [Act.put, List.setIfInBounds_toArray, List.set_cons_zero, List.set_cons_succ, i64_w, i32_w]
               rfl
             refine one_ (i := 5) (N := some 42) #[true, true, true, true, true, true, false, false, false, false, false] rfl rfl (one_of HT_.out (by kernel_rfl)) (by decide) (fun K hK => ?_)
             refine goes_ Try.func29 (by kernel_rfl) rfl #[.agg #[.int .i64 t433, .int .i64 t434, .slice Ao12 t435.length co12], .slice A463_0 (rd_L6 y447 x7_1).length c463_0] (by rfl) rfl rfl (by (try simp only [List.map_toArray, List.map_cons, List.map_nil]); first | done | rfl | (simp only [List.length_drop, List.length_take]; rfl)) ?_
             with_reducible refine (chequerref04_Orbit.calls k1 t433 t434 (fun k_ => some k_ = (.slice Ao12 t435.length co12 : Value).ownBlock) _ _ t435 _ _ (rd_L6 y447 x7_1) t464 t467 _ ?side1 ?side2 ?side3 A25.out).mono ?_
             (case side1 => exact Kd.R_V (Kd.R_tight rfl (Kd.R_types (Kd.R_apart' (Kd.R_apart' (Kd.R_apart' (HO_439002.out) (Kd.N_typed HO_6.out) (by decide)) (Kd.N_typed HO459.out) (by decide)) (Kd.R_typed HO462.out) (by decide)) BK438.out (by decide))))
             (case side2 => repeat (first | exact (by repeat (first | (with_reducible exact HR463_0.out) | (with_reducible refine Kd.C_alloc ?_ _) | (with_reducible refine Kd.C_drewN ?_ _) | (with_reducible refine Kd.C_drew ?_) | exact HR463_0.out)) | (with_reducible refine Kd.C_alloc ?_ _) | (with_reducible refine Kd.C_drewN ?_ _) | (with_reducible refine Kd.C_drew ?_)))
             (case side3 => exact HC463_0.out)
             rintro e w33 ⟨v465, v468, rfl, ho0, ho1, hb⟩
             have HS3_ := (hb.cell (World.block_lt_of_cell? _ _ (hHeld.2.2.2))).trans (hHeld.2.2.2)
             refine ⟨_, rfl, ?_⟩
             replace HL456_0 := Aside0.mk (Kd.V_mono (Kd.V_told (Kd.V_told (Kd.V_old (vp_ HL456_0.out) hb) (Kd.N_base ho0)) (Kd.R_base ho1)) (fun _ h_ => h_.1))
             replace HO455 := Aside0.mk (Kd.V_mono (Kd.V_told (Kd.V_told (Kd.V_old (vp_ HO455.out) hb) (Kd.N_base ho0)) (Kd.R_base ho1)) (fun _ h_ => h_.1))
             replace HL463_0 := Aside0.mk (Kd.V_mono (Kd.V_told (Kd.V_told (Kd.V_old (vp_ HL463_0.out) hb) (Kd.N_base ho0)) (Kd.R_base ho1)) (fun _ h_ => h_.1))
             have HO466 := Aside0.mk (Kd.N_lower (Kd.N_mono (ok' := fun k_ => (P1_ k_ ∨ w.heap.size ≤ k_) ∧ some k_ ≠ (v468 : Value).ownBlock ∧ some k_ ≠ (.slice (some ad456) y447.length co28 : Value).ownBlock ∧ some k_ ≠ (v458 : Value).ownBlock ∧ some k_ ≠ (v461 : Value).ownBlock ∧ k_ ≠ gb438) ho0 (fun k_ hk_ => ⟨Or.elim hk_.1 (fun hs_ => (.inr (((Kd.R_types (Kd.R_apart' (Kd.R_apart' (Kd.R_apart' (HO_439002.out) (Kd.N_typed HO_6.out) (by decide)) (Kd.N_typed HO459.out) (by decide)) (Kd.R_typed HO462.out) (by decide)) BK438.out (by decide)).1 k_ hs_.symm).1.1.1.1))) (fun hn_ => (.inr (Nat.le_trans (below_size bp_) hn_))), hk_.2, Or.elim hk_.1 (fun hs_ => ((Kd.R_types (Kd.R_apart' (Kd.R_apart' (Kd.R_apart' (HO_439002.out) (Kd.N_typed HO_6.out) (by decide)) (Kd.N_typed HO459.out) (by decide)) (Kd.R_typed HO462.out) (by decide)) BK438.out (by decide)).1 k_ hs_.symm).1.1.1.2) (fun hn_ => (Kd.fresh' (Kd.N_lt (by (with_reducible repeat (first | apply Kd.N_alloc | apply Kd.N_drewN | apply Kd.N_drew)); exact HO_6.out)) k_ hn_)), Or.elim hk_.1 (fun hs_ => ((Kd.R_types (Kd.R_apart' (Kd.R_apart' (Kd.R_apart' (HO_439002.out) (Kd.N_typed HO_6.out) (by decide)) (Kd.N_typed HO459.out) (by decide)) (Kd.R_typed HO462.out) (by decide)) BK438.out (by decide)).1 k_ hs_.symm).1.1.2) (fun hn_ => (Kd.fresh' (Kd.N_lt (by (with_reducible repeat (first | apply Kd.N_alloc | apply Kd.N_drewN | apply Kd.N_drew)); exact HO459.out)) k_ hn_)), Or.elim hk_.1 (fun hs_ => ((Kd.R_types (Kd.R_apart' (Kd.R_apart' (Kd.R_apart' (HO_439002.out) (Kd.N_typed HO_6.out) (by decide)) (Kd.N_typed HO459.out) (by decide)) (Kd.R_typed HO462.out) (by decide)) BK438.out (by decide)).1 k_ hs_.symm).1.2) (fun hn_ => (Kd.fresh' (Kd.R_lt (rp_ HO462.out)) k_ hn_)), Or.elim hk_.1 (fun hs_ => ((Kd.R_types (Kd.R_apart' (Kd.R_apart' (Kd.R_apart' (HO_439002.out) (Kd.N_typed HO_6.out) (by decide)) (Kd.N_typed HO459.out) (by decide)) (Kd.R_typed HO462.out) (by decide)) BK438.out (by decide)).1 k_ hs_.symm).2) (fun hn_ => (Kd.freshB (g := gb438) (o := .cells #[.int .i64 t433, .int .i64 t434, .slice Ao12 t435.length co12] 24 (0, 0)) (hp_ BK438.out) k_ hn_))⟩)) (below_size bp_))
             replace HO_6 := Aside0.mk (Kd.N_mono (Kd.N_told (Kd.N_told (Kd.N_old (by (with_reducible repeat (first | apply Kd.N_alloc | apply Kd.N_drewN | apply Kd.N_drew)); exact HO_6.out) hb) (Kd.N_base ho0)) (Kd.R_base ho1)) (fun _ h_ => h_.1))
             replace HO_439002 := Aside0.mk (Kd.R_below (rp_ HO_439002.out) hb)
             replace HO459 := Aside0.mk (Kd.N_mono (Kd.N_told (Kd.N_told (Kd.N_old (by (with_reducible repeat (first | apply Kd.N_alloc | apply Kd.N_drewN | apply Kd.N_drew)); exact HO459.out) hb) (Kd.N_base ho0)) (Kd.R_base ho1)) (fun _ h_ => h_.1))
             have HO469 := Aside0.mk (Kd.R_lower (Kd.R_new' (Kd.R_newM (M := fun k_ => (w.heap.size ≤ k_)) (Kd.R_mono (ok' := fun k_ => True) ho1 (fun _ hk_ => trivial)) (below_size bp_) (fun k_ h_ => h_)) (Kd.R_lt (rp_ HO462.out))) (below_size bp_))
             replace HO462 := Aside0.mk (Kd.R_elder' (rp_ HO462.out) (Kd.R_base ho1) hb)
             replace BK438 := Aside0.mk (blk_below (hp_ BK438.out) hb)
             replace HR456_0 := Aside0.mk (Kd.C_below (by repeat (first | (with_reducible exact HR456_0.out) | (with_reducible refine Kd.C_alloc ?_ _) | (with_reducible refine Kd.C_drewN ?_ _) | (with_reducible refine Kd.C_drew ?_) | exact HR456_0.out)) hb)
             replace HR463_0 := Aside0.mk (Kd.C_below (by repeat (first | (with_reducible exact HR463_0.out) | (with_reducible refine Kd.C_alloc ?_ _) | (with_reducible refine Kd.C_drewN ?_ _) | (with_reducible refine Kd.C_drew ?_) | exact HR463_0.out)) hb)
             replace HB := Aside0.mk (below_step bp_ hb)
             (try clear hb)
             (try clear hb2)
             (try clear hk)
             (try clear hi)
             (try clear ho0)
             (try clear ho1)
             refine hK.out _ _ ⟨(blk_cell BK438.out 0).trans rfl, (blk_cell BK438.out 1).trans rfl, (blk_cell BK438.out 2).trans rfl, HS3_⟩ (fun hHeld => ?_)
             clear hK K
             refine norm_ (a' := ?_) ?_ ?_
             rotate_left
             · show Act.put _ (some 42) _ = _
               simp only [Act.put, List.setIfInBounds_toArray, List.set_cons_zero, List.set_cons_succ, i64_w, i32_w]
               rfl
             refine pur_ (i := 6) (N := some 36) #[true, true, true, true, true, true, true, false, false, false, false] (any_of HT_.out (by kernel_rfl)) ?_
             refine pur_ (i := 7) (N := some 43) #[true, true, true, true, true, true, true, true, false, false, false] (any_of HT_.out (by kernel_rfl)) ?_
             refine pur_ (i := 8) (N := some 44) Fl133 (any_of HT_.out (by kernel_rfl)) ?_
             refine pur_ (i := 9) (N := some 10) Fl134 (any_of HT_.out (by kernel_rfl)) ?_
             refine pur_ (i := 10) (N := some 11) Fl135 (any_of HT_.out (by kernel_rfl)) ?_
             refine done_ (done_of HT_.out (by kernel_rfl)) ?_
             go_upto_region 8 with (fail)
             go_cut [55] (fun v55 wc => ∃ (kq : Nat) (x55_25 : Bool), v55 = .bool x55_25 ∧ Aside0 (chequerlaw04_TurnOrbits.j1 kq y447 x7_1 t457 t464 x55_25 t433 t434 t435 = some r) ∧ Aside0 (kq ≤ k1) ∧ Aside0 (Kd.N (Kd.slice 3 (Kd.int .i64)) 51 wc w.heap.size (fun k_ => (P1_ k_ ∨ w.heap.size ≤ k_) ∧ some k_ ≠ (v458 : Value).ownBlock ∧ some k_ ≠ (v465 : Value).ownBlock ∧ some k_ ≠ ((.slice Ao12 t435.length co12) : Value).ownBlock ∧ k_ ≠ gb438) (.slice (some ad456) y447.length co28) y447) ∧ Aside0 (Kd.N k26 26 wc w.heap.size (fun k_ => (P1_ k_ ∨ w.heap.size ≤ k_) ∧ some k_ ≠ ((.slice (some ad456) y447.length co28) : Value).ownBlock ∧ some k_ ≠ (v465 : Value).ownBlock ∧ some k_ ≠ ((.slice Ao12 t435.length co12) : Value).ownBlock ∧ k_ ≠ gb438) v458 t457) ∧ Aside0 (Kd.N k24 24 wc w.heap.size (fun k_ => (P1_ k_ ∨ w.heap.size ≤ k_) ∧ some k_ ≠ ((.slice (some ad456) y447.length co28) : Value).ownBlock ∧ some k_ ≠ (v458 : Value).ownBlock ∧ k_ ≠ gb438) v465 t464) ∧ Aside0 (Kd.R (Kd.int .u64) 41 wc w.heap.size (fun k_ => (w.heap.size ≤ k_)) (.slice Ao12 t435.length co12) t435) ∧ Aside0 (wc.heap[gb438]? = some (.cells #[.int .i64 t433, .int .i64 t434, (.slice Ao12 t435.length co12)] 24 (0, 0))) ∧ Aside0 (Kd.C (Kd.int .i64) wc A456_0 (rd_L6 y447 x7_1).length (rd_L6 y447 x7_1)) ∧ Aside0 (Kd.C (Kd.int .i64) wc A463_0 (rd_L6 y447 x7_1).length (rd_L6 y447 x7_1)) ∧ Aside0 (Below w.heap.size w wc))
             case first =>
              have H := HC26.out
              clear HC26
              by_cases c34 : (t457.length : Int) = (t464.length : Int)
              · rw [if_pos c34] at H
                have c34b0 : ((t457.length : Int) == (t464.length : Int)) = true := beq_iff_eq.mpr c34
                have c34b1 : ((t457.length : Int) != (t464.length : Int)) = false := bne_eq_false_iff_eq.mpr c34
                have c34b2 : (t457.length == t464.length) = true := by first | simpa using c34 | (simp at c34 ⊢; omega)
                clear c34
                (first | rw [c34b0] | (simp only [i64_w, i32_w]; rw [c34b0]) | skip)
                replace H := Option.bind_eq_some_iff.mp H
                obtain ⟨t470, A350, H⟩ := H
                replace H : (chequerlaw04_TurnOrbits.j1 k1 y447 x7_1 t457 t464 (!t470) t433 t434 t435) = some r := H
                have A35 := Aside0.mk A350
                clear A350
                have H' := Aside0.mk H
                clear H
                obtain ⟨Ao36, co36, eo36⟩ := Kd.N_slice HO459.out
                subst eo36
                obtain ⟨Ao37, co37, eo37⟩ := Kd.N_slice HO466.out
                subst eo37
                obtain ⟨Ao38, co38, eo38⟩ := Kd.R_slice HO462.out
                subst eo38
                obtain ⟨Ao39, co39, eo39⟩ := Kd.R_slice HO469.out
                subst eo39
                go_wp2_with (first | (go_at_call 30; (with_reducible refine (chequerref01_Same.calls k1 _ _ t460 _ _ t467 t470 _ ?side1 ?side2 ?side3 ?side4 A35.out).mono ?_); (case side1 => exact cp_ (Kd.R_reads' HO462.out).2.2); (case side2 => exact (Kd.R_reads' HO462.out).2.1); (case side3 => exact cp_ (Kd.R_reads' HO469.out).2.2); (case side4 => exact (Kd.R_reads' HO469.out).2.1); rintro e w' ⟨rfl, ⟨nd, rfl⟩⟩))
                go_meet
                case rel => exact ⟨_, (!t470), (by first | rfl | (simp; done) | (simp [*]; done)), H', ⟨by have := HK1.out; first | omega | exact Nat.le_refl _⟩, ⟨by (with_reducible repeat (first | apply Kd.N_alloc | apply Kd.N_drewN | apply Kd.N_drew)); exact Kd.N_mono HO_6.out (fun _ hk => ⟨hk.1.1.1.1.1, ⟨hk.1.1.1.2, ⟨hk.1.2, ⟨hk.1.1.1.1.2.1, hk.1.1.1.1.2.2⟩⟩⟩⟩)⟩, ⟨by (with_reducible repeat (first | apply Kd.N_alloc | apply Kd.N_drewN | apply Kd.N_drew)); exact Kd.N_mono HO459.out (fun _ hk => ⟨hk.1.1.1, ⟨hk.1.1.2.2.1, ⟨hk.1.2, ⟨hk.1.1.2.2.2.1, hk.1.1.2.2.2.2⟩⟩⟩⟩)⟩, ⟨by (with_reducible repeat (first | apply Kd.N_alloc | apply Kd.N_drewN | apply Kd.N_drew)); exact Kd.N_mono HO466.out (fun _ hk => ⟨hk.1, ⟨hk.2.2.1, ⟨hk.2.2.2.1, hk.2.2.2.2.2⟩⟩⟩)⟩, ⟨rp_ HO_439002.out⟩, ⟨hp_ BK438.out⟩, ⟨by repeat (first | (with_reducible exact HR456_0.out) | (with_reducible refine Kd.C_alloc ?_ _) | (with_reducible refine Kd.C_drewN ?_ _) | (with_reducible refine Kd.C_drew ?_) | exact HR456_0.out)⟩, ⟨by repeat (first | (with_reducible exact HR463_0.out) | (with_reducible refine Kd.C_alloc ?_ _) | (with_reducible refine Kd.C_drewN ?_ _) | (with_reducible refine Kd.C_drew ?_) | exact HR463_0.out)⟩, ⟨bp_⟩⟩
              · rw [if_neg c34] at H
                have c34b0 : ((t457.length : Int) == (t464.length : Int)) = false := beq_eq_false_iff_ne.mpr c34
                have c34b1 : ((t457.length : Int) != (t464.length : Int)) = true := bne_iff_ne.mpr c34
                have c34b2 : (t457.length == t464.length) = false := by first | simpa using c34 | (simp at c34 ⊢; omega)
                (first | rw [c34b0] | (simp only [i64_w, i32_w]; rw [c34b0]) | skip)
                have H' := Aside0.mk H
                clear H
                obtain ⟨Ao40, co40, eo40⟩ := Kd.N_slice HO459.out
                subst eo40
                obtain ⟨Ao41, co41, eo41⟩ := Kd.N_slice HO466.out
                subst eo41
                go_wp2
                go_meet
                case rel => exact ⟨_, (true), (by first | rfl | (simp; done) | (simp [*]; done)), H', ⟨by have := HK1.out; first | omega | exact Nat.le_refl _⟩, ⟨by (with_reducible repeat (first | apply Kd.N_alloc | apply Kd.N_drewN | apply Kd.N_drew)); exact Kd.N_mono HO_6.out (fun _ hk => ⟨hk.1.1.1.1.1, ⟨hk.1.1.1.2, ⟨hk.1.2, ⟨hk.1.1.1.1.2.1, hk.1.1.1.1.2.2⟩⟩⟩⟩)⟩, ⟨by (with_reducible repeat (first | apply Kd.N_alloc | apply Kd.N_drewN | apply Kd.N_drew)); exact Kd.N_mono HO459.out (fun _ hk => ⟨hk.1.1.1, ⟨hk.1.1.2.2.1, ⟨hk.1.2, ⟨hk.1.1.2.2.2.1, hk.1.1.2.2.2.2⟩⟩⟩⟩)⟩, ⟨by (with_reducible repeat (first | apply Kd.N_alloc | apply Kd.N_drewN | apply Kd.N_drew)); exact Kd.N_mono HO466.out (fun _ hk => ⟨hk.1, ⟨hk.2.2.1, ⟨hk.2.2.2.1, hk.2.2.2.2.2⟩⟩⟩)⟩, ⟨rp_ HO_439002.out⟩, ⟨hp_ BK438.out⟩, ⟨by repeat (first | (with_reducible exact HR456_0.out) | (with_reducible refine Kd.C_alloc ?_ _) | (with_reducible refine Kd.C_drewN ?_ _) | (with_reducible refine Kd.C_drew ?_) | exact HR456_0.out)⟩, ⟨by repeat (first | (with_reducible exact HR463_0.out) | (with_reducible refine Kd.C_alloc ?_ _) | (with_reducible refine Kd.C_drewN ?_ _) | (with_reducible refine Kd.C_drew ?_) | exact HR463_0.out)⟩, ⟨bp_⟩⟩
             case rest =>
              clear HC26
              try clear c1
              try clear q1
              try clear c2
              try clear p2
              try clear c3
              try clear c4
              try clear p4
              try clear q4
              try clear hx4
              try clear c5
              try clear c5b0
              try clear c5b1
              try clear c6
              try clear c6b0
              try clear c6b1
              try clear c7
              try clear c11
              try clear c13
              try clear q14
              try clear c20
              try clear c20b0
              try clear c22
              try clear c22b0
              try clear c23
              try clear c23b0
              try clear c28
              try clear c29
              try clear c34
              try clear c34b0
              try clear c34b1
              try clear c34b2
              try clear hcz11_0
              try clear hcz11_1
              try clear hcz11_2
              try clear hcz8_0
              try clear hcz8_1
              try clear hcz8_2
              try clear hfz11_0
              try clear hfz11_1
              try clear hfz11_2
              try clear hfz8_0
              try clear hfz8_1
              try clear hfz8_2
              try clear hx456_0
              try clear hx463_0
              try clear p2
              try clear p456
              try clear p463
              try clear q1
              try clear q14
              try clear q456
              try clear q463
              obtain ⟨kq, x55_25, rfl, HA, HJ25, HO_6, HO_8, HO_10, HO_439002, BK438, HR456_0, HR463_0, HB⟩ := hcut
              cases kq with
              | zero => exact absurd HA.out (by simp [chequerlaw04_TurnOrbits.j1])
              | succ kj25 =>
               have H := HA.out
               clear HA
               simp only [chequerlaw04_TurnOrbits.j1] at H
               by_cases c42 : x55_25 = true
               · subst c42
                 have H1 : (some false) = some r := by rw [if_pos rfl] at H; exact H
                 clear H
                 have H := H1
                 clear H1
                 obtain rfl := Option.some.inj H
                 go_wp2
                 go_ret
                 exact ⟨by first | rfl | (simp [errW_none, errW_some] <;> rfl) | (simp only [← hji4]; first | rfl | (simp [errW_none, errW_some] <;> rfl)) | (simp [*, errW_none, errW_some] <;> rfl), bp_⟩
               · replace c42 := Bool.eq_false_iff.mpr c42
                 subst c42
                 have H1 : (chequerlaw04_TurnOrbits.l1 kj25 y447 x7_1 t457 t464 0 t433 t434 t435) = some r := by rw [if_neg (show ¬ (false = true) by decide)] at H; exact H
                 clear H
                 have H := H1
                 clear H1
                 have H' := Aside0.mk H
                 clear H
                 go_wp2
                 go_loopg [12] kj25 (fun kq v12 w' => ∃ (x12_3 : Int), v12 = .int .i64 x12_3 ∧ Aside0 (chequerlaw04_TurnOrbits.l1 kq y447 x7_1 t457 t464 x12_3 t433 t434 t435 = some r) ∧ Aside0 (kq ≤ kj25) ∧ Aside0 (Kd.N (Kd.slice 3 (Kd.int .i64)) 51 w' w.heap.size (fun k_ => (P1_ k_ ∨ w.heap.size ≤ k_) ∧ some k_ ≠ (v458 : Value).ownBlock ∧ some k_ ≠ (v465 : Value).ownBlock ∧ some k_ ≠ ((.slice Ao12 t435.length co12) : Value).ownBlock ∧ k_ ≠ gb438) (.slice (some ad456) y447.length co28) y447) ∧ Aside0 (Kd.N k26 26 w' w.heap.size (fun k_ => (P1_ k_ ∨ w.heap.size ≤ k_) ∧ some k_ ≠ ((.slice (some ad456) y447.length co28) : Value).ownBlock ∧ some k_ ≠ (v465 : Value).ownBlock ∧ some k_ ≠ ((.slice Ao12 t435.length co12) : Value).ownBlock ∧ k_ ≠ gb438) v458 t457) ∧ Aside0 (Kd.N k24 24 w' w.heap.size (fun k_ => (P1_ k_ ∨ w.heap.size ≤ k_) ∧ some k_ ≠ ((.slice (some ad456) y447.length co28) : Value).ownBlock ∧ some k_ ≠ (v458 : Value).ownBlock ∧ k_ ≠ gb438) v465 t464) ∧ Aside0 (Kd.R (Kd.int .u64) 41 w' w.heap.size (fun k_ => (w.heap.size ≤ k_)) (.slice Ao12 t435.length co12) t435) ∧ Aside0 (w'.heap[gb438]? = some (.cells #[.int .i64 t433, .int .i64 t434, (.slice Ao12 t435.length co12)] 24 (0, 0))) ∧ Aside0 (Kd.C (Kd.int .i64) w' A456_0 (rd_L6 y447 x7_1).length (rd_L6 y447 x7_1)) ∧ Aside0 (Kd.C (Kd.int .i64) w' A463_0 (rd_L6 y447 x7_1).length (rd_L6 y447 x7_1)) ∧ Aside0 (Below w.heap.size w w'))
                 case atStart => exact ⟨(0), (by first | rfl | (simp; done) | (simp [*]; done)), H', ⟨Nat.le_refl _⟩, ⟨by (with_reducible repeat (first | apply Kd.N_alloc | apply Kd.N_drewN | apply Kd.N_drew)); exact HO_6.out⟩, ⟨by (with_reducible repeat (first | apply Kd.N_alloc | apply Kd.N_drewN | apply Kd.N_drew)); exact HO_8.out⟩, ⟨by (with_reducible repeat (first | apply Kd.N_alloc | apply Kd.N_drewN | apply Kd.N_drew)); exact HO_10.out⟩, ⟨rp_ HO_439002.out⟩, ⟨hp_ BK438.out⟩, ⟨by repeat (first | (with_reducible exact HR456_0.out) | (with_reducible refine Kd.C_alloc ?_ _) | (with_reducible refine Kd.C_drewN ?_ _) | (with_reducible refine Kd.C_drew ?_) | exact HR456_0.out)⟩, ⟨by repeat (first | (with_reducible exact HR463_0.out) | (with_reducible refine Kd.C_alloc ?_ _) | (with_reducible refine Kd.C_drewN ?_ _) | (with_reducible refine Kd.C_drew ?_) | exact HR463_0.out)⟩, ⟨bp_⟩⟩
                 case round =>
                  clear H'
                  try clear c1
                  try clear q1
                  try clear c2
                  try clear p2
                  try clear c3
                  try clear c4
                  try clear p4
                  try clear q4
                  try clear hx4
                  try clear c5
                  try clear c5b0
                  try clear c5b1
                  try clear c6
                  try clear c6b0
                  try clear c6b1
                  try clear c7
                  try clear c11
                  try clear c13
                  try clear q14
                  try clear c20
                  try clear c20b0
                  try clear c22
                  try clear c22b0
                  try clear c23
                  try clear c23b0
                  try clear c28
                  try clear c29
                  try clear c34
                  try clear c34b0
                  try clear c34b1
                  try clear c34b2
                  try clear c42
                  try clear hcz11_0
                  try clear hcz11_1
                  try clear hcz11_2
                  try clear hcz8_0
                  try clear hcz8_1
                  try clear hcz8_2
                  try clear hfz11_0
                  try clear hfz11_1
                  try clear hfz11_2
                  try clear hfz8_0
                  try clear hfz8_1
                  try clear hfz8_2
                  try clear hx456_0
                  try clear hx463_0
                  try clear p2
                  try clear p4
                  try clear p456
                  try clear p463
                  try clear q1
                  try clear q14
                  try clear q4
                  try clear q456
                  try clear q463
                  obtain ⟨x12_3, rfl, HA, HK3, HO_6, HO_8, HO_10, HO_439002, BK438, HR456_0, HR463_0, HB⟩ := hrel
                  cases gk with
                  | zero => exact absurd HA.out (by simp [chequerlaw04_TurnOrbits.l1])
                  | succ k3 =>
                   have H := HA.out
                   clear HA
                   simp only [chequerlaw04_TurnOrbits.l1] at H
                   by_cases c43 : x12_3 < (t457.length : Int)
                   · rw [if_pos c43] at H
                     have c43b0 : decide (x12_3 < (t457.length : Int)) = true := decide_eq_true c43
                     clear c43
                     by_cases c44 : 0 ≤ x12_3
                     · rw [if_pos c44] at H
                       have c44b0 : decide (0 ≤ x12_3) = true := decide_eq_true c44
                       clear c44
                       replace H := Option.bind_eq_some_iff.mp H
                       obtain ⟨⟨t472, t473, t474⟩, A450, H⟩ := H
                       replace H : (if x12_3 < (t464.length : Int) then ((chequerref03_Same.f k3 t472 t473 t474 ((rd_T24 t464 x12_3).f0) ((rd_T24 t464 x12_3).f1) ((rd_T24 t464 x12_3).f2)).bind fun t478 => (if t478 = true then (chequerlaw04_TurnOrbits.l1 k3 y447 x7_1 t457 t464 (wrap64 (x12_3 + 1)) t433 t434 t435) else (some false))) else (none)) = some r := H
                       have A45 := Aside0.mk A450
                       clear A450
                       by_cases c46 : x12_3 < (t464.length : Int)
                       · rw [if_pos c46] at H
                         have c46b0 : decide (x12_3 < (t464.length : Int)) = true := decide_eq_true c46
                         clear c46
                         replace H := Option.bind_eq_some_iff.mp H
                         obtain ⟨t478, A470, H⟩ := H
                         replace H : (if t478 = true then (chequerlaw04_TurnOrbits.l1 k3 y447 x7_1 t457 t464 (wrap64 (x12_3 + 1)) t433 t434 t435) else (some false)) = some r := H
                         have A47 := Aside0.mk A470
                         clear A470
                         by_cases c48 : t478 = true
                         · subst c48
                           have H1 : (chequerlaw04_TurnOrbits.l1 k3 y447 x7_1 t457 t464 (wrap64 (x12_3 + 1)) t433 t434 t435) = some r := by rw [if_pos rfl] at H; exact H
                           clear H
                           have H := H1
                           clear H1
                           have H' := Aside0.mk H
                           clear H
                           obtain ⟨Ao49, co49, eo49⟩ := Kd.N_slice HO_8.out
                           subst eo49
                           try go_wp2
                           (try (rw [drewN_self wr]; generalize hq_ : World.drewN wr _ = wr; have n0_ : Aside0 (Kd.N k24 24 wr w.heap.size (fun k_ => (P1_ k_ ∨ w.heap.size ≤ k_) ∧ some k_ ≠ (.slice (some ad456) y447.length co28 : Value).ownBlock ∧ some k_ ≠ (.slice Ao49 t457.length co49 : Value).ownBlock ∧ k_ ≠ gb438) v465 t464) := ⟨by rw [← hq_]; exact (by (with_reducible repeat (first | apply Kd.N_alloc | apply Kd.N_drewN | apply Kd.N_drew)); exact HO_10.out)⟩; have n1_ := Aside0.mk (qrp_ hq_ HO_439002.out); have n2_ : Aside0 (Kd.N (Kd.slice 3 (Kd.int .i64)) 51 wr w.heap.size (fun k_ => (P1_ k_ ∨ w.heap.size ≤ k_) ∧ some k_ ≠ (v465 : Value).ownBlock ∧ some k_ ≠ (.slice Ao12 t435.length co12 : Value).ownBlock ∧ some k_ ≠ (.slice Ao49 t457.length co49 : Value).ownBlock ∧ k_ ≠ gb438) (.slice (some ad456) y447.length co28) y447) := ⟨by rw [← hq_]; exact (by (with_reducible repeat (first | apply Kd.N_alloc | apply Kd.N_drewN | apply Kd.N_drew)); exact Kd.N_mono HO_6.out (fun _ hk => ⟨hk.1, ⟨hk.2.2.1, ⟨hk.2.2.2.1, ⟨hk.2.1, hk.2.2.2.2⟩⟩⟩⟩))⟩; have n3_ : Aside0 (Kd.N k26 26 wr w.heap.size (fun k_ => (P1_ k_ ∨ w.heap.size ≤ k_) ∧ some k_ ≠ (v465 : Value).ownBlock ∧ some k_ ≠ (.slice Ao12 t435.length co12 : Value).ownBlock ∧ some k_ ≠ (.slice (some ad456) y447.length co28 : Value).ownBlock ∧ k_ ≠ gb438) (.slice Ao49 t457.length co49) t457) := ⟨by rw [← hq_]; exact (by (with_reducible repeat (first | apply Kd.N_alloc | apply Kd.N_drewN | apply Kd.N_drew)); exact Kd.N_mono HO_8.out (fun _ hk => ⟨hk.1, ⟨hk.2.2.1, ⟨hk.2.2.2.1, ⟨hk.2.1, hk.2.2.2.2⟩⟩⟩⟩))⟩; have n4_ := Aside0.mk (qhp_ hq_ BK438.out); have n5_ : Aside0 (Below w.heap.size w wr) := ⟨qbp_ hq_⟩; have n6_ : Aside0 (Kd.C (Kd.int .i64) wr A456_0 (rd_L6 y447 x7_1).length (rd_L6 y447 x7_1)) := ⟨by rw [← hq_]; exact (by repeat (first | (with_reducible exact HR456_0.out) | (with_reducible refine Kd.C_alloc ?_ _) | (with_reducible refine Kd.C_drewN ?_ _) | (with_reducible refine Kd.C_drew ?_) | exact HR456_0.out))⟩; have n7_ : Aside0 (Kd.C (Kd.int .i64) wr A463_0 (rd_L6 y447 x7_1).length (rd_L6 y447 x7_1)) := ⟨by rw [← hq_]; exact (by repeat (first | (with_reducible exact HR463_0.out) | (with_reducible refine Kd.C_alloc ?_ _) | (with_reducible refine Kd.C_drewN ?_ _) | (with_reducible refine Kd.C_drew ?_) | exact HR463_0.out))⟩; clear HO_10 HO_439002 HO_6 HO_8 BK438 HB HR456_0 HR463_0 hq_; have HO_10 := n0_; have HO_439002 := n1_; have HO_6 := n2_; have HO_8 := n3_; have BK438 := n4_; have HB := n5_; have HR456_0 := n6_; have HR463_0 := n7_; clear n0_ n1_ n2_ n3_ n4_ n5_ n6_ n7_))
                           replace HO_6 := Aside0.mk (Kd.N_drew HO_6.out)
                           replace HO_8 := Aside0.mk (Kd.N_drew HO_8.out)
                           replace HO_10 := Aside0.mk (Kd.N_drew HO_10.out)
                           replace HO_439002 := Aside0.mk (Kd.R_drew HO_439002.out)
                           replace BK438 := Aside0.mk (blk_drew BK438.out)
                           replace HR456_0 := Aside0.mk (Kd.C_drew HR456_0.out)
                           replace HR463_0 := Aside0.mk (Kd.C_drew HR463_0.out)
                           replace HB := Aside0.mk (below_drew1 HB.out)
                           have p471 : 0 ≤ (x12_3 : Int) := of_decide_eq_true (by first | (with_reducible assumption) | assumption)
                           have q471 : x12_3 < (t457.length : Int) := of_decide_eq_true (by first | (with_reducible assumption) | assumption)
                           obtain ⟨ad471, A471_2, c471_2, e471, hx471_0, hx471_1, hx471_2, hl471_2, hi471_2⟩ := at_T26 (Kd.N_reads' HO_8.out).2.2 x12_3 p471 q471
                           cases e471
                           obtain ⟨ce471, hce471, hMe471, hcc471⟩ := Kd.N_get HO_8.out z26 x12_3 p471 (by first | exact q471 | exact of_decide_eq_true (by first | (with_reducible assumption) | assumption) | (have e_ := (Kd.N_reads' HO_8.out).1; omega))
                           obtain ⟨ua471_2, uc471_2, rfl, ul471_2, ge471_2⟩ := k26_openF hMe471
                           have hv471_2 := hcc471 2 _ rfl
                           rw [add_field _ _ 2 (by omega)] at hv471_2
                           replace hv471_2 := Option.some.inj (hv471_2.symm.trans hx471_2)
                           injection hv471_2 with hva_ hvn_ hvc_
                           rw [hva_] at ge471_2
                           rw [hvc_] at ul471_2
                           have HL471_2 := Aside0.mk (show Kd.V (Kd.int .u64) 41 _ w.heap.size _ _ ((rd_T26 t457 x12_3).f2) from Kd.V_mk ul471_2 ge471_2)
                           clear hva_ hvn_ hvc_ ge471_2 ul471_2
                           clear hcc471 hce471
                           have HR471_2 := Aside0.mk hi471_2
                           have HC471_2 := Aside0.mk hl471_2
                           clear hi471_2 hl471_2
                           replace p471 := eq_true p471
                           replace q471 := eq_true q471
                           obtain ⟨Ao51, co51, eo51⟩ := Kd.N_slice HO_10.out
                           (first | subst eo51 | (injection eo51 with f1_ f2_ f3_; have f4_ := f1_.symm; have f5_ := f3_.symm; clear f1_ f2_ f3_; subst f4_; subst f5_))
                           have p477 : 0 ≤ (x12_3 : Int) := of_decide_eq_true (by first | (with_reducible assumption) | assumption)
                           have q477 : x12_3 < (t464.length : Int) := of_decide_eq_true (by first | (with_reducible assumption) | assumption)
                           obtain ⟨ad477, A477_2, c477_2, e477, hx477_0, hx477_1, hx477_2, hl477_2, hi477_2⟩ := at_T24 (Kd.N_reads' HO_10.out).2.2 x12_3 p477 q477
                           cases e477
                           obtain ⟨ce477, hce477, hMe477, hcc477⟩ := Kd.N_get HO_10.out z24 x12_3 p477 (by first | exact q477 | exact of_decide_eq_true (by first | (with_reducible assumption) | assumption) | (have e_ := (Kd.N_reads' HO_10.out).1; omega))
                           obtain ⟨ua477_2, uc477_2, rfl, ul477_2, ge477_2⟩ := k24_openF hMe477
                           have hv477_2 := hcc477 2 _ rfl
                           rw [add_field _ _ 2 (by omega)] at hv477_2
                           replace hv477_2 := Option.some.inj (hv477_2.symm.trans hx477_2)
                           injection hv477_2 with hva_ hvn_ hvc_
                           rw [hva_] at ge477_2
                           rw [hvc_] at ul477_2
                           have HL477_2 := Aside0.mk (show Kd.V (Kd.int .u64) 41 _ w.heap.size _ _ ((rd_T24 t464 x12_3).f2) from Kd.V_mk ul477_2 ge477_2)
                           clear hva_ hvn_ hvc_ ge477_2 ul477_2
                           clear hcc477 hce477
                           have HR477_2 := Aside0.mk hi477_2
                           have HC477_2 := Aside0.mk hl477_2
                           clear hi477_2 hl477_2
                           replace p477 := eq_true p477
                           replace q477 := eq_true q477
                           refine start_ (n := 11) (S := fun w' => w'.cell? (ad471.add ((x12_3).toNat * 3)) = some (.int .i64 ((rd_T26 t457 x12_3).f0)) ∧ w'.cell? ⟨(ad471.add ((x12_3).toNat * 3)).block, (ad471.add ((x12_3).toNat * 3)).off + 1, none⟩ = some (.int .i64 ((rd_T26 t457 x12_3).f1)) ∧ w'.cell? ⟨(ad471.add ((x12_3).toNat * 3)).block, (ad471.add ((x12_3).toNat * 3)).off + 2, none⟩ = some (.slice A471_2 ((rd_T26 t457 x12_3).f2).length c471_2) ∧ w'.cell? (ad477.add ((x12_3).toNat * 3)) = some (.int .i64 ((rd_T24 t464 x12_3).f0)) ∧ w'.cell? ⟨(ad477.add ((x12_3).toNat * 3)).block, (ad477.add ((x12_3).toNat * 3)).off + 1, none⟩ = some (.int .i64 ((rd_T24 t464 x12_3).f1)) ∧ w'.cell? ⟨(ad477.add ((x12_3).toNat * 3)).block, (ad477.add ((x12_3).toNat * 3)).off + 2, none⟩ = some (.slice A477_2 ((rd_T24 t464 x12_3).f2).length c477_2)) (ds := []) Fl132 (by kernel_rfl) rfl rfl ⟨hx471_0, hx471_1, hx471_2, hx477_0, hx477_1, hx477_2⟩ (fun hHeld => ?_); refine with_tabW chequerlaw04_TurnOrbits.tab13 chequerlaw04_TurnOrbits.bits13 (fun HT_ HW_ => ?_)
                           generalize wr.drew = w50 at HO_6 HO_8 HO_10 HO_439002 BK438 HR456_0 HR463_0 HB HL471_2 HL477_2 HR471_2 HR477_2 hx471_0 hx471_1 hx471_2 hx477_0 hx477_1 hx477_2 hHeld ⊢
                           refine pur_ (i := 0) (N := some 62) Fl136 (any_of HT_.out (by kernel_rfl)) ?_
                           refine pur_ (i := 1) (N := some 63) Fl137 (any_of HT_.out (by kernel_rfl)) ?_
                           refine pur_ (i := 2) (N := some 64) Fl138 (any_of HT_.out (by kernel_rfl)) ?_
                           refine pur_ (i := 5) (N := some 67) Fl139 (any_of HT_.out (by kernel_rfl)) ?_
                           refine pur_ (i := 6) (N := some 68) Fl140 (any_of HT_.out (by kernel_rfl)) ?_
                           refine pur_ (i := 7) (N := some 69) Fl141 (any_of HT_.out (by kernel_rfl)) ?_
                           refine take_ (i := 3) (N := some 65) (v := ?_) (a' := ?_) Fl142 rfl rfl (take_ofW HT_.out HW_.out (by kernel_rfl)) (fun _ _ _ h => h) (Or.inl ⟨by rfl, ?_⟩) hHeld ?_ ?_
                           rotate_left
                           · rintro w' ⟨s0, s1, s2, s3, s4, s5⟩
                             go_simp
                             with_reducible rfl
                           rotate_left
                           · simp only [Act.put, List.setIfInBounds_toArray, List.set_cons_zero, List.set_cons_succ, i64_w, i32_w]
                             rfl
                           refine take_ (i := 8) (N := some 70) (v := ?_) (a' := ?_) Fl143 rfl rfl (take_ofW HT_.out HW_.out (by kernel_rfl)) (fun _ _ _ h => h) (Or.inl ⟨by rfl, ?_⟩) hHeld ?_ ?_
                           rotate_left
                           · rintro w' ⟨s0, s1, s2, s3, s4, s5⟩
                             go_simp
                             with_reducible rfl
                           rotate_left
                           · simp only [Act.put, List.setIfInBounds_toArray, List.set_cons_zero, List.set_cons_succ, i64_w, i32_w]
                             rfl
                           refine one_ (i := 4) (N := some 66) Fl133 rfl rfl (one_of HT_.out (by kernel_rfl)) (by decide) (fun K hK => ?_)
                           refine goes_ Try.func17 (by kernel_rfl) rfl #[.agg #[.int .i64 ((rd_T26 t457 x12_3).f0), .int .i64 ((rd_T26 t457 x12_3).f1), .slice A471_2 ((rd_T26 t457 x12_3).f2).length c471_2]] (by rfl) rfl rfl (by (try simp only [List.map_toArray, List.map_cons, List.map_nil]); first | done | rfl | (simp only [List.length_drop, List.length_take]; rfl)) ?_
                           with_reducible refine (chequerlaw04_as.calls ((rd_T26 t457 x12_3).f0) ((rd_T26 t457 x12_3).f1) (fun k_ => (((P1_ k_ ∨ w.heap.size ≤ k_) ∧ (some k_ ≠ (.slice (some ad456) y447.length co28 : Value).ownBlock ∧ (some k_ ≠ (.slice (some ad477) t464.length co51 : Value).ownBlock ∧ (some k_ ≠ (.slice Ao12 t435.length co12 : Value).ownBlock ∧ k_ ≠ gb438)))) ∧ some k_ ≠ (.slice (some ad471) t457.length co49 : Value).ownBlock)) _ _ ((rd_T26 t457 x12_3).f2) t472 t473 t474 _ ?side1 A45.out).mono ?_
                           (case side1 => exact HL471_2.out)
                           rintro e w52 ⟨v475, rfl, ho0, hb⟩
                           have HS0_ := (hb.cell (World.block_lt_of_cell? _ _ (hHeld.1))).trans (hHeld.1)
                           have HS1_ := (hb.cell (World.block_lt_of_cell? _ _ (hHeld.2.1))).trans (hHeld.2.1)
                           have HS2_ := (hb.cell (World.block_lt_of_cell? _ _ (hHeld.2.2.1))).trans (hHeld.2.2.1)
                           have HS3_ := (hb.cell (World.block_lt_of_cell? _ _ (hHeld.2.2.2.1))).trans (hHeld.2.2.2.1)
                           have HS4_ := (hb.cell (World.block_lt_of_cell? _ _ (hHeld.2.2.2.2.1))).trans (hHeld.2.2.2.2.1)
                           have HS5_ := (hb.cell (World.block_lt_of_cell? _ _ (hHeld.2.2.2.2.2))).trans (hHeld.2.2.2.2.2)
                           refine ⟨_, rfl, ?_⟩
                           replace HL471_2 := Aside0.mk (Kd.V_below (vp_ HL471_2.out) hb)
                           replace HL477_2 := Aside0.mk (Kd.V_below (vp_ HL477_2.out) hb)
                           have HO476 := Aside0.mk (Kd.V_lower (Kd.V_mono (ok' := fun k_ => (P1_ k_ ∨ w.heap.size ≤ k_) ∧ some k_ ≠ (.slice (some ad456) y447.length co28 : Value).ownBlock ∧ some k_ ≠ (.slice (some ad471) t457.length co49 : Value).ownBlock ∧ some k_ ≠ (.slice (some ad477) t464.length co51 : Value).ownBlock ∧ some k_ ≠ (.slice Ao12 t435.length co12 : Value).ownBlock ∧ k_ ≠ gb438) ho0 (fun k_ hk_ => ⟨Or.elim hk_ (fun hs_ => hs_.1.1) (fun hn_ => (.inr (Nat.le_trans (below_size bp_) hn_))), Or.elim hk_ (fun hs_ => hs_.1.2.1) (fun hn_ => (Kd.fresh' (Kd.N_lt (by (with_reducible repeat (first | apply Kd.N_alloc | apply Kd.N_drewN | apply Kd.N_drew)); exact HO_6.out)) k_ hn_)), Or.elim hk_ (fun hs_ => hs_.2) (fun hn_ => (Kd.fresh' (Kd.N_lt (by (with_reducible repeat (first | apply Kd.N_alloc | apply Kd.N_drewN | apply Kd.N_drew)); exact HO_8.out)) k_ hn_)), Or.elim hk_ (fun hs_ => hs_.1.2.2.1) (fun hn_ => (Kd.fresh' (Kd.N_lt (by (with_reducible repeat (first | apply Kd.N_alloc | apply Kd.N_drewN | apply Kd.N_drew)); exact HO_10.out)) k_ hn_)), Or.elim hk_ (fun hs_ => hs_.1.2.2.2.1) (fun hn_ => (Kd.fresh' (Kd.R_lt (rp_ HO_439002.out)) k_ hn_)), Or.elim hk_ (fun hs_ => hs_.1.2.2.2.2) (fun hn_ => (Kd.freshB (g := gb438) (o := .cells #[.int .i64 t433, .int .i64 t434, .slice Ao12 t435.length co12] 24 (0, 0)) (hp_ BK438.out) k_ hn_))⟩)) (below_size bp_))
                           replace HO_6 := Aside0.mk (Kd.N_below (by (with_reducible repeat (first | apply Kd.N_alloc | apply Kd.N_drewN | apply Kd.N_drew)); exact HO_6.out) hb)
                           replace HO_8 := Aside0.mk (Kd.N_below (by (with_reducible repeat (first | apply Kd.N_alloc | apply Kd.N_drewN | apply Kd.N_drew)); exact HO_8.out) hb)
                           replace HO_10 := Aside0.mk (Kd.N_below (by (with_reducible repeat (first | apply Kd.N_alloc | apply Kd.N_drewN | apply Kd.N_drew)); exact HO_10.out) hb)
                           replace HO_439002 := Aside0.mk (Kd.R_below (rp_ HO_439002.out) hb)
                           replace BK438 := Aside0.mk (blk_below (hp_ BK438.out) hb)
                           replace HR456_0 := Aside0.mk (Kd.C_below (by repeat (first | (with_reducible exact HR456_0.out) | (with_reducible refine Kd.C_alloc ?_ _) | (with_reducible refine Kd.C_drewN ?_ _) | (with_reducible refine Kd.C_drew ?_) | exact HR456_0.out)) hb)
                           replace HR463_0 := Aside0.mk (Kd.C_below (by repeat (first | (with_reducible exact HR463_0.out) | (with_reducible refine Kd.C_alloc ?_ _) | (with_reducible refine Kd.C_drewN ?_ _) | (with_reducible refine Kd.C_drew ?_) | exact HR463_0.out)) hb)
                           replace HR471_2 := Aside0.mk (Kd.C_below (by repeat (first | (with_reducible exact HR471_2.out) | (with_reducible refine Kd.C_alloc ?_ _) | (with_reducible refine Kd.C_drewN ?_ _) | (with_reducible refine Kd.C_drew ?_) | exact HR471_2.out)) hb)
                           replace HR477_2 := Aside0.mk (Kd.C_below (by repeat (first | (with_reducible exact HR477_2.out) | (with_reducible refine Kd.C_alloc ?_ _) | (with_reducible refine Kd.C_drewN ?_ _) | (with_reducible refine Kd.C_drew ?_) | exact HR477_2.out)) hb)
                           replace HB := Aside0.mk (below_step bp_ hb)
                           (try clear hb)
                           (try clear hb2)
                           (try clear hk)
                           (try clear hi)
                           (try clear ho0)
                           obtain ⟨Ao53, co53, eo53⟩ := Kd.V_slice HO476.out
                           (first | subst eo53 | (injection eo53 with f1_ f2_ f3_; have f4_ := f1_.symm; have f5_ := f3_.symm; clear f1_ f2_ f3_; subst f4_; subst f5_))
                           refine hK.out _ _ ⟨HS0_, HS1_, HS2_, HS3_, HS4_, HS5_⟩ (fun hHeld => ?_)
                           clear hK K
                           refine norm_ (a' := ?_) ?_ ?_
                           rotate_left
                           · show Act.put _ (some 66) _ = _
                             simp only [Act.put, List.setIfInBounds_toArray, List.set_cons_zero, List.set_cons_succ, i64_w, i32_w]
                             rfl
                           refine one_ (i := 9) (N := some 71) Fl134 rfl rfl (one_of HT_.out (by kernel_rfl)) (by decide) (fun K hK => ?_)
                           refine goes_ Try.func16 (by kernel_rfl) rfl #[.agg #[.int .i64 t472, .int .i64 t473, .slice Ao53 t474.length co53], .agg #[.int .i64 ((rd_T24 t464 x12_3).f0), .int .i64 ((rd_T24 t464 x12_3).f1), .slice A477_2 ((rd_T24 t464 x12_3).f2).length c477_2]] (by rfl) rfl rfl (by (try simp only [List.map_toArray, List.map_cons, List.map_nil]); first | done | rfl | (simp only [List.length_drop, List.length_take]; rfl)) ?_
                           with_reducible refine (chequerref03_Same.calls k3 t472 t473 _ _ t474 ((rd_T24 t464 x12_3).f0) ((rd_T24 t464 x12_3).f1) _ _ ((rd_T24 t464 x12_3).f2) true _ ?side1 ?side2 ?side3 ?side4 A47.out).mono ?_
                           (case side1 => exact cp_ (Kd.V_reads' HO476.out).2.2)
                           (case side2 => exact (Kd.V_reads' HO476.out).2.1)
                           (case side3 => repeat (first | exact (by repeat (first | (with_reducible exact HR477_2.out) | (with_reducible refine Kd.C_alloc ?_ _) | (with_reducible refine Kd.C_drewN ?_ _) | (with_reducible refine Kd.C_drew ?_) | exact HR477_2.out)) | (with_reducible refine Kd.C_alloc ?_ _) | (with_reducible refine Kd.C_drewN ?_ _) | (with_reducible refine Kd.C_drew ?_)))
                           (case side4 => exact HC477_2.out)
                           rintro e w54 ⟨rfl, hb⟩
                           have HS0_ := (hb.cell (World.block_lt_of_cell? _ _ (hHeld.1))).trans (hHeld.1)
                           have HS1_ := (hb.cell (World.block_lt_of_cell? _ _ (hHeld.2.1))).trans (hHeld.2.1)
                           have HS2_ := (hb.cell (World.block_lt_of_cell? _ _ (hHeld.2.2.1))).trans (hHeld.2.2.1)
                           have HS3_ := (hb.cell (World.block_lt_of_cell? _ _ (hHeld.2.2.2.1))).trans (hHeld.2.2.2.1)
                           have HS4_ := (hb.cell (World.block_lt_of_cell? _ _ (hHeld.2.2.2.2.1))).trans (hHeld.2.2.2.2.1)
                           have HS5_ := (hb.cell (World.block_lt_of_cell? _ _ (hHeld.2.2.2.2.2))).trans (hHeld.2.2.2.2.2)
                           refine ⟨_, rfl, ?_⟩
                           replace HO_6 := Aside0.mk (Kd.N_below (by (with_reducible repeat (first | apply Kd.N_alloc | apply Kd.N_drewN | apply Kd.N_drew)); exact HO_6.out) hb)
                           replace HO_8 := Aside0.mk (Kd.N_below (by (with_reducible repeat (first | apply Kd.N_alloc | apply Kd.N_drewN | apply Kd.N_drew)); exact HO_8.out) hb)
                           replace HO_10 := Aside0.mk (Kd.N_below (by (with_reducible repeat (first | apply Kd.N_alloc | apply Kd.N_drewN | apply Kd.N_drew)); exact HO_10.out) hb)
                           replace HO_439002 := Aside0.mk (Kd.R_below (rp_ HO_439002.out) hb)
                           replace HL471_2 := Aside0.mk (Kd.V_below (vp_ HL471_2.out) hb)
                           replace HL477_2 := Aside0.mk (Kd.V_below (vp_ HL477_2.out) hb)
                           replace HO476 := Aside0.mk (Kd.V_below (vp_ HO476.out) hb)
                           replace BK438 := Aside0.mk (blk_below (hp_ BK438.out) hb)
                           replace HR456_0 := Aside0.mk (Kd.C_below (by repeat (first | (with_reducible exact HR456_0.out) | (with_reducible refine Kd.C_alloc ?_ _) | (with_reducible refine Kd.C_drewN ?_ _) | (with_reducible refine Kd.C_drew ?_) | exact HR456_0.out)) hb)
                           replace HR463_0 := Aside0.mk (Kd.C_below (by repeat (first | (with_reducible exact HR463_0.out) | (with_reducible refine Kd.C_alloc ?_ _) | (with_reducible refine Kd.C_drewN ?_ _) | (with_reducible refine Kd.C_drew ?_) | exact HR463_0.out)) hb)
                           replace HR471_2 := Aside0.mk (Kd.C_below (by repeat (first | (with_reducible exact HR471_2.out) | (with_reducible refine Kd.C_alloc ?_ _) | (with_reducible refine Kd.C_drewN ?_ _) | (with_reducible refine Kd.C_drew ?_) | exact HR471_2.out)) hb)
                           replace HR477_2 := Aside0.mk (Kd.C_below (by repeat (first | (with_reducible exact HR477_2.out) | (with_reducible refine Kd.C_alloc ?_ _) | (with_reducible refine Kd.C_drewN ?_ _) | (with_reducible refine Kd.C_drew ?_) | exact HR477_2.out)) hb)
                           replace HB := Aside0.mk (below_step bp_ hb)
                           (try clear hb)
                           (try clear hb2)
                           (try clear hk)
                           (try clear hi)
                           refine hK.out _ _ ⟨HS0_, HS1_, HS2_, HS3_, HS4_, HS5_⟩ (fun hHeld => ?_)
                           clear hK K
                           refine norm_ (a' := ?_) ?_ ?_
                           rotate_left
                           · show Act.put _ (some 71) _ = _
                             simp only [Act.put, List.setIfInBounds_toArray, List.set_cons_zero, List.set_cons_succ, i64_w, i32_w]
                             rfl
                           refine pur_ (i := 10) (N := some 72) Fl135 (any_of HT_.out (by kernel_rfl)) ?_
                           refine done_ (done_of HT_.out (by kernel_rfl)) ?_
                           try go_wp2
                           go_roundg k3
                           case measure => have := HK1.out; have := HJ25.out; have := HK3.out; omega
                           case rel => exact ⟨(wrap64 (x12_3 + 1)), (by first | rfl | (simp; done) | (simp [*]; done)), H', ⟨by have := HK1.out; have := HJ25.out; have := HK3.out; omega⟩, ⟨by (with_reducible repeat (first | apply Kd.N_alloc | apply Kd.N_drewN | apply Kd.N_drew)); exact HO_6.out⟩, ⟨by (with_reducible repeat (first | apply Kd.N_alloc | apply Kd.N_drewN | apply Kd.N_drew)); exact HO_8.out⟩, ⟨by (with_reducible repeat (first | apply Kd.N_alloc | apply Kd.N_drewN | apply Kd.N_drew)); exact HO_10.out⟩, ⟨rp_ HO_439002.out⟩, ⟨hp_ BK438.out⟩, ⟨by repeat (first | (with_reducible exact HR456_0.out) | (with_reducible refine Kd.C_alloc ?_ _) | (with_reducible refine Kd.C_drewN ?_ _) | (with_reducible refine Kd.C_drew ?_) | exact HR456_0.out)⟩, ⟨by repeat (first | (with_reducible exact HR463_0.out) | (with_reducible refine Kd.C_alloc ?_ _) | (with_reducible refine Kd.C_drewN ?_ _) | (with_reducible refine Kd.C_drew ?_) | exact HR463_0.out)⟩, ⟨bp_⟩⟩
                         · replace c48 := Bool.eq_false_iff.mpr c48
                           subst c48
                           have H1 : (some false) = some r := by rw [if_neg (show ¬ (false = true) by decide)] at H; exact H
                           clear H
                           have H := H1
                           clear H1
                           obtain rfl := Option.some.inj H
                           obtain ⟨Ao55, co55, eo55⟩ := Kd.N_slice HO_8.out
                           subst eo55
                           try go_wp2
                           (try (rw [drewN_self wr]; generalize hq_ : World.drewN wr _ = wr; have n0_ : Aside0 (Kd.N k24 24 wr w.heap.size (fun k_ => (P1_ k_ ∨ w.heap.size ≤ k_) ∧ some k_ ≠ (.slice (some ad456) y447.length co28 : Value).ownBlock ∧ some k_ ≠ (.slice Ao55 t457.length co55 : Value).ownBlock ∧ k_ ≠ gb438) v465 t464) := ⟨by rw [← hq_]; exact (by (with_reducible repeat (first | apply Kd.N_alloc | apply Kd.N_drewN | apply Kd.N_drew)); exact HO_10.out)⟩; have n1_ := Aside0.mk (qrp_ hq_ HO_439002.out); have n2_ : Aside0 (Kd.N (Kd.slice 3 (Kd.int .i64)) 51 wr w.heap.size (fun k_ => (P1_ k_ ∨ w.heap.size ≤ k_) ∧ some k_ ≠ (v465 : Value).ownBlock ∧ some k_ ≠ (.slice Ao12 t435.length co12 : Value).ownBlock ∧ some k_ ≠ (.slice Ao55 t457.length co55 : Value).ownBlock ∧ k_ ≠ gb438) (.slice (some ad456) y447.length co28) y447) := ⟨by rw [← hq_]; exact (by (with_reducible repeat (first | apply Kd.N_alloc | apply Kd.N_drewN | apply Kd.N_drew)); exact Kd.N_mono HO_6.out (fun _ hk => ⟨hk.1, ⟨hk.2.2.1, ⟨hk.2.2.2.1, ⟨hk.2.1, hk.2.2.2.2⟩⟩⟩⟩))⟩; have n3_ : Aside0 (Kd.N k26 26 wr w.heap.size (fun k_ => (P1_ k_ ∨ w.heap.size ≤ k_) ∧ some k_ ≠ (v465 : Value).ownBlock ∧ some k_ ≠ (.slice Ao12 t435.length co12 : Value).ownBlock ∧ some k_ ≠ (.slice (some ad456) y447.length co28 : Value).ownBlock ∧ k_ ≠ gb438) (.slice Ao55 t457.length co55) t457) := ⟨by rw [← hq_]; exact (by (with_reducible repeat (first | apply Kd.N_alloc | apply Kd.N_drewN | apply Kd.N_drew)); exact Kd.N_mono HO_8.out (fun _ hk => ⟨hk.1, ⟨hk.2.2.1, ⟨hk.2.2.2.1, ⟨hk.2.1, hk.2.2.2.2⟩⟩⟩⟩))⟩; have n4_ : Aside0 (Below w.heap.size w wr) := ⟨qbp_ hq_⟩; have n5_ : Aside0 (Kd.C (Kd.int .i64) wr A456_0 (rd_L6 y447 x7_1).length (rd_L6 y447 x7_1)) := ⟨by rw [← hq_]; exact (by repeat (first | (with_reducible exact HR456_0.out) | (with_reducible refine Kd.C_alloc ?_ _) | (with_reducible refine Kd.C_drewN ?_ _) | (with_reducible refine Kd.C_drew ?_) | exact HR456_0.out))⟩; have n6_ : Aside0 (Kd.C (Kd.int .i64) wr A463_0 (rd_L6 y447 x7_1).length (rd_L6 y447 x7_1)) := ⟨by rw [← hq_]; exact (by repeat (first | (with_reducible exact HR463_0.out) | (with_reducible refine Kd.C_alloc ?_ _) | (with_reducible refine Kd.C_drewN ?_ _) | (with_reducible refine Kd.C_drew ?_) | exact HR463_0.out))⟩; clear HO_10 HO_439002 HO_6 HO_8 HB HR456_0 HR463_0 hq_; have HO_10 := n0_; have HO_439002 := n1_; have HO_6 := n2_; have HO_8 := n3_; have HB := n4_; have HR456_0 := n5_; have HR463_0 := n6_; clear n0_ n1_ n2_ n3_ n4_ n5_ n6_))
                           replace HO_6 := Aside0.mk (Kd.N_drew HO_6.out)
                           replace HO_8 := Aside0.mk (Kd.N_drew HO_8.out)
                           replace HO_10 := Aside0.mk (Kd.N_drew HO_10.out)
                           replace HO_439002 := Aside0.mk (Kd.R_drew HO_439002.out)
                           replace HR456_0 := Aside0.mk (Kd.C_drew HR456_0.out)
                           replace HR463_0 := Aside0.mk (Kd.C_drew HR463_0.out)
                           replace HB := Aside0.mk (below_drew1 HB.out)
                           have p471 : 0 ≤ (x12_3 : Int) := of_decide_eq_true (by first | (with_reducible assumption) | assumption)
                           have q471 : x12_3 < (t457.length : Int) := of_decide_eq_true (by first | (with_reducible assumption) | assumption)
                           obtain ⟨ad471, A471_2, c471_2, e471, hx471_0, hx471_1, hx471_2, hl471_2, hi471_2⟩ := at_T26 (Kd.N_reads' HO_8.out).2.2 x12_3 p471 q471
                           cases e471
                           obtain ⟨ce471, hce471, hMe471, hcc471⟩ := Kd.N_get HO_8.out z26 x12_3 p471 (by first | exact q471 | exact of_decide_eq_true (by first | (with_reducible assumption) | assumption) | (have e_ := (Kd.N_reads' HO_8.out).1; omega))
                           obtain ⟨ua471_2, uc471_2, rfl, ul471_2, ge471_2⟩ := k26_openF hMe471
                           have hv471_2 := hcc471 2 _ rfl
                           rw [add_field _ _ 2 (by omega)] at hv471_2
                           replace hv471_2 := Option.some.inj (hv471_2.symm.trans hx471_2)
                           injection hv471_2 with hva_ hvn_ hvc_
                           rw [hva_] at ge471_2
                           rw [hvc_] at ul471_2
                           have HL471_2 := Aside0.mk (show Kd.V (Kd.int .u64) 41 _ w.heap.size _ _ ((rd_T26 t457 x12_3).f2) from Kd.V_mk ul471_2 ge471_2)
                           clear hva_ hvn_ hvc_ ge471_2 ul471_2
                           clear hcc471 hce471
                           have HR471_2 := Aside0.mk hi471_2
                           have HC471_2 := Aside0.mk hl471_2
                           clear hi471_2 hl471_2
                           replace p471 := eq_true p471
                           replace q471 := eq_true q471
                           obtain ⟨Ao57, co57, eo57⟩ := Kd.N_slice HO_10.out
                           (first | subst eo57 | (injection eo57 with f1_ f2_ f3_; have f4_ := f1_.symm; have f5_ := f3_.symm; clear f1_ f2_ f3_; subst f4_; subst f5_))
                           have p477 : 0 ≤ (x12_3 : Int) := of_decide_eq_true (by first | (with_reducible assumption) | assumption)
                           have q477 : x12_3 < (t464.length : Int) := of_decide_eq_true (by first | (with_reducible assumption) | assumption)
                           obtain ⟨ad477, A477_2, c477_2, e477, hx477_0, hx477_1, hx477_2, hl477_2, hi477_2⟩ := at_T24 (Kd.N_reads' HO_10.out).2.2 x12_3 p477 q477
                           cases e477
                           obtain ⟨ce477, hce477, hMe477, hcc477⟩ := Kd.N_get HO_10.out z24 x12_3 p477 (by first | exact q477 | exact of_decide_eq_true (by first | (with_reducible assumption) | assumption) | (have e_ := (Kd.N_reads' HO_10.out).1; omega))
                           obtain ⟨ua477_2, uc477_2, rfl, ul477_2, ge477_2⟩ := k24_openF hMe477
                           have hv477_2 := hcc477 2 _ rfl
                           rw [add_field _ _ 2 (by omega)] at hv477_2
                           replace hv477_2 := Option.some.inj (hv477_2.symm.trans hx477_2)
                           injection hv477_2 with hva_ hvn_ hvc_
                           rw [hva_] at ge477_2
                           rw [hvc_] at ul477_2
                           have HL477_2 := Aside0.mk (show Kd.V (Kd.int .u64) 41 _ w.heap.size _ _ ((rd_T24 t464 x12_3).f2) from Kd.V_mk ul477_2 ge477_2)
                           clear hva_ hvn_ hvc_ ge477_2 ul477_2
                           clear hcc477 hce477
                           have HR477_2 := Aside0.mk hi477_2
                           have HC477_2 := Aside0.mk hl477_2
                           clear hi477_2 hl477_2
                           replace p477 := eq_true p477
                           replace q477 := eq_true q477
                           refine start_ (n := 11) (S := fun w' => w'.cell? (ad471.add ((x12_3).toNat * 3)) = some (.int .i64 ((rd_T26 t457 x12_3).f0)) ∧ w'.cell? ⟨(ad471.add ((x12_3).toNat * 3)).block, (ad471.add ((x12_3).toNat * 3)).off + 1, none⟩ = some (.int .i64 ((rd_T26 t457 x12_3).f1)) ∧ w'.cell? ⟨(ad471.add ((x12_3).toNat * 3)).block, (ad471.add ((x12_3).toNat * 3)).off + 2, none⟩ = some (.slice A471_2 ((rd_T26 t457 x12_3).f2).length c471_2) ∧ w'.cell? (ad477.add ((x12_3).toNat * 3)) = some (.int .i64 ((rd_T24 t464 x12_3).f0)) ∧ w'.cell? ⟨(ad477.add ((x12_3).toNat * 3)).block, (ad477.add ((x12_3).toNat * 3)).off + 1, none⟩ = some (.int .i64 ((rd_T24 t464 x12_3).f1)) ∧ w'.cell? ⟨(ad477.add ((x12_3).toNat * 3)).block, (ad477.add ((x12_3).toNat * 3)).off + 2, none⟩ = some (.slice A477_2 ((rd_T24 t464 x12_3).f2).length c477_2)) (ds := []) Fl132 (by kernel_rfl) rfl rfl ⟨hx471_0, hx471_1, hx471_2, hx477_0, hx477_1, hx477_2⟩ (fun hHeld => ?_); refine with_tabW chequerlaw04_TurnOrbits.tab13 chequerlaw04_TurnOrbits.bits13 (fun HT_ HW_ => ?_)
                           generalize wr.drew = w56 at HO_6 HO_8 HO_10 HO_439002 HR456_0 HR463_0 HB HL471_2 HL477_2 HR471_2 HR477_2 hx471_0 hx471_1 hx471_2 hx477_0 hx477_1 hx477_2 hHeld ⊢
                           refine pur_ (i := 0) (N := some 62) Fl136 (any_of HT_.out (by kernel_rfl)) ?_
                           refine pur_ (i := 1) (N := some 63) Fl137 (any_of HT_.out (by kernel_rfl)) ?_
                           refine pur_ (i := 2) (N := some 64) Fl138 (any_of HT_.out (by kernel_rfl)) ?_
                           refine pur_ (i := 5) (N := some 67) Fl139 (any_of HT_.out (by kernel_rfl)) ?_
                           refine pur_ (i := 6) (N := some 68) Fl140 (any_of HT_.out (by kernel_rfl)) ?_
                           refine pur_ (i := 7) (N := some 69) Fl141 (any_of HT_.out (by kernel_rfl)) ?_
                           refine take_ (i := 3) (N := some 65) (v := ?_) (a' := ?_) Fl142 rfl rfl (take_ofW HT_.out HW_.out (by kernel_rfl)) (fun _ _ _ h => h) (Or.inl ⟨by rfl, ?_⟩) hHeld ?_ ?_
                           rotate_left
                           · rintro w' ⟨s0, s1, s2, s3, s4, s5⟩
                             go_simp
                             with_reducible rfl
                           rotate_left
                           · simp only [Act.put, List.setIfInBounds_toArray, List.set_cons_zero, List.set_cons_succ, i64_w, i32_w]
                             rfl
                           refine take_ (i := 8) (N := some 70) (v := ?_) (a' := ?_) Fl143 rfl rfl (take_ofW HT_.out HW_.out (by kernel_rfl)) (fun _ _ _ h => h) (Or.inl ⟨by rfl, ?_⟩) hHeld ?_ ?_
                           rotate_left
                           · rintro w' ⟨s0, s1, s2, s3, s4, s5⟩
                             go_simp
                             with_reducible rfl
                           rotate_left
                           · simp only [Act.put, List.setIfInBounds_toArray, List.set_cons_zero, List.set_cons_succ, i64_w, i32_w]
                             rfl
                           refine one_ (i := 4) (N := some 66) Fl133 rfl rfl (one_of HT_.out (by kernel_rfl)) (by decide) (fun K hK => ?_)
                           refine goes_ Try.func17 (by kernel_rfl) rfl #[.agg #[.int .i64 ((rd_T26 t457 x12_3).f0), .int .i64 ((rd_T26 t457 x12_3).f1), .slice A471_2 ((rd_T26 t457 x12_3).f2).length c471_2]] (by rfl) rfl rfl (by (try simp only [List.map_toArray, List.map_cons, List.map_nil]); first | done | rfl | (simp only [List.length_drop, List.length_take]; rfl)) ?_
                           with_reducible refine (chequerlaw04_as.calls ((rd_T26 t457 x12_3).f0) ((rd_T26 t457 x12_3).f1) (fun k_ => (((P1_ k_ ∨ w.heap.size ≤ k_) ∧ (some k_ ≠ (.slice (some ad456) y447.length co28 : Value).ownBlock ∧ (some k_ ≠ (.slice (some ad477) t464.length co57 : Value).ownBlock ∧ (some k_ ≠ (.slice Ao12 t435.length co12 : Value).ownBlock ∧ k_ ≠ gb438)))) ∧ some k_ ≠ (.slice (some ad471) t457.length co55 : Value).ownBlock)) _ _ ((rd_T26 t457 x12_3).f2) t472 t473 t474 _ ?side1 A45.out).mono ?_
                           (case side1 => exact HL471_2.out)
                           rintro e w58 ⟨v475, rfl, ho0, hb⟩
                           have HS0_ := (hb.cell (World.block_lt_of_cell? _ _ (hHeld.1))).trans (hHeld.1)
                           have HS1_ := (hb.cell (World.block_lt_of_cell? _ _ (hHeld.2.1))).trans (hHeld.2.1)
                           have HS2_ := (hb.cell (World.block_lt_of_cell? _ _ (hHeld.2.2.1))).trans (hHeld.2.2.1)
                           have HS3_ := (hb.cell (World.block_lt_of_cell? _ _ (hHeld.2.2.2.1))).trans (hHeld.2.2.2.1)
                           have HS4_ := (hb.cell (World.block_lt_of_cell? _ _ (hHeld.2.2.2.2.1))).trans (hHeld.2.2.2.2.1)
                           have HS5_ := (hb.cell (World.block_lt_of_cell? _ _ (hHeld.2.2.2.2.2))).trans (hHeld.2.2.2.2.2)
                           refine ⟨_, rfl, ?_⟩
                           replace HL471_2 := Aside0.mk (Kd.V_below (vp_ HL471_2.out) hb)
                           replace HL477_2 := Aside0.mk (Kd.V_below (vp_ HL477_2.out) hb)
                           have HO476 := Aside0.mk (Kd.V_lower (Kd.V_mono (ok' := fun k_ => (P1_ k_ ∨ w.heap.size ≤ k_) ∧ some k_ ≠ (.slice (some ad456) y447.length co28 : Value).ownBlock ∧ some k_ ≠ (.slice (some ad471) t457.length co55 : Value).ownBlock ∧ some k_ ≠ (.slice (some ad477) t464.length co57 : Value).ownBlock ∧ some k_ ≠ (.slice Ao12 t435.length co12 : Value).ownBlock) ho0 (fun k_ hk_ => ⟨Or.elim hk_ (fun hs_ => hs_.1.1) (fun hn_ => (.inr (Nat.le_trans (below_size bp_) hn_))), Or.elim hk_ (fun hs_ => hs_.1.2.1) (fun hn_ => (Kd.fresh' (Kd.N_lt (by (with_reducible repeat (first | apply Kd.N_alloc | apply Kd.N_drewN | apply Kd.N_drew)); exact HO_6.out)) k_ hn_)), Or.elim hk_ (fun hs_ => hs_.2) (fun hn_ => (Kd.fresh' (Kd.N_lt (by (with_reducible repeat (first | apply Kd.N_alloc | apply Kd.N_drewN | apply Kd.N_drew)); exact HO_8.out)) k_ hn_)), Or.elim hk_ (fun hs_ => hs_.1.2.2.1) (fun hn_ => (Kd.fresh' (Kd.N_lt (by (with_reducible repeat (first | apply Kd.N_alloc | apply Kd.N_drewN | apply Kd.N_drew)); exact HO_10.out)) k_ hn_)), Or.elim hk_ (fun hs_ => hs_.1.2.2.2.1) (fun hn_ => (Kd.fresh' (Kd.R_lt (rp_ HO_439002.out)) k_ hn_))⟩)) (below_size bp_))
                           replace HO_6 := Aside0.mk (Kd.N_below (by (with_reducible repeat (first | apply Kd.N_alloc | apply Kd.N_drewN | apply Kd.N_drew)); exact HO_6.out) hb)
                           replace HO_8 := Aside0.mk (Kd.N_below (by (with_reducible repeat (first | apply Kd.N_alloc | apply Kd.N_drewN | apply Kd.N_drew)); exact HO_8.out) hb)
                           replace HO_10 := Aside0.mk (Kd.N_below (by (with_reducible repeat (first | apply Kd.N_alloc | apply Kd.N_drewN | apply Kd.N_drew)); exact HO_10.out) hb)
                           replace HO_439002 := Aside0.mk (Kd.R_below (rp_ HO_439002.out) hb)
                           replace HR456_0 := Aside0.mk (Kd.C_below (by repeat (first | (with_reducible exact HR456_0.out) | (with_reducible refine Kd.C_alloc ?_ _) | (with_reducible refine Kd.C_drewN ?_ _) | (with_reducible refine Kd.C_drew ?_) | exact HR456_0.out)) hb)
                           replace HR463_0 := Aside0.mk (Kd.C_below (by repeat (first | (with_reducible exact HR463_0.out) | (with_reducible refine Kd.C_alloc ?_ _) | (with_reducible refine Kd.C_drewN ?_ _) | (with_reducible refine Kd.C_drew ?_) | exact HR463_0.out)) hb)
                           replace HR471_2 := Aside0.mk (Kd.C_below (by repeat (first | (with_reducible exact HR471_2.out) | (with_reducible refine Kd.C_alloc ?_ _) | (with_reducible refine Kd.C_drewN ?_ _) | (with_reducible refine Kd.C_drew ?_) | exact HR471_2.out)) hb)
                           replace HR477_2 := Aside0.mk (Kd.C_below (by repeat (first | (with_reducible exact HR477_2.out) | (with_reducible refine Kd.C_alloc ?_ _) | (with_reducible refine Kd.C_drewN ?_ _) | (with_reducible refine Kd.C_drew ?_) | exact HR477_2.out)) hb)
                           replace HB := Aside0.mk (below_step bp_ hb)
                           (try clear hb)
                           (try clear hb2)
                           (try clear hk)
                           (try clear hi)
                           (try clear ho0)
                           obtain ⟨Ao59, co59, eo59⟩ := Kd.V_slice HO476.out
                           (first | subst eo59 | (injection eo59 with f1_ f2_ f3_; have f4_ := f1_.symm; have f5_ := f3_.symm; clear f1_ f2_ f3_; subst f4_; subst f5_))
                           refine hK.out _ _ ⟨HS0_, HS1_, HS2_, HS3_, HS4_, HS5_⟩ (fun hHeld => ?_)
                           clear hK K
                           refine norm_ (a' := ?_) ?_ ?_
                           rotate_left
                           · show Act.put _ (some 66) _ = _
                             simp only [Act.put, List.setIfInBounds_toArray, List.set_cons_zero, List.set_cons_succ, i64_w, i32_w]
                             rfl
                           refine one_ (i := 9) (N := some 71) Fl134 rfl rfl (one_of HT_.out (by kernel_rfl)) (by decide) (fun K hK => ?_)
                           refine goes_ Try.func16 (by kernel_rfl) rfl #[.agg #[.int .i64 t472, .int .i64 t473, .slice Ao59 t474.length co59], .agg #[.int .i64 ((rd_T24 t464 x12_3).f0), .int .i64 ((rd_T24 t464 x12_3).f1), .slice A477_2 ((rd_T24 t464 x12_3).f2).length c477_2]] (by rfl) rfl rfl (by (try simp only [List.map_toArray, List.map_cons, List.map_nil]); first | done | rfl | (simp only [List.length_drop, List.length_take]; rfl)) ?_
                           with_reducible refine (chequerref03_Same.calls k3 t472 t473 _ _ t474 ((rd_T24 t464 x12_3).f0) ((rd_T24 t464 x12_3).f1) _ _ ((rd_T24 t464 x12_3).f2) false _ ?side1 ?side2 ?side3 ?side4 A47.out).mono ?_
                           (case side1 => exact cp_ (Kd.V_reads' HO476.out).2.2)
                           (case side2 => exact (Kd.V_reads' HO476.out).2.1)
                           (case side3 => repeat (first | exact (by repeat (first | (with_reducible exact HR477_2.out) | (with_reducible refine Kd.C_alloc ?_ _) | (with_reducible refine Kd.C_drewN ?_ _) | (with_reducible refine Kd.C_drew ?_) | exact HR477_2.out)) | (with_reducible refine Kd.C_alloc ?_ _) | (with_reducible refine Kd.C_drewN ?_ _) | (with_reducible refine Kd.C_drew ?_)))
                           (case side4 => exact HC477_2.out)
                           rintro e w60 ⟨rfl, hb⟩
                           have HS0_ := (hb.cell (World.block_lt_of_cell? _ _ (hHeld.1))).trans (hHeld.1)
                           have HS1_ := (hb.cell (World.block_lt_of_cell? _ _ (hHeld.2.1))).trans (hHeld.2.1)
                           have HS2_ := (hb.cell (World.block_lt_of_cell? _ _ (hHeld.2.2.1))).trans (hHeld.2.2.1)
                           have HS3_ := (hb.cell (World.block_lt_of_cell? _ _ (hHeld.2.2.2.1))).trans (hHeld.2.2.2.1)
                           have HS4_ := (hb.cell (World.block_lt_of_cell? _ _ (hHeld.2.2.2.2.1))).trans (hHeld.2.2.2.2.1)
                           have HS5_ := (hb.cell (World.block_lt_of_cell? _ _ (hHeld.2.2.2.2.2))).trans (hHeld.2.2.2.2.2)
                           refine ⟨_, rfl, ?_⟩
                           replace HO_6 := Aside0.mk (Kd.N_below (by (with_reducible repeat (first | apply Kd.N_alloc | apply Kd.N_drewN | apply Kd.N_drew)); exact HO_6.out) hb)
                           replace HO_8 := Aside0.mk (Kd.N_below (by (with_reducible repeat (first | apply Kd.N_alloc | apply Kd.N_drewN | apply Kd.N_drew)); exact HO_8.out) hb)
                           replace HO_10 := Aside0.mk (Kd.N_below (by (with_reducible repeat (first | apply Kd.N_alloc | apply Kd.N_drewN | apply Kd.N_drew)); exact HO_10.out) hb)
                           replace HO_439002 := Aside0.mk (Kd.R_below (rp_ HO_439002.out) hb)
                           replace HL471_2 := Aside0.mk (Kd.V_below (vp_ HL471_2.out) hb)
                           replace HL477_2 := Aside0.mk (Kd.V_below (vp_ HL477_2.out) hb)
                           replace HO476 := Aside0.mk (Kd.V_below (vp_ HO476.out) hb)
                           replace HR456_0 := Aside0.mk (Kd.C_below (by repeat (first | (with_reducible exact HR456_0.out) | (with_reducible refine Kd.C_alloc ?_ _) | (with_reducible refine Kd.C_drewN ?_ _) | (with_reducible refine Kd.C_drew ?_) | exact HR456_0.out)) hb)
                           replace HR463_0 := Aside0.mk (Kd.C_below (by repeat (first | (with_reducible exact HR463_0.out) | (with_reducible refine Kd.C_alloc ?_ _) | (with_reducible refine Kd.C_drewN ?_ _) | (with_reducible refine Kd.C_drew ?_) | exact HR463_0.out)) hb)
                           replace HR471_2 := Aside0.mk (Kd.C_below (by repeat (first | (with_reducible exact HR471_2.out) | (with_reducible refine Kd.C_alloc ?_ _) | (with_reducible refine Kd.C_drewN ?_ _) | (with_reducible refine Kd.C_drew ?_) | exact HR471_2.out)) hb)
                           replace HR477_2 := Aside0.mk (Kd.C_below (by repeat (first | (with_reducible exact HR477_2.out) | (with_reducible refine Kd.C_alloc ?_ _) | (with_reducible refine Kd.C_drewN ?_ _) | (with_reducible refine Kd.C_drew ?_) | exact HR477_2.out)) hb)
                           replace HB := Aside0.mk (below_step bp_ hb)
                           (try clear hb)
                           (try clear hb2)
                           (try clear hk)
                           (try clear hi)
                           refine hK.out _ _ ⟨HS0_, HS1_, HS2_, HS3_, HS4_, HS5_⟩ (fun hHeld => ?_)
                           clear hK K
                           refine norm_ (a' := ?_) ?_ ?_
                           rotate_left
                           · show Act.put _ (some 71) _ = _
                             simp only [Act.put, List.setIfInBounds_toArray, List.set_cons_zero, List.set_cons_succ, i64_w, i32_w]
                             rfl
                           refine pur_ (i := 10) (N := some 72) Fl135 (any_of HT_.out (by kernel_rfl)) ?_
                           refine done_ (done_of HT_.out (by kernel_rfl)) ?_
                           try go_wp2
                           go_ret
                           exact ⟨by first | rfl | (simp [errW_none, errW_some] <;> rfl) | (simp only [← hji4]; first | rfl | (simp [errW_none, errW_some] <;> rfl)) | (simp [*, errW_none, errW_some] <;> rfl), bp_⟩
                       · rw [if_neg c46] at H
                         exact absurd H (by simp)
                     · rw [if_neg c44] at H
                       exact absurd H (by simp)
                   · rw [if_neg c43] at H
                     have c43b0 : decide (x12_3 < (t457.length : Int)) = false := decide_eq_false c43
                     clear c43
                     have H' := Aside0.mk H
                     clear H
                     obtain ⟨Ao61, co61, eo61⟩ := Kd.N_slice HO_8.out
                     subst eo61
                     go_wp2
                     go_roundg k3
                     case measure => have := HK1.out; have := HJ25.out; have := HK3.out; omega
                     case rel => exact ⟨(wrap64 (x7_1 + 1)), (by first | rfl | (simp; done) | (simp [*]; done)), H', ⟨by have := HK1.out; have := HJ25.out; have := HK3.out; omega⟩, ⟨by (with_reducible repeat (first | apply Kd.N_alloc | apply Kd.N_drewN | apply Kd.N_drew)); exact Kd.N_mono HO_6.out (fun _ hk => ⟨hk.1, ⟨hk.2.2.2.1, hk.2.2.2.2⟩⟩)⟩, ⟨rp_ HO_439002.out⟩, ⟨hp_ BK438.out⟩, ⟨bp_⟩⟩
           · rw [if_neg c23] at H
             exact absurd H (by simp)
         · rw [if_neg c22] at H
           exact absurd H (by simp)
       · rw [if_neg c20] at H
         have c20b0 : decide (x7_1 < 2) = false := decide_eq_false c20
         clear c20
         replace H := Option.bind_eq_some_iff.mp H
         obtain ⟨t450, A620, H⟩ := H
         replace H : (some t450) = some r := H
         have A62 := Aside0.mk A620
         clear A620
         obtain rfl := Option.some.inj H
         go_wp2_with (first | ((with_reducible refine gate_callee (f := 22) rfl ?_); refine goQ_ (some 73) Try.func22 #[] ?_; (with_reducible refine (chequerlaw04_lives.calls k1  t450 _ A62.out).mono ?_); rintro e w63 ⟨rfl, hb⟩; refine ⟨_, rfl, ?_⟩; replace HO_6 := Aside0.mk (Kd.N_below (by (with_reducible repeat (first | apply Kd.N_alloc | apply Kd.N_drewN | apply Kd.N_drew)); exact HO_6.out) hb); replace HO_439002 := Aside0.mk (Kd.R_below (rp_ HO_439002.out) hb); replace HB := Aside0.mk (below_step bp_ hb); (try clear hb); (try clear hb2); (try clear hk); (try clear hi)))
         go_ret
         exact ⟨by first | rfl | (simp [errW_none, errW_some] <;> rfl) | (simp only [← hji4]; first | rfl | (simp [errW_none, errW_some] <;> rfl)) | (simp [*, errW_none, errW_some] <;> rfl), bp_⟩
   · rw [if_neg c6] at H
     exact absurd H (by simp)
 · rw [if_neg c5] at H
   exact absurd H (by simp)

/-- THE ONE PURE STATEMENT of chequerlaw04_TurnOrbits. -/
def chequerlaw04_TurnOrbits.Pure : Prop := ∀ (a0_0 : Int) (a0_1 : Int) (l0_2 : List Int) (l1 : List Int), (Lit.int .i64 a0_0).wf = true → (Lit.int .i64 a0_1).wf = true → l0_2.length ≤ maxLen → (∀ x ∈ l0_2, (Lit.int .u64 x).wf = true) → l1.length ≤ maxLen → l1.length * 8 ≤ 140737488351232 → (∀ x ∈ l1, (Lit.int .i64 x).wf = true) → ∃ k, chequerlaw04_TurnOrbits.f k a0_0 a0_1 l0_2 l1 = some true
theorem chequerlaw04_TurnOrbits.walk (P : chequerlaw04_TurnOrbits.Pure) (a0_0 : Int) (a0_1 : Int) (a0_2 : Option Addr) (len0_2 cap0_2 : Nat) (z0_2 : List Int) (a1 : Option Addr) (len1 cap1 : Nat) (z1 : List Int) (w : World) (w0_0 : (Lit.int .i64 a0_0).wf = true) (w0_1 : (Lit.int .i64 a0_1).wf = true) (w0_2 : (a0_2 = none ∧ len0_2 = 0 ∧ cap0_2 = 0 ∧ z0_2 = []) ∨ ∃ x, a0_2 = some x ∧ len0_2 ≤ cap0_2 ∧ cap0_2 ≤ maxLen ∧ z0_2.length = cap0_2 ∧ (∀ i, i < z0_2.length → w.cell? (x.add i) = some (.int .u64 (z0_2.getD i 0))) ∧ ∀ n ∈ z0_2, (Lit.int .u64 n).wf = true) (w1 : (a1 = none ∧ len1 = 0 ∧ cap1 = 0 ∧ z1 = []) ∨ ∃ x, a1 = some x ∧ len1 ≤ cap1 ∧ cap1 ≤ maxLen ∧ z1.length = cap1 ∧ (∀ i, i < z1.length → w.cell? (x.add i) = some (.int .i64 (z1.getD i 0))) ∧ ∀ n ∈ z1, (Lit.int .i64 n).wf = true) (y1 : len1 * 8 ≤ 140737488351232) :
 Calls Try.prog 7 #[.agg #[.int .i64 a0_0, .int .i64 a0_1, .slice a0_2 len0_2 cap0_2], .slice a1 len1 cap1] w fun e w' => e = .returned (.bool true) ∧ Below w.heap.size w w' := by
 obtain ⟨l0_2, rfl, hr0_2, hm0_2, hw0_2, hc0_2⟩ := ReadsInt.ofRowC w0_2
 obtain ⟨l1, rfl, hr1, hm1, hw1, hc1⟩ := ReadsInt.ofRowC w1
 obtain ⟨k, h⟩ := P a0_0 a0_1 l0_2 l1 w0_0 w0_1 hm0_2 hw0_2 hm1 y1 hw1
 refine (chequerlaw04_TurnOrbits.calls k a0_0 a0_1 _ _ l0_2 (fun _ => True) _ _ l1 true w (Kd.C_of_reads (d := (0 : Int)) (h1 := fun _ => rfl) hr0_2) hc0_2 (Mo.V_any (Kd.heap_int .i64) (Kd.C_of_reads (d := (0 : Int)) (h1 := fun _ => rfl) hr1) hc1) h).mono ?_
 rintro e w' ⟨rfl, hd⟩
 exact ⟨rfl, hd⟩

end Go.Proofs.Ytehjnekljodmgaa.Q
