-- written by our own program (wip/tools/myprint.py) out of the translation, by the kit's print; Lean checks it
import Derived.Test.YtkkcjhnhbddooaaQ0
namespace Go.Proofs.Ytkkcjhnhbddooaa.Q
open Go.RowKit Go.Proofs.YtkkcjhnhbddooaaW.PrintWords Go.Proofs.YtkkcjhnhbddooaaW.PrintLast Go.Proofs.YtkkcjhnhbddooaaW.PrintMore
attribute [local go_sem] max2_int min2_int max_two min_two max_three min_three max_four min_four   -- for this text's walks alone
set_option linter.unusedVariables false
set_option linter.unusedSimpArgs false

/-! ### chequerref01_Around: function 11 -/
def chequerref01_Around.f (a0 : Int) (a1 : Int) : Option (Int) := if a0 < 0 then (if a1 = 0 then (none) else (some (Int.tmod (wrap64 (-(wrap64 (a0 + 1)))) a1))) else (if a1 = 0 then (none) else (some (Int.tmod a0 a1)))
set_option maxHeartbeats 8000000 in
set_option maxRecDepth 100000 in
theorem chequerref01_Around.calls (a0 : Int) (a1 : Int) (r : Int) (w : World) (h : chequerref01_Around.f a0 a1 = some r) :
    Calls Try.prog 11 #[.int .i64 a0, .int .i64 a1] w fun e w' => e = .returned (.int .i64 r) ∧ Drawn0 w w' := by
  have H : (if a0 < 0 then (if a1 = 0 then (none) else (some (Int.tmod (wrap64 (-(wrap64 (a0 + 1)))) a1))) else (if a1 = 0 then (none) else (some (Int.tmod a0 a1)))) = some r := h
  clear h
  by_cases c3 : a0 < 0
  · rw [if_pos c3] at H
    have c3b0 : decide (a0 < 0) = true := decide_eq_true c3
    clear c3
    by_cases c4 : a1 = 0
    · rw [if_pos c4] at H
      exact absurd H (by simp)
    · rw [if_neg c4] at H
      have c4b0 : (a1 == 0) = false := beq_eq_false_iff_ne.mpr c4
      have c4b1 : (a1 != 0) = true := bne_iff_ne.mpr c4
      obtain rfl := Option.some.inj H
      go_enter Try.func11, Try.ntmps11
      go_wp2
      go_ret
      exact ⟨by first | rfl | (simp; done) | (simp [*]; done), by repeat (first | exact Drawn0.refl _ | apply Drawn0.step)⟩
  · rw [if_neg c3] at H
    have c3b0 : decide (a0 < 0) = false := decide_eq_false c3
    clear c3
    by_cases c5 : a1 = 0
    · rw [if_pos c5] at H
      exact absurd H (by simp)
    · rw [if_neg c5] at H
      have c5b0 : (a1 == 0) = false := beq_eq_false_iff_ne.mpr c5
      have c5b1 : (a1 != 0) = true := bne_iff_ne.mpr c5
      obtain rfl := Option.some.inj H
      go_enter Try.func11, Try.ntmps11
      go_wp2
      go_ret
      exact ⟨by first | rfl | (simp; done) | (simp [*]; done), by repeat (first | exact Drawn0.refl _ | apply Drawn0.step)⟩

/-! ### chequerref02_Limit: function 10 -/
def chequerref02_Limit.f (a0 : Int) : Option (Int) := (chequerref01_Around.f a0 4611686018427387904).bind fun t101 => (some t101)
set_option maxHeartbeats 8000000 in
set_option maxRecDepth 100000 in
theorem chequerref02_Limit.calls (a0 : Int) (r : Int) (w : World) (h : chequerref02_Limit.f a0 = some r) :
    Calls Try.prog 10 #[.int .i64 a0] w fun e w' => e = .returned (.int .i64 r) ∧ Drawn0 w w' := by
  have H : ((chequerref01_Around.f a0 4611686018427387904).bind fun t101 => (some t101)) = some r := h
  clear h
  replace H := Option.bind_eq_some_iff.mp H
  obtain ⟨t101, A20, H⟩ := H
  replace H : (some t101) = some r := H
  have A2 := Aside0.mk A20
  clear A20
  obtain rfl := Option.some.inj H
  go_enter Try.func10, Try.ntmps10
  go_wp2_with (first | ((with_reducible refine gate_callee (f := 11) rfl ?_); refine goesL_ (some 4) rfl rfl Try.func11 (by kernel_rfl) rfl #[.int .i64 a0, .int .i64 4611686018427387904] rfl (by (try simp only [List.map_toArray, List.map_cons, List.map_nil]); first | done | rfl | (simp only [List.length_drop, List.length_take]; rfl)) ?_; (with_reducible refine (chequerref01_Around.calls a0 4611686018427387904 t101 _ A2.out).mono ?_); rintro e w' ⟨rfl, ⟨nd, rfl⟩⟩; refine ⟨_, rfl, ?_⟩))
  go_ret
  exact ⟨by first | rfl | (simp; done) | (simp [*]; done), by repeat (first | exact Drawn0.refl _ | apply Drawn0.step)⟩

/-! ### num_Step: function 12 -/
def num_Step.j0 : Nat → Int → Int → Int → Bool → Option (Int × Int)
  | 0, _, _, _, _ => none
  | k + 1, x0, x2, x8, x12 => if x12 = true then (some (0, 3)) else (if x8 > x2 then (some (0, 4)) else (if x0 > (wrap64 (Int.tdiv (wrap64 (x2 - x8)) 10)) then (some (0, 4)) else (some (wrap64 ((wrap64 (10 * x0)) + x8), 0))))
def num_Step.f (k : Nat) (a0 : Int) (a1 : Int) (a2 : Int) : Option (Int × Int) := if (wrap64 ((wrap64 (a1)) - 48)) < 0 then (num_Step.j0 k a0 a2 (wrap64 ((wrap64 (a1)) - 48)) true) else (num_Step.j0 k a0 a2 (wrap64 ((wrap64 (a1)) - 48)) (decide ((wrap64 ((wrap64 (a1)) - 48)) > 9)))
theorem num_Step.mono_l : ∀ k, (∀ y0 y1 y2 y3, LeO (num_Step.j0 k y0 y1 y2 y3) (num_Step.j0 (k + 1) y0 y1 y2 y3))
  | 0 => fun _ _ _ _ r h => by simp [num_Step.j0] at h
  | k + 1 => by
    have ih0 := num_Step.mono_l k
    · intro y0 y1 y2 y3
      unfold num_Step.j0
      repeat' first
      | (with_reducible exact ih0 _ _ _ _)
      | (with_reducible exact LeO.refl _)
      | (with_reducible exact LeO.none _)
      | (with_reducible refine LeO.ite ?_ ?_)
      | (with_reducible refine LeO.bind ?_ (fun _ => ?_))
      | exact ih0 _ _ _ _
      | exact LeO.none _
      | refine LeO.ite ?_ ?_
      | refine LeO.bind ?_ (fun _ => ?_)
theorem num_Step.mono : ∀ a0 a1 a2 k, LeO (num_Step.f k a0 a1 a2) (num_Step.f (k + 1) a0 a1 a2) := by
  intro a0 a1 a2 k
  have ih0 := num_Step.mono_l k
  unfold num_Step.f
  repeat' first
      | (with_reducible exact ih0 _ _ _ _)
      | (with_reducible exact LeO.refl _)
      | (with_reducible exact LeO.none _)
      | (with_reducible refine LeO.ite ?_ ?_)
      | (with_reducible refine LeO.bind ?_ (fun _ => ?_))
      | exact ih0 _ _ _ _
      | exact LeO.none _
      | refine LeO.ite ?_ ?_
      | refine LeO.bind ?_ (fun _ => ?_)
set_option maxHeartbeats 8000000 in
set_option maxRecDepth 100000 in
theorem num_Step.calls (k : Nat) (a0 : Int) (a1 : Int) (a2 : Int) (r1 : Int) (r2 : Int) (w : World) (h : num_Step.f k a0 a1 a2 = some (r1, r2)) :
    Calls Try.prog 12 #[.int .i64 a0, .int .u8 a1, .int .i64 a2] w fun e w' => e = .returned (.tuple #[.int .i64 r1, .int .i64 r2]) ∧ Drawn0 w w' := by
  have H : (if (wrap64 ((wrap64 (a1)) - 48)) < 0 then (num_Step.j0 k a0 a2 (wrap64 ((wrap64 (a1)) - 48)) true) else (num_Step.j0 k a0 a2 (wrap64 ((wrap64 (a1)) - 48)) (decide ((wrap64 ((wrap64 (a1)) - 48)) > 9)))) = some (r1, r2) := h
  clear h
  have HC4 := Aside0.mk H
  clear H
  go_enter Try.func12, Try.ntmps12
  go_upto_region 2 with (fail)
  go_cut [12] (fun v12 wc => ∃ (kq : Nat) (x12_3 : Bool), v12 = .bool x12_3 ∧ Aside0 (num_Step.j0 kq a0 a2 (wrap64 ((wrap64 (a1)) - 48)) x12_3 = some (r1, r2)) ∧ Aside0 (kq ≤ k) ∧ Drawn0 w wc)
  case first =>
    have H := HC4.out
    clear HC4
    by_cases c5 : (wrap64 ((wrap64 (a1)) - 48)) < 0
    · rw [if_pos c5] at H
      have c5b0 : decide ((wrap64 ((wrap64 (a1)) - 48)) < 0) = true := decide_eq_true c5
      clear c5
      (first | rw [c5b0] | (simp only [i64_w, i32_w]; rw [c5b0]) | skip)
      have H' := Aside0.mk H
      clear H
      go_wp2
      go_meet
      case rel => exact ⟨_, (true), (by first | rfl | (simp; done) | (simp [*]; done)), H', ⟨by first | omega | exact Nat.le_refl _⟩, by repeat (first | exact Drawn0.refl _ | apply Drawn0.step)⟩
    · rw [if_neg c5] at H
      have c5b0 : decide ((wrap64 ((wrap64 (a1)) - 48)) < 0) = false := decide_eq_false c5
      clear c5
      (first | rw [c5b0] | (simp only [i64_w, i32_w]; rw [c5b0]) | skip)
      have H' := Aside0.mk H
      clear H
      go_wp2
      go_meet
      case rel => exact ⟨_, (decide ((wrap64 ((wrap64 (a1)) - 48)) > 9)), (by first | rfl | (simp; done) | (simp [*]; done)), H', ⟨by first | omega | exact Nat.le_refl _⟩, by repeat (first | exact Drawn0.refl _ | apply Drawn0.step)⟩
  case rest =>
    clear HC4
    try clear c1
    try clear p2
    try clear c5
    try clear c5b0
    obtain ⟨kq, x12_3, rfl, HA, HJ3, ⟨mc3, rfl⟩⟩ := hcut
    cases kq with
    | zero => exact absurd HA.out (by simp [num_Step.j0])
    | succ kj3 =>
      have H := HA.out
      clear HA
      simp only [num_Step.j0] at H
      by_cases c6 : x12_3 = true
      · subst c6
        have H1 : (some (0, 3)) = some (r1, r2) := by rw [if_pos rfl] at H; exact H
        clear H
        have H := H1
        clear H1
        simp only [Option.some.injEq, Prod.mk.injEq] at H
        obtain ⟨rfl, rfl⟩ := H
        go_wp2
        go_ret2
        exact ⟨by first | rfl | (simp; done) | (simp [*]; done), by repeat (first | exact Drawn0.refl _ | apply Drawn0.step)⟩
      · replace c6 := Bool.eq_false_iff.mpr c6
        subst c6
        have H1 : (if (wrap64 ((wrap64 (a1)) - 48)) > a2 then (some (0, 4)) else (if a0 > (wrap64 (Int.tdiv (wrap64 (a2 - (wrap64 ((wrap64 (a1)) - 48)))) 10)) then (some (0, 4)) else (some (wrap64 ((wrap64 (10 * a0)) + (wrap64 ((wrap64 (a1)) - 48))), 0)))) = some (r1, r2) := by rw [if_neg (show ¬ (false = true) by decide)] at H; exact H
        clear H
        have H := H1
        clear H1
        by_cases c7 : (wrap64 ((wrap64 (a1)) - 48)) > a2
        · rw [if_pos c7] at H
          have c7b0 : decide (a2 < (wrap64 ((wrap64 (a1)) - 48))) = true := decide_eq_true c7
          clear c7
          simp only [Option.some.injEq, Prod.mk.injEq] at H
          obtain ⟨rfl, rfl⟩ := H
          go_wp2
          go_ret2
          exact ⟨by first | rfl | (simp; done) | (simp [*]; done), by repeat (first | exact Drawn0.refl _ | apply Drawn0.step)⟩
        · rw [if_neg c7] at H
          have c7b0 : decide (a2 < (wrap64 ((wrap64 (a1)) - 48))) = false := decide_eq_false c7
          clear c7
          by_cases c8 : a0 > (wrap64 (Int.tdiv (wrap64 (a2 - (wrap64 ((wrap64 (a1)) - 48)))) 10))
          · rw [if_pos c8] at H
            have c8b0 : decide ((wrap64 (Int.tdiv (wrap64 (a2 - (wrap64 ((wrap64 (a1)) - 48)))) 10)) < a0) = true := decide_eq_true c8
            clear c8
            simp only [Option.some.injEq, Prod.mk.injEq] at H
            obtain ⟨rfl, rfl⟩ := H
            go_wp2
            go_ret2
            exact ⟨by first | rfl | (simp; done) | (simp [*]; done), by repeat (first | exact Drawn0.refl _ | apply Drawn0.step)⟩
          · rw [if_neg c8] at H
            have c8b0 : decide ((wrap64 (Int.tdiv (wrap64 (a2 - (wrap64 ((wrap64 (a1)) - 48)))) 10)) < a0) = false := decide_eq_false c8
            clear c8
            simp only [Option.some.injEq, Prod.mk.injEq] at H
            obtain ⟨rfl, rfl⟩ := H
            go_wp2
            go_ret2
            exact ⟨by first | rfl | (simp; done) | (simp [*]; done), by repeat (first | exact Drawn0.refl _ | apply Drawn0.step)⟩

/-! ### chequerref02_Step: function 13 -/
def chequerref02_Step.j0 : Nat → Int → Int → Int → Bool → Option (Int × Int)
  | 0, _, _, _, _ => none
  | k + 1, x0, x1, x2, x14 => if x14 = true then (some (0, 3)) else (if x0 > (wrap64 (Int.tdiv x2 10)) then (some (0, 4)) else (if x0 = (wrap64 (Int.tdiv x2 10)) then (if (wrap64 ((wrap64 (x1)) - 48)) > (Int.tmod x2 10) then (some (0, 4)) else (some (wrap64 ((wrap64 (x0 * 10)) + (wrap64 ((wrap64 (x1)) - 48))), 0))) else (some (wrap64 ((wrap64 (x0 * 10)) + (wrap64 ((wrap64 (x1)) - 48))), 0))))
def chequerref02_Step.f (k : Nat) (a0 : Int) (a1 : Int) (a2 : Int) : Option (Int × Int) := if a1 < 48 then (chequerref02_Step.j0 k a0 a1 a2 true) else (chequerref02_Step.j0 k a0 a1 a2 (decide (a1 > 57)))
theorem chequerref02_Step.mono_l : ∀ k, (∀ y0 y1 y2 y3, LeO (chequerref02_Step.j0 k y0 y1 y2 y3) (chequerref02_Step.j0 (k + 1) y0 y1 y2 y3))
  | 0 => fun _ _ _ _ r h => by simp [chequerref02_Step.j0] at h
  | k + 1 => by
    have ih0 := chequerref02_Step.mono_l k
    · intro y0 y1 y2 y3
      unfold chequerref02_Step.j0
      repeat' first
      | (with_reducible exact ih0 _ _ _ _)
      | (with_reducible exact LeO.refl _)
      | (with_reducible exact LeO.none _)
      | (with_reducible refine LeO.ite ?_ ?_)
      | (with_reducible refine LeO.bind ?_ (fun _ => ?_))
      | exact ih0 _ _ _ _
      | exact LeO.none _
      | refine LeO.ite ?_ ?_
      | refine LeO.bind ?_ (fun _ => ?_)
theorem chequerref02_Step.mono : ∀ a0 a1 a2 k, LeO (chequerref02_Step.f k a0 a1 a2) (chequerref02_Step.f (k + 1) a0 a1 a2) := by
  intro a0 a1 a2 k
  have ih0 := chequerref02_Step.mono_l k
  unfold chequerref02_Step.f
  repeat' first
      | (with_reducible exact ih0 _ _ _ _)
      | (with_reducible exact LeO.refl _)
      | (with_reducible exact LeO.none _)
      | (with_reducible refine LeO.ite ?_ ?_)
      | (with_reducible refine LeO.bind ?_ (fun _ => ?_))
      | exact ih0 _ _ _ _
      | exact LeO.none _
      | refine LeO.ite ?_ ?_
      | refine LeO.bind ?_ (fun _ => ?_)
set_option maxHeartbeats 8000000 in
set_option maxRecDepth 100000 in
theorem chequerref02_Step.calls (k : Nat) (a0 : Int) (a1 : Int) (a2 : Int) (r1 : Int) (r2 : Int) (w : World) (h : chequerref02_Step.f k a0 a1 a2 = some (r1, r2)) :
    Calls Try.prog 13 #[.int .i64 a0, .int .u8 a1, .int .i64 a2] w fun e w' => e = .returned (.tuple #[.int .i64 r1, .int .i64 r2]) ∧ Drawn0 w w' := by
  have H : (if a1 < 48 then (chequerref02_Step.j0 k a0 a1 a2 true) else (chequerref02_Step.j0 k a0 a1 a2 (decide (a1 > 57)))) = some (r1, r2) := h
  clear h
  have HC4 := Aside0.mk H
  clear H
  go_enter Try.func13, Try.ntmps13
  go_upto_region 1 with (fail)
  go_cut [14] (fun v14 wc => ∃ (kq : Nat) (x14_3 : Bool), v14 = .bool x14_3 ∧ Aside0 (chequerref02_Step.j0 kq a0 a1 a2 x14_3 = some (r1, r2)) ∧ Aside0 (kq ≤ k) ∧ Drawn0 w wc)
  case first =>
    have H := HC4.out
    clear HC4
    by_cases c5 : a1 < 48
    · rw [if_pos c5] at H
      have c5b0 : decide (a1 < 48) = true := decide_eq_true c5
      clear c5
      (first | rw [c5b0] | (simp only [i64_w, i32_w]; rw [c5b0]) | skip)
      have H' := Aside0.mk H
      clear H
      go_wp2
      go_meet
      case rel => exact ⟨_, (true), (by first | rfl | (simp; done) | (simp [*]; done)), H', ⟨by first | omega | exact Nat.le_refl _⟩, by repeat (first | exact Drawn0.refl _ | apply Drawn0.step)⟩
    · rw [if_neg c5] at H
      have c5b0 : decide (a1 < 48) = false := decide_eq_false c5
      clear c5
      (first | rw [c5b0] | (simp only [i64_w, i32_w]; rw [c5b0]) | skip)
      have H' := Aside0.mk H
      clear H
      go_wp2
      go_meet
      case rel => exact ⟨_, (decide (a1 > 57)), (by first | rfl | (simp; done) | (simp [*]; done)), H', ⟨by first | omega | exact Nat.le_refl _⟩, by repeat (first | exact Drawn0.refl _ | apply Drawn0.step)⟩
  case rest =>
    clear HC4
    try clear c1
    try clear p2
    try clear c5
    try clear c5b0
    obtain ⟨kq, x14_3, rfl, HA, HJ3, ⟨mc3, rfl⟩⟩ := hcut
    cases kq with
    | zero => exact absurd HA.out (by simp [chequerref02_Step.j0])
    | succ kj3 =>
      have H := HA.out
      clear HA
      simp only [chequerref02_Step.j0] at H
      by_cases c6 : x14_3 = true
      · subst c6
        have H1 : (some (0, 3)) = some (r1, r2) := by rw [if_pos rfl] at H; exact H
        clear H
        have H := H1
        clear H1
        simp only [Option.some.injEq, Prod.mk.injEq] at H
        obtain ⟨rfl, rfl⟩ := H
        go_wp2
        go_ret2
        exact ⟨by first | rfl | (simp; done) | (simp [*]; done), by repeat (first | exact Drawn0.refl _ | apply Drawn0.step)⟩
      · replace c6 := Bool.eq_false_iff.mpr c6
        subst c6
        have H1 : (if a0 > (wrap64 (Int.tdiv a2 10)) then (some (0, 4)) else (if a0 = (wrap64 (Int.tdiv a2 10)) then (if (wrap64 ((wrap64 (a1)) - 48)) > (Int.tmod a2 10) then (some (0, 4)) else (some (wrap64 ((wrap64 (a0 * 10)) + (wrap64 ((wrap64 (a1)) - 48))), 0))) else (some (wrap64 ((wrap64 (a0 * 10)) + (wrap64 ((wrap64 (a1)) - 48))), 0)))) = some (r1, r2) := by rw [if_neg (show ¬ (false = true) by decide)] at H; exact H
        clear H
        have H := H1
        clear H1
        by_cases c7 : a0 > (wrap64 (Int.tdiv a2 10))
        · rw [if_pos c7] at H
          have c7b0 : decide ((wrap64 (Int.tdiv a2 10)) < a0) = true := decide_eq_true c7
          clear c7
          simp only [Option.some.injEq, Prod.mk.injEq] at H
          obtain ⟨rfl, rfl⟩ := H
          go_wp2
          go_ret2
          exact ⟨by first | rfl | (simp; done) | (simp [*]; done), by repeat (first | exact Drawn0.refl _ | apply Drawn0.step)⟩
        · rw [if_neg c7] at H
          have c7b0 : decide ((wrap64 (Int.tdiv a2 10)) < a0) = false := decide_eq_false c7
          clear c7
          by_cases c8 : a0 = (wrap64 (Int.tdiv a2 10))
          · rw [if_pos c8] at H
            have c8b0 : (a0 == (wrap64 (Int.tdiv a2 10))) = true := beq_iff_eq.mpr c8
            have c8b1 : (a0 != (wrap64 (Int.tdiv a2 10))) = false := bne_eq_false_iff_eq.mpr c8
            clear c8
            by_cases c9 : (wrap64 ((wrap64 (a1)) - 48)) > (Int.tmod a2 10)
            · rw [if_pos c9] at H
              have c9b0 : decide ((Int.tmod a2 10) < (wrap64 ((wrap64 (a1)) - 48))) = true := decide_eq_true c9
              clear c9
              simp only [Option.some.injEq, Prod.mk.injEq] at H
              obtain ⟨rfl, rfl⟩ := H
              go_wp2
              go_ret2
              exact ⟨by first | rfl | (simp; done) | (simp [*]; done), by repeat (first | exact Drawn0.refl _ | apply Drawn0.step)⟩
            · rw [if_neg c9] at H
              have c9b0 : decide ((Int.tmod a2 10) < (wrap64 ((wrap64 (a1)) - 48))) = false := decide_eq_false c9
              clear c9
              simp only [Option.some.injEq, Prod.mk.injEq] at H
              obtain ⟨rfl, rfl⟩ := H
              go_wp2
              go_ret2
              exact ⟨by first | rfl | (simp; done) | (simp [*]; done), by repeat (first | exact Drawn0.refl _ | apply Drawn0.step)⟩
          · rw [if_neg c8] at H
            have c8b0 : (a0 == (wrap64 (Int.tdiv a2 10))) = false := beq_eq_false_iff_ne.mpr c8
            have c8b1 : (a0 != (wrap64 (Int.tdiv a2 10))) = true := bne_iff_ne.mpr c8
            simp only [Option.some.injEq, Prod.mk.injEq] at H
            obtain ⟨rfl, rfl⟩ := H
            go_wp2
            go_ret2
            exact ⟨by first | rfl | (simp; done) | (simp [*]; done), by repeat (first | exact Drawn0.refl _ | apply Drawn0.step)⟩

-- NOT PRINTED: function 28 (num_digits)

end Go.Proofs.Ytkkcjhnhbddooaa.Q
