-- written by our own program (wip/tools/myprint.py) out of the translation, by the kit's print; Lean checks it
import Derived.Test.YtbbgichpbjgifaaQ0
import Derived.Test.YtbbgichpbjgifaaItoken_Blank
namespace Go.Proofs.Ytbbgichpbjgifaa.Q
open Go.RowKit Go.Proofs.YtbbgichpbjgifaaW.PrintWords Go.Proofs.YtbbgichpbjgifaaW.PrintLast Go.Proofs.YtbbgichpbjgifaaW.PrintMore
attribute [local go_sem] max2_int min2_int max_two min_two max_three min_three max_four min_four   -- for this text's walks alone
set_option linter.unusedVariables false
set_option linter.unusedSimpArgs false

/-! ### num_Step: function 42 -/
def num_Step.j0 : Nat → Int → Int → Int → Bool → Option (Int × Int)
  | 0, _, _, _, _ => none
  | k + 1, x0, x2, x8, x12 => if x12 = true then (some (0, 3)) else (if x8 > x2 then (some (0, 4)) else (if x0 > (wrap64 (Int.tdiv (wrap64 (x2 - x8)) 10)) then (some (0, 4)) else (some (wrap64 ((wrap64 (10 * x0)) + x8), 0))))
def num_Step.f (k : Nat) (a0 : Int) (a1 : Int) (a2 : Int) : Option (Int × Int) := if (wrap64 ((wrap64 (a1)) - 48)) < 0 then (num_Step.j0 k a0 a2 (wrap64 ((wrap64 (a1)) - 48)) true) else (num_Step.j0 k a0 a2 (wrap64 ((wrap64 (a1)) - 48)) (decide ((wrap64 ((wrap64 (a1)) - 48)) > 9)))
theorem num_Step.mono_l : ∀ k, (∀ y0 y1 y2 y3, LeO (num_Step.j0 k y0 y1 y2 y3) (num_Step.j0 (k + 1) y0 y1 y2 y3))
  | 0 => fun _ _ _ _ r h => by simp [num_Step.j0] at h
  | k + 1 => by
    have ih0 := num_Step.mono_l k
    · intro y0 y1 y2 y3
      unfold num_Step.j0
      repeat' first
      | (with_reducible exact ih0 _ _ _ _)
      | (with_reducible exact LeO.refl _)
      | (with_reducible exact LeO.none _)
      | (with_reducible refine LeO.ite ?_ ?_)
      | (with_reducible refine LeO.bind ?_ (fun _ => ?_))
      | exact ih0 _ _ _ _
      | exact LeO.none _
      | refine LeO.ite ?_ ?_
      | refine LeO.bind ?_ (fun _ => ?_)
theorem num_Step.mono : ∀ a0 a1 a2 k, LeO (num_Step.f k a0 a1 a2) (num_Step.f (k + 1) a0 a1 a2) := by
  intro a0 a1 a2 k
  have ih0 := num_Step.mono_l k
  unfold num_Step.f
  repeat' first
      | (with_reducible exact ih0 _ _ _ _)
      | (with_reducible exact LeO.refl _)
      | (with_reducible exact LeO.none _)
      | (with_reducible refine LeO.ite ?_ ?_)
      | (with_reducible refine LeO.bind ?_ (fun _ => ?_))
      | exact ih0 _ _ _ _
      | exact LeO.none _
      | refine LeO.ite ?_ ?_
      | refine LeO.bind ?_ (fun _ => ?_)
set_option maxHeartbeats 8000000 in
set_option maxRecDepth 100000 in
theorem num_Step.calls (k : Nat) (a0 : Int) (a1 : Int) (a2 : Int) (r1 : Int) (r2 : Int) (w : World) (h : num_Step.f k a0 a1 a2 = some (r1, r2)) :
    Calls Try.prog 42 #[.int .i64 a0, .int .u8 a1, .int .i64 a2] w fun e w' => e = .returned (.tuple #[.int .i64 r1, .int .i64 r2]) ∧ Drawn0 w w' := by
  have H : (if (wrap64 ((wrap64 (a1)) - 48)) < 0 then (num_Step.j0 k a0 a2 (wrap64 ((wrap64 (a1)) - 48)) true) else (num_Step.j0 k a0 a2 (wrap64 ((wrap64 (a1)) - 48)) (decide ((wrap64 ((wrap64 (a1)) - 48)) > 9)))) = some (r1, r2) := h
  clear h
  have HC4 := Aside0.mk H
  clear H
  go_enter Try.func42, Try.ntmps42
  go_upto_region 2 with (fail)
  go_cut [12] (fun v12 wc => ∃ (kq : Nat) (x12_3 : Bool), v12 = .bool x12_3 ∧ Aside0 (num_Step.j0 kq a0 a2 (wrap64 ((wrap64 (a1)) - 48)) x12_3 = some (r1, r2)) ∧ Aside0 (kq ≤ k) ∧ Drawn0 w wc)
  case first =>
    have H := HC4.out
    clear HC4
    by_cases c5 : (wrap64 ((wrap64 (a1)) - 48)) < 0
    · rw [if_pos c5] at H
      have c5b0 : decide ((wrap64 ((wrap64 (a1)) - 48)) < 0) = true := decide_eq_true c5
      clear c5
      (first | rw [c5b0] | (simp only [i64_w, i32_w]; rw [c5b0]) | skip)
      have H' := Aside0.mk H
      clear H
      go_wp2
      go_meet
      case rel => exact ⟨_, (true), (by first | rfl | (simp; done) | (simp [*]; done)), H', ⟨by first | omega | exact Nat.le_refl _⟩, by repeat (first | exact Drawn0.refl _ | apply Drawn0.step)⟩
    · rw [if_neg c5] at H
      have c5b0 : decide ((wrap64 ((wrap64 (a1)) - 48)) < 0) = false := decide_eq_false c5
      clear c5
      (first | rw [c5b0] | (simp only [i64_w, i32_w]; rw [c5b0]) | skip)
      have H' := Aside0.mk H
      clear H
      go_wp2
      go_meet
      case rel => exact ⟨_, (decide ((wrap64 ((wrap64 (a1)) - 48)) > 9)), (by first | rfl | (simp; done) | (simp [*]; done)), H', ⟨by first | omega | exact Nat.le_refl _⟩, by repeat (first | exact Drawn0.refl _ | apply Drawn0.step)⟩
  case rest =>
    clear HC4
    try clear p2
    try clear c4
    try clear c5
    try clear c5b0
    obtain ⟨kq, x12_3, rfl, HA, HJ3, ⟨mc3, rfl⟩⟩ := hcut
    cases kq with
    | zero => exact absurd HA.out (by simp [num_Step.j0])
    | succ kj3 =>
      have H := HA.out
      clear HA
      simp only [num_Step.j0] at H
      by_cases c6 : x12_3 = true
      · subst c6
        have H1 : (some (0, 3)) = some (r1, r2) := by rw [if_pos rfl] at H; exact H
        clear H
        have H := H1
        clear H1
        simp only [Option.some.injEq, Prod.mk.injEq] at H
        obtain ⟨rfl, rfl⟩ := H
        go_wp2
        go_ret2
        exact ⟨by first | rfl | (simp; done) | (simp [*]; done), by repeat (first | exact Drawn0.refl _ | apply Drawn0.step)⟩
      · replace c6 := Bool.eq_false_iff.mpr c6
        subst c6
        have H1 : (if (wrap64 ((wrap64 (a1)) - 48)) > a2 then (some (0, 4)) else (if a0 > (wrap64 (Int.tdiv (wrap64 (a2 - (wrap64 ((wrap64 (a1)) - 48)))) 10)) then (some (0, 4)) else (some (wrap64 ((wrap64 (10 * a0)) + (wrap64 ((wrap64 (a1)) - 48))), 0)))) = some (r1, r2) := by rw [if_neg (show ¬ (false = true) by decide)] at H; exact H
        clear H
        have H := H1
        clear H1
        by_cases c7 : (wrap64 ((wrap64 (a1)) - 48)) > a2
        · rw [if_pos c7] at H
          have c7b0 : decide (a2 < (wrap64 ((wrap64 (a1)) - 48))) = true := decide_eq_true c7
          clear c7
          simp only [Option.some.injEq, Prod.mk.injEq] at H
          obtain ⟨rfl, rfl⟩ := H
          go_wp2
          go_ret2
          exact ⟨by first | rfl | (simp; done) | (simp [*]; done), by repeat (first | exact Drawn0.refl _ | apply Drawn0.step)⟩
        · rw [if_neg c7] at H
          have c7b0 : decide (a2 < (wrap64 ((wrap64 (a1)) - 48))) = false := decide_eq_false c7
          clear c7
          by_cases c8 : a0 > (wrap64 (Int.tdiv (wrap64 (a2 - (wrap64 ((wrap64 (a1)) - 48)))) 10))
          · rw [if_pos c8] at H
            have c8b0 : decide ((wrap64 (Int.tdiv (wrap64 (a2 - (wrap64 ((wrap64 (a1)) - 48)))) 10)) < a0) = true := decide_eq_true c8
            clear c8
            simp only [Option.some.injEq, Prod.mk.injEq] at H
            obtain ⟨rfl, rfl⟩ := H
            go_wp2
            go_ret2
            exact ⟨by first | rfl | (simp; done) | (simp [*]; done), by repeat (first | exact Drawn0.refl _ | apply Drawn0.step)⟩
          · rw [if_neg c8] at H
            have c8b0 : decide ((wrap64 (Int.tdiv (wrap64 (a2 - (wrap64 ((wrap64 (a1)) - 48)))) 10)) < a0) = false := decide_eq_false c8
            clear c8
            simp only [Option.some.injEq, Prod.mk.injEq] at H
            obtain ⟨rfl, rfl⟩ := H
            go_wp2
            go_ret2
            exact ⟨by first | rfl | (simp; done) | (simp [*]; done), by repeat (first | exact Drawn0.refl _ | apply Drawn0.step)⟩

/-! ### token_Number_digit: function 36 -/
def token_Number_digit.f (k : Nat) (s0_0 : Int) (s0_1 : Int) (s0_2 : Int) (s0_3 : Bool) (s0_4 : Int) (s0_5 : Int) (a1 : Int) : Option (Int × Int × Int × Int × Bool × Int × Int) := (num_Step.f k s0_2 a1 s0_1).bind fun bt106 => (if bt106.2 = 0 then (some (0, 2, s0_1, bt106.1, true, s0_4, s0_5)) else (some (2, s0_0, s0_1, 0, s0_3, s0_4, bt106.2)))
theorem token_Number_digit.mono : ∀ a0 a1 a2 a3 a4 a5 a6 k, LeO (token_Number_digit.f k a0 a1 a2 a3 a4 a5 a6) (token_Number_digit.f (k + 1) a0 a1 a2 a3 a4 a5 a6) := by
  intro a0 a1 a2 a3 a4 a5 a6 k
  unfold token_Number_digit.f
  repeat' first
      | (with_reducible exact num_Step.mono _ _ _ _)
      | (with_reducible exact LeO.refl _)
      | (with_reducible exact LeO.none _)
      | (with_reducible refine LeO.ite ?_ ?_)
      | (with_reducible refine LeO.bind ?_ (fun _ => ?_))
      | exact num_Step.mono _ _ _ _
      | exact LeO.none _
      | refine LeO.ite ?_ ?_
      | refine LeO.bind ?_ (fun _ => ?_)
set_option maxHeartbeats 8000000 in
set_option maxRecDepth 100000 in
theorem token_Number_digit.calls (k : Nat) (g : Nat) (s0_0 : Int) (s0_1 : Int) (s0_2 : Int) (s0_3 : Bool) (s0_4 : Int) (s0_5 : Int) (a1 : Int) (r1 : Int) (r2 : Int) (r3 : Int) (r4 : Int) (r5 : Bool) (r6 : Int) (r7 : Int) (w0 w : World) (hI : IsS52 w0 w g s0_0 s0_1 s0_2 s0_3 s0_4 s0_5) (hB : Below w0.heap.size w0 w) (h : token_Number_digit.f k s0_0 s0_1 s0_2 s0_3 s0_4 s0_5 a1 = some (r1, r2, r3, r4, r5, r6, r7)) :
    Calls Try.prog 36 #[.pointer (some ⟨g, 0, none⟩), .int .u8 a1] w fun e w' => e = .returned (.int .i64 r1) ∧ IsS52 w0 w' g r2 r3 r4 r5 r6 r7 ∧ Below w0.heap.size w0 w' ∧ KeepBut w w' g none := by
  have hmf2_ : ∀ w_ : World, (Instr.makeFunc (.func 43) #[.pointer (some ⟨g, 0, none⟩)] #[]).run Try.prog w_ = .ok (modeV g 2) w_ := fun _ => rfl
  have HI0 := Aside0.mk hI
  have HK := Aside0.mk (KeepBut.refl w g none)
  have HL := Aside0.mk hB.size
  clear hI
  have HW0 := Aside0.mk hB.size
  have HB := Aside0.mk hB
  clear hB
  have H : ((num_Step.f k s0_2 a1 s0_1).bind fun bt106 => (if bt106.2 = 0 then (some (0, 2, s0_1, bt106.1, true, s0_4, s0_5)) else (some (2, s0_0, s0_1, 0, s0_3, s0_4, bt106.2)))) = some (r1, r2, r3, r4, r5, r6, r7) := h
  clear h
  replace H := Option.bind_eq_some_iff.mp H
  obtain ⟨⟨t106, t107⟩, A30, H⟩ := H
  replace H : (if t107 = 0 then (some (0, 2, s0_1, t106, true, s0_4, s0_5)) else (some (2, s0_0, s0_1, 0, s0_3, s0_4, t107))) = some (r1, r2, r3, r4, r5, r6, r7) := H
  have A3 := Aside0.mk A30
  clear A30
  by_cases c4 : t107 = 0
  · rw [if_pos c4] at H
    have c4b0 : (t107 == 0) = true := beq_iff_eq.mpr c4
    have c4b1 : (t107 != 0) = false := bne_eq_false_iff_eq.mpr c4
    clear c4
    simp only [Option.some.injEq, Prod.mk.injEq] at H
    obtain ⟨rfl, rfl, rfl, rfl, rfl, rfl, rfl⟩ := H
    obtain ⟨HGz5, hgz5⟩ := HI0.out
    have hcz5_0 := cellS52_0 HGz5
    have hcz5_1 := cellS52_1 HGz5
    have hcz5_2 := cellS52_2 HGz5
    have hcz5_3 := cellS52_3 HGz5
    have hcz5_4 := cellS52_4 HGz5
    have hcz5_5 := cellS52_5 HGz5
    have hfz5_0 := blk_frozen HGz5 0
    have hfz5_1 := blk_frozen HGz5 1
    have hfz5_2 := blk_frozen HGz5 2
    have hfz5_3 := blk_frozen HGz5 3
    have hfz5_4 := blk_frozen HGz5 4
    have hfz5_5 := blk_frozen HGz5 5
    clear HGz5 hgz5
    go_enter Try.func36, Try.ntmps36
    go_wp2_with (first | (go_at_call 42; (with_reducible refine (num_Step.calls k s0_2 a1 s0_1 t106 t107 _ A3.out).mono ?_); rintro e w' ⟨rfl, ⟨nd, rfl⟩⟩; (try first | exact ⟨rfl, _, World.drewN_drewN _ _ _⟩ | exact ⟨rfl, _, Eq.trans (World.drewN_drewN _ _ _) (congrArg (World.drewN _) (Nat.add_assoc _ _ _))⟩)))
    repeat (go_quiet (first | (go_at_call 42; (with_reducible refine (num_Step.calls k s0_2 a1 s0_1 t106 t107 _ A3.out).mono ?_); rintro e w' ⟨rfl, ⟨nd, rfl⟩⟩; (try first | exact ⟨rfl, _, World.drewN_drewN _ _ _⟩ | exact ⟨rfl, _, Eq.trans (World.drewN_drewN _ _ _) (congrArg (World.drewN _) (Nat.add_assoc _ _ _))⟩))); try go_wp2_with (first | (go_at_call 42; (with_reducible refine (num_Step.calls k s0_2 a1 s0_1 t106 t107 _ A3.out).mono ?_); rintro e w' ⟨rfl, ⟨nd, rfl⟩⟩; (try first | exact ⟨rfl, _, World.drewN_drewN _ _ _⟩ | exact ⟨rfl, _, Eq.trans (World.drewN_drewN _ _ _) (congrArg (World.drewN _) (Nat.add_assoc _ _ _))⟩))))
    go_ret
    exact ⟨by first | rfl | (simp [errW_none, errW_some] <;> rfl) | (simp [*, errW_none, errW_some] <;> rfl), by repeat (first | (with_reducible first | exact HI0.out | apply IsS52.alloc | apply IsS52.drewN | apply IsS52.drew | apply IsS52.set_0 | apply IsS52.set_0a | apply IsS52.set_0b | apply IsS52.set_0c | apply IsS52.set_0d | apply IsS52.set_1 | apply IsS52.set_2 | apply IsS52.set_3 | apply IsS52.set_4 | apply IsS52.set_5) | exact HI0.out), by repeat (first | (with_reducible first | exact HB.out | apply below_alloc | apply pw_below_drewN | apply below_drew1 | refine below_set ?_ (IsS52.ge HI0.out)) | exact HB.out), by repeat (first | (with_reducible first | exact HK.out | apply KeepBut.set_ | apply keep_drewN | apply keep_drew | apply keep_alloc) | exact HK.out)⟩
  · rw [if_neg c4] at H
    have c4b0 : (t107 == 0) = false := beq_eq_false_iff_ne.mpr c4
    have c4b1 : (t107 != 0) = true := bne_iff_ne.mpr c4
    simp only [Option.some.injEq, Prod.mk.injEq] at H
    obtain ⟨rfl, rfl, rfl, rfl, rfl, rfl, rfl⟩ := H
    obtain ⟨HGz6, hgz6⟩ := HI0.out
    have hcz6_0 := cellS52_0 HGz6
    have hcz6_1 := cellS52_1 HGz6
    have hcz6_2 := cellS52_2 HGz6
    have hcz6_3 := cellS52_3 HGz6
    have hcz6_4 := cellS52_4 HGz6
    have hcz6_5 := cellS52_5 HGz6
    have hfz6_0 := blk_frozen HGz6 0
    have hfz6_1 := blk_frozen HGz6 1
    have hfz6_2 := blk_frozen HGz6 2
    have hfz6_3 := blk_frozen HGz6 3
    have hfz6_4 := blk_frozen HGz6 4
    have hfz6_5 := blk_frozen HGz6 5
    clear HGz6 hgz6
    go_enter Try.func36, Try.ntmps36
    go_wp2_with (first | (go_at_call 42; (with_reducible refine (num_Step.calls k s0_2 a1 s0_1 t106 t107 _ A3.out).mono ?_); rintro e w' ⟨rfl, ⟨nd, rfl⟩⟩; (try first | exact ⟨rfl, _, World.drewN_drewN _ _ _⟩ | exact ⟨rfl, _, Eq.trans (World.drewN_drewN _ _ _) (congrArg (World.drewN _) (Nat.add_assoc _ _ _))⟩)))
    repeat (go_quiet (first | (go_at_call 42; (with_reducible refine (num_Step.calls k s0_2 a1 s0_1 t106 t107 _ A3.out).mono ?_); rintro e w' ⟨rfl, ⟨nd, rfl⟩⟩; (try first | exact ⟨rfl, _, World.drewN_drewN _ _ _⟩ | exact ⟨rfl, _, Eq.trans (World.drewN_drewN _ _ _) (congrArg (World.drewN _) (Nat.add_assoc _ _ _))⟩))); try go_wp2_with (first | (go_at_call 42; (with_reducible refine (num_Step.calls k s0_2 a1 s0_1 t106 t107 _ A3.out).mono ?_); rintro e w' ⟨rfl, ⟨nd, rfl⟩⟩; (try first | exact ⟨rfl, _, World.drewN_drewN _ _ _⟩ | exact ⟨rfl, _, Eq.trans (World.drewN_drewN _ _ _) (congrArg (World.drewN _) (Nat.add_assoc _ _ _))⟩))))
    go_ret
    exact ⟨by first | rfl | (simp [errW_none, errW_some] <;> rfl) | (simp [*, errW_none, errW_some] <;> rfl), by repeat (first | (with_reducible first | exact HI0.out | apply IsS52.alloc | apply IsS52.drewN | apply IsS52.drew | apply IsS52.set_0 | apply IsS52.set_0a | apply IsS52.set_0b | apply IsS52.set_0c | apply IsS52.set_0d | apply IsS52.set_1 | apply IsS52.set_2 | apply IsS52.set_3 | apply IsS52.set_4 | apply IsS52.set_5) | exact HI0.out), by repeat (first | (with_reducible first | exact HB.out | apply below_alloc | apply pw_below_drewN | apply below_drew1 | refine below_set ?_ (IsS52.ge HI0.out)) | exact HB.out), by repeat (first | (with_reducible first | exact HK.out | apply KeepBut.set_ | apply keep_drewN | apply keep_drew | apply keep_alloc) | exact HK.out)⟩

/-! ### token_Number_ahead: function 28 -/
def token_Number_ahead.f (k : Nat) (s0_0 : Int) (s0_1 : Int) (s0_2 : Int) (s0_3 : Bool) (s0_4 : Int) (s0_5 : Int) (a1 : Int) : Option (Int × Int × Int × Int × Bool × Int × Int) := (token_Blank.f a1).bind fun t108 => (if t108 = true then (some (0, s0_0, s0_1, s0_2, s0_3, s0_4, s0_5)) else (if a1 = 35 then (some (0, 1, s0_1, s0_2, s0_3, s0_4, s0_5)) else ((token_Number_digit.f k s0_0 s0_1 s0_2 s0_3 s0_4 s0_5 a1).bind fun bt109 => (some (bt109.1, bt109.2.1, bt109.2.2.1, bt109.2.2.2.1, bt109.2.2.2.2.1, bt109.2.2.2.2.2.1, bt109.2.2.2.2.2.2)))))
theorem token_Number_ahead.mono : ∀ a0 a1 a2 a3 a4 a5 a6 k, LeO (token_Number_ahead.f k a0 a1 a2 a3 a4 a5 a6) (token_Number_ahead.f (k + 1) a0 a1 a2 a3 a4 a5 a6) := by
  intro a0 a1 a2 a3 a4 a5 a6 k
  unfold token_Number_ahead.f
  repeat' first
      | (with_reducible exact token_Number_digit.mono _ _ _ _ _ _ _ _)
      | (with_reducible exact LeO.refl _)
      | (with_reducible exact LeO.none _)
      | (with_reducible refine LeO.ite ?_ ?_)
      | (with_reducible refine LeO.bind ?_ (fun _ => ?_))
      | exact token_Number_digit.mono _ _ _ _ _ _ _ _
      | exact LeO.none _
      | refine LeO.ite ?_ ?_
      | refine LeO.bind ?_ (fun _ => ?_)
set_option maxHeartbeats 8000000 in
set_option maxRecDepth 100000 in
theorem token_Number_ahead.callsv (k : Nat) (g : Nat) (s0_0 : Int) (s0_1 : Int) (s0_2 : Int) (s0_3 : Bool) (s0_4 : Int) (s0_5 : Int) (a1 : Int) (r1 : Int) (r2 : Int) (r3 : Int) (r4 : Int) (r5 : Bool) (r6 : Int) (r7 : Int) (w0 v w : World) (hv : KeepBut v w g none) (hI : IsS52 w0 w g s0_0 s0_1 s0_2 s0_3 s0_4 s0_5) (hB : Below w0.heap.size w0 w) (h : token_Number_ahead.f k s0_0 s0_1 s0_2 s0_3 s0_4 s0_5 a1 = some (r1, r2, r3, r4, r5, r6, r7)) :
    Calls Try.prog 28 #[.pointer (some ⟨g, 0, none⟩), .int .u8 a1] w fun e w' => e = .returned (.int .i64 r1) ∧ IsS52 w0 w' g r2 r3 r4 r5 r6 r7 ∧ Below w0.heap.size w0 w' ∧ KeepBut v w' g none := by
  have hmf1_ : ∀ w_ : World, (Instr.makeFunc (.func 35) #[.pointer (some ⟨g, 0, none⟩)] #[]).run Try.prog w_ = .ok (modeV g 1) w_ := fun _ => rfl
  have HI0 := Aside0.mk hI
  have HK := Aside0.mk hv
  have HL := Aside0.mk hB.size
  clear hI
  have HW0 := Aside0.mk hB.size
  have HB := Aside0.mk hB
  clear hB
  have H : ((token_Blank.f a1).bind fun t108 => (if t108 = true then (some (0, s0_0, s0_1, s0_2, s0_3, s0_4, s0_5)) else (if a1 = 35 then (some (0, 1, s0_1, s0_2, s0_3, s0_4, s0_5)) else ((token_Number_digit.f k s0_0 s0_1 s0_2 s0_3 s0_4 s0_5 a1).bind fun bt109 => (some (bt109.1, bt109.2.1, bt109.2.2.1, bt109.2.2.2.1, bt109.2.2.2.2.1, bt109.2.2.2.2.2.1, bt109.2.2.2.2.2.2)))))) = some (r1, r2, r3, r4, r5, r6, r7) := h
  clear h
  replace H := Option.bind_eq_some_iff.mp H
  obtain ⟨t108, A30, H⟩ := H
  replace H : (if t108 = true then (some (0, s0_0, s0_1, s0_2, s0_3, s0_4, s0_5)) else (if a1 = 35 then (some (0, 1, s0_1, s0_2, s0_3, s0_4, s0_5)) else ((token_Number_digit.f k s0_0 s0_1 s0_2 s0_3 s0_4 s0_5 a1).bind fun bt109 => (some (bt109.1, bt109.2.1, bt109.2.2.1, bt109.2.2.2.1, bt109.2.2.2.2.1, bt109.2.2.2.2.2.1, bt109.2.2.2.2.2.2))))) = some (r1, r2, r3, r4, r5, r6, r7) := H
  have A3 := Aside0.mk A30
  clear A30
  by_cases c4 : t108 = true
  · subst c4
    have H1 : (some (0, s0_0, s0_1, s0_2, s0_3, s0_4, s0_5)) = some (r1, r2, r3, r4, r5, r6, r7) := by rw [if_pos rfl] at H; exact H
    clear H
    have H := H1
    clear H1
    simp only [Option.some.injEq, Prod.mk.injEq] at H
    obtain ⟨rfl, rfl, rfl, rfl, rfl, rfl, rfl⟩ := H
    go_enter Try.func28, Try.ntmps28
    go_wp2_with (first | ((with_reducible refine gate_callee (f := 21) rfl ?_); refine goesL_ (some 7) rfl rfl Try.func21 (by kernel_rfl) rfl #[.int .u8 a1] rfl (by (try simp only [List.map_toArray, List.map_cons, List.map_nil]); first | done | rfl | (simp only [List.length_drop, List.length_take]; rfl)) ?_; (with_reducible refine (token_Blank.calls a1 true _ A3.out).mono ?_); rintro e w' ⟨rfl, ⟨nd, rfl⟩⟩; refine ⟨_, rfl, ?_⟩))
    go_ret
    exact ⟨by first | rfl | (simp [errW_none, errW_some] <;> rfl) | (simp [*, errW_none, errW_some] <;> rfl), by repeat (first | (with_reducible first | exact HI0.out | apply IsS52.alloc | apply IsS52.drewN | apply IsS52.drew | apply IsS52.set_0 | apply IsS52.set_0a | apply IsS52.set_0b | apply IsS52.set_0c | apply IsS52.set_0d | apply IsS52.set_1 | apply IsS52.set_2 | apply IsS52.set_3 | apply IsS52.set_4 | apply IsS52.set_5) | exact HI0.out), by repeat (first | (with_reducible first | exact HB.out | apply below_alloc | apply pw_below_drewN | apply below_drew1 | refine below_set ?_ (IsS52.ge HI0.out)) | exact HB.out), by repeat (first | (with_reducible first | exact HK.out | apply KeepBut.set_ | apply keep_drewN | apply keep_drew | apply keep_alloc) | exact HK.out)⟩
  · replace c4 := Bool.eq_false_iff.mpr c4
    subst c4
    have H1 : (if a1 = 35 then (some (0, 1, s0_1, s0_2, s0_3, s0_4, s0_5)) else ((token_Number_digit.f k s0_0 s0_1 s0_2 s0_3 s0_4 s0_5 a1).bind fun bt109 => (some (bt109.1, bt109.2.1, bt109.2.2.1, bt109.2.2.2.1, bt109.2.2.2.2.1, bt109.2.2.2.2.2.1, bt109.2.2.2.2.2.2)))) = some (r1, r2, r3, r4, r5, r6, r7) := by rw [if_neg (show ¬ (false = true) by decide)] at H; exact H
    clear H
    have H := H1
    clear H1
    by_cases c5 : a1 = 35
    · rw [if_pos c5] at H
      have c5b0 : (a1 == 35) = true := beq_iff_eq.mpr c5
      have c5b1 : (a1 != 35) = false := bne_eq_false_iff_eq.mpr c5
      clear c5
      simp only [Option.some.injEq, Prod.mk.injEq] at H
      obtain ⟨rfl, rfl, rfl, rfl, rfl, rfl, rfl⟩ := H
      go_enter Try.func28, Try.ntmps28
      go_wp2_with (first | ((with_reducible refine gate_callee (f := 21) rfl ?_); refine goesL_ (some 7) rfl rfl Try.func21 (by kernel_rfl) rfl #[.int .u8 a1] rfl (by (try simp only [List.map_toArray, List.map_cons, List.map_nil]); first | done | rfl | (simp only [List.length_drop, List.length_take]; rfl)) ?_; (with_reducible refine (token_Blank.calls a1 false _ A3.out).mono ?_); rintro e w' ⟨rfl, ⟨nd, rfl⟩⟩; refine ⟨_, rfl, ?_⟩; (try (rw [drewN_self w]; generalize hq_ : World.drewN w _ = w; have n0_ : Aside0 (IsS52 w0 w g s0_0 s0_1 s0_2 s0_3 s0_4 s0_5) := ⟨by rw [← hq_]; exact (by repeat (first | (with_reducible first | exact HI0.out | apply IsS52.alloc | apply IsS52.drewN | apply IsS52.drew | apply IsS52.set_0 | apply IsS52.set_0a | apply IsS52.set_0b | apply IsS52.set_0c | apply IsS52.set_0d | apply IsS52.set_1 | apply IsS52.set_2 | apply IsS52.set_3 | apply IsS52.set_4 | apply IsS52.set_5) | exact HI0.out))⟩; have n1_ : Aside0 (KeepBut v w g none) := ⟨by rw [← hq_]; exact (by repeat (first | (with_reducible first | exact HK.out | apply KeepBut.set_ | apply keep_drewN | apply keep_drew | apply keep_alloc) | exact HK.out))⟩; have n2_ : Aside0 (Below w0.heap.size w0 w) := ⟨by rw [← hq_]; exact (by repeat (first | (with_reducible first | exact HB.out | apply below_alloc | apply pw_below_drewN | apply below_drew1 | refine below_set ?_ (IsS52.ge HI0.out)) | exact HB.out))⟩; clear HI0 HK HB hq_; have HI0 := n0_; have HK := n1_; have HB := n2_; clear n0_ n1_ n2_)); obtain ⟨HGz6, hgz6⟩ := HI0.out; have hcz6_0 := cellS52_0 HGz6; have hcz6_1 := cellS52_1 HGz6; have hcz6_2 := cellS52_2 HGz6; have hcz6_3 := cellS52_3 HGz6; have hcz6_4 := cellS52_4 HGz6; have hcz6_5 := cellS52_5 HGz6; have hfz6_0 := blk_frozen HGz6 0; have hfz6_1 := blk_frozen HGz6 1; have hfz6_2 := blk_frozen HGz6 2; have hfz6_3 := blk_frozen HGz6 3; have hfz6_4 := blk_frozen HGz6 4; have hfz6_5 := blk_frozen HGz6 5; clear HGz6 hgz6))
      go_ret
      exact ⟨by first | rfl | (simp [errW_none, errW_some] <;> rfl) | (simp [*, errW_none, errW_some] <;> rfl), by repeat (first | (with_reducible first | exact HI0.out | apply IsS52.alloc | apply IsS52.drewN | apply IsS52.drew | apply IsS52.set_0 | apply IsS52.set_0a | apply IsS52.set_0b | apply IsS52.set_0c | apply IsS52.set_0d | apply IsS52.set_1 | apply IsS52.set_2 | apply IsS52.set_3 | apply IsS52.set_4 | apply IsS52.set_5) | exact HI0.out), by repeat (first | (with_reducible first | exact HB.out | apply below_alloc | apply pw_below_drewN | apply below_drew1 | refine below_set ?_ (IsS52.ge HI0.out)) | exact HB.out), by repeat (first | (with_reducible first | exact HK.out | apply KeepBut.set_ | apply keep_drewN | apply keep_drew | apply keep_alloc) | exact HK.out)⟩
    · rw [if_neg c5] at H
      have c5b0 : (a1 == 35) = false := beq_eq_false_iff_ne.mpr c5
      have c5b1 : (a1 != 35) = true := bne_iff_ne.mpr c5
      replace H := Option.bind_eq_some_iff.mp H
      obtain ⟨⟨t109, t110, t111, t112, t113, t114, t115⟩, A70, H⟩ := H
      replace H : (some (t109, t110, t111, t112, t113, t114, t115)) = some (r1, r2, r3, r4, r5, r6, r7) := H
      have A7 := Aside0.mk A70
      clear A70
      simp only [Option.some.injEq, Prod.mk.injEq] at H
      obtain ⟨rfl, rfl, rfl, rfl, rfl, rfl, rfl⟩ := H
      go_enter Try.func28, Try.ntmps28
      go_wp2_with (first | ((with_reducible refine gate_callee (f := 21) rfl ?_); refine goesL_ (some 7) rfl rfl Try.func21 (by kernel_rfl) rfl #[.int .u8 a1] rfl (by (try simp only [List.map_toArray, List.map_cons, List.map_nil]); first | done | rfl | (simp only [List.length_drop, List.length_take]; rfl)) ?_; (with_reducible refine (token_Blank.calls a1 false _ A3.out).mono ?_); rintro e w' ⟨rfl, ⟨nd, rfl⟩⟩; refine ⟨_, rfl, ?_⟩) | ((with_reducible refine gate_callee (f := 36) rfl ?_); refine goesL_ (some 18) rfl rfl Try.func36 (by kernel_rfl) rfl #[.pointer (some ⟨g, 0, none⟩), .int .u8 a1] rfl (by (try simp only [List.map_toArray, List.map_cons, List.map_nil]); first | done | rfl | (simp only [List.length_drop, List.length_take]; rfl)) ?_; (with_reducible refine (token_Number_digit.calls k g s0_0 s0_1 s0_2 s0_3 s0_4 s0_5 a1 t109 t110 t111 t112 t113 t114 t115 w0 _ ?side1 ?side2 A7.out).mono ?_); (case side1 => repeat (first | (with_reducible first | exact HI0.out | apply IsS52.alloc | apply IsS52.drewN | apply IsS52.drew | apply IsS52.set_0 | apply IsS52.set_0a | apply IsS52.set_0b | apply IsS52.set_0c | apply IsS52.set_0d | apply IsS52.set_1 | apply IsS52.set_2 | apply IsS52.set_3 | apply IsS52.set_4 | apply IsS52.set_5) | exact HI0.out)); (case side2 => repeat (first | (with_reducible first | exact HB.out | apply below_alloc | apply pw_below_drewN | apply below_drew1 | refine below_set ?_ (IsS52.ge HI0.out)) | exact HB.out)); rintro e w8 ⟨rfl, hi, hb, hk⟩; refine ⟨_, rfl, ?_⟩; have n0_ := Aside0.mk (KeepBut.trans (by repeat (first | (with_reducible first | exact HK.out | apply KeepBut.set_ | apply keep_drewN | apply keep_drew | apply keep_alloc) | exact HK.out)) hk (.inl rfl)); have n1_ := Aside0.mk (hb); have n2_ := Aside0.mk (hi); clear HK; clear HB; clear HI0; have HK := n0_; have HB := n1_; have HI0 := n2_; clear n0_ n1_ n2_; (try clear hb); (try clear hb2); (try clear hk); (try clear hi)))
      go_ret
      exact ⟨by first | rfl | (simp [errW_none, errW_some] <;> rfl) | (simp [*, errW_none, errW_some] <;> rfl), by repeat (first | (with_reducible first | exact HI0.out | apply IsS52.alloc | apply IsS52.drewN | apply IsS52.drew | apply IsS52.set_0 | apply IsS52.set_0a | apply IsS52.set_0b | apply IsS52.set_0c | apply IsS52.set_0d | apply IsS52.set_1 | apply IsS52.set_2 | apply IsS52.set_3 | apply IsS52.set_4 | apply IsS52.set_5) | exact HI0.out), by repeat (first | (with_reducible first | exact HB.out | apply below_alloc | apply pw_below_drewN | apply below_drew1 | refine below_set ?_ (IsS52.ge HI0.out)) | exact HB.out), by repeat (first | (with_reducible first | exact HK.out | apply KeepBut.set_ | apply keep_drewN | apply keep_drew | apply keep_alloc) | exact HK.out)⟩
theorem token_Number_ahead.calls (k : Nat) (g : Nat) (s0_0 : Int) (s0_1 : Int) (s0_2 : Int) (s0_3 : Bool) (s0_4 : Int) (s0_5 : Int) (a1 : Int) (r1 : Int) (r2 : Int) (r3 : Int) (r4 : Int) (r5 : Bool) (r6 : Int) (r7 : Int) (w0 w : World) (hI : IsS52 w0 w g s0_0 s0_1 s0_2 s0_3 s0_4 s0_5) (hB : Below w0.heap.size w0 w) (h : token_Number_ahead.f k s0_0 s0_1 s0_2 s0_3 s0_4 s0_5 a1 = some (r1, r2, r3, r4, r5, r6, r7)) :
    Calls Try.prog 28 #[.pointer (some ⟨g, 0, none⟩), .int .u8 a1] w fun e w' => e = .returned (.int .i64 r1) ∧ IsS52 w0 w' g r2 r3 r4 r5 r6 r7 ∧ Below w0.heap.size w0 w' ∧ KeepBut w w' g none := token_Number_ahead.callsv k g s0_0 s0_1 s0_2 s0_3 s0_4 s0_5 a1 r1 r2 r3 r4 r5 r6 r7 w0 w w (KeepBut.refl w g none) hI hB h


/-! ### token_ends: function 41 -/
def token_ends.f (a0 : Int) : Option (Bool) := if a0 = 10 then (some true) else (some (a0 == 13))
set_option maxHeartbeats 8000000 in
set_option maxRecDepth 100000 in
theorem token_ends.calls (a0 : Int) (r : Bool) (w : World) (h : token_ends.f a0 = some r) :
    Calls Try.prog 41 #[.int .u8 a0] w fun e w' => e = .returned (.bool r) ∧ Drawn0 w w' := by
  have H : (if a0 = 10 then (some true) else (some (a0 == 13))) = some r := h
  clear h
  by_cases c2 : a0 = 10
  · rw [if_pos c2] at H
    have c2b0 : (a0 == 10) = true := beq_iff_eq.mpr c2
    have c2b1 : (a0 != 10) = false := bne_eq_false_iff_eq.mpr c2
    clear c2
    obtain rfl := Option.some.inj H
    go_enter Try.func41, Try.ntmps41
    go_wp2
    go_ret
    exact ⟨by first | rfl | (simp; done) | (simp [*]; done), by repeat (first | exact Drawn0.refl _ | apply Drawn0.step)⟩
  · rw [if_neg c2] at H
    have c2b0 : (a0 == 10) = false := beq_eq_false_iff_ne.mpr c2
    have c2b1 : (a0 != 10) = true := bne_iff_ne.mpr c2
    obtain rfl := Option.some.inj H
    go_enter Try.func41, Try.ntmps41
    go_wp2
    go_ret
    exact ⟨by first | rfl | (simp; done) | (simp [*]; done), by repeat (first | exact Drawn0.refl _ | apply Drawn0.step)⟩

/-! ### token_Number_remark: function 35 -/
def token_Number_remark.f (s0_0 : Int) (s0_1 : Int) (s0_2 : Int) (s0_3 : Bool) (s0_4 : Int) (s0_5 : Int) (a1 : Int) : Option (Int × Int × Int × Int × Bool × Int × Int) := (token_ends.f a1).bind fun t116 => (if t116 = true then (some (0, 0, s0_1, s0_2, s0_3, s0_4, s0_5)) else (some (0, s0_0, s0_1, s0_2, s0_3, s0_4, s0_5)))
set_option maxHeartbeats 8000000 in
set_option maxRecDepth 100000 in
theorem token_Number_remark.callsv (g : Nat) (s0_0 : Int) (s0_1 : Int) (s0_2 : Int) (s0_3 : Bool) (s0_4 : Int) (s0_5 : Int) (a1 : Int) (r1 : Int) (r2 : Int) (r3 : Int) (r4 : Int) (r5 : Bool) (r6 : Int) (r7 : Int) (w0 v w : World) (hv : KeepBut v w g none) (hI : IsS52 w0 w g s0_0 s0_1 s0_2 s0_3 s0_4 s0_5) (hB : Below w0.heap.size w0 w) (h : token_Number_remark.f s0_0 s0_1 s0_2 s0_3 s0_4 s0_5 a1 = some (r1, r2, r3, r4, r5, r6, r7)) :
    Calls Try.prog 35 #[.pointer (some ⟨g, 0, none⟩), .int .u8 a1] w fun e w' => e = .returned (.int .i64 r1) ∧ IsS52 w0 w' g r2 r3 r4 r5 r6 r7 ∧ Below w0.heap.size w0 w' ∧ KeepBut v w' g none := by
  have hmf0_ : ∀ w_ : World, (Instr.makeFunc (.func 28) #[.pointer (some ⟨g, 0, none⟩)] #[]).run Try.prog w_ = .ok (modeV g 0) w_ := fun _ => rfl
  have HI0 := Aside0.mk hI
  have HK := Aside0.mk hv
  have HL := Aside0.mk hB.size
  clear hI
  have HW0 := Aside0.mk hB.size
  have HB := Aside0.mk hB
  clear hB
  have H : ((token_ends.f a1).bind fun t116 => (if t116 = true then (some (0, 0, s0_1, s0_2, s0_3, s0_4, s0_5)) else (some (0, s0_0, s0_1, s0_2, s0_3, s0_4, s0_5)))) = some (r1, r2, r3, r4, r5, r6, r7) := h
  clear h
  replace H := Option.bind_eq_some_iff.mp H
  obtain ⟨t116, A30, H⟩ := H
  replace H : (if t116 = true then (some (0, 0, s0_1, s0_2, s0_3, s0_4, s0_5)) else (some (0, s0_0, s0_1, s0_2, s0_3, s0_4, s0_5))) = some (r1, r2, r3, r4, r5, r6, r7) := H
  have A3 := Aside0.mk A30
  clear A30
  by_cases c4 : t116 = true
  · subst c4
    have H1 : (some (0, 0, s0_1, s0_2, s0_3, s0_4, s0_5)) = some (r1, r2, r3, r4, r5, r6, r7) := by rw [if_pos rfl] at H; exact H
    clear H
    have H := H1
    clear H1
    simp only [Option.some.injEq, Prod.mk.injEq] at H
    obtain ⟨rfl, rfl, rfl, rfl, rfl, rfl, rfl⟩ := H
    go_enter Try.func35, Try.ntmps35
    go_wp2_with (first | ((with_reducible refine gate_callee (f := 41) rfl ?_); refine goesL_ (some 6) rfl rfl Try.func41 (by kernel_rfl) rfl #[.int .u8 a1] rfl (by (try simp only [List.map_toArray, List.map_cons, List.map_nil]); first | done | rfl | (simp only [List.length_drop, List.length_take]; rfl)) ?_; (with_reducible refine (token_ends.calls a1 true _ A3.out).mono ?_); rintro e w' ⟨rfl, ⟨nd, rfl⟩⟩; refine ⟨_, rfl, ?_⟩; (try (rw [drewN_self w]; generalize hq_ : World.drewN w _ = w; have n0_ : Aside0 (IsS52 w0 w g s0_0 s0_1 s0_2 s0_3 s0_4 s0_5) := ⟨by rw [← hq_]; exact (by repeat (first | (with_reducible first | exact HI0.out | apply IsS52.alloc | apply IsS52.drewN | apply IsS52.drew | apply IsS52.set_0 | apply IsS52.set_0a | apply IsS52.set_0b | apply IsS52.set_0c | apply IsS52.set_0d | apply IsS52.set_1 | apply IsS52.set_2 | apply IsS52.set_3 | apply IsS52.set_4 | apply IsS52.set_5) | exact HI0.out))⟩; have n1_ : Aside0 (KeepBut v w g none) := ⟨by rw [← hq_]; exact (by repeat (first | (with_reducible first | exact HK.out | apply KeepBut.set_ | apply keep_drewN | apply keep_drew | apply keep_alloc) | exact HK.out))⟩; have n2_ : Aside0 (Below w0.heap.size w0 w) := ⟨by rw [← hq_]; exact (by repeat (first | (with_reducible first | exact HB.out | apply below_alloc | apply pw_below_drewN | apply below_drew1 | refine below_set ?_ (IsS52.ge HI0.out)) | exact HB.out))⟩; clear HI0 HK HB hq_; have HI0 := n0_; have HK := n1_; have HB := n2_; clear n0_ n1_ n2_)); obtain ⟨HGz5, hgz5⟩ := HI0.out; have hcz5_0 := cellS52_0 HGz5; have hcz5_1 := cellS52_1 HGz5; have hcz5_2 := cellS52_2 HGz5; have hcz5_3 := cellS52_3 HGz5; have hcz5_4 := cellS52_4 HGz5; have hcz5_5 := cellS52_5 HGz5; have hfz5_0 := blk_frozen HGz5 0; have hfz5_1 := blk_frozen HGz5 1; have hfz5_2 := blk_frozen HGz5 2; have hfz5_3 := blk_frozen HGz5 3; have hfz5_4 := blk_frozen HGz5 4; have hfz5_5 := blk_frozen HGz5 5; clear HGz5 hgz5))
    go_ret
    exact ⟨by first | rfl | (simp [errW_none, errW_some] <;> rfl) | (simp [*, errW_none, errW_some] <;> rfl), by repeat (first | (with_reducible first | exact HI0.out | apply IsS52.alloc | apply IsS52.drewN | apply IsS52.drew | apply IsS52.set_0 | apply IsS52.set_0a | apply IsS52.set_0b | apply IsS52.set_0c | apply IsS52.set_0d | apply IsS52.set_1 | apply IsS52.set_2 | apply IsS52.set_3 | apply IsS52.set_4 | apply IsS52.set_5) | exact HI0.out), by repeat (first | (with_reducible first | exact HB.out | apply below_alloc | apply pw_below_drewN | apply below_drew1 | refine below_set ?_ (IsS52.ge HI0.out)) | exact HB.out), by repeat (first | (with_reducible first | exact HK.out | apply KeepBut.set_ | apply keep_drewN | apply keep_drew | apply keep_alloc) | exact HK.out)⟩
  · replace c4 := Bool.eq_false_iff.mpr c4
    subst c4
    have H1 : (some (0, s0_0, s0_1, s0_2, s0_3, s0_4, s0_5)) = some (r1, r2, r3, r4, r5, r6, r7) := by rw [if_neg (show ¬ (false = true) by decide)] at H; exact H
    clear H
    have H := H1
    clear H1
    simp only [Option.some.injEq, Prod.mk.injEq] at H
    obtain ⟨rfl, rfl, rfl, rfl, rfl, rfl, rfl⟩ := H
    go_enter Try.func35, Try.ntmps35
    go_wp2_with (first | ((with_reducible refine gate_callee (f := 41) rfl ?_); refine goesL_ (some 6) rfl rfl Try.func41 (by kernel_rfl) rfl #[.int .u8 a1] rfl (by (try simp only [List.map_toArray, List.map_cons, List.map_nil]); first | done | rfl | (simp only [List.length_drop, List.length_take]; rfl)) ?_; (with_reducible refine (token_ends.calls a1 false _ A3.out).mono ?_); rintro e w' ⟨rfl, ⟨nd, rfl⟩⟩; refine ⟨_, rfl, ?_⟩))
    go_ret
    exact ⟨by first | rfl | (simp [errW_none, errW_some] <;> rfl) | (simp [*, errW_none, errW_some] <;> rfl), by repeat (first | (with_reducible first | exact HI0.out | apply IsS52.alloc | apply IsS52.drewN | apply IsS52.drew | apply IsS52.set_0 | apply IsS52.set_0a | apply IsS52.set_0b | apply IsS52.set_0c | apply IsS52.set_0d | apply IsS52.set_1 | apply IsS52.set_2 | apply IsS52.set_3 | apply IsS52.set_4 | apply IsS52.set_5) | exact HI0.out), by repeat (first | (with_reducible first | exact HB.out | apply below_alloc | apply pw_below_drewN | apply below_drew1 | refine below_set ?_ (IsS52.ge HI0.out)) | exact HB.out), by repeat (first | (with_reducible first | exact HK.out | apply KeepBut.set_ | apply keep_drewN | apply keep_drew | apply keep_alloc) | exact HK.out)⟩
theorem token_Number_remark.calls (g : Nat) (s0_0 : Int) (s0_1 : Int) (s0_2 : Int) (s0_3 : Bool) (s0_4 : Int) (s0_5 : Int) (a1 : Int) (r1 : Int) (r2 : Int) (r3 : Int) (r4 : Int) (r5 : Bool) (r6 : Int) (r7 : Int) (w0 w : World) (hI : IsS52 w0 w g s0_0 s0_1 s0_2 s0_3 s0_4 s0_5) (hB : Below w0.heap.size w0 w) (h : token_Number_remark.f s0_0 s0_1 s0_2 s0_3 s0_4 s0_5 a1 = some (r1, r2, r3, r4, r5, r6, r7)) :
    Calls Try.prog 35 #[.pointer (some ⟨g, 0, none⟩), .int .u8 a1] w fun e w' => e = .returned (.int .i64 r1) ∧ IsS52 w0 w' g r2 r3 r4 r5 r6 r7 ∧ Below w0.heap.size w0 w' ∧ KeepBut w w' g none := token_Number_remark.callsv g s0_0 s0_1 s0_2 s0_3 s0_4 s0_5 a1 r1 r2 r3 r4 r5 r6 r7 w0 w w (KeepBut.refl w g none) hI hB h


/-! ### token_Number_behind: function 43 -/
def token_Number_behind.f (k : Nat) (s0_0 : Int) (s0_1 : Int) (s0_2 : Int) (s0_3 : Bool) (s0_4 : Int) (s0_5 : Int) (a1 : Int) : Option (Int × Int × Int × Int × Bool × Int × Int) := (token_Blank.f a1).bind fun t117 => (if t117 = true then (some (1, s0_0, s0_1, s0_2, s0_3, s0_4, 0)) else (if a1 = 35 then (some (0, 3, s0_1, s0_2, s0_3, s0_4, s0_5)) else ((token_Number_digit.f k s0_0 s0_1 s0_2 s0_3 s0_4 s0_5 a1).bind fun bt118 => (some (bt118.1, bt118.2.1, bt118.2.2.1, bt118.2.2.2.1, bt118.2.2.2.2.1, bt118.2.2.2.2.2.1, bt118.2.2.2.2.2.2)))))
theorem token_Number_behind.mono : ∀ a0 a1 a2 a3 a4 a5 a6 k, LeO (token_Number_behind.f k a0 a1 a2 a3 a4 a5 a6) (token_Number_behind.f (k + 1) a0 a1 a2 a3 a4 a5 a6) := by
  intro a0 a1 a2 a3 a4 a5 a6 k
  unfold token_Number_behind.f
  repeat' first
      | (with_reducible exact token_Number_digit.mono _ _ _ _ _ _ _ _)
      | (with_reducible exact LeO.refl _)
      | (with_reducible exact LeO.none _)
      | (with_reducible refine LeO.ite ?_ ?_)
      | (with_reducible refine LeO.bind ?_ (fun _ => ?_))
      | exact token_Number_digit.mono _ _ _ _ _ _ _ _
      | exact LeO.none _
      | refine LeO.ite ?_ ?_
      | refine LeO.bind ?_ (fun _ => ?_)
set_option maxHeartbeats 8000000 in
set_option maxRecDepth 100000 in
theorem token_Number_behind.callsv (k : Nat) (g : Nat) (s0_0 : Int) (s0_1 : Int) (s0_2 : Int) (s0_3 : Bool) (s0_4 : Int) (s0_5 : Int) (a1 : Int) (r1 : Int) (r2 : Int) (r3 : Int) (r4 : Int) (r5 : Bool) (r6 : Int) (r7 : Int) (w0 v w : World) (hv : KeepBut v w g none) (hI : IsS52 w0 w g s0_0 s0_1 s0_2 s0_3 s0_4 s0_5) (hB : Below w0.heap.size w0 w) (h : token_Number_behind.f k s0_0 s0_1 s0_2 s0_3 s0_4 s0_5 a1 = some (r1, r2, r3, r4, r5, r6, r7)) :
    Calls Try.prog 43 #[.pointer (some ⟨g, 0, none⟩), .int .u8 a1] w fun e w' => e = .returned (.int .i64 r1) ∧ IsS52 w0 w' g r2 r3 r4 r5 r6 r7 ∧ Below w0.heap.size w0 w' ∧ KeepBut v w' g none := by
  have hmf3_ : ∀ w_ : World, (Instr.makeFunc (.func 45) #[.pointer (some ⟨g, 0, none⟩)] #[]).run Try.prog w_ = .ok (modeV g 3) w_ := fun _ => rfl
  have HI0 := Aside0.mk hI
  have HK := Aside0.mk hv
  have HL := Aside0.mk hB.size
  clear hI
  have HW0 := Aside0.mk hB.size
  have HB := Aside0.mk hB
  clear hB
  have H : ((token_Blank.f a1).bind fun t117 => (if t117 = true then (some (1, s0_0, s0_1, s0_2, s0_3, s0_4, 0)) else (if a1 = 35 then (some (0, 3, s0_1, s0_2, s0_3, s0_4, s0_5)) else ((token_Number_digit.f k s0_0 s0_1 s0_2 s0_3 s0_4 s0_5 a1).bind fun bt118 => (some (bt118.1, bt118.2.1, bt118.2.2.1, bt118.2.2.2.1, bt118.2.2.2.2.1, bt118.2.2.2.2.2.1, bt118.2.2.2.2.2.2)))))) = some (r1, r2, r3, r4, r5, r6, r7) := h
  clear h
  replace H := Option.bind_eq_some_iff.mp H
  obtain ⟨t117, A30, H⟩ := H
  replace H : (if t117 = true then (some (1, s0_0, s0_1, s0_2, s0_3, s0_4, 0)) else (if a1 = 35 then (some (0, 3, s0_1, s0_2, s0_3, s0_4, s0_5)) else ((token_Number_digit.f k s0_0 s0_1 s0_2 s0_3 s0_4 s0_5 a1).bind fun bt118 => (some (bt118.1, bt118.2.1, bt118.2.2.1, bt118.2.2.2.1, bt118.2.2.2.2.1, bt118.2.2.2.2.2.1, bt118.2.2.2.2.2.2))))) = some (r1, r2, r3, r4, r5, r6, r7) := H
  have A3 := Aside0.mk A30
  clear A30
  by_cases c4 : t117 = true
  · subst c4
    have H1 : (some (1, s0_0, s0_1, s0_2, s0_3, s0_4, 0)) = some (r1, r2, r3, r4, r5, r6, r7) := by rw [if_pos rfl] at H; exact H
    clear H
    have H := H1
    clear H1
    simp only [Option.some.injEq, Prod.mk.injEq] at H
    obtain ⟨rfl, rfl, rfl, rfl, rfl, rfl, rfl⟩ := H
    go_enter Try.func43, Try.ntmps43
    go_wp2_with (first | ((with_reducible refine gate_callee (f := 21) rfl ?_); refine goesL_ (some 7) rfl rfl Try.func21 (by kernel_rfl) rfl #[.int .u8 a1] rfl (by (try simp only [List.map_toArray, List.map_cons, List.map_nil]); first | done | rfl | (simp only [List.length_drop, List.length_take]; rfl)) ?_; (with_reducible refine (token_Blank.calls a1 true _ A3.out).mono ?_); rintro e w' ⟨rfl, ⟨nd, rfl⟩⟩; refine ⟨_, rfl, ?_⟩; (try (rw [drewN_self w]; generalize hq_ : World.drewN w _ = w; have n0_ : Aside0 (IsS52 w0 w g s0_0 s0_1 s0_2 s0_3 s0_4 s0_5) := ⟨by rw [← hq_]; exact (by repeat (first | (with_reducible first | exact HI0.out | apply IsS52.alloc | apply IsS52.drewN | apply IsS52.drew | apply IsS52.set_0 | apply IsS52.set_0a | apply IsS52.set_0b | apply IsS52.set_0c | apply IsS52.set_0d | apply IsS52.set_1 | apply IsS52.set_2 | apply IsS52.set_3 | apply IsS52.set_4 | apply IsS52.set_5) | exact HI0.out))⟩; have n1_ : Aside0 (KeepBut v w g none) := ⟨by rw [← hq_]; exact (by repeat (first | (with_reducible first | exact HK.out | apply KeepBut.set_ | apply keep_drewN | apply keep_drew | apply keep_alloc) | exact HK.out))⟩; have n2_ : Aside0 (Below w0.heap.size w0 w) := ⟨by rw [← hq_]; exact (by repeat (first | (with_reducible first | exact HB.out | apply below_alloc | apply pw_below_drewN | apply below_drew1 | refine below_set ?_ (IsS52.ge HI0.out)) | exact HB.out))⟩; clear HI0 HK HB hq_; have HI0 := n0_; have HK := n1_; have HB := n2_; clear n0_ n1_ n2_)); obtain ⟨HGz5, hgz5⟩ := HI0.out; have hcz5_0 := cellS52_0 HGz5; have hcz5_1 := cellS52_1 HGz5; have hcz5_2 := cellS52_2 HGz5; have hcz5_3 := cellS52_3 HGz5; have hcz5_4 := cellS52_4 HGz5; have hcz5_5 := cellS52_5 HGz5; have hfz5_0 := blk_frozen HGz5 0; have hfz5_1 := blk_frozen HGz5 1; have hfz5_2 := blk_frozen HGz5 2; have hfz5_3 := blk_frozen HGz5 3; have hfz5_4 := blk_frozen HGz5 4; have hfz5_5 := blk_frozen HGz5 5; clear HGz5 hgz5))
    go_ret
    exact ⟨by first | rfl | (simp [errW_none, errW_some] <;> rfl) | (simp [*, errW_none, errW_some] <;> rfl), by repeat (first | (with_reducible first | exact HI0.out | apply IsS52.alloc | apply IsS52.drewN | apply IsS52.drew | apply IsS52.set_0 | apply IsS52.set_0a | apply IsS52.set_0b | apply IsS52.set_0c | apply IsS52.set_0d | apply IsS52.set_1 | apply IsS52.set_2 | apply IsS52.set_3 | apply IsS52.set_4 | apply IsS52.set_5) | exact HI0.out), by repeat (first | (with_reducible first | exact HB.out | apply below_alloc | apply pw_below_drewN | apply below_drew1 | refine below_set ?_ (IsS52.ge HI0.out)) | exact HB.out), by repeat (first | (with_reducible first | exact HK.out | apply KeepBut.set_ | apply keep_drewN | apply keep_drew | apply keep_alloc) | exact HK.out)⟩
  · replace c4 := Bool.eq_false_iff.mpr c4
    subst c4
    have H1 : (if a1 = 35 then (some (0, 3, s0_1, s0_2, s0_3, s0_4, s0_5)) else ((token_Number_digit.f k s0_0 s0_1 s0_2 s0_3 s0_4 s0_5 a1).bind fun bt118 => (some (bt118.1, bt118.2.1, bt118.2.2.1, bt118.2.2.2.1, bt118.2.2.2.2.1, bt118.2.2.2.2.2.1, bt118.2.2.2.2.2.2)))) = some (r1, r2, r3, r4, r5, r6, r7) := by rw [if_neg (show ¬ (false = true) by decide)] at H; exact H
    clear H
    have H := H1
    clear H1
    by_cases c6 : a1 = 35
    · rw [if_pos c6] at H
      have c6b0 : (a1 == 35) = true := beq_iff_eq.mpr c6
      have c6b1 : (a1 != 35) = false := bne_eq_false_iff_eq.mpr c6
      clear c6
      simp only [Option.some.injEq, Prod.mk.injEq] at H
      obtain ⟨rfl, rfl, rfl, rfl, rfl, rfl, rfl⟩ := H
      go_enter Try.func43, Try.ntmps43
      go_wp2_with (first | ((with_reducible refine gate_callee (f := 21) rfl ?_); refine goesL_ (some 7) rfl rfl Try.func21 (by kernel_rfl) rfl #[.int .u8 a1] rfl (by (try simp only [List.map_toArray, List.map_cons, List.map_nil]); first | done | rfl | (simp only [List.length_drop, List.length_take]; rfl)) ?_; (with_reducible refine (token_Blank.calls a1 false _ A3.out).mono ?_); rintro e w' ⟨rfl, ⟨nd, rfl⟩⟩; refine ⟨_, rfl, ?_⟩; (try (rw [drewN_self w]; generalize hq_ : World.drewN w _ = w; have n0_ : Aside0 (IsS52 w0 w g s0_0 s0_1 s0_2 s0_3 s0_4 s0_5) := ⟨by rw [← hq_]; exact (by repeat (first | (with_reducible first | exact HI0.out | apply IsS52.alloc | apply IsS52.drewN | apply IsS52.drew | apply IsS52.set_0 | apply IsS52.set_0a | apply IsS52.set_0b | apply IsS52.set_0c | apply IsS52.set_0d | apply IsS52.set_1 | apply IsS52.set_2 | apply IsS52.set_3 | apply IsS52.set_4 | apply IsS52.set_5) | exact HI0.out))⟩; have n1_ : Aside0 (KeepBut v w g none) := ⟨by rw [← hq_]; exact (by repeat (first | (with_reducible first | exact HK.out | apply KeepBut.set_ | apply keep_drewN | apply keep_drew | apply keep_alloc) | exact HK.out))⟩; have n2_ : Aside0 (Below w0.heap.size w0 w) := ⟨by rw [← hq_]; exact (by repeat (first | (with_reducible first | exact HB.out | apply below_alloc | apply pw_below_drewN | apply below_drew1 | refine below_set ?_ (IsS52.ge HI0.out)) | exact HB.out))⟩; clear HI0 HK HB hq_; have HI0 := n0_; have HK := n1_; have HB := n2_; clear n0_ n1_ n2_)); obtain ⟨HGz7, hgz7⟩ := HI0.out; have hcz7_0 := cellS52_0 HGz7; have hcz7_1 := cellS52_1 HGz7; have hcz7_2 := cellS52_2 HGz7; have hcz7_3 := cellS52_3 HGz7; have hcz7_4 := cellS52_4 HGz7; have hcz7_5 := cellS52_5 HGz7; have hfz7_0 := blk_frozen HGz7 0; have hfz7_1 := blk_frozen HGz7 1; have hfz7_2 := blk_frozen HGz7 2; have hfz7_3 := blk_frozen HGz7 3; have hfz7_4 := blk_frozen HGz7 4; have hfz7_5 := blk_frozen HGz7 5; clear HGz7 hgz7))
      go_ret
      exact ⟨by first | rfl | (simp [errW_none, errW_some] <;> rfl) | (simp [*, errW_none, errW_some] <;> rfl), by repeat (first | (with_reducible first | exact HI0.out | apply IsS52.alloc | apply IsS52.drewN | apply IsS52.drew | apply IsS52.set_0 | apply IsS52.set_0a | apply IsS52.set_0b | apply IsS52.set_0c | apply IsS52.set_0d | apply IsS52.set_1 | apply IsS52.set_2 | apply IsS52.set_3 | apply IsS52.set_4 | apply IsS52.set_5) | exact HI0.out), by repeat (first | (with_reducible first | exact HB.out | apply below_alloc | apply pw_below_drewN | apply below_drew1 | refine below_set ?_ (IsS52.ge HI0.out)) | exact HB.out), by repeat (first | (with_reducible first | exact HK.out | apply KeepBut.set_ | apply keep_drewN | apply keep_drew | apply keep_alloc) | exact HK.out)⟩
    · rw [if_neg c6] at H
      have c6b0 : (a1 == 35) = false := beq_eq_false_iff_ne.mpr c6
      have c6b1 : (a1 != 35) = true := bne_iff_ne.mpr c6
      replace H := Option.bind_eq_some_iff.mp H
      obtain ⟨⟨t118, t119, t120, t121, t122, t123, t124⟩, A80, H⟩ := H
      replace H : (some (t118, t119, t120, t121, t122, t123, t124)) = some (r1, r2, r3, r4, r5, r6, r7) := H
      have A8 := Aside0.mk A80
      clear A80
      simp only [Option.some.injEq, Prod.mk.injEq] at H
      obtain ⟨rfl, rfl, rfl, rfl, rfl, rfl, rfl⟩ := H
      go_enter Try.func43, Try.ntmps43
      go_wp2_with (first | ((with_reducible refine gate_callee (f := 21) rfl ?_); refine goesL_ (some 7) rfl rfl Try.func21 (by kernel_rfl) rfl #[.int .u8 a1] rfl (by (try simp only [List.map_toArray, List.map_cons, List.map_nil]); first | done | rfl | (simp only [List.length_drop, List.length_take]; rfl)) ?_; (with_reducible refine (token_Blank.calls a1 false _ A3.out).mono ?_); rintro e w' ⟨rfl, ⟨nd, rfl⟩⟩; refine ⟨_, rfl, ?_⟩) | ((with_reducible refine gate_callee (f := 36) rfl ?_); refine goesL_ (some 21) rfl rfl Try.func36 (by kernel_rfl) rfl #[.pointer (some ⟨g, 0, none⟩), .int .u8 a1] rfl (by (try simp only [List.map_toArray, List.map_cons, List.map_nil]); first | done | rfl | (simp only [List.length_drop, List.length_take]; rfl)) ?_; (with_reducible refine (token_Number_digit.calls k g s0_0 s0_1 s0_2 s0_3 s0_4 s0_5 a1 t118 t119 t120 t121 t122 t123 t124 w0 _ ?side1 ?side2 A8.out).mono ?_); (case side1 => repeat (first | (with_reducible first | exact HI0.out | apply IsS52.alloc | apply IsS52.drewN | apply IsS52.drew | apply IsS52.set_0 | apply IsS52.set_0a | apply IsS52.set_0b | apply IsS52.set_0c | apply IsS52.set_0d | apply IsS52.set_1 | apply IsS52.set_2 | apply IsS52.set_3 | apply IsS52.set_4 | apply IsS52.set_5) | exact HI0.out)); (case side2 => repeat (first | (with_reducible first | exact HB.out | apply below_alloc | apply pw_below_drewN | apply below_drew1 | refine below_set ?_ (IsS52.ge HI0.out)) | exact HB.out)); rintro e w9 ⟨rfl, hi, hb, hk⟩; refine ⟨_, rfl, ?_⟩; have n0_ := Aside0.mk (KeepBut.trans (by repeat (first | (with_reducible first | exact HK.out | apply KeepBut.set_ | apply keep_drewN | apply keep_drew | apply keep_alloc) | exact HK.out)) hk (.inl rfl)); have n1_ := Aside0.mk (hb); have n2_ := Aside0.mk (hi); clear HK; clear HB; clear HI0; have HK := n0_; have HB := n1_; have HI0 := n2_; clear n0_ n1_ n2_; (try clear hb); (try clear hb2); (try clear hk); (try clear hi)))
      go_ret
      exact ⟨by first | rfl | (simp [errW_none, errW_some] <;> rfl) | (simp [*, errW_none, errW_some] <;> rfl), by repeat (first | (with_reducible first | exact HI0.out | apply IsS52.alloc | apply IsS52.drewN | apply IsS52.drew | apply IsS52.set_0 | apply IsS52.set_0a | apply IsS52.set_0b | apply IsS52.set_0c | apply IsS52.set_0d | apply IsS52.set_1 | apply IsS52.set_2 | apply IsS52.set_3 | apply IsS52.set_4 | apply IsS52.set_5) | exact HI0.out), by repeat (first | (with_reducible first | exact HB.out | apply below_alloc | apply pw_below_drewN | apply below_drew1 | refine below_set ?_ (IsS52.ge HI0.out)) | exact HB.out), by repeat (first | (with_reducible first | exact HK.out | apply KeepBut.set_ | apply keep_drewN | apply keep_drew | apply keep_alloc) | exact HK.out)⟩
theorem token_Number_behind.calls (k : Nat) (g : Nat) (s0_0 : Int) (s0_1 : Int) (s0_2 : Int) (s0_3 : Bool) (s0_4 : Int) (s0_5 : Int) (a1 : Int) (r1 : Int) (r2 : Int) (r3 : Int) (r4 : Int) (r5 : Bool) (r6 : Int) (r7 : Int) (w0 w : World) (hI : IsS52 w0 w g s0_0 s0_1 s0_2 s0_3 s0_4 s0_5) (hB : Below w0.heap.size w0 w) (h : token_Number_behind.f k s0_0 s0_1 s0_2 s0_3 s0_4 s0_5 a1 = some (r1, r2, r3, r4, r5, r6, r7)) :
    Calls Try.prog 43 #[.pointer (some ⟨g, 0, none⟩), .int .u8 a1] w fun e w' => e = .returned (.int .i64 r1) ∧ IsS52 w0 w' g r2 r3 r4 r5 r6 r7 ∧ Below w0.heap.size w0 w' ∧ KeepBut w w' g none := token_Number_behind.callsv k g s0_0 s0_1 s0_2 s0_3 s0_4 s0_5 a1 r1 r2 r3 r4 r5 r6 r7 w0 w w (KeepBut.refl w g none) hI hB h


/-! ### token_Number_end: function 45 -/
def token_Number_end.f (s0_0 : Int) (s0_1 : Int) (s0_2 : Int) (s0_3 : Bool) (s0_4 : Int) (s0_5 : Int) (a1 : Int) : Option (Int × Int × Int × Int × Bool × Int × Int) := (token_ends.f a1).bind fun t125 => (if t125 = true then (some (1, s0_0, s0_1, s0_2, s0_3, s0_4, 0)) else (some (0, s0_0, s0_1, s0_2, s0_3, s0_4, s0_5)))
set_option maxHeartbeats 8000000 in
set_option maxRecDepth 100000 in
theorem token_Number_end.callsv (g : Nat) (s0_0 : Int) (s0_1 : Int) (s0_2 : Int) (s0_3 : Bool) (s0_4 : Int) (s0_5 : Int) (a1 : Int) (r1 : Int) (r2 : Int) (r3 : Int) (r4 : Int) (r5 : Bool) (r6 : Int) (r7 : Int) (w0 v w : World) (hv : KeepBut v w g none) (hI : IsS52 w0 w g s0_0 s0_1 s0_2 s0_3 s0_4 s0_5) (hB : Below w0.heap.size w0 w) (h : token_Number_end.f s0_0 s0_1 s0_2 s0_3 s0_4 s0_5 a1 = some (r1, r2, r3, r4, r5, r6, r7)) :
    Calls Try.prog 45 #[.pointer (some ⟨g, 0, none⟩), .int .u8 a1] w fun e w' => e = .returned (.int .i64 r1) ∧ IsS52 w0 w' g r2 r3 r4 r5 r6 r7 ∧ Below w0.heap.size w0 w' ∧ KeepBut v w' g none := by
  have HI0 := Aside0.mk hI
  have HK := Aside0.mk hv
  have HL := Aside0.mk hB.size
  clear hI
  have HW0 := Aside0.mk hB.size
  have HB := Aside0.mk hB
  clear hB
  have H : ((token_ends.f a1).bind fun t125 => (if t125 = true then (some (1, s0_0, s0_1, s0_2, s0_3, s0_4, 0)) else (some (0, s0_0, s0_1, s0_2, s0_3, s0_4, s0_5)))) = some (r1, r2, r3, r4, r5, r6, r7) := h
  clear h
  replace H := Option.bind_eq_some_iff.mp H
  obtain ⟨t125, A30, H⟩ := H
  replace H : (if t125 = true then (some (1, s0_0, s0_1, s0_2, s0_3, s0_4, 0)) else (some (0, s0_0, s0_1, s0_2, s0_3, s0_4, s0_5))) = some (r1, r2, r3, r4, r5, r6, r7) := H
  have A3 := Aside0.mk A30
  clear A30
  by_cases c4 : t125 = true
  · subst c4
    have H1 : (some (1, s0_0, s0_1, s0_2, s0_3, s0_4, 0)) = some (r1, r2, r3, r4, r5, r6, r7) := by rw [if_pos rfl] at H; exact H
    clear H
    have H := H1
    clear H1
    simp only [Option.some.injEq, Prod.mk.injEq] at H
    obtain ⟨rfl, rfl, rfl, rfl, rfl, rfl, rfl⟩ := H
    go_enter Try.func45, Try.ntmps45
    go_wp2_with (first | ((with_reducible refine gate_callee (f := 41) rfl ?_); refine goesL_ (some 6) rfl rfl Try.func41 (by kernel_rfl) rfl #[.int .u8 a1] rfl (by (try simp only [List.map_toArray, List.map_cons, List.map_nil]); first | done | rfl | (simp only [List.length_drop, List.length_take]; rfl)) ?_; (with_reducible refine (token_ends.calls a1 true _ A3.out).mono ?_); rintro e w' ⟨rfl, ⟨nd, rfl⟩⟩; refine ⟨_, rfl, ?_⟩; (try (rw [drewN_self w]; generalize hq_ : World.drewN w _ = w; have n0_ : Aside0 (IsS52 w0 w g s0_0 s0_1 s0_2 s0_3 s0_4 s0_5) := ⟨by rw [← hq_]; exact (by repeat (first | (with_reducible first | exact HI0.out | apply IsS52.alloc | apply IsS52.drewN | apply IsS52.drew | apply IsS52.set_0 | apply IsS52.set_1 | apply IsS52.set_2 | apply IsS52.set_3 | apply IsS52.set_4 | apply IsS52.set_5) | exact HI0.out))⟩; have n1_ : Aside0 (KeepBut v w g none) := ⟨by rw [← hq_]; exact (by repeat (first | (with_reducible first | exact HK.out | apply KeepBut.set_ | apply keep_drewN | apply keep_drew | apply keep_alloc) | exact HK.out))⟩; have n2_ : Aside0 (Below w0.heap.size w0 w) := ⟨by rw [← hq_]; exact (by repeat (first | (with_reducible first | exact HB.out | apply below_alloc | apply pw_below_drewN | apply below_drew1 | refine below_set ?_ (IsS52.ge HI0.out)) | exact HB.out))⟩; clear HI0 HK HB hq_; have HI0 := n0_; have HK := n1_; have HB := n2_; clear n0_ n1_ n2_)); obtain ⟨HGz5, hgz5⟩ := HI0.out; have hcz5_0 := cellS52_0 HGz5; have hcz5_1 := cellS52_1 HGz5; have hcz5_2 := cellS52_2 HGz5; have hcz5_3 := cellS52_3 HGz5; have hcz5_4 := cellS52_4 HGz5; have hcz5_5 := cellS52_5 HGz5; have hfz5_0 := blk_frozen HGz5 0; have hfz5_1 := blk_frozen HGz5 1; have hfz5_2 := blk_frozen HGz5 2; have hfz5_3 := blk_frozen HGz5 3; have hfz5_4 := blk_frozen HGz5 4; have hfz5_5 := blk_frozen HGz5 5; clear HGz5 hgz5))
    go_ret
    exact ⟨by first | rfl | (simp [errW_none, errW_some] <;> rfl) | (simp [*, errW_none, errW_some] <;> rfl), by repeat (first | (with_reducible first | exact HI0.out | apply IsS52.alloc | apply IsS52.drewN | apply IsS52.drew | apply IsS52.set_0 | apply IsS52.set_1 | apply IsS52.set_2 | apply IsS52.set_3 | apply IsS52.set_4 | apply IsS52.set_5) | exact HI0.out), by repeat (first | (with_reducible first | exact HB.out | apply below_alloc | apply pw_below_drewN | apply below_drew1 | refine below_set ?_ (IsS52.ge HI0.out)) | exact HB.out), by repeat (first | (with_reducible first | exact HK.out | apply KeepBut.set_ | apply keep_drewN | apply keep_drew | apply keep_alloc) | exact HK.out)⟩
  · replace c4 := Bool.eq_false_iff.mpr c4
    subst c4
    have H1 : (some (0, s0_0, s0_1, s0_2, s0_3, s0_4, s0_5)) = some (r1, r2, r3, r4, r5, r6, r7) := by rw [if_neg (show ¬ (false = true) by decide)] at H; exact H
    clear H
    have H := H1
    clear H1
    simp only [Option.some.injEq, Prod.mk.injEq] at H
    obtain ⟨rfl, rfl, rfl, rfl, rfl, rfl, rfl⟩ := H
    go_enter Try.func45, Try.ntmps45
    go_wp2_with (first | ((with_reducible refine gate_callee (f := 41) rfl ?_); refine goesL_ (some 6) rfl rfl Try.func41 (by kernel_rfl) rfl #[.int .u8 a1] rfl (by (try simp only [List.map_toArray, List.map_cons, List.map_nil]); first | done | rfl | (simp only [List.length_drop, List.length_take]; rfl)) ?_; (with_reducible refine (token_ends.calls a1 false _ A3.out).mono ?_); rintro e w' ⟨rfl, ⟨nd, rfl⟩⟩; refine ⟨_, rfl, ?_⟩))
    go_ret
    exact ⟨by first | rfl | (simp [errW_none, errW_some] <;> rfl) | (simp [*, errW_none, errW_some] <;> rfl), by repeat (first | (with_reducible first | exact HI0.out | apply IsS52.alloc | apply IsS52.drewN | apply IsS52.drew | apply IsS52.set_0 | apply IsS52.set_1 | apply IsS52.set_2 | apply IsS52.set_3 | apply IsS52.set_4 | apply IsS52.set_5) | exact HI0.out), by repeat (first | (with_reducible first | exact HB.out | apply below_alloc | apply pw_below_drewN | apply below_drew1 | refine below_set ?_ (IsS52.ge HI0.out)) | exact HB.out), by repeat (first | (with_reducible first | exact HK.out | apply KeepBut.set_ | apply keep_drewN | apply keep_drew | apply keep_alloc) | exact HK.out)⟩
theorem token_Number_end.calls (g : Nat) (s0_0 : Int) (s0_1 : Int) (s0_2 : Int) (s0_3 : Bool) (s0_4 : Int) (s0_5 : Int) (a1 : Int) (r1 : Int) (r2 : Int) (r3 : Int) (r4 : Int) (r5 : Bool) (r6 : Int) (r7 : Int) (w0 w : World) (hI : IsS52 w0 w g s0_0 s0_1 s0_2 s0_3 s0_4 s0_5) (hB : Below w0.heap.size w0 w) (h : token_Number_end.f s0_0 s0_1 s0_2 s0_3 s0_4 s0_5 a1 = some (r1, r2, r3, r4, r5, r6, r7)) :
    Calls Try.prog 45 #[.pointer (some ⟨g, 0, none⟩), .int .u8 a1] w fun e w' => e = .returned (.int .i64 r1) ∧ IsS52 w0 w' g r2 r3 r4 r5 r6 r7 ∧ Below w0.heap.size w0 w' ∧ KeepBut w w' g none := token_Number_end.callsv g s0_0 s0_1 s0_2 s0_3 s0_4 s0_5 a1 r1 r2 r3 r4 r5 r6 r7 w0 w w (KeepBut.refl w g none) hI hB h


end Go.Proofs.Ytbbgichpbjgifaa.Q
