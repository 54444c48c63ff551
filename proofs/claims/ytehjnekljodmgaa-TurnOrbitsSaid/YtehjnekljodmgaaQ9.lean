-- written by our own program (wip/tools/myprint.py) out of the translation, by the kit's print; Lean checks it
import Derived.Test.YtehjnekljodmgaaQ0
import Derived.Test.YtehjnekljodmgaaQ1
import Derived.Test.YtehjnekljodmgaaIchequerref04_Lay
import Derived.Test.YtehjnekljodmgaaQ6
namespace Go.Proofs.Ytehjnekljodmgaa.Q
open Go.RowKit Go.Proofs.YtehjnekljodmgaaW.PrintWords Go.Proofs.YtehjnekljodmgaaW.PrintLast Go.Proofs.YtehjnekljodmgaaW.PrintMore
attribute [local go_sem] max2_int min2_int max_two min_two max_three min_three max_four min_four   -- for this text's walks alone
set_option linter.unusedVariables false
set_option linter.unusedSimpArgs false

/-! ### turn_Then: function 24 -/
def turn_Then.j0 : Nat → Int → Int → Bool → Option (Int)
  | 0, _, _, _ => none
  | k + 1, x0, x1, x14 => if x14 = true then (some (-1)) else (if x1 ≥ 4 then (some (wrap64 ((Int.tmod (wrap64 ((wrap64 (4 - (Int.tmod x0 4))) + (Int.tmod x1 4))) 4) + (wrap64 (4 * (Go.bits .xor .i64 (wrap64 (Int.tdiv x0 4)) (wrap64 (Int.tdiv x1 4)))))))) else (some (wrap64 ((Int.tmod (wrap64 ((Int.tmod x0 4) + (Int.tmod x1 4))) 4) + (wrap64 (4 * (Go.bits .xor .i64 (wrap64 (Int.tdiv x0 4)) (wrap64 (Int.tdiv x1 4)))))))))
def turn_Then.f (k : Nat) (a0 : Int) (a1 : Int) : Option (Int) := (turn_May.f a0).bind fun t248 => (if t248 = true then ((turn_May.f a1).bind fun t249 => (turn_Then.j0 k a0 a1 (!t249))) else (turn_Then.j0 k a0 a1 true))
theorem turn_Then.mono_l : ∀ k, (∀ y0 y1 y2, LeO (turn_Then.j0 k y0 y1 y2) (turn_Then.j0 (k + 1) y0 y1 y2))
  | 0 => fun _ _ _ r h => by simp [turn_Then.j0] at h
  | k + 1 => by
    have ih0 := turn_Then.mono_l k
    · intro y0 y1 y2
      unfold turn_Then.j0
      repeat' first
      | (with_reducible exact ih0 _ _ _)
      | (with_reducible exact LeO.refl _)
      | (with_reducible exact LeO.none _)
      | (with_reducible refine LeO.ite ?_ ?_)
      | (with_reducible refine LeO.bind ?_ (fun _ => ?_))
      | exact ih0 _ _ _
      | exact LeO.none _
      | refine LeO.ite ?_ ?_
      | refine LeO.bind ?_ (fun _ => ?_)
theorem turn_Then.mono : ∀ a0 a1 k, LeO (turn_Then.f k a0 a1) (turn_Then.f (k + 1) a0 a1) := by
  intro a0 a1 k
  have ih0 := turn_Then.mono_l k
  unfold turn_Then.f
  repeat' first
      | (with_reducible exact ih0 _ _ _)
      | (with_reducible exact LeO.refl _)
      | (with_reducible exact LeO.none _)
      | (with_reducible refine LeO.ite ?_ ?_)
      | (with_reducible refine LeO.bind ?_ (fun _ => ?_))
      | exact ih0 _ _ _
      | exact LeO.none _
      | refine LeO.ite ?_ ?_
      | refine LeO.bind ?_ (fun _ => ?_)
set_option maxHeartbeats 8000000 in
set_option maxRecDepth 100000 in
theorem turn_Then.calls (k : Nat) (a0 : Int) (a1 : Int) (r : Int) (w : World) (h : turn_Then.f k a0 a1 = some r) :
    Calls Try.prog 24 #[.int .i64 a0, .int .i64 a1] w fun e w' => e = .returned (.int .i64 r) ∧ Drawn0 w w' := by
  have H : ((turn_May.f a0).bind fun t248 => (if t248 = true then ((turn_May.f a1).bind fun t249 => (turn_Then.j0 k a0 a1 (!t249))) else (turn_Then.j0 k a0 a1 true))) = some r := h
  clear h
  have HC3 := Aside0.mk H
  clear H
  go_enter Try.func24, Try.ntmps24
  go_upto_region 1 with (fail)
  go_cut [14] (fun v14 wc => ∃ (kq : Nat) (x14_2 : Bool), v14 = .bool x14_2 ∧ Aside0 (turn_Then.j0 kq a0 a1 x14_2 = some r) ∧ Aside0 (kq ≤ k) ∧ Drawn0 w wc)
  case first =>
    have H := HC3.out
    clear HC3
    replace H := Option.bind_eq_some_iff.mp H
    obtain ⟨t248, A40, H⟩ := H
    replace H : (if t248 = true then ((turn_May.f a1).bind fun t249 => (turn_Then.j0 k a0 a1 (!t249))) else (turn_Then.j0 k a0 a1 true)) = some r := H
    have A4 := Aside0.mk A40
    clear A40
    by_cases c5 : t248 = true
    · subst c5
      have H1 : ((turn_May.f a1).bind fun t249 => (turn_Then.j0 k a0 a1 (!t249))) = some r := by rw [if_pos rfl] at H; exact H
      clear H
      have H := H1
      clear H1
      replace H := Option.bind_eq_some_iff.mp H
      obtain ⟨t249, A60, H⟩ := H
      replace H : (turn_Then.j0 k a0 a1 (!t249)) = some r := H
      have A6 := Aside0.mk A60
      clear A60
      have H' := Aside0.mk H
      clear H
      go_wp2_with (first | ((with_reducible refine gate_callee (f := 18) rfl ?_); refine goesL_ (some 8) rfl rfl Try.func18 (by kernel_rfl) rfl #[.int .i64 a0] rfl (by (try simp only [List.map_toArray, List.map_cons, List.map_nil]); first | done | rfl | (simp only [List.length_drop, List.length_take]; rfl)) ?_; (with_reducible refine (turn_May.calls a0 true _ A4.out).mono ?_); rintro e w' ⟨rfl, ⟨nd, rfl⟩⟩; refine ⟨_, rfl, ?_⟩) | (go_at_call 18; (with_reducible refine (turn_May.calls a1 t249 _ A6.out).mono ?_); rintro e w' ⟨rfl, ⟨nd, rfl⟩⟩))
      go_meet
      case rel => exact ⟨_, (!t249), (by first | rfl | (simp; done) | (simp [*]; done)), H', ⟨by first | omega | exact Nat.le_refl _⟩, by repeat (first | exact Drawn0.refl _ | apply Drawn0.step)⟩
    · replace c5 := Bool.eq_false_iff.mpr c5
      subst c5
      have H1 : (turn_Then.j0 k a0 a1 true) = some r := by rw [if_neg (show ¬ (false = true) by decide)] at H; exact H
      clear H
      have H := H1
      clear H1
      have H' := Aside0.mk H
      clear H
      go_wp2_with (first | ((with_reducible refine gate_callee (f := 18) rfl ?_); refine goesL_ (some 8) rfl rfl Try.func18 (by kernel_rfl) rfl #[.int .i64 a0] rfl (by (try simp only [List.map_toArray, List.map_cons, List.map_nil]); first | done | rfl | (simp only [List.length_drop, List.length_take]; rfl)) ?_; (with_reducible refine (turn_May.calls a0 false _ A4.out).mono ?_); rintro e w' ⟨rfl, ⟨nd, rfl⟩⟩; refine ⟨_, rfl, ?_⟩))
      go_meet
      case rel => exact ⟨_, (true), (by first | rfl | (simp; done) | (simp [*]; done)), H', ⟨by first | omega | exact Nat.le_refl _⟩, by repeat (first | exact Drawn0.refl _ | apply Drawn0.step)⟩
  case rest =>
    clear HC3
    try clear c1
    try clear c2
    try clear p2
    try clear c5
    obtain ⟨kq, x14_2, rfl, HA, HJ2, ⟨mc2, rfl⟩⟩ := hcut
    cases kq with
    | zero => exact absurd HA.out (by simp [turn_Then.j0])
    | succ kj2 =>
      have H := HA.out
      clear HA
      simp only [turn_Then.j0] at H
      by_cases c7 : x14_2 = true
      · subst c7
        have H1 : (some (-1)) = some r := by rw [if_pos rfl] at H; exact H
        clear H
        have H := H1
        clear H1
        obtain rfl := Option.some.inj H
        go_wp2
        go_ret
        exact ⟨by first | rfl | (simp; done) | (simp [*]; done), by repeat (first | exact Drawn0.refl _ | apply Drawn0.step)⟩
      · replace c7 := Bool.eq_false_iff.mpr c7
        subst c7
        have H1 : (if a1 ≥ 4 then (some (wrap64 ((Int.tmod (wrap64 ((wrap64 (4 - (Int.tmod a0 4))) + (Int.tmod a1 4))) 4) + (wrap64 (4 * (Go.bits .xor .i64 (wrap64 (Int.tdiv a0 4)) (wrap64 (Int.tdiv a1 4)))))))) else (some (wrap64 ((Int.tmod (wrap64 ((Int.tmod a0 4) + (Int.tmod a1 4))) 4) + (wrap64 (4 * (Go.bits .xor .i64 (wrap64 (Int.tdiv a0 4)) (wrap64 (Int.tdiv a1 4))))))))) = some r := by rw [if_neg (show ¬ (false = true) by decide)] at H; exact H
        clear H
        have H := H1
        clear H1
        by_cases c8 : a1 ≥ 4
        · rw [if_pos c8] at H
          have c8b0 : decide (4 ≤ a1) = true := decide_eq_true c8
          clear c8
          obtain rfl := Option.some.inj H
          go_wp2
          go_ret
          exact ⟨by first | rfl | (simp; done) | (simp [*]; done), by repeat (first | exact Drawn0.refl _ | apply Drawn0.step)⟩
        · rw [if_neg c8] at H
          have c8b0 : decide (4 ≤ a1) = false := decide_eq_false c8
          clear c8
          obtain rfl := Option.some.inj H
          go_wp2
          go_ret
          exact ⟨by first | rfl | (simp; done) | (simp [*]; done), by repeat (first | exact Drawn0.refl _ | apply Drawn0.step)⟩

/-! ### turn_Back: function 25 -/
def turn_Back.l0 : Nat → Int → Int → Option (Int)
  | 0, _, _ => none
  | k + 1, x0, x7 => if x7 < 8 then ((turn_Then.f k x0 x7).bind fun t251 => (if t251 = 0 then (some x7) else (turn_Back.l0 k x0 (wrap64 (x7 + 1))))) else (some (-1))
def turn_Back.f (k : Nat) (a0 : Int) : Option (Int) := (turn_May.f a0).bind fun t250 => (if t250 = true then (turn_Back.l0 k a0 0) else (some (-1)))
theorem turn_Back.mono_l : ∀ k, (∀ y0 y1, LeO (turn_Back.l0 k y0 y1) (turn_Back.l0 (k + 1) y0 y1))
  | 0 => fun _ _ r h => by simp [turn_Back.l0] at h
  | k + 1 => by
    have ih0 := turn_Back.mono_l k
    · intro y0 y1
      unfold turn_Back.l0
      repeat' first
      | (with_reducible exact ih0 _ _)
      | (with_reducible exact turn_Then.mono _ _ _)
      | (with_reducible exact LeO.refl _)
      | (with_reducible exact LeO.none _)
      | (with_reducible refine LeO.ite ?_ ?_)
      | (with_reducible refine LeO.bind ?_ (fun _ => ?_))
      | exact ih0 _ _
      | exact turn_Then.mono _ _ _
      | exact LeO.none _
      | refine LeO.ite ?_ ?_
      | refine LeO.bind ?_ (fun _ => ?_)
theorem turn_Back.mono : ∀ a0 k, LeO (turn_Back.f k a0) (turn_Back.f (k + 1) a0) := by
  intro a0 k
  have ih0 := turn_Back.mono_l k
  unfold turn_Back.f
  repeat' first
      | (with_reducible exact ih0 _ _)
      | (with_reducible exact turn_Then.mono _ _ _)
      | (with_reducible exact LeO.refl _)
      | (with_reducible exact LeO.none _)
      | (with_reducible refine LeO.ite ?_ ?_)
      | (with_reducible refine LeO.bind ?_ (fun _ => ?_))
      | exact ih0 _ _
      | exact turn_Then.mono _ _ _
      | exact LeO.none _
      | refine LeO.ite ?_ ?_
      | refine LeO.bind ?_ (fun _ => ?_)
set_option maxHeartbeats 8000000 in
set_option maxRecDepth 100000 in
theorem turn_Back.calls (k : Nat) (a0 : Int) (r : Int) (w : World) (h : turn_Back.f k a0 = some r) :
    Calls Try.prog 25 #[.int .i64 a0] w fun e w' => e = .returned (.int .i64 r) ∧ Drawn0 w w' := by
  have H : ((turn_May.f a0).bind fun t250 => (if t250 = true then (turn_Back.l0 k a0 0) else (some (-1)))) = some r := h
  clear h
  replace H := Option.bind_eq_some_iff.mp H
  obtain ⟨t250, A20, H⟩ := H
  replace H : (if t250 = true then (turn_Back.l0 k a0 0) else (some (-1))) = some r := H
  have A2 := Aside0.mk A20
  clear A20
  by_cases c3 : t250 = true
  · subst c3
    have H1 : (turn_Back.l0 k a0 0) = some r := by rw [if_pos rfl] at H; exact H
    clear H
    have H := H1
    clear H1
    have H' := Aside0.mk H
    clear H
    go_enter Try.func25, Try.ntmps25
    go_wp2_with (first | ((with_reducible refine gate_callee (f := 18) rfl ?_); refine goesL_ (some 5) rfl rfl Try.func18 (by kernel_rfl) rfl #[.int .i64 a0] rfl (by (try simp only [List.map_toArray, List.map_cons, List.map_nil]); first | done | rfl | (simp only [List.length_drop, List.length_take]; rfl)) ?_; (with_reducible refine (turn_May.calls a0 true _ A2.out).mono ?_); rintro e w' ⟨rfl, ⟨nd, rfl⟩⟩; refine ⟨_, rfl, ?_⟩))
    go_loopg [7] k (fun kq v7 w' => ∃ (x7_1 : Int), v7 = .int .i64 x7_1 ∧ Aside0 (turn_Back.l0 kq a0 x7_1 = some r) ∧ Aside0 (kq ≤ k) ∧ Drawn0 w w')
    case atStart => exact ⟨(0), (by first | rfl | (simp; done) | (simp [*]; done)), H', ⟨Nat.le_refl _⟩, by repeat (first | exact Drawn0.refl _ | apply Drawn0.step)⟩
    case round =>
      clear H'
      try clear c1
      try clear c2
      try clear p2
      try clear c3
      obtain ⟨x7_1, rfl, HA, HK1, ⟨m1, rfl⟩⟩ := hrel
      cases gk with
      | zero => exact absurd HA.out (by simp [turn_Back.l0])
      | succ k1 =>
        have H := HA.out
        clear HA
        simp only [turn_Back.l0] at H
        by_cases c4 : x7_1 < 8
        · rw [if_pos c4] at H
          have c4b0 : decide (x7_1 < 8) = true := decide_eq_true c4
          clear c4
          replace H := Option.bind_eq_some_iff.mp H
          obtain ⟨t251, A50, H⟩ := H
          replace H : (if t251 = 0 then (some x7_1) else (turn_Back.l0 k1 a0 (wrap64 (x7_1 + 1)))) = some r := H
          have A5 := Aside0.mk A50
          clear A50
          by_cases c6 : t251 = 0
          · rw [if_pos c6] at H
            have c6b0 : (t251 == 0) = true := beq_iff_eq.mpr c6
            have c6b1 : (t251 != 0) = false := bne_eq_false_iff_eq.mpr c6
            clear c6
            obtain rfl := Option.some.inj H
            go_wp2_with (first | ((with_reducible refine gate_callee (f := 24) rfl ?_); refine goesL_ (some 12) rfl rfl Try.func24 (by kernel_rfl) rfl #[.int .i64 a0, .int .i64 x7_1] rfl (by (try simp only [List.map_toArray, List.map_cons, List.map_nil]); first | done | rfl | (simp only [List.length_drop, List.length_take]; rfl)) ?_; (with_reducible refine (turn_Then.calls k1 a0 x7_1 t251 _ A5.out).mono ?_); rintro e w' ⟨rfl, ⟨nd, rfl⟩⟩; refine ⟨_, rfl, ?_⟩))
            go_ret
            exact ⟨by first | rfl | (simp; done) | (simp [*]; done), by repeat (first | exact Drawn0.refl _ | apply Drawn0.step)⟩
          · rw [if_neg c6] at H
            have c6b0 : (t251 == 0) = false := beq_eq_false_iff_ne.mpr c6
            have c6b1 : (t251 != 0) = true := bne_iff_ne.mpr c6
            have H' := Aside0.mk H
            clear H
            go_wp2_with (first | ((with_reducible refine gate_callee (f := 24) rfl ?_); refine goesL_ (some 12) rfl rfl Try.func24 (by kernel_rfl) rfl #[.int .i64 a0, .int .i64 x7_1] rfl (by (try simp only [List.map_toArray, List.map_cons, List.map_nil]); first | done | rfl | (simp only [List.length_drop, List.length_take]; rfl)) ?_; (with_reducible refine (turn_Then.calls k1 a0 x7_1 t251 _ A5.out).mono ?_); rintro e w' ⟨rfl, ⟨nd, rfl⟩⟩; refine ⟨_, rfl, ?_⟩))
            go_roundg k1
            case measure => have := HK1.out; omega
            case rel => exact ⟨(wrap64 (x7_1 + 1)), (by first | rfl | (simp; done) | (simp [*]; done)), H', ⟨by have := HK1.out; omega⟩, by repeat (first | exact Drawn0.refl _ | apply Drawn0.step)⟩
        · rw [if_neg c4] at H
          have c4b0 : decide (x7_1 < 8) = false := decide_eq_false c4
          clear c4
          obtain rfl := Option.some.inj H
          go_wp2
          go_ret
          exact ⟨by first | rfl | (simp; done) | (simp [*]; done), by repeat (first | exact Drawn0.refl _ | apply Drawn0.step)⟩
  · replace c3 := Bool.eq_false_iff.mpr c3
    subst c3
    have H1 : (some (-1)) = some r := by rw [if_neg (show ¬ (false = true) by decide)] at H; exact H
    clear H
    have H := H1
    clear H1
    obtain rfl := Option.some.inj H
    go_enter Try.func25, Try.ntmps25
    go_wp2_with (first | ((with_reducible refine gate_callee (f := 18) rfl ?_); refine goesL_ (some 5) rfl rfl Try.func18 (by kernel_rfl) rfl #[.int .i64 a0] rfl (by (try simp only [List.map_toArray, List.map_cons, List.map_nil]); first | done | rfl | (simp only [List.length_drop, List.length_take]; rfl)) ?_; (with_reducible refine (turn_May.calls a0 false _ A2.out).mono ?_); rintro e w' ⟨rfl, ⟨nd, rfl⟩⟩; refine ⟨_, rfl, ?_⟩))
    go_ret
    exact ⟨by first | rfl | (simp; done) | (simp [*]; done), by repeat (first | exact Drawn0.refl _ | apply Drawn0.step)⟩

/-! ### chequerref04_probe: function 44 -/
def chequerref04_probe.f  : Option (Int × Int × List Int) := some (3, 2, (([1, 2, 3, 4, 5, 6] : List Int)))
set_option maxHeartbeats 8000000 in
set_option maxRecDepth 100000 in
theorem chequerref04_probe.calls  (r1 : Int) (r2 : Int) (r3 : List Int) (w : World) (h : chequerref04_probe.f  = some (r1, r2, r3)) :
    Calls Try.prog 44 #[] w fun e w' => ∃ v2_ : Value, e = .returned (.agg #[.int .i64 r1, .int .i64 r2, v2_]) ∧ Kd.R (Kd.int .u64) 41 w' w.heap.size (fun _ => True) v2_ r3 ∧ Below w.heap.size w w' := by
  have hu24 := Try.underlying24
  have HB := Aside0.mk (Below.refl w.heap.size w)
  have H : (some (3, 2, (([1, 2, 3, 4, 5, 6] : List Int)))) = some (r1, r2, r3) := h
  clear h
  obtain ⟨y253, hy253⟩ : ∃ y_ : List Int, y_ = (([1, 2, 3, 4, 5, 6] : List Int)) := ⟨_, rfl⟩
  replace H : (some (3, 2, y253)) = some (r1, r2, r3) := by first | (rw [hy253]; with_reducible exact H) | (have H2_ := (Option.bind_some _ _).symm.trans H; rw [hy253]; with_reducible exact H2_) | (have H2_ := (Option.bind_some _ _).symm.trans H; with_reducible exact H2_) | with_reducible exact H | (rw [hy253]; exact H) | exact H
  have Ny253 := Aside0.mk hy253
  clear hy253
  simp only [Option.some.injEq, Prod.mk.injEq] at H
  obtain ⟨rfl, rfl, rfl⟩ := H
  go_enter Try.func44, Try.ntmps44
  go_wp2_with (first | ((with_reducible refine gate_dst (N := 0) rfl ?_); refine box_event ?hg (N := 0) ?hd (cs := #[.int .i64 0, .int .i64 0, .slice none 0 0]) (t := 24) ?hr ?_; (case hd => rfl); (case hg => rfl); (case hr => first | (go_simp; done) | (go_simp; rfl)); intro gb252 hg w1 hbox hb; have n0_ := Aside0.mk (below_step (by repeat (first | (with_reducible first | exact HB.out | apply below_alloc | apply pw_below_drewN | apply below_drew1) | exact HB.out)) hb); have n1_ := Aside0.mk (hbox); have n2_ := Aside0.mk ((by rw [hg]; exact (below_size (by repeat (first | (with_reducible first | exact HB.out | apply below_alloc | apply pw_below_drewN | apply below_drew1) | exact HB.out))) : w.heap.size ≤ gb252)); have n3_ := Aside0.mk ((by rw [hg]; exact (below_size (by repeat (first | (with_reducible first | exact HB.out | apply below_alloc | apply pw_below_drewN | apply below_drew1) | exact HB.out))) : w.heap.size ≤ gb252)); clear HB; have HB := n0_; have BK252 := n1_; have GW252 := n2_; have GE252 := n3_; clear n0_ n1_ n2_ n3_; clear hb hbox hg) | ((with_reducible refine gate_dst (N := 1) rfl ?_); refine Kd.R_lit (Kd.int .u64) _ 41 ?hg (N := 1) ?hd (xs := ([1, 2, 3, 4, 5, 6] : List Int)) (inner := [.int .u64 1, .int .u64 2, .int .u64 3, .int .u64 4, .int .u64 5, .int .u64 6]) (ok := fun _ => True) (okp := fun _ => True) ?hr ?hp (fun _ hk => hk) trivial (Below.refl _ _) (Nat.le_refl _) (by simp) ?_; (case hd => rfl); (case hg => rfl); (case hr => first | (go_simp; done) | (go_simp; rfl)); (case hp => exact (Reps.one (show Kd.M (Kd.int .u64) _ _ _ 1 [.int .u64 1] from rfl) (Reps.one (show Kd.M (Kd.int .u64) _ _ _ 2 [.int .u64 2] from rfl) (Reps.one (show Kd.M (Kd.int .u64) _ _ _ 3 [.int .u64 3] from rfl) (Reps.one (show Kd.M (Kd.int .u64) _ _ _ 4 [.int .u64 4] from rfl) (Reps.one (show Kd.M (Kd.int .u64) _ _ _ 5 [.int .u64 5] from rfl) (Reps.one (show Kd.M (Kd.int .u64) _ _ _ 6 [.int .u64 6] from rfl) (Reps.none _ _)))))))); intro v254 w2 ho3 hb hg_ hnew_; clear hg_ hnew_; (first | rw [← Ny253.out] at ho3 | (simp only [Int.reduceToNat] at ho3; rw [← Ny253.out] at ho3)); have n0_ := Aside0.mk (Kd.R_lower ho3 (below_size (by repeat (first | (with_reducible first | exact HB.out | apply below_alloc | apply pw_below_drewN | apply below_drew1 | refine below_set ?_ GE252.out) | exact HB.out)))); have n1_ := Aside0.mk (blk_below (g := gb252) (o := .cells #[.int .i64 0, .int .i64 0, .slice none 0 0] 24 (0, 0)) (by (with_reducible repeat (first | refine blk_drewN ?_ _ | refine blk_drew ?_ | refine blk_alloc ?_ _)); exact BK252.out) hb); have n2_ := Aside0.mk (below_step (by repeat (first | (with_reducible first | exact HB.out | apply below_alloc | apply pw_below_drewN | apply below_drew1 | refine below_set ?_ GE252.out) | exact HB.out)) hb); clear BK252; clear HB; have HO255 := n0_; have BK252 := n1_; have HB := n2_; clear n0_ n1_ n2_; clear hb ho3; obtain ⟨Ao4, co4, eo4⟩ := Kd.R_slice HO255.out; subst eo4; have hcz5_0 : w2.cell? ⟨gb252, 0, none⟩ = some (.int .i64 0) := (blk_cell BK252.out 0).trans rfl; have hcz5_1 : w2.cell? ⟨gb252, 1, none⟩ = some (.int .i64 0) := (blk_cell BK252.out 1).trans rfl; have hcz5_2 : w2.cell? ⟨gb252, 2, none⟩ = some (.slice none 0 0) := (blk_cell BK252.out 2).trans rfl; have hfz5_0 := blk_frozen BK252.out 0; have hfz5_1 := blk_frozen BK252.out 1; have hfz5_2 := blk_frozen BK252.out 2))
  refine bodyPost_ret (results_cell_row rfl _ _ gb252 24 #[.int .i64 3, .int .i64 2, .slice Ao4 y253.length co4] (0, 0) _ rfl (by (with_reducible repeat (first | refine blk_drewN ?_ _ | refine blk_drew ?_ | refine blk_alloc ?_ _)); refine blk_put (cs := #[.int .i64 3, .int .i64 2, .slice none 0 0]) ?_ 2 _ rfl; (with_reducible repeat (first | refine blk_drewN ?_ _ | refine blk_drew ?_ | refine blk_alloc ?_ _)); refine blk_put (cs := #[.int .i64 3, .int .i64 0, .slice none 0 0]) ?_ 1 _ rfl; (with_reducible repeat (first | refine blk_drewN ?_ _ | refine blk_drew ?_ | refine blk_alloc ?_ _)); refine blk_put (cs := #[.int .i64 0, .int .i64 0, .slice none 0 0]) ?_ 0 _ rfl; (with_reducible repeat (first | refine blk_drewN ?_ _ | refine blk_drew ?_ | refine blk_alloc ?_ _)); exact BK252.out) Try.underlying24 rfl (by kernel_rfl)) rfl ?_
  exact ⟨_, by first | rfl | (simp [errW_none, errW_some] <;> rfl) | (simp [*, errW_none, errW_some] <;> rfl), by (with_reducible repeat (first | apply Kd.R_alloc | apply Kd.R_drewN | apply Kd.R_drew)); exact Kd.R_mono (Kd.R_far (p := ⟨gb252, 2, none⟩) (Kd.R_far (p := ⟨gb252, 1, none⟩) (Kd.R_far (p := ⟨gb252, 0, none⟩) (Kd.R_types HO255.out BK252.out (by decide)) (fun _ hk => hk.2) (.int .i64 3)) (fun _ hk => hk.2) (.int .i64 2)) (fun _ hk => hk.2) (.slice Ao4 y253.length co4)) (fun _ hk => trivial), by repeat (first | (with_reducible first | exact HB.out | apply below_alloc | apply pw_below_drewN | apply below_drew1 | refine below_set ?_ GE252.out) | exact HB.out)⟩


/-! ### chequerref04_Then: function 26 -/
mutual
def chequerref04_Then.j0 : Nat → Int → Int → Bool → Option (Int)
 | 0, _, _, _ => none
 | k + 1, x0, x1, x25 => if x25 = true then (some (-1)) else ((chequerref04_probe.f).bind fun bt256 => ((chequerref04_Lay.f k bt256.1 bt256.2.1 bt256.2.2 x0).bind fun bt261 => ((chequerref04_Lay.f k bt261.1 bt261.2.1 bt261.2.2.1 x1).bind fun bt268 => (chequerref04_Then.l0 k 0 bt268.1 bt268.2.1 bt268.2.2.1))))
def chequerref04_Then.l0 : Nat → Int → Int → Int → List Int → Option (Int)
 | 0, _, _, _, _ => none
 | k + 1, x9, x275000, x275001, x275002 => if x9 < 8 then ((chequerref04_probe.f).bind fun bt275 => ((chequerref04_Lay.f k bt275.1 bt275.2.1 bt275.2.2 x9).bind fun bt280 => ((chequerref03_Same.f k x275000 x275001 x275002 bt280.1 bt280.2.1 bt280.2.2.1).bind fun t287 => (if t287 = true then (some x9) else (chequerref04_Then.l0 k (wrap64 (x9 + 1)) x275000 x275001 x275002))))) else (some (-1))
end
def chequerref04_Then.f (k : Nat) (a0 : Int) (a1 : Int) : Option (Int) := if a0 < 0 then (chequerref04_Then.j0 k a0 a1 true) else (if a0 > 7 then (chequerref04_Then.j0 k a0 a1 true) else (if a1 < 0 then (chequerref04_Then.j0 k a0 a1 true) else (chequerref04_Then.j0 k a0 a1 (decide (a1 > 7)))))
theorem chequerref04_Then.mono_l : ∀ k, (∀ y0 y1 y2, LeO (chequerref04_Then.j0 k y0 y1 y2) (chequerref04_Then.j0 (k + 1) y0 y1 y2)) ∧ (∀ y0 y1 y2 y3, LeO (chequerref04_Then.l0 k y0 y1 y2 y3) (chequerref04_Then.l0 (k + 1) y0 y1 y2 y3))
 | 0 => ⟨fun _ _ _ r h => by simp [chequerref04_Then.j0] at h, fun _ _ _ _ r h => by simp [chequerref04_Then.l0] at h⟩
 | k + 1 => by
  obtain ⟨ih0, ih1⟩ := chequerref04_Then.mono_l k
  refine ⟨?_, ?_⟩
  · intro y0 y1 y2
    unfold chequerref04_Then.j0
    repeat' first
    | (with_reducible exact ih0 _ _ _)
    | (with_reducible exact ih1 _ _ _ _)
    | (with_reducible exact chequerref03_Same.mono _ _ _ _ _ _ _)
    | (with_reducible exact chequerref04_Lay.mono _ _ _ _ _)
    | (with_reducible exact LeO.refl _)
    | (with_reducible exact LeO.none _)
    | (with_reducible refine LeO.ite ?_ ?_)
    | (with_reducible refine LeO.bind ?_ (fun _ => ?_))
    | exact ih0 _ _ _
    | exact ih1 _ _ _ _
    | exact chequerref03_Same.mono _ _ _ _ _ _ _
    | exact chequerref04_Lay.mono _ _ _ _ _
    | exact LeO.none _
    | refine LeO.ite ?_ ?_
    | refine LeO.bind ?_ (fun _ => ?_)
  · intro y0 y1 y2 y3
    unfold chequerref04_Then.l0
    repeat' first
    | (with_reducible exact ih0 _ _ _)
    | (with_reducible exact ih1 _ _ _ _)
    | (with_reducible exact chequerref03_Same.mono _ _ _ _ _ _ _)
    | (with_reducible exact chequerref04_Lay.mono _ _ _ _ _)
    | (with_reducible exact LeO.refl _)
    | (with_reducible exact LeO.none _)
    | (with_reducible refine LeO.ite ?_ ?_)
    | (with_reducible refine LeO.bind ?_ (fun _ => ?_))
    | exact ih0 _ _ _
    | exact ih1 _ _ _ _
    | exact chequerref03_Same.mono _ _ _ _ _ _ _
    | exact chequerref04_Lay.mono _ _ _ _ _
    | exact LeO.none _
    | refine LeO.ite ?_ ?_
    | refine LeO.bind ?_ (fun _ => ?_)
theorem chequerref04_Then.mono : ∀ a0 a1 k, LeO (chequerref04_Then.f k a0 a1) (chequerref04_Then.f (k + 1) a0 a1) := by
 intro a0 a1 k
 obtain ⟨ih0, ih1⟩ := chequerref04_Then.mono_l k
 unfold chequerref04_Then.f
 repeat' first
  | (with_reducible exact ih0 _ _ _)
  | (with_reducible exact ih1 _ _ _ _)
  | (with_reducible exact chequerref03_Same.mono _ _ _ _ _ _ _)
  | (with_reducible exact chequerref04_Lay.mono _ _ _ _ _)
  | (with_reducible exact LeO.refl _)
  | (with_reducible exact LeO.none _)
  | (with_reducible refine LeO.ite ?_ ?_)
  | (with_reducible refine LeO.bind ?_ (fun _ => ?_))
  | exact ih0 _ _ _
  | exact ih1 _ _ _ _
  | exact chequerref03_Same.mono _ _ _ _ _ _ _
  | exact chequerref04_Lay.mono _ _ _ _ _
  | exact LeO.none _
  | refine LeO.ite ?_ ?_
  | refine LeO.bind ?_ (fun _ => ?_)
set_option maxHeartbeats 8000000 in
set_option maxRecDepth 100000 in
theorem chequerref04_Then.calls (k : Nat) (a0 : Int) (a1 : Int) (r : Int) (w : World) (h : chequerref04_Then.f k a0 a1 = some r) :
 Calls Try.prog 26 #[.int .i64 a0, .int .i64 a1] w fun e w' => e = .returned (.int .i64 r) ∧ Below w.heap.size w w' := by
 have hu24 := Try.underlying24
 have HB := Aside0.mk (Below.refl w.heap.size w)
 have H : (if a0 < 0 then (chequerref04_Then.j0 k a0 a1 true) else (if a0 > 7 then (chequerref04_Then.j0 k a0 a1 true) else (if a1 < 0 then (chequerref04_Then.j0 k a0 a1 true) else (chequerref04_Then.j0 k a0 a1 (decide (a1 > 7)))))) = some r := h
 clear h
 have HC3 := Aside0.mk H
 clear H
 go_enter Try.func26, Try.ntmps26
 go_upto_region 1 with (fail)
 go_cut [25] (fun v25 wc => ∃ (kq : Nat) (x25_2 : Bool), v25 = .bool x25_2 ∧ Aside0 (chequerref04_Then.j0 kq a0 a1 x25_2 = some r) ∧ Aside0 (kq ≤ k) ∧ Aside0 (Below w.heap.size w wc))
 case first =>
  have H := HC3.out
  clear HC3
  by_cases c4 : a0 < 0
  · rw [if_pos c4] at H
    have c4b0 : decide (a0 < 0) = true := decide_eq_true c4
    clear c4
    (first | rw [c4b0] | (simp only [i64_w, i32_w]; rw [c4b0]) | skip)
    have H' := Aside0.mk H
    clear H
    go_wp2
    go_meet
    case rel => exact ⟨_, (true), (by first | rfl | (simp; done) | (simp [*]; done)), H', ⟨by first | omega | exact Nat.le_refl _⟩, ⟨bp_⟩⟩
  · rw [if_neg c4] at H
    have c4b0 : decide (a0 < 0) = false := decide_eq_false c4
    clear c4
    (first | rw [c4b0] | (simp only [i64_w, i32_w]; rw [c4b0]) | skip)
    by_cases c5 : a0 > 7
    · rw [if_pos c5] at H
      have c5b0 : decide (7 < a0) = true := decide_eq_true c5
      clear c5
      have H' := Aside0.mk H
      clear H
      go_wp2
      go_meet
      case rel => exact ⟨_, (true), (by first | rfl | (simp; done) | (simp [*]; done)), H', ⟨by first | omega | exact Nat.le_refl _⟩, ⟨bp_⟩⟩
    · rw [if_neg c5] at H
      have c5b0 : decide (7 < a0) = false := decide_eq_false c5
      clear c5
      by_cases c6 : a1 < 0
      · rw [if_pos c6] at H
        have c6b0 : decide (a1 < 0) = true := decide_eq_true c6
        clear c6
        have H' := Aside0.mk H
        clear H
        go_wp2
        go_meet
        case rel => exact ⟨_, (true), (by first | rfl | (simp; done) | (simp [*]; done)), H', ⟨by first | omega | exact Nat.le_refl _⟩, ⟨bp_⟩⟩
      · rw [if_neg c6] at H
        have c6b0 : decide (a1 < 0) = false := decide_eq_false c6
        clear c6
        have H' := Aside0.mk H
        clear H
        go_wp2
        go_meet
        case rel => exact ⟨_, (decide (a1 > 7)), (by first | rfl | (simp; done) | (simp [*]; done)), H', ⟨by first | omega | exact Nat.le_refl _⟩, ⟨bp_⟩⟩
 case rest =>
  clear HC3
  try clear c2
  try clear p2
  try clear c4
  try clear c4b0
  try clear c5
  try clear c5b0
  try clear c6
  try clear c6b0
  obtain ⟨kq, x25_2, rfl, HA, HJ2, HB⟩ := hcut
  cases kq with
  | zero => exact absurd HA.out (by simp [chequerref04_Then.j0])
  | succ kj2 =>
   have H := HA.out
   clear HA
   simp only [chequerref04_Then.j0] at H
   by_cases c7 : x25_2 = true
   · subst c7
     have H1 : (some (-1)) = some r := by rw [if_pos rfl] at H; exact H
     clear H
     have H := H1
     clear H1
     obtain rfl := Option.some.inj H
     go_wp2
     go_ret
     exact ⟨by first | rfl | (simp [errW_none, errW_some] <;> rfl) | (simp [*, errW_none, errW_some] <;> rfl), bp_⟩
   · replace c7 := Bool.eq_false_iff.mpr c7
     subst c7
     have H1 : ((chequerref04_probe.f).bind fun bt256 => ((chequerref04_Lay.f kj2 bt256.1 bt256.2.1 bt256.2.2 a0).bind fun bt261 => ((chequerref04_Lay.f kj2 bt261.1 bt261.2.1 bt261.2.2.1 a1).bind fun bt268 => (chequerref04_Then.l0 kj2 0 bt268.1 bt268.2.1 bt268.2.2.1)))) = some r := by rw [if_neg (show ¬ (false = true) by decide)] at H; exact H
     clear H
     have H := H1
     clear H1
     replace H := Option.bind_eq_some_iff.mp H
     obtain ⟨⟨t256, t257, t258⟩, A80, H⟩ := H
     replace H : ((chequerref04_Lay.f kj2 t256 t257 t258 a0).bind fun bt261 => ((chequerref04_Lay.f kj2 bt261.1 bt261.2.1 bt261.2.2.1 a1).bind fun bt268 => (chequerref04_Then.l0 kj2 0 bt268.1 bt268.2.1 bt268.2.2.1))) = some r := H
     have A8 := Aside0.mk A80
     clear A80
     replace H := Option.bind_eq_some_iff.mp H
     obtain ⟨⟨t261, t262, t263, t266⟩, A90, H⟩ := H
     replace H : ((chequerref04_Lay.f kj2 t261 t262 t263 a1).bind fun bt268 => (chequerref04_Then.l0 kj2 0 bt268.1 bt268.2.1 bt268.2.2.1)) = some r := H
     have A9 := Aside0.mk A90
     clear A90
     replace H := Option.bind_eq_some_iff.mp H
     obtain ⟨⟨t268, t269, t270, t273⟩, A100, H⟩ := H
     replace H : (chequerref04_Then.l0 kj2 0 t268 t269 t270) = some r := H
     have A10 := Aside0.mk A100
     clear A100
     have H' := Aside0.mk H
     clear H
     go_wp2_with (first | ((with_reducible refine gate_callee (f := 44) rfl ?_); refine goQ_ (some 27) Try.func44 #[] ?_; (with_reducible refine (chequerref04_probe.calls  t256 t257 t258 _ A8.out).mono ?_); rintro e w11 ⟨v259, rfl, ho0, hb⟩; refine ⟨_, rfl, ?_⟩; have HO260 := Aside0.mk (Kd.R_lower ho0 (below_size bp_)); replace HB := Aside0.mk (below_step bp_ hb); (try clear hb); (try clear hb2); (try clear hk); (try clear hi); (try clear ho0); obtain ⟨Ao12, co12, eo12⟩ := Kd.R_slice HO260.out; subst eo12) | ((with_reducible refine gate_callee (f := 14) rfl ?_); refine goQ_ (some 29) Try.func14 #[.agg #[.int .i64 t256, .int .i64 t257, .slice Ao12 t258.length co12], .int .i64 a0] ?_; (with_reducible refine (chequerref04_Lay.calls kj2 t256 t257 (fun k_ => some k_ = (.slice Ao12 t258.length co12 : Value).ownBlock) _ _ t258 a0 t261 t262 t263 t266 _ ?side1 A9.out).mono ?_); (case side1 => exact Kd.R_V (Kd.R_tight rfl (HO260.out))); rintro e w13 ⟨v264, rfl, ho0, hb⟩; refine ⟨_, rfl, ?_⟩; replace HO260 := Aside0.mk (Kd.R_below (rp_ HO260.out) hb); have HO265 := Aside0.mk (Kd.V_lower (Kd.V_mono (ok' := fun k_ => True) ho0 (fun k_ hk_ => trivial)) (below_size bp_)); replace HB := Aside0.mk (below_step bp_ hb); (try clear hb); (try clear hb2); (try clear hk); (try clear hi); (try clear ho0)) | ((with_reducible refine gate_dst (N := 5) rfl ?_); refine box_event ?hg (N := 5) ?hd (cs := #[.int .i64 0, .int .i64 0, .slice none 0 0]) (t := 24) ?hr ?_; (case hd => rfl); (case hg => rfl); (case hr => first | (go_simp; done) | (go_simp; rfl)); intro gb267 hg w14 hbox hb; replace HO260 := Aside0.mk (Kd.R_below (rp_ HO260.out) hb); replace HO265 := Aside0.mk (Kd.V_below (Kd.V_elderB (vp_ HO265.out) gb267 (Nat.le_of_eq hg.symm)) hb); have BK267 := Aside0.mk (hbox); have GW267 := Aside0.mk ((by rw [hg]; exact (below_size bp_) : w.heap.size ≤ gb267)); have GE267 := Aside0.mk ((by rw [hg]; exact (below_size bp_) : w.heap.size ≤ gb267)); replace HB := Aside0.mk (below_step bp_ hb); clear hb hbox hg; have hcz15_0 : w14.cell? ⟨gb267, 0, none⟩ = some (.int .i64 0) := (blk_cell BK267.out 0).trans rfl; have hcz15_1 : w14.cell? ⟨gb267, 1, none⟩ = some (.int .i64 0) := (blk_cell BK267.out 1).trans rfl; have hcz15_2 : w14.cell? ⟨gb267, 2, none⟩ = some (.slice none 0 0) := (blk_cell BK267.out 2).trans rfl; have hfz15_0 := blk_frozen BK267.out 0; have hfz15_1 := blk_frozen BK267.out 1; have hfz15_2 := blk_frozen BK267.out 2; obtain ⟨Ao16, co16, eo16⟩ := Kd.V_slice HO265.out; subst eo16) | ((with_reducible refine gate_store (t := 24) (p := 5) rfl ?_); refine store_event (t := 24) (p := 5) (v := ?vo_w17) (w1 := (((w14.setCell ⟨gb267, 0, none⟩ (.int .i64 t261)).setCell ⟨gb267, 1, none⟩ (.int .i64 t262)).setCell ⟨gb267, 2, none⟩ (.slice Ao16 t263.length co16))) ?hg ?ho ?hn ?hr ?_; (case ho => rfl); (case hg => rfl); (case hn => rfl); (case hr => first | (go_simp; done) | (go_simp; rfl)); intro w17 hw; replace HO260 : Aside0 (Kd.R (Kd.int .u64) 41 w17 w.heap.size (fun _ => True) (.slice Ao12 t258.length co12) t258) := ⟨(by rw [hw]; exact (rf_ HO260.out BK267.out (by decide) (fun _ hk => trivial)))⟩; replace HO265 : Aside0 (Kd.V (Kd.int .u64) 41 w17 w.heap.size (fun k_ => k_ ≠ gb267) (.slice Ao16 t263.length co16) t263) := ⟨(by rw [hw]; exact (by (with_reducible repeat (first | apply Kd.V_alloc | apply Kd.V_drewN | apply Kd.V_drew)); exact Kd.V_mono (Kd.V_far (p := ⟨gb267, 2, none⟩) (Kd.V_far (p := ⟨gb267, 1, none⟩) (Kd.V_far (p := ⟨gb267, 0, none⟩) (Kd.V_mono HO265.out (fun k_ hk => (⟨hk, hk.2⟩ : _ ∧ k_ ≠ gb267))) (fun _ hk => hk.2) (.int .i64 t261)) (fun _ hk => hk.2) (.int .i64 t262)) (fun _ hk => hk.2) (.slice Ao16 t263.length co16)) (fun _ hk => hk.1.2)))⟩; replace BK267 : Aside0 (w17.heap[gb267]? = some (.cells #[.int .i64 t261, .int .i64 t262, .slice Ao16 t263.length co16] 24 (0, 0))) := ⟨(by rw [hw]; exact (by (with_reducible repeat (first | refine blk_drewN ?_ _ | refine blk_drew ?_ | refine blk_alloc ?_ _)); refine blk_put (cs := #[.int .i64 t261, .int .i64 t262, .slice none 0 0]) ?_ 2 _ rfl; (with_reducible repeat (first | refine blk_drewN ?_ _ | refine blk_drew ?_ | refine blk_alloc ?_ _)); refine blk_put (cs := #[.int .i64 t261, .int .i64 0, .slice none 0 0]) ?_ 1 _ rfl; (with_reducible repeat (first | refine blk_drewN ?_ _ | refine blk_drew ?_ | refine blk_alloc ?_ _)); refine blk_put (cs := #[.int .i64 0, .int .i64 0, .slice none 0 0]) ?_ 0 _ rfl; (with_reducible repeat (first | refine blk_drewN ?_ _ | refine blk_drew ?_ | refine blk_alloc ?_ _)); exact BK267.out))⟩; replace HB : Aside0 (Below w.heap.size w w17) := ⟨(by rw [hw]; exact bp_)⟩; clear hw; have hcz18_0 : w17.cell? ⟨gb267, 0, none⟩ = some (.int .i64 t261) := (blk_cell BK267.out 0).trans rfl; have hcz18_1 : w17.cell? ⟨gb267, 1, none⟩ = some (.int .i64 t262) := (blk_cell BK267.out 1).trans rfl; have hcz18_2 : w17.cell? ⟨gb267, 2, none⟩ = some (.slice Ao16 t263.length co16) := (blk_cell BK267.out 2).trans rfl; have hfz18_0 := blk_frozen BK267.out 0; have hfz18_1 := blk_frozen BK267.out 1; have hfz18_2 := blk_frozen BK267.out 2) | ((with_reducible refine gate_callee (f := 14) rfl ?_); refine goQ_ (some 35) Try.func14 #[.agg #[.int .i64 t261, .int .i64 t262, .slice Ao16 t263.length co16], .int .i64 a1] ?_; (with_reducible refine (chequerref04_Lay.calls kj2 t261 t262 (fun k_ => k_ ≠ gb267) _ _ t263 a1 t268 t269 t270 t273 _ ?side1 A10.out).mono ?_); (case side1 => exact HO265.out); rintro e w19 ⟨v271, rfl, ho0, hb⟩; refine ⟨_, rfl, ?_⟩; replace HO260 := Aside0.mk (Kd.R_below (rp_ HO260.out) hb); replace HO265 := Aside0.mk (Kd.V_below (vp_ HO265.out) hb); have HO272 := Aside0.mk (Kd.V_lower (Kd.V_mono (ok' := fun k_ => True) ho0 (fun k_ hk_ => trivial)) (below_size bp_)); replace HB := Aside0.mk (below_step bp_ hb); (try clear hb); (try clear hb2); (try clear hk); (try clear hi); (try clear ho0)) | ((with_reducible refine gate_dst (N := 7) rfl ?_); refine box_event ?hg (N := 7) ?hd (cs := #[.int .i64 0, .int .i64 0, .slice none 0 0]) (t := 24) ?hr ?_; (case hd => rfl); (case hg => rfl); (case hr => first | (go_simp; done) | (go_simp; rfl)); intro gb274 hg w20 hbox hb; replace HO260 := Aside0.mk (Kd.R_below (rp_ HO260.out) hb); replace HO265 := Aside0.mk (Kd.V_below (Kd.V_elderB (vp_ HO265.out) gb274 (Nat.le_of_eq hg.symm)) hb); replace HO272 := Aside0.mk (Kd.V_below (Kd.V_elderB (vp_ HO272.out) gb274 (Nat.le_of_eq hg.symm)) hb); have BK274 := Aside0.mk (hbox); have GW274 := Aside0.mk ((by rw [hg]; exact (below_size bp_) : w.heap.size ≤ gb274)); have GE274 := Aside0.mk ((by rw [hg]; exact (below_size bp_) : w.heap.size ≤ gb274)); replace HB := Aside0.mk (below_step bp_ hb); clear hb hbox hg; have hcz21_0 : w20.cell? ⟨gb274, 0, none⟩ = some (.int .i64 0) := (blk_cell BK274.out 0).trans rfl; have hcz21_1 : w20.cell? ⟨gb274, 1, none⟩ = some (.int .i64 0) := (blk_cell BK274.out 1).trans rfl; have hcz21_2 : w20.cell? ⟨gb274, 2, none⟩ = some (.slice none 0 0) := (blk_cell BK274.out 2).trans rfl; have hfz21_0 := blk_frozen BK274.out 0; have hfz21_1 := blk_frozen BK274.out 1; have hfz21_2 := blk_frozen BK274.out 2; obtain ⟨Ao22, co22, eo22⟩ := Kd.V_slice HO272.out; subst eo22))
     go_loopg [9] kj2 (fun kq v9 w' => ∃ (x9_2 : Int), v9 = .int .i64 x9_2 ∧ Aside0 (chequerref04_Then.l0 kq x9_2 t268 t269 t270 = some r) ∧ Aside0 (kq ≤ kj2) ∧ Aside0 (Kd.V (Kd.int .u64) 41 w' w.heap.size (fun k_ => k_ ≠ gb274) (.slice Ao22 t270.length co22) t270) ∧ Aside0 (w'.heap[gb274]? = some (.cells #[.int .i64 t268, .int .i64 t269, (.slice Ao22 t270.length co22)] 24 (0, 0))) ∧ Aside0 (Below w.heap.size w w'))
     case atStart => exact ⟨(0), (by first | rfl | (simp; done) | (simp [*]; done)), H', ⟨Nat.le_refl _⟩, ⟨by (with_reducible repeat (first | apply Kd.V_alloc | apply Kd.V_drewN | apply Kd.V_drew)); exact Kd.V_mono (Kd.V_far (p := ⟨gb274, 2, none⟩) (Kd.V_far (p := ⟨gb274, 1, none⟩) (Kd.V_far (p := ⟨gb274, 0, none⟩) (Kd.V_mono HO272.out (fun k_ hk => (⟨hk, hk.2⟩ : _ ∧ k_ ≠ gb274))) (fun _ hk => hk.2) (.int .i64 t268)) (fun _ hk => hk.2) (.int .i64 t269)) (fun _ hk => hk.2) (.slice Ao22 t270.length co22)) (fun _ hk => hk.1.2)⟩, ⟨by (with_reducible repeat (first | refine blk_drewN ?_ _ | refine blk_drew ?_ | refine blk_alloc ?_ _)); refine blk_put (cs := #[.int .i64 t268, .int .i64 t269, .slice none 0 0]) ?_ 2 _ rfl; (with_reducible repeat (first | refine blk_drewN ?_ _ | refine blk_drew ?_ | refine blk_alloc ?_ _)); refine blk_put (cs := #[.int .i64 t268, .int .i64 0, .slice none 0 0]) ?_ 1 _ rfl; (with_reducible repeat (first | refine blk_drewN ?_ _ | refine blk_drew ?_ | refine blk_alloc ?_ _)); refine blk_put (cs := #[.int .i64 0, .int .i64 0, .slice none 0 0]) ?_ 0 _ rfl; (with_reducible repeat (first | refine blk_drewN ?_ _ | refine blk_drew ?_ | refine blk_alloc ?_ _)); exact BK274.out⟩, ⟨bp_⟩⟩
     case round =>
      clear H'
      try clear c1
      try clear c2
      try clear p2
      try clear c4
      try clear c4b0
      try clear c5
      try clear c5b0
      try clear c6
      try clear c6b0
      try clear c7
      try clear c14
      try clear hcz15_0
      try clear hcz15_1
      try clear hcz15_2
      try clear hcz18_0
      try clear hcz18_1
      try clear hcz18_2
      try clear hcz21_0
      try clear hcz21_1
      try clear hcz21_2
      try clear hfz15_0
      try clear hfz15_1
      try clear hfz15_2
      try clear hfz18_0
      try clear hfz18_1
      try clear hfz18_2
      try clear hfz21_0
      try clear hfz21_1
      try clear hfz21_2
      try clear p2
      obtain ⟨x9_2, rfl, HA, HK2, HO_275002, BK274, HB⟩ := hrel
      cases gk with
      | zero => exact absurd HA.out (by simp [chequerref04_Then.l0])
      | succ k2 =>
       have H := HA.out
       clear HA
       simp only [chequerref04_Then.l0] at H
       by_cases c23 : x9_2 < 8
       · rw [if_pos c23] at H
         have c23b0 : decide (x9_2 < 8) = true := decide_eq_true c23
         clear c23
         replace H := Option.bind_eq_some_iff.mp H
         obtain ⟨⟨t275, t276, t277⟩, A240, H⟩ := H
         replace H : ((chequerref04_Lay.f k2 t275 t276 t277 x9_2).bind fun bt280 => ((chequerref03_Same.f k2 t268 t269 t270 bt280.1 bt280.2.1 bt280.2.2.1).bind fun t287 => (if t287 = true then (some x9_2) else (chequerref04_Then.l0 k2 (wrap64 (x9_2 + 1)) t268 t269 t270)))) = some r := H
         have A24 := Aside0.mk A240
         clear A240
         replace H := Option.bind_eq_some_iff.mp H
         obtain ⟨⟨t280, t281, t282, t285⟩, A250, H⟩ := H
         replace H : ((chequerref03_Same.f k2 t268 t269 t270 t280 t281 t282).bind fun t287 => (if t287 = true then (some x9_2) else (chequerref04_Then.l0 k2 (wrap64 (x9_2 + 1)) t268 t269 t270))) = some r := H
         have A25 := Aside0.mk A250
         clear A250
         replace H := Option.bind_eq_some_iff.mp H
         obtain ⟨t287, A260, H⟩ := H
         replace H : (if t287 = true then (some x9_2) else (chequerref04_Then.l0 k2 (wrap64 (x9_2 + 1)) t268 t269 t270)) = some r := H
         have A26 := Aside0.mk A260
         clear A260
         by_cases c27 : t287 = true
         · subst c27
           have H1 : (some x9_2) = some r := by rw [if_pos rfl] at H; exact H
           clear H
           have H := H1
           clear H1
           obtain rfl := Option.some.inj H
           go_wp2_with (first | ((with_reducible refine gate_callee (f := 44) rfl ?_); refine goQ_ (some 43) Try.func44 #[] ?_; (with_reducible refine (chequerref04_probe.calls  t275 t276 t277 _ A24.out).mono ?_); rintro e w28 ⟨v278, rfl, ho0, hb⟩; refine ⟨_, rfl, ?_⟩; replace HO_275002 := Aside0.mk (Kd.V_elder' (vp_ HO_275002.out) (Kd.R_base ho0) hb); have HO279 := Aside0.mk (Kd.R_lower ho0 (below_size bp_)); replace BK274 := Aside0.mk (blk_below (hp_ BK274.out) hb); replace HB := Aside0.mk (below_step bp_ hb); (try clear hb); (try clear hb2); (try clear hk); (try clear hi); (try clear ho0); obtain ⟨Ao29, co29, eo29⟩ := Kd.R_slice HO279.out; subst eo29) | ((with_reducible refine gate_callee (f := 14) rfl ?_); refine goQ_ (some 45) Try.func14 #[.agg #[.int .i64 t275, .int .i64 t276, .slice Ao29 t277.length co29], .int .i64 x9_2] ?_; (with_reducible refine (chequerref04_Lay.calls k2 t275 t276 (fun k_ => some k_ = (.slice Ao29 t277.length co29 : Value).ownBlock) _ _ t277 x9_2 t280 t281 t282 t285 _ ?side1 A25.out).mono ?_); (case side1 => exact Kd.R_V (Kd.R_tight rfl (Kd.R_types (HO279.out) BK274.out (by decide)))); rintro e w30 ⟨v283, rfl, ho0, hb⟩; refine ⟨_, rfl, ?_⟩; replace HO_275002 := Aside0.mk (Kd.V_below (vp_ HO_275002.out) hb); have HO284 := Aside0.mk (Kd.V_lower (Kd.V_mono (ok' := fun k_ => k_ ≠ gb274) ho0 (fun k_ hk_ => Or.elim hk_ (fun hs_ => ((Kd.R_types (HO279.out) BK274.out (by decide)).1 k_ hs_.symm).2) (fun hn_ => (Kd.freshB (g := gb274) (o := .cells #[.int .i64 t268, .int .i64 t269, .slice Ao22 t270.length co22] 24 (0, 0)) (hp_ BK274.out) k_ hn_)))) (below_size bp_)); replace HO279 := Aside0.mk (Kd.R_below (rp_ HO279.out) hb); replace BK274 := Aside0.mk (blk_below (hp_ BK274.out) hb); replace HB := Aside0.mk (below_step bp_ hb); (try clear hb); (try clear hb2); (try clear hk); (try clear hi); (try clear ho0)) | ((with_reducible refine gate_dst (N := 10) rfl ?_); refine box_event ?hg (N := 10) ?hd (cs := #[.int .i64 0, .int .i64 0, .slice none 0 0]) (t := 24) ?hr ?_; (case hd => rfl); (case hg => rfl); (case hr => first | (go_simp; done) | (go_simp; rfl)); intro gb286 hg w31 hbox hb; replace HO_275002 := Aside0.mk (Kd.V_below (Kd.V_elderB (vp_ HO_275002.out) gb286 (Nat.le_of_eq hg.symm)) hb); replace HO279 := Aside0.mk (Kd.R_below (rp_ HO279.out) hb); replace HO284 := Aside0.mk (Kd.V_below (Kd.V_elderB (vp_ HO284.out) gb286 (Nat.le_of_eq hg.symm)) hb); have BK286 := Aside0.mk (hbox); have GW286 := Aside0.mk ((by rw [hg]; exact (below_size bp_) : w.heap.size ≤ gb286)); have GE286 := Aside0.mk ((by rw [hg]; exact (below_size bp_) : w.heap.size ≤ gb286)); replace HB := Aside0.mk (below_step bp_ hb); have NB274_286 := Aside0.mk ((nlt_ hg (hp_ BK274.out))); have NB286_274 := Aside0.mk ((ngt_ hg (hp_ BK274.out))); replace BK274 := Aside0.mk (blk_below (hp_ BK274.out) hb); clear hb hbox hg; have hnb32 := NB286_274.out; have hnc32 := NB274_286.out; have hcz33_0 : w31.cell? ⟨gb286, 0, none⟩ = some (.int .i64 0) := (blk_cell BK286.out 0).trans rfl; have hcz33_1 : w31.cell? ⟨gb286, 1, none⟩ = some (.int .i64 0) := (blk_cell BK286.out 1).trans rfl; have hcz33_2 : w31.cell? ⟨gb286, 2, none⟩ = some (.slice none 0 0) := (blk_cell BK286.out 2).trans rfl; have hfz33_0 := blk_frozen BK286.out 0; have hfz33_1 := blk_frozen BK286.out 1; have hfz33_2 := blk_frozen BK286.out 2; obtain ⟨Ao34, co34, eo34⟩ := Kd.V_slice HO284.out; subst eo34; have hcz35_0 : w31.cell? ⟨gb274, 0, none⟩ = some (.int .i64 t268) := (blk_cell BK274.out 0).trans rfl; have hcz35_1 : w31.cell? ⟨gb274, 1, none⟩ = some (.int .i64 t269) := (blk_cell BK274.out 1).trans rfl; have hcz35_2 : w31.cell? ⟨gb274, 2, none⟩ = some (.slice Ao22 t270.length co22) := (blk_cell BK274.out 2).trans rfl; have hfz35_0 := blk_frozen BK274.out 0; have hfz35_1 := blk_frozen BK274.out 1; have hfz35_2 := blk_frozen BK274.out 2) | ((with_reducible refine gate_callee (f := 16) rfl ?_); refine goQ_ (some 50) Try.func16 #[.agg #[.int .i64 t268, .int .i64 t269, .slice Ao22 t270.length co22], .agg #[.int .i64 t280, .int .i64 t281, .slice Ao34 t282.length co34]] ?_; (with_reducible refine (chequerref03_Same.calls k2 t268 t269 _ _ t270 t280 t281 _ _ t282 true _ ?side1 ?side2 ?side3 ?side4 A26.out).mono ?_); (case side1 => refine (Kd.V_reads' (e := 41) (base := w.heap.size) (ok := fun k_ => ((k_ ≠ gb274 ∧ some k_ ≠ (.slice Ao29 t277.length co29 : Value).ownBlock) ∧ k_ ≠ gb286)) (n := t270.length) (c := co22) ?_).2.2; exact (by (with_reducible repeat (first | apply Kd.V_alloc | apply Kd.V_drewN | apply Kd.V_drew)); exact (Kd.V_mono (Kd.V_far (p := ⟨gb286, 2, none⟩) (Kd.V_far (p := ⟨gb286, 1, none⟩) (Kd.V_far (p := ⟨gb286, 0, none⟩) (Kd.V_mono HO_275002.out (fun k_ hk => (⟨hk, hk.2⟩ : _ ∧ k_ ≠ gb286))) (fun _ hk => hk.2) (.int .i64 t280)) (fun _ hk => hk.2) (.int .i64 t281)) (fun _ hk => hk.2) (.slice Ao34 t282.length co34)) (fun _ h_ => h_.1)))); (case side2 => exact (Kd.V_reads' HO_275002.out).2.1); (case side3 => refine (Kd.V_reads' (e := 41) (base := w.heap.size) (ok := fun k_ => (k_ ≠ gb274 ∧ k_ ≠ gb286)) (n := t282.length) (c := co34) ?_).2.2; exact (by (with_reducible repeat (first | apply Kd.V_alloc | apply Kd.V_drewN | apply Kd.V_drew)); exact (Kd.V_mono (Kd.V_far (p := ⟨gb286, 2, none⟩) (Kd.V_far (p := ⟨gb286, 1, none⟩) (Kd.V_far (p := ⟨gb286, 0, none⟩) (Kd.V_mono HO284.out (fun k_ hk => (⟨hk, hk.2⟩ : _ ∧ k_ ≠ gb286))) (fun _ hk => hk.2) (.int .i64 t280)) (fun _ hk => hk.2) (.int .i64 t281)) (fun _ hk => hk.2) (.slice Ao34 t282.length co34)) (fun _ h_ => h_.1)))); (case side4 => exact (Kd.V_reads' HO284.out).2.1); rintro e w36 ⟨rfl, hb⟩; refine ⟨_, rfl, ?_⟩; replace HO_275002 := Aside0.mk (Kd.V_below (by (with_reducible repeat (first | apply Kd.V_alloc | apply Kd.V_drewN | apply Kd.V_drew)); exact (Kd.V_mono (Kd.V_far (p := ⟨gb286, 2, none⟩) (Kd.V_far (p := ⟨gb286, 1, none⟩) (Kd.V_far (p := ⟨gb286, 0, none⟩) (Kd.V_mono HO_275002.out (fun k_ hk => (⟨hk, hk.2⟩ : _ ∧ k_ ≠ gb286))) (fun _ hk => hk.2) (.int .i64 t280)) (fun _ hk => hk.2) (.int .i64 t281)) (fun _ hk => hk.2) (.slice Ao34 t282.length co34)) (fun _ h_ => h_.1))) hb); replace HO279 := Aside0.mk (Kd.R_below (by (with_reducible repeat (first | apply Kd.R_alloc | apply Kd.R_drewN | apply Kd.R_drew)); exact (Kd.R_mono (Kd.R_far (p := ⟨gb286, 2, none⟩) (Kd.R_far (p := ⟨gb286, 1, none⟩) (Kd.R_far (p := ⟨gb286, 0, none⟩) (Kd.R_types HO279.out BK286.out (by decide)) (fun _ hk => hk.2) (.int .i64 t280)) (fun _ hk => hk.2) (.int .i64 t281)) (fun _ hk => hk.2) (.slice Ao34 t282.length co34)) (fun _ h_ => h_.1))) hb); replace HO284 := Aside0.mk (Kd.V_below (by (with_reducible repeat (first | apply Kd.V_alloc | apply Kd.V_drewN | apply Kd.V_drew)); exact (Kd.V_mono (Kd.V_far (p := ⟨gb286, 2, none⟩) (Kd.V_far (p := ⟨gb286, 1, none⟩) (Kd.V_far (p := ⟨gb286, 0, none⟩) (Kd.V_mono HO284.out (fun k_ hk => (⟨hk, hk.2⟩ : _ ∧ k_ ≠ gb286))) (fun _ hk => hk.2) (.int .i64 t280)) (fun _ hk => hk.2) (.int .i64 t281)) (fun _ hk => hk.2) (.slice Ao34 t282.length co34)) (fun _ h_ => h_.1))) hb); replace BK274 := Aside0.mk (blk_below (hf_ BK274.out NB274_286.out) hb); replace BK286 := Aside0.mk (blk_below (g := gb286) (o := .cells #[.int .i64 t280, .int .i64 t281, .slice Ao34 t282.length co34] 24 (0, 0)) (by (with_reducible repeat (first | refine blk_drewN ?_ _ | refine blk_drew ?_ | refine blk_alloc ?_ _)); refine blk_put (cs := #[.int .i64 t280, .int .i64 t281, .slice none 0 0]) ?_ 2 _ rfl; (with_reducible repeat (first | refine blk_drewN ?_ _ | refine blk_drew ?_ | refine blk_alloc ?_ _)); refine blk_put (cs := #[.int .i64 t280, .int .i64 0, .slice none 0 0]) ?_ 1 _ rfl; (with_reducible repeat (first | refine blk_drewN ?_ _ | refine blk_drew ?_ | refine blk_alloc ?_ _)); refine blk_put (cs := #[.int .i64 0, .int .i64 0, .slice none 0 0]) ?_ 0 _ rfl; (with_reducible repeat (first | refine blk_drewN ?_ _ | refine blk_drew ?_ | refine blk_alloc ?_ _)); exact BK286.out) hb); replace HB := Aside0.mk (below_step bp_ hb); (try clear hb); (try clear hb2); (try clear hk); (try clear hi)))
           go_ret
           exact ⟨by first | rfl | (simp [errW_none, errW_some] <;> rfl) | (simp [*, errW_none, errW_some] <;> rfl), bp_⟩
         · replace c27 := Bool.eq_false_iff.mpr c27
           subst c27
           have H1 : (chequerref04_Then.l0 k2 (wrap64 (x9_2 + 1)) t268 t269 t270) = some r := by rw [if_neg (show ¬ (false = true) by decide)] at H; exact H
           clear H
           have H := H1
           clear H1
           have H' := Aside0.mk H
           clear H
           go_wp2_with (first | ((with_reducible refine gate_callee (f := 44) rfl ?_); refine goQ_ (some 43) Try.func44 #[] ?_; (with_reducible refine (chequerref04_probe.calls  t275 t276 t277 _ A24.out).mono ?_); rintro e w37 ⟨v278, rfl, ho0, hb⟩; refine ⟨_, rfl, ?_⟩; replace HO_275002 := Aside0.mk (Kd.V_elder' (vp_ HO_275002.out) (Kd.R_base ho0) hb); have HO279 := Aside0.mk (Kd.R_lower ho0 (below_size bp_)); replace BK274 := Aside0.mk (blk_below (hp_ BK274.out) hb); replace HB := Aside0.mk (below_step bp_ hb); (try clear hb); (try clear hb2); (try clear hk); (try clear hi); (try clear ho0); obtain ⟨Ao38, co38, eo38⟩ := Kd.R_slice HO279.out; subst eo38) | ((with_reducible refine gate_callee (f := 14) rfl ?_); refine goQ_ (some 45) Try.func14 #[.agg #[.int .i64 t275, .int .i64 t276, .slice Ao38 t277.length co38], .int .i64 x9_2] ?_; (with_reducible refine (chequerref04_Lay.calls k2 t275 t276 (fun k_ => some k_ = (.slice Ao38 t277.length co38 : Value).ownBlock) _ _ t277 x9_2 t280 t281 t282 t285 _ ?side1 A25.out).mono ?_); (case side1 => exact Kd.R_V (Kd.R_tight rfl (Kd.R_types (HO279.out) BK274.out (by decide)))); rintro e w39 ⟨v283, rfl, ho0, hb⟩; refine ⟨_, rfl, ?_⟩; replace HO_275002 := Aside0.mk (Kd.V_below (vp_ HO_275002.out) hb); have HO284 := Aside0.mk (Kd.V_lower (Kd.V_mono (ok' := fun k_ => k_ ≠ gb274) ho0 (fun k_ hk_ => Or.elim hk_ (fun hs_ => ((Kd.R_types (HO279.out) BK274.out (by decide)).1 k_ hs_.symm).2) (fun hn_ => (Kd.freshB (g := gb274) (o := .cells #[.int .i64 t268, .int .i64 t269, .slice Ao22 t270.length co22] 24 (0, 0)) (hp_ BK274.out) k_ hn_)))) (below_size bp_)); replace HO279 := Aside0.mk (Kd.R_below (rp_ HO279.out) hb); replace BK274 := Aside0.mk (blk_below (hp_ BK274.out) hb); replace HB := Aside0.mk (below_step bp_ hb); (try clear hb); (try clear hb2); (try clear hk); (try clear hi); (try clear ho0)) | ((with_reducible refine gate_dst (N := 10) rfl ?_); refine box_event ?hg (N := 10) ?hd (cs := #[.int .i64 0, .int .i64 0, .slice none 0 0]) (t := 24) ?hr ?_; (case hd => rfl); (case hg => rfl); (case hr => first | (go_simp; done) | (go_simp; rfl)); intro gb286 hg w40 hbox hb; replace HO_275002 := Aside0.mk (Kd.V_below (Kd.V_elderB (vp_ HO_275002.out) gb286 (Nat.le_of_eq hg.symm)) hb); replace HO279 := Aside0.mk (Kd.R_below (rp_ HO279.out) hb); replace HO284 := Aside0.mk (Kd.V_below (Kd.V_elderB (vp_ HO284.out) gb286 (Nat.le_of_eq hg.symm)) hb); have BK286 := Aside0.mk (hbox); have GW286 := Aside0.mk ((by rw [hg]; exact (below_size bp_) : w.heap.size ≤ gb286)); have GE286 := Aside0.mk ((by rw [hg]; exact (below_size bp_) : w.heap.size ≤ gb286)); replace HB := Aside0.mk (below_step bp_ hb); have NB274_286 := Aside0.mk ((nlt_ hg (hp_ BK274.out))); have NB286_274 := Aside0.mk ((ngt_ hg (hp_ BK274.out))); replace BK274 := Aside0.mk (blk_below (hp_ BK274.out) hb); clear hb hbox hg; have hnb41 := NB286_274.out; have hnc41 := NB274_286.out; have hcz42_0 : w40.cell? ⟨gb286, 0, none⟩ = some (.int .i64 0) := (blk_cell BK286.out 0).trans rfl; have hcz42_1 : w40.cell? ⟨gb286, 1, none⟩ = some (.int .i64 0) := (blk_cell BK286.out 1).trans rfl; have hcz42_2 : w40.cell? ⟨gb286, 2, none⟩ = some (.slice none 0 0) := (blk_cell BK286.out 2).trans rfl; have hfz42_0 := blk_frozen BK286.out 0; have hfz42_1 := blk_frozen BK286.out 1; have hfz42_2 := blk_frozen BK286.out 2; obtain ⟨Ao43, co43, eo43⟩ := Kd.V_slice HO284.out; subst eo43; have hcz44_0 : w40.cell? ⟨gb274, 0, none⟩ = some (.int .i64 t268) := (blk_cell BK274.out 0).trans rfl; have hcz44_1 : w40.cell? ⟨gb274, 1, none⟩ = some (.int .i64 t269) := (blk_cell BK274.out 1).trans rfl; have hcz44_2 : w40.cell? ⟨gb274, 2, none⟩ = some (.slice Ao22 t270.length co22) := (blk_cell BK274.out 2).trans rfl; have hfz44_0 := blk_frozen BK274.out 0; have hfz44_1 := blk_frozen BK274.out 1; have hfz44_2 := blk_frozen BK274.out 2) | ((with_reducible refine gate_callee (f := 16) rfl ?_); refine goQ_ (some 50) Try.func16 #[.agg #[.int .i64 t268, .int .i64 t269, .slice Ao22 t270.length co22], .agg #[.int .i64 t280, .int .i64 t281, .slice Ao43 t282.length co43]] ?_; (with_reducible refine (chequerref03_Same.calls k2 t268 t269 _ _ t270 t280 t281 _ _ t282 false _ ?side1 ?side2 ?side3 ?side4 A26.out).mono ?_); (case side1 => refine (Kd.V_reads' (e := 41) (base := w.heap.size) (ok := fun k_ => ((k_ ≠ gb274 ∧ some k_ ≠ (.slice Ao38 t277.length co38 : Value).ownBlock) ∧ k_ ≠ gb286)) (n := t270.length) (c := co22) ?_).2.2; exact (by (with_reducible repeat (first | apply Kd.V_alloc | apply Kd.V_drewN | apply Kd.V_drew)); exact (Kd.V_mono (Kd.V_far (p := ⟨gb286, 2, none⟩) (Kd.V_far (p := ⟨gb286, 1, none⟩) (Kd.V_far (p := ⟨gb286, 0, none⟩) (Kd.V_mono HO_275002.out (fun k_ hk => (⟨hk, hk.2⟩ : _ ∧ k_ ≠ gb286))) (fun _ hk => hk.2) (.int .i64 t280)) (fun _ hk => hk.2) (.int .i64 t281)) (fun _ hk => hk.2) (.slice Ao43 t282.length co43)) (fun _ h_ => h_.1)))); (case side2 => exact (Kd.V_reads' HO_275002.out).2.1); (case side3 => refine (Kd.V_reads' (e := 41) (base := w.heap.size) (ok := fun k_ => (k_ ≠ gb274 ∧ k_ ≠ gb286)) (n := t282.length) (c := co43) ?_).2.2; exact (by (with_reducible repeat (first | apply Kd.V_alloc | apply Kd.V_drewN | apply Kd.V_drew)); exact (Kd.V_mono (Kd.V_far (p := ⟨gb286, 2, none⟩) (Kd.V_far (p := ⟨gb286, 1, none⟩) (Kd.V_far (p := ⟨gb286, 0, none⟩) (Kd.V_mono HO284.out (fun k_ hk => (⟨hk, hk.2⟩ : _ ∧ k_ ≠ gb286))) (fun _ hk => hk.2) (.int .i64 t280)) (fun _ hk => hk.2) (.int .i64 t281)) (fun _ hk => hk.2) (.slice Ao43 t282.length co43)) (fun _ h_ => h_.1)))); (case side4 => exact (Kd.V_reads' HO284.out).2.1); rintro e w45 ⟨rfl, hb⟩; refine ⟨_, rfl, ?_⟩; replace HO_275002 := Aside0.mk (Kd.V_below (by (with_reducible repeat (first | apply Kd.V_alloc | apply Kd.V_drewN | apply Kd.V_drew)); exact (Kd.V_mono (Kd.V_far (p := ⟨gb286, 2, none⟩) (Kd.V_far (p := ⟨gb286, 1, none⟩) (Kd.V_far (p := ⟨gb286, 0, none⟩) (Kd.V_mono HO_275002.out (fun k_ hk => (⟨hk, hk.2⟩ : _ ∧ k_ ≠ gb286))) (fun _ hk => hk.2) (.int .i64 t280)) (fun _ hk => hk.2) (.int .i64 t281)) (fun _ hk => hk.2) (.slice Ao43 t282.length co43)) (fun _ h_ => h_.1))) hb); replace HO279 := Aside0.mk (Kd.R_below (by (with_reducible repeat (first | apply Kd.R_alloc | apply Kd.R_drewN | apply Kd.R_drew)); exact (Kd.R_mono (Kd.R_far (p := ⟨gb286, 2, none⟩) (Kd.R_far (p := ⟨gb286, 1, none⟩) (Kd.R_far (p := ⟨gb286, 0, none⟩) (Kd.R_types HO279.out BK286.out (by decide)) (fun _ hk => hk.2) (.int .i64 t280)) (fun _ hk => hk.2) (.int .i64 t281)) (fun _ hk => hk.2) (.slice Ao43 t282.length co43)) (fun _ h_ => h_.1))) hb); replace HO284 := Aside0.mk (Kd.V_below (by (with_reducible repeat (first | apply Kd.V_alloc | apply Kd.V_drewN | apply Kd.V_drew)); exact (Kd.V_mono (Kd.V_far (p := ⟨gb286, 2, none⟩) (Kd.V_far (p := ⟨gb286, 1, none⟩) (Kd.V_far (p := ⟨gb286, 0, none⟩) (Kd.V_mono HO284.out (fun k_ hk => (⟨hk, hk.2⟩ : _ ∧ k_ ≠ gb286))) (fun _ hk => hk.2) (.int .i64 t280)) (fun _ hk => hk.2) (.int .i64 t281)) (fun _ hk => hk.2) (.slice Ao43 t282.length co43)) (fun _ h_ => h_.1))) hb); replace BK274 := Aside0.mk (blk_below (hf_ BK274.out NB274_286.out) hb); replace BK286 := Aside0.mk (blk_below (g := gb286) (o := .cells #[.int .i64 t280, .int .i64 t281, .slice Ao43 t282.length co43] 24 (0, 0)) (by (with_reducible repeat (first | refine blk_drewN ?_ _ | refine blk_drew ?_ | refine blk_alloc ?_ _)); refine blk_put (cs := #[.int .i64 t280, .int .i64 t281, .slice none 0 0]) ?_ 2 _ rfl; (with_reducible repeat (first | refine blk_drewN ?_ _ | refine blk_drew ?_ | refine blk_alloc ?_ _)); refine blk_put (cs := #[.int .i64 t280, .int .i64 0, .slice none 0 0]) ?_ 1 _ rfl; (with_reducible repeat (first | refine blk_drewN ?_ _ | refine blk_drew ?_ | refine blk_alloc ?_ _)); refine blk_put (cs := #[.int .i64 0, .int .i64 0, .slice none 0 0]) ?_ 0 _ rfl; (with_reducible repeat (first | refine blk_drewN ?_ _ | refine blk_drew ?_ | refine blk_alloc ?_ _)); exact BK286.out) hb); replace HB := Aside0.mk (below_step bp_ hb); (try clear hb); (try clear hb2); (try clear hk); (try clear hi)))
           go_roundg k2
           case measure => have := HJ2.out; have := HK2.out; omega
           case rel => exact ⟨(wrap64 (x9_2 + 1)), (by first | rfl | (simp; done) | (simp [*]; done)), H', ⟨by have := HJ2.out; have := HK2.out; omega⟩, ⟨by (with_reducible repeat (first | apply Kd.V_alloc | apply Kd.V_drewN | apply Kd.V_drew)); exact Kd.V_mono HO_275002.out (fun _ hk => hk.1.1)⟩, ⟨hp_ BK274.out⟩, ⟨bp_⟩⟩
       · rw [if_neg c23] at H
         have c23b0 : decide (x9_2 < 8) = false := decide_eq_false c23
         clear c23
         obtain rfl := Option.some.inj H
         go_wp2
         go_ret
         exact ⟨by first | rfl | (simp [errW_none, errW_some] <;> rfl) | (simp [*, errW_none, errW_some] <;> rfl), bp_⟩

/-! ### chequerref04_Back: function 27 -/
def chequerref04_Back.l0 : Nat → Int → Int → Option (Int)
  | 0, _, _ => none
  | k + 1, x0, x3 => if x3 < 8 then ((chequerref04_Then.f k x0 x3).bind fun t288 => (if t288 = 0 then (some x3) else (chequerref04_Back.l0 k x0 (wrap64 (x3 + 1))))) else (some (-1))
def chequerref04_Back.f (k : Nat) (a0 : Int) : Option (Int) := chequerref04_Back.l0 k a0 0
theorem chequerref04_Back.mono_l : ∀ k, (∀ y0 y1, LeO (chequerref04_Back.l0 k y0 y1) (chequerref04_Back.l0 (k + 1) y0 y1))
  | 0 => fun _ _ r h => by simp [chequerref04_Back.l0] at h
  | k + 1 => by
    have ih0 := chequerref04_Back.mono_l k
    · intro y0 y1
      unfold chequerref04_Back.l0
      repeat' first
      | (with_reducible exact ih0 _ _)
      | (with_reducible exact chequerref04_Then.mono _ _ _)
      | (with_reducible exact LeO.refl _)
      | (with_reducible exact LeO.none _)
      | (with_reducible refine LeO.ite ?_ ?_)
      | (with_reducible refine LeO.bind ?_ (fun _ => ?_))
      | exact ih0 _ _
      | exact chequerref04_Then.mono _ _ _
      | exact LeO.none _
      | refine LeO.ite ?_ ?_
      | refine LeO.bind ?_ (fun _ => ?_)
theorem chequerref04_Back.mono : ∀ a0 k, LeO (chequerref04_Back.f k a0) (chequerref04_Back.f (k + 1) a0) := by
  intro a0 k
  have ih0 := chequerref04_Back.mono_l k
  unfold chequerref04_Back.f
  repeat' first
      | (with_reducible exact ih0 _ _)
      | (with_reducible exact chequerref04_Then.mono _ _ _)
      | (with_reducible exact LeO.refl _)
      | (with_reducible exact LeO.none _)
      | (with_reducible refine LeO.ite ?_ ?_)
      | (with_reducible refine LeO.bind ?_ (fun _ => ?_))
      | exact ih0 _ _
      | exact chequerref04_Then.mono _ _ _
      | exact LeO.none _
      | refine LeO.ite ?_ ?_
      | refine LeO.bind ?_ (fun _ => ?_)
set_option maxHeartbeats 8000000 in
set_option maxRecDepth 100000 in
theorem chequerref04_Back.calls (k : Nat) (a0 : Int) (r : Int) (w : World) (h : chequerref04_Back.f k a0 = some r) :
    Calls Try.prog 27 #[.int .i64 a0] w fun e w' => e = .returned (.int .i64 r) ∧ Below w.heap.size w w' := by
  have HB := Aside0.mk (Below.refl w.heap.size w)
  have H : (chequerref04_Back.l0 k a0 0) = some r := h
  clear h
  have H' := Aside0.mk H
  clear H
  go_enter Try.func27, Try.ntmps27
  go_wp2
  go_loopg [3] k (fun kq v3 w' => ∃ (x3_1 : Int), v3 = .int .i64 x3_1 ∧ Aside0 (chequerref04_Back.l0 kq a0 x3_1 = some r) ∧ Aside0 (kq ≤ k) ∧ Aside0 (Below w.heap.size w w'))
  case atStart => exact ⟨(0), (by first | rfl | (simp; done) | (simp [*]; done)), H', ⟨Nat.le_refl _⟩, ⟨by repeat (first | (with_reducible first | exact HB.out | apply below_alloc | apply pw_below_drewN | apply below_drew1) | exact HB.out)⟩⟩
  case round =>
    clear H'
    obtain ⟨x3_1, rfl, HA, HK1, HB⟩ := hrel
    cases gk with
    | zero => exact absurd HA.out (by simp [chequerref04_Back.l0])
    | succ k1 =>
      have H := HA.out
      clear HA
      simp only [chequerref04_Back.l0] at H
      by_cases c2 : x3_1 < 8
      · rw [if_pos c2] at H
        have c2b0 : decide (x3_1 < 8) = true := decide_eq_true c2
        clear c2
        replace H := Option.bind_eq_some_iff.mp H
        obtain ⟨t288, A30, H⟩ := H
        replace H : (if t288 = 0 then (some x3_1) else (chequerref04_Back.l0 k1 a0 (wrap64 (x3_1 + 1)))) = some r := H
        have A3 := Aside0.mk A30
        clear A30
        by_cases c4 : t288 = 0
        · rw [if_pos c4] at H
          have c4b0 : (t288 == 0) = true := beq_iff_eq.mpr c4
          have c4b1 : (t288 != 0) = false := bne_eq_false_iff_eq.mpr c4
          clear c4
          obtain rfl := Option.some.inj H
          go_wp2_with (first | ((with_reducible refine gate_callee (f := 26) rfl ?_); refine goesL_ (some 10) rfl rfl Try.func26 (by kernel_rfl) rfl #[.int .i64 a0, .int .i64 x3_1] rfl (by (try simp only [List.map_toArray, List.map_cons, List.map_nil]); first | done | rfl | (simp only [List.length_drop, List.length_take]; rfl)) ?_; (with_reducible refine (chequerref04_Then.calls k1 a0 x3_1 t288 _ A3.out).mono ?_); rintro e w5 ⟨rfl, hb⟩; refine ⟨_, rfl, ?_⟩; have n0_ := Aside0.mk (below_step (by repeat (first | (with_reducible first | exact HB.out | apply below_alloc | apply pw_below_drewN | apply below_drew1) | exact HB.out)) hb); clear HB; have HB := n0_; clear n0_; (try clear hb); (try clear hb2); (try clear hk); (try clear hi)))
          go_ret
          exact ⟨by first | rfl | (simp [errW_none, errW_some] <;> rfl) | (simp [*, errW_none, errW_some] <;> rfl), by repeat (first | (with_reducible first | exact HB.out | apply below_alloc | apply pw_below_drewN | apply below_drew1) | exact HB.out)⟩
        · rw [if_neg c4] at H
          have c4b0 : (t288 == 0) = false := beq_eq_false_iff_ne.mpr c4
          have c4b1 : (t288 != 0) = true := bne_iff_ne.mpr c4
          have H' := Aside0.mk H
          clear H
          go_wp2_with (first | ((with_reducible refine gate_callee (f := 26) rfl ?_); refine goesL_ (some 10) rfl rfl Try.func26 (by kernel_rfl) rfl #[.int .i64 a0, .int .i64 x3_1] rfl (by (try simp only [List.map_toArray, List.map_cons, List.map_nil]); first | done | rfl | (simp only [List.length_drop, List.length_take]; rfl)) ?_; (with_reducible refine (chequerref04_Then.calls k1 a0 x3_1 t288 _ A3.out).mono ?_); rintro e w6 ⟨rfl, hb⟩; refine ⟨_, rfl, ?_⟩; have n0_ := Aside0.mk (below_step (by repeat (first | (with_reducible first | exact HB.out | apply below_alloc | apply pw_below_drewN | apply below_drew1) | exact HB.out)) hb); clear HB; have HB := n0_; clear n0_; (try clear hb); (try clear hb2); (try clear hk); (try clear hi)))
          go_roundg k1
          case measure => have := HK1.out; omega
          case rel => exact ⟨(wrap64 (x3_1 + 1)), (by first | rfl | (simp; done) | (simp [*]; done)), H', ⟨by have := HK1.out; omega⟩, ⟨by repeat (first | (with_reducible first | exact HB.out | apply below_alloc | apply pw_below_drewN | apply below_drew1) | exact HB.out)⟩⟩
      · rw [if_neg c2] at H
        have c2b0 : decide (x3_1 < 8) = false := decide_eq_false c2
        clear c2
        obtain rfl := Option.some.inj H
        go_wp2
        go_ret
        exact ⟨by first | rfl | (simp [errW_none, errW_some] <;> rfl) | (simp [*, errW_none, errW_some] <;> rfl), by repeat (first | (with_reducible first | exact HB.out | apply below_alloc | apply pw_below_drewN | apply below_drew1) | exact HB.out)⟩

end Go.Proofs.Ytehjnekljodmgaa.Q
