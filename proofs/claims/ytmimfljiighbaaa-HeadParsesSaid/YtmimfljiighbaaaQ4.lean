-- written by our own program (wip/tools/myprint.py) out of the translation, by the kit's print; Lean checks it
import Derived.Test.YtmimfljiighbaaaQ0
namespace Go.Proofs.Ytmimfljiighbaaa.Q
open Go.RowKit Go.Proofs.YtmimfljiighbaaaW.PrintWords Go.Proofs.YtmimfljiighbaaaW.PrintLast Go.Proofs.YtmimfljiighbaaaW.PrintMore
attribute [local go_sem] max2_int min2_int max_two min_two max_three min_three max_four min_four   -- for this text's walks alone
set_option linter.unusedVariables false
set_option linter.unusedSimpArgs false

/-! ### chequerref05_Few: function 9 -/
def chequerref05_Few.f (a0 : ByteArray) (a1 : Int) : Option (ByteArray) := if (a0.size : Int) > a1 then (if 0 ≤ a1 then (if a1 ≤ (a0.size : Int) then (some (a0.extract 0 (a1 : Int).toNat)) else (none)) else (none)) else (some a0)
set_option maxHeartbeats 8000000 in
set_option maxRecDepth 100000 in
theorem chequerref05_Few.calls (a0 : ByteArray) (a1 : Int) (r : ByteArray) (w : World) (h : chequerref05_Few.f a0 a1 = some r) :
    Calls Try.prog 9 #[.string a0, .int .i64 a1] w fun e w' => e = .returned (.string r) ∧ Drawn0 w w' := by
  have H : (if (a0.size : Int) > a1 then (if 0 ≤ a1 then (if a1 ≤ (a0.size : Int) then (some (a0.extract 0 (a1 : Int).toNat)) else (none)) else (none)) else (some a0)) = some r := h
  clear h
  by_cases c3 : (a0.size : Int) > a1
  · rw [if_pos c3] at H
    have c3b0 : decide (a1 < (a0.size : Int)) = true := decide_eq_true c3
    clear c3
    by_cases c4 : 0 ≤ a1
    · rw [if_pos c4] at H; have c4b0 := eq_true c4
      have c4b1 : decide (0 ≤ a1) = true := decide_eq_true c4
      clear c4
      by_cases c5 : a1 ≤ (a0.size : Int)
      · rw [if_pos c5] at H; have c5b0 := eq_true c5
        have c5b1 : decide (a1 ≤ (a0.size : Int)) = true := decide_eq_true c5
        clear c5
        obtain rfl := Option.some.inj H
        go_enter Try.func9, Try.ntmps9
        go_wp2
        go_ret
        exact ⟨by first | rfl | (simp; done) | (simp [*]; done), by repeat (first | exact Drawn0.refl _ | apply Drawn0.step)⟩
      rw [if_neg c5] at H
      exact absurd H (by simp)
    rw [if_neg c4] at H
    exact absurd H (by simp)
  rw [if_neg c3] at H
  have c3b0 : decide (a1 < (a0.size : Int)) = false := decide_eq_false c3
  clear c3
  obtain rfl := Option.some.inj H
  go_enter Try.func9, Try.ntmps9
  go_wp2
  go_ret
  exact ⟨by first | rfl | (simp; done) | (simp [*]; done), by repeat (first | exact Drawn0.refl _ | apply Drawn0.step)⟩

/-! ### chequerref01_Decimal: function 18 -/
mutual
def chequerref01_Decimal.j0 : Nat → Int → Int → Option (ByteArray)
  | 0, _, _ => none
  | k + 1, x0, x3 => (some (([(wrap64 (48 + x3)) % 256] : List Int) : List Int)).bind fun y101 => (if x0 > (-10) then (chequerref01_Decimal.j1 k x0 (strOfNums y101) (decide (x0 < 10))) else (chequerref01_Decimal.j1 k x0 (strOfNums y101) false))
def chequerref01_Decimal.j1 : Nat → Int → ByteArray → Bool → Option (ByteArray)
  | 0, _, _, _ => none
  | k + 1, x0, x4, x21 => if x21 = true then (if x0 < 0 then (if 1 + x4.size ≤ 9223372036854775807 then (some ((⟨#[45]⟩ : ByteArray) ++ x4)) else (none)) else (some x4)) else ((chequerref01_Decimal.f k (wrap64 (Int.tdiv x0 10))).bind fun t104 => (if t104.size + x4.size ≤ 9223372036854775807 then (some (t104 ++ x4)) else (none)))
def chequerref01_Decimal.f : Nat → Int → Option (ByteArray)
  | 0, _ => none
  | k + 1, a0 => if (Int.tmod a0 10) < 0 then (chequerref01_Decimal.j0 k a0 (wrap64 (-(Int.tmod a0 10)))) else (chequerref01_Decimal.j0 k a0 (Int.tmod a0 10))
end
theorem chequerref01_Decimal.mono_l : ∀ k, (∀ y0, LeO (chequerref01_Decimal.f k y0) (chequerref01_Decimal.f (k + 1) y0)) ∧ (∀ y0 y1, LeO (chequerref01_Decimal.j0 k y0 y1) (chequerref01_Decimal.j0 (k + 1) y0 y1)) ∧ (∀ y0 y1 y2, LeO (chequerref01_Decimal.j1 k y0 y1 y2) (chequerref01_Decimal.j1 (k + 1) y0 y1 y2))
  | 0 => ⟨fun _ r h => by simp [chequerref01_Decimal.f] at h, fun _ _ r h => by simp [chequerref01_Decimal.j0] at h, fun _ _ _ r h => by simp [chequerref01_Decimal.j1] at h⟩
  | k + 1 => by
    obtain ⟨ih0, ih1, ih2⟩ := chequerref01_Decimal.mono_l k
    refine ⟨?_, ?_, ?_⟩
    · intro y0
      unfold chequerref01_Decimal.f
      repeat' first
      | (with_reducible exact ih0 _)
      | (with_reducible exact ih1 _ _)
      | (with_reducible exact ih2 _ _ _)
      | (with_reducible exact LeO.refl _)
      | (with_reducible exact LeO.none _)
      | (with_reducible refine LeO.ite ?_ ?_)
      | (with_reducible refine LeO.bind ?_ (fun _ => ?_))
      | exact ih0 _
      | exact ih1 _ _
      | exact ih2 _ _ _
      | exact LeO.none _
      | refine LeO.ite ?_ ?_
      | refine LeO.bind ?_ (fun _ => ?_)
    · intro y0 y1
      unfold chequerref01_Decimal.j0
      repeat' first
      | (with_reducible exact ih0 _)
      | (with_reducible exact ih1 _ _)
      | (with_reducible exact ih2 _ _ _)
      | (with_reducible exact LeO.refl _)
      | (with_reducible exact LeO.none _)
      | (with_reducible refine LeO.ite ?_ ?_)
      | (with_reducible refine LeO.bind ?_ (fun _ => ?_))
      | exact ih0 _
      | exact ih1 _ _
      | exact ih2 _ _ _
      | exact LeO.none _
      | refine LeO.ite ?_ ?_
      | refine LeO.bind ?_ (fun _ => ?_)
    intro y0 y1 y2
    unfold chequerref01_Decimal.j1
    repeat' first
    | (with_reducible exact ih0 _)
    | (with_reducible exact ih1 _ _)
    | (with_reducible exact ih2 _ _ _)
    | (with_reducible exact LeO.refl _)
    | (with_reducible exact LeO.none _)
    | (with_reducible refine LeO.ite ?_ ?_)
    | (with_reducible refine LeO.bind ?_ (fun _ => ?_))
    | exact ih0 _
    | exact ih1 _ _
    | exact ih2 _ _ _
    | exact LeO.none _
    | refine LeO.ite ?_ ?_
    | refine LeO.bind ?_ (fun _ => ?_)
theorem chequerref01_Decimal.mono : ∀ a0 k, LeO (chequerref01_Decimal.f k a0) (chequerref01_Decimal.f (k + 1) a0) := by
  intro a0 k
  obtain ⟨ih0, ih1, ih2⟩ := chequerref01_Decimal.mono_l k
  exact ih0 a0
set_option maxHeartbeats 8000000 in
set_option maxRecDepth 100000 in
theorem chequerref01_Decimal.calls (k : Nat) : ∀ (a0 : Int) (r : ByteArray) (w : World) (h : chequerref01_Decimal.f k a0 = some r),
    Calls Try.prog 18 #[.int .i64 a0] w fun e w' => e = .returned (.string r) ∧ Below w.heap.size w w' := by
  induction k using Nat.strongRecOn with
  | _ k ih =>
  intro a0 r w h
  cases k with
  | zero => exact absurd h (by simp [chequerref01_Decimal.f])
  | succ k =>
  simp only [chequerref01_Decimal.f] at h
  have HB := Aside0.mk (Below.refl w.heap.size w)
  have H : (if (Int.tmod a0 10) < 0 then (chequerref01_Decimal.j0 k a0 (wrap64 (-(Int.tmod a0 10)))) else (chequerref01_Decimal.j0 k a0 (Int.tmod a0 10))) = some r := h
  clear h
  have HC2 := Aside0.mk H
  clear H
  go_enter Try.func18, Try.ntmps18
  go_upto_if 8 with (fail)
  go_cut [3] (fun v3 wc => ∃ (kq : Nat) (x3_1 : Int), v3 = .int .i64 x3_1 ∧ Aside0 (chequerref01_Decimal.j0 kq a0 x3_1 = some r) ∧ Aside0 (kq ≤ k) ∧ Aside0 (Below w.heap.size w wc))
  case first =>
    have H := HC2.out; clear HC2
    by_cases c3 : (Int.tmod a0 10) < 0
    · rw [if_pos c3] at H
      have c3b0 : decide ((Int.tmod a0 10) < 0) = true := decide_eq_true c3
      clear c3
      (first | rw [c3b0] | (simp only [i64_w, i32_w]; rw [c3b0]) | skip)
      have H' := Aside0.mk H
      clear H
      go_wp2
      go_meet
      case rel => exact ⟨_, (wrap64 (-(Int.tmod a0 10))), (by first | rfl | (simp; done) | (simp [*]; done)), H', ⟨by first | omega | exact Nat.le_refl _⟩, ⟨by repeat (first | (with_reducible first | exact HB.out | apply below_alloc | apply pw_below_drewN | apply below_drew1) | exact HB.out)⟩⟩
    rw [if_neg c3] at H
    have c3b0 : decide ((Int.tmod a0 10) < 0) = false := decide_eq_false c3
    clear c3
    (first | rw [c3b0] | (simp only [i64_w, i32_w]; rw [c3b0]) | skip)
    have H' := Aside0.mk H
    clear H
    go_wp2
    go_meet
    case rel => exact ⟨_, (Int.tmod a0 10), (by first | rfl | (simp; done) | (simp [*]; done)), H', ⟨by first | omega | exact Nat.le_refl _⟩, ⟨by repeat (first | (with_reducible first | exact HB.out | apply below_alloc | apply pw_below_drewN | apply below_drew1) | exact HB.out)⟩⟩
  case rest =>
    clear HC2
    try clear c1
    try clear p2
    try clear c3
    try clear c3b0
    obtain ⟨kq, x3_1, rfl, HA, HJ1, HB⟩ := hcut
    cases kq with
    | zero => exact absurd HA.out (by simp [chequerref01_Decimal.j0])
    | succ kj1 =>
      have H := HA.out; clear HA; simp only [chequerref01_Decimal.j0] at H
      obtain ⟨y101, hy101⟩ : ∃ y_ : List Int, y_ = (([(wrap64 (48 + x3_1)) % 256] : List Int)) := ⟨_, rfl⟩
      replace H : (if a0 > (-10) then (chequerref01_Decimal.j1 kj1 a0 (strOfNums y101) (decide (a0 < 10))) else (chequerref01_Decimal.j1 kj1 a0 (strOfNums y101) false)) = some r := by first | (rw [hy101]; with_reducible exact H) | (have H2_ := (Option.bind_some _ _).symm.trans H; rw [hy101]; with_reducible exact H2_) | (have H2_ := (Option.bind_some _ _).symm.trans H; with_reducible exact H2_) | with_reducible exact H | (rw [hy101]; exact H) | exact H
      have Ny101 := Aside0.mk hy101; clear hy101; have HC4 := Aside0.mk H; clear H
      go_upto_region 5 with (first | ((with_reducible refine gate_dst (N := 14) rfl ?_); refine Kd.R_lit (Kd.int .u8) _ 5 ?hg (N := 14) ?hd (xs := ([(wrap64 (48 + x3_1)) % 256] : List Int)) (inner := [.int .u8 ((wrap64 (48 + x3_1)) % 256)]) (ok := fun _ => True) (okp := fun _ => True) ?hr ?hp (fun _ hk => hk) trivial (Below.refl _ _) (Nat.le_refl _) (by simp) ?_; (case hd => rfl); (case hg => rfl); (case hr => first | (go_simp; done) | (go_simp; rfl)); (case hp => exact (Reps.one (show Kd.M (Kd.int .u8) _ _ _ ((wrap64 (48 + x3_1)) % 256) [.int .u8 ((wrap64 (48 + x3_1)) % 256)] from rfl) (Reps.none _ _))); intro v102 w5 ho6 hb hg_ hnew_; clear hg_ hnew_; (first | rw [← Ny101.out] at ho6 | (simp only [Int.reduceToNat] at ho6; rw [← Ny101.out] at ho6)); have n0_ := Aside0.mk (Kd.R_lower ho6 (below_size (by repeat (first | (with_reducible first | exact HB.out | apply below_alloc | apply pw_below_drewN | apply below_drew1) | exact HB.out)))); have n1_ := Aside0.mk (below_step (by repeat (first | (with_reducible first | exact HB.out | apply below_alloc | apply pw_below_drewN | apply below_drew1) | exact HB.out)) hb); clear HB; have HO103 := n0_; have HB := n1_; clear n0_ n1_; clear hb ho6; have hcv7 := own_string (P := Try.prog) Try.underlying33 Try.underlying5 Try.underlying9 (Kd.own_of_R HO103.out)))
      (try simp only [Act.put, List.setIfInBounds_toArray, List.set_cons_zero, List.set_cons_succ])
      go_cut [21] (fun v21 wc => ∃ (kq : Nat) (x21_3 : Bool), v21 = .bool x21_3 ∧ Aside0 (chequerref01_Decimal.j1 kq a0 (strOfNums y101) x21_3 = some r) ∧ Aside0 (kq ≤ kj1) ∧ Aside0 (Below w.heap.size w wc))
      case first =>
        have H := HC4.out; clear HC4
        by_cases c8 : a0 > (-10)
        · rw [if_pos c8] at H
          have c8b0 : decide ((-10) < a0) = true := decide_eq_true c8
          clear c8
          (first | rw [c8b0] | (simp only [i64_w, i32_w]; rw [c8b0]) | skip)
          have H' := Aside0.mk H
          clear H
          go_wp2
          go_meet
          case rel => exact ⟨_, (decide (a0 < 10)), (by first | rfl | (simp; done) | (simp [*]; done)), H', ⟨by have := HJ1.out; first | omega | exact Nat.le_refl _⟩, ⟨by repeat (first | (with_reducible first | exact HB.out | apply below_alloc | apply pw_below_drewN | apply below_drew1) | exact HB.out)⟩⟩
        rw [if_neg c8] at H
        have c8b0 : decide ((-10) < a0) = false := decide_eq_false c8
        clear c8
        (first | rw [c8b0] | (simp only [i64_w, i32_w]; rw [c8b0]) | skip)
        have H' := Aside0.mk H
        clear H
        go_wp2
        go_meet
        case rel => exact ⟨_, (false), (by first | rfl | (simp; done) | (simp [*]; done)), H', ⟨by have := HJ1.out; first | omega | exact Nat.le_refl _⟩, ⟨by repeat (first | (with_reducible first | exact HB.out | apply below_alloc | apply pw_below_drewN | apply below_drew1) | exact HB.out)⟩⟩
      case rest =>
        clear HC4
        try clear c1
        try clear p2
        try clear c3
        try clear c3b0
        try clear p6
        try clear hcv7
        try clear c8
        try clear c8b0
        try clear p2
        obtain ⟨kq, x21_3, rfl, HA, HJ3, HB⟩ := hcut
        cases kq with
        | zero => exact absurd HA.out (by simp [chequerref01_Decimal.j1])
        | succ kj3 =>
          have H := HA.out; clear HA; simp only [chequerref01_Decimal.j1] at H
          by_cases c9 : x21_3 = true
          · subst c9
            have H1 : (if a0 < 0 then (if 1 + (strOfNums y101).size ≤ 9223372036854775807 then (some ((⟨#[45]⟩ : ByteArray) ++ (strOfNums y101))) else (none)) else (some (strOfNums y101))) = some r := by rw [if_pos rfl] at H; exact H
            clear H; have H := H1; clear H1
            by_cases c10 : a0 < 0
            · rw [if_pos c10] at H
              have c10b0 : decide (a0 < 0) = true := decide_eq_true c10
              clear c10
              by_cases c11 : 1 + (strOfNums y101).size ≤ 9223372036854775807
              · rw [if_pos c11] at H; have c11b0 := eq_true c11
                have c11b1 : decide (1 + (strOfNums y101).size ≤ 9223372036854775807) = true := decide_eq_true c11
                try have c11b2 : (9223372036854775807 < 1 + (strOfNums y101).size) = False := eq_false (Nat.not_lt.2 c11)
                obtain rfl := Option.some.inj H
                go_wp2
                go_ret
                exact ⟨by first | rfl | (simp [errW_none, errW_some] <;> rfl) | (simp [*, errW_none, errW_some] <;> rfl), by repeat (first | (with_reducible first | exact HB.out | apply below_alloc | apply pw_below_drewN | apply below_drew1) | exact HB.out)⟩
              rw [if_neg c11] at H
              exact absurd H (by simp)
            rw [if_neg c10] at H
            have c10b0 : decide (a0 < 0) = false := decide_eq_false c10
            clear c10
            obtain rfl := Option.some.inj H
            go_wp2
            go_ret
            exact ⟨by first | rfl | (simp [errW_none, errW_some] <;> rfl) | (simp [*, errW_none, errW_some] <;> rfl), by repeat (first | (with_reducible first | exact HB.out | apply below_alloc | apply pw_below_drewN | apply below_drew1) | exact HB.out)⟩
          replace c9 := Bool.eq_false_iff.mpr c9; subst c9
          have H1 : ((chequerref01_Decimal.f kj3 (wrap64 (Int.tdiv a0 10))).bind fun t104 => (if t104.size + (strOfNums y101).size ≤ 9223372036854775807 then (some (t104 ++ (strOfNums y101))) else (none))) = some r := by rw [if_neg (show ¬ (false = true) by decide)] at H; exact H
          clear H; have H := H1; clear H1; replace H := Option.bind_eq_some_iff.mp H; obtain ⟨t104, A120, H⟩ := H
          replace H : (if t104.size + (strOfNums y101).size ≤ 9223372036854775807 then (some (t104 ++ (strOfNums y101))) else (none)) = some r := H
          have A12 := Aside0.mk A120; clear A120
          by_cases c13 : t104.size + (strOfNums y101).size ≤ 9223372036854775807
          · rw [if_pos c13] at H; have c13b0 := eq_true c13
            have c13b1 : decide (t104.size + (strOfNums y101).size ≤ 9223372036854775807) = true := decide_eq_true c13
            try have c13b2 : (9223372036854775807 < t104.size + (strOfNums y101).size) = False := eq_false (Nat.not_lt.2 c13)
            obtain rfl := Option.some.inj H
            go_wp2_with (first | ((with_reducible refine gate_callee (f := 18) rfl ?_); refine goesL_ (some 29) rfl rfl Try.func18 (by kernel_rfl) rfl #[.int .i64 (wrap64 (Int.tdiv a0 10))] rfl (by (try simp only [List.map_toArray, List.map_cons, List.map_nil]); first | done | rfl | (simp only [List.length_drop, List.length_take]; rfl)) ?_; (with_reducible refine (ih kj3 (by have := HJ1.out; have := HJ3.out; omega) (wrap64 (Int.tdiv a0 10)) t104 _ A12.out).mono ?_); rintro e w14 ⟨rfl, hb⟩; refine ⟨_, rfl, ?_⟩; have n0_ := Aside0.mk (below_step (by repeat (first | (with_reducible first | exact HB.out | apply below_alloc | apply pw_below_drewN | apply below_drew1) | exact HB.out)) hb); clear HB; have HB := n0_; clear n0_; (try clear hb); (try clear hb2); (try clear hk); (try clear hi)))
            go_ret
            exact ⟨by first | rfl | (simp [errW_none, errW_some] <;> rfl) | (simp [*, errW_none, errW_some] <;> rfl), by repeat (first | (with_reducible first | exact HB.out | apply below_alloc | apply pw_below_drewN | apply below_drew1) | exact HB.out)⟩
          rw [if_neg c13] at H
          exact absurd H (by simp)

/-! ### chequerref06_bits: function 32 -/
def chequerref06_bits.f (a0 : Int) : Option (Bool) := if a0 = 1 then (some true) else (some (a0 == 4))
set_option maxHeartbeats 8000000 in
set_option maxRecDepth 100000 in
theorem chequerref06_bits.calls (a0 : Int) (r : Bool) (w : World) (h : chequerref06_bits.f a0 = some r) :
    Calls Try.prog 32 #[.int .i64 a0] w fun e w' => e = .returned (.bool r) ∧ Drawn0 w w' := by
  have H : (if a0 = 1 then (some true) else (some (a0 == 4))) = some r := h
  clear h
  by_cases c2 : a0 = 1
  · rw [if_pos c2] at H
    have c2b0 : (a0 == 1) = true := beq_iff_eq.mpr c2
    have c2b1 : (a0 != 1) = false := bne_eq_false_iff_eq.mpr c2
    clear c2
    obtain rfl := Option.some.inj H
    go_enter Try.func32, Try.ntmps32
    go_wp2
    go_ret
    exact ⟨by first | rfl | (simp; done) | (simp [*]; done), by repeat (first | exact Drawn0.refl _ | apply Drawn0.step)⟩
  rw [if_neg c2] at H
  have c2b0 : (a0 == 1) = false := beq_eq_false_iff_ne.mpr c2
  have c2b1 : (a0 != 1) = true := bne_iff_ne.mpr c2
  obtain rfl := Option.some.inj H
  go_enter Try.func32, Try.ntmps32
  go_wp2
  go_ret
  exact ⟨by first | rfl | (simp; done) | (simp [*]; done), by repeat (first | exact Drawn0.refl _ | apply Drawn0.step)⟩


/-! ### chequerref06_May: function 31 -/
def chequerref06_May.f (a0_0 : Int) (a0_1 : Int) (a0_2 : Int) (a0_3 : Int) : Option (Bool) := if a0_0 < 1 then (some false) else (if a0_0 > 6 then (some false) else (if a0_1 < 1 then (some false) else (if a0_1 > 4096 then (some false) else (if a0_2 < 1 then (some false) else (if a0_2 > 65536 then (some false) else (if a0_3 < 1 then (some false) else (if a0_3 > 65535 then (some false) else (if a0_3 = 1 then (some true) else ((chequerref06_bits.f a0_0).bind fun t106 => (some (!t106)))))))))))
set_option maxHeartbeats 8000000 in
set_option maxRecDepth 100000 in
theorem chequerref06_May.calls (a0_0 : Int) (a0_1 : Int) (a0_2 : Int) (a0_3 : Int) (r : Bool) (w : World) (h : chequerref06_May.f a0_0 a0_1 a0_2 a0_3 = some r) :
 Calls Try.prog 31 #[.agg #[.int .i64 a0_0, .int .i64 a0_1, .int .i64 a0_2, .int .i64 a0_3]] w fun e w' => e = .returned (.bool r) ∧ Below w.heap.size w w' := by
 have hu25 := Try.underlying25
 have HB := Aside0.mk (Below.refl w.heap.size w)
 have H : (if a0_0 < 1 then (some false) else (if a0_0 > 6 then (some false) else (if a0_1 < 1 then (some false) else (if a0_1 > 4096 then (some false) else (if a0_2 < 1 then (some false) else (if a0_2 > 65536 then (some false) else (if a0_3 < 1 then (some false) else (if a0_3 > 65535 then (some false) else (if a0_3 = 1 then (some true) else ((chequerref06_bits.f a0_0).bind fun t106 => (some (!t106)))))))))))) = some r := h
 clear h
 by_cases c2 : a0_0 < 1
 · rw [if_pos c2] at H
   have c2b0 : decide (a0_0 < 1) = true := decide_eq_true c2
   clear c2
   obtain rfl := Option.some.inj H
   go_enter Try.func31, Try.ntmps31
   go_wp2_with (first | ((with_reducible refine gate_dst (N := 1) rfl ?_); refine box_event ?hg (N := 1) ?hd (cs := #[.int .i64 a0_0, .int .i64 a0_1, .int .i64 a0_2, .int .i64 a0_3]) (t := 25) ?hr ?_; (case hd => rfl); (case hg => rfl); (case hr => first | (go_simp; done) | (go_simp; rfl)); intro gb105 hg w3 hbox hb; have BK105 := Aside0.mk (hbox); have GW105 := Aside0.mk ((by rw [hg]; exact (below_size bp_) : w.heap.size ≤ gb105)); have GE105 := Aside0.mk ((by rw [hg]; exact (below_size bp_) : w.heap.size ≤ gb105)); replace HB := Aside0.mk (below_step bp_ hb); clear hb hbox hg; have hcz4_0 : w3.cell? ⟨gb105, 0, none⟩ = some (.int .i64 a0_0) := (blk_cell BK105.out 0).trans rfl; have hcz4_1 : w3.cell? ⟨gb105, 1, none⟩ = some (.int .i64 a0_1) := (blk_cell BK105.out 1).trans rfl; have hcz4_2 : w3.cell? ⟨gb105, 2, none⟩ = some (.int .i64 a0_2) := (blk_cell BK105.out 2).trans rfl; have hcz4_3 : w3.cell? ⟨gb105, 3, none⟩ = some (.int .i64 a0_3) := (blk_cell BK105.out 3).trans rfl; have hfz4_0 := blk_frozen BK105.out 0; have hfz4_1 := blk_frozen BK105.out 1; have hfz4_2 := blk_frozen BK105.out 2; have hfz4_3 := blk_frozen BK105.out 3))
   go_ret
   exact ⟨by first | rfl | (simp [errW_none, errW_some] <;> rfl) | (simp [*, errW_none, errW_some] <;> rfl), bp_⟩
 rw [if_neg c2] at H
 have c2b0 : decide (a0_0 < 1) = false := decide_eq_false c2
 clear c2
 by_cases c5 : a0_0 > 6
 · rw [if_pos c5] at H
   have c5b0 : decide (6 < a0_0) = true := decide_eq_true c5
   clear c5
   obtain rfl := Option.some.inj H
   go_enter Try.func31, Try.ntmps31
   go_wp2_with (first | ((with_reducible refine gate_dst (N := 1) rfl ?_); refine box_event ?hg (N := 1) ?hd (cs := #[.int .i64 a0_0, .int .i64 a0_1, .int .i64 a0_2, .int .i64 a0_3]) (t := 25) ?hr ?_; (case hd => rfl); (case hg => rfl); (case hr => first | (go_simp; done) | (go_simp; rfl)); intro gb105 hg w6 hbox hb; have BK105 := Aside0.mk (hbox); have GW105 := Aside0.mk ((by rw [hg]; exact (below_size bp_) : w.heap.size ≤ gb105)); have GE105 := Aside0.mk ((by rw [hg]; exact (below_size bp_) : w.heap.size ≤ gb105)); replace HB := Aside0.mk (below_step bp_ hb); clear hb hbox hg; have hcz7_0 : w6.cell? ⟨gb105, 0, none⟩ = some (.int .i64 a0_0) := (blk_cell BK105.out 0).trans rfl; have hcz7_1 : w6.cell? ⟨gb105, 1, none⟩ = some (.int .i64 a0_1) := (blk_cell BK105.out 1).trans rfl; have hcz7_2 : w6.cell? ⟨gb105, 2, none⟩ = some (.int .i64 a0_2) := (blk_cell BK105.out 2).trans rfl; have hcz7_3 : w6.cell? ⟨gb105, 3, none⟩ = some (.int .i64 a0_3) := (blk_cell BK105.out 3).trans rfl; have hfz7_0 := blk_frozen BK105.out 0; have hfz7_1 := blk_frozen BK105.out 1; have hfz7_2 := blk_frozen BK105.out 2; have hfz7_3 := blk_frozen BK105.out 3))
   go_ret
   exact ⟨by first | rfl | (simp [errW_none, errW_some] <;> rfl) | (simp [*, errW_none, errW_some] <;> rfl), bp_⟩
 rw [if_neg c5] at H
 have c5b0 : decide (6 < a0_0) = false := decide_eq_false c5
 clear c5
 by_cases c8 : a0_1 < 1
 · rw [if_pos c8] at H
   have c8b0 : decide (a0_1 < 1) = true := decide_eq_true c8
   clear c8
   obtain rfl := Option.some.inj H
   go_enter Try.func31, Try.ntmps31
   go_wp2_with (first | ((with_reducible refine gate_dst (N := 1) rfl ?_); refine box_event ?hg (N := 1) ?hd (cs := #[.int .i64 a0_0, .int .i64 a0_1, .int .i64 a0_2, .int .i64 a0_3]) (t := 25) ?hr ?_; (case hd => rfl); (case hg => rfl); (case hr => first | (go_simp; done) | (go_simp; rfl)); intro gb105 hg w9 hbox hb; have BK105 := Aside0.mk (hbox); have GW105 := Aside0.mk ((by rw [hg]; exact (below_size bp_) : w.heap.size ≤ gb105)); have GE105 := Aside0.mk ((by rw [hg]; exact (below_size bp_) : w.heap.size ≤ gb105)); replace HB := Aside0.mk (below_step bp_ hb); clear hb hbox hg; have hcz10_0 : w9.cell? ⟨gb105, 0, none⟩ = some (.int .i64 a0_0) := (blk_cell BK105.out 0).trans rfl; have hcz10_1 : w9.cell? ⟨gb105, 1, none⟩ = some (.int .i64 a0_1) := (blk_cell BK105.out 1).trans rfl; have hcz10_2 : w9.cell? ⟨gb105, 2, none⟩ = some (.int .i64 a0_2) := (blk_cell BK105.out 2).trans rfl; have hcz10_3 : w9.cell? ⟨gb105, 3, none⟩ = some (.int .i64 a0_3) := (blk_cell BK105.out 3).trans rfl; have hfz10_0 := blk_frozen BK105.out 0; have hfz10_1 := blk_frozen BK105.out 1; have hfz10_2 := blk_frozen BK105.out 2; have hfz10_3 := blk_frozen BK105.out 3))
   go_ret
   exact ⟨by first | rfl | (simp [errW_none, errW_some] <;> rfl) | (simp [*, errW_none, errW_some] <;> rfl), bp_⟩
 rw [if_neg c8] at H
 have c8b0 : decide (a0_1 < 1) = false := decide_eq_false c8
 clear c8
 by_cases c11 : a0_1 > 4096
 · rw [if_pos c11] at H
   have c11b0 : decide (4096 < a0_1) = true := decide_eq_true c11
   clear c11
   obtain rfl := Option.some.inj H
   go_enter Try.func31, Try.ntmps31
   go_wp2_with (first | ((with_reducible refine gate_dst (N := 1) rfl ?_); refine box_event ?hg (N := 1) ?hd (cs := #[.int .i64 a0_0, .int .i64 a0_1, .int .i64 a0_2, .int .i64 a0_3]) (t := 25) ?hr ?_; (case hd => rfl); (case hg => rfl); (case hr => first | (go_simp; done) | (go_simp; rfl)); intro gb105 hg w12 hbox hb; have BK105 := Aside0.mk (hbox); have GW105 := Aside0.mk ((by rw [hg]; exact (below_size bp_) : w.heap.size ≤ gb105)); have GE105 := Aside0.mk ((by rw [hg]; exact (below_size bp_) : w.heap.size ≤ gb105)); replace HB := Aside0.mk (below_step bp_ hb); clear hb hbox hg; have hcz13_0 : w12.cell? ⟨gb105, 0, none⟩ = some (.int .i64 a0_0) := (blk_cell BK105.out 0).trans rfl; have hcz13_1 : w12.cell? ⟨gb105, 1, none⟩ = some (.int .i64 a0_1) := (blk_cell BK105.out 1).trans rfl; have hcz13_2 : w12.cell? ⟨gb105, 2, none⟩ = some (.int .i64 a0_2) := (blk_cell BK105.out 2).trans rfl; have hcz13_3 : w12.cell? ⟨gb105, 3, none⟩ = some (.int .i64 a0_3) := (blk_cell BK105.out 3).trans rfl; have hfz13_0 := blk_frozen BK105.out 0; have hfz13_1 := blk_frozen BK105.out 1; have hfz13_2 := blk_frozen BK105.out 2; have hfz13_3 := blk_frozen BK105.out 3))
   go_ret
   exact ⟨by first | rfl | (simp [errW_none, errW_some] <;> rfl) | (simp [*, errW_none, errW_some] <;> rfl), bp_⟩
 rw [if_neg c11] at H
 have c11b0 : decide (4096 < a0_1) = false := decide_eq_false c11
 clear c11
 by_cases c14 : a0_2 < 1
 · rw [if_pos c14] at H
   have c14b0 : decide (a0_2 < 1) = true := decide_eq_true c14
   clear c14
   obtain rfl := Option.some.inj H
   go_enter Try.func31, Try.ntmps31
   go_wp2_with (first | ((with_reducible refine gate_dst (N := 1) rfl ?_); refine box_event ?hg (N := 1) ?hd (cs := #[.int .i64 a0_0, .int .i64 a0_1, .int .i64 a0_2, .int .i64 a0_3]) (t := 25) ?hr ?_; (case hd => rfl); (case hg => rfl); (case hr => first | (go_simp; done) | (go_simp; rfl)); intro gb105 hg w15 hbox hb; have BK105 := Aside0.mk (hbox); have GW105 := Aside0.mk ((by rw [hg]; exact (below_size bp_) : w.heap.size ≤ gb105)); have GE105 := Aside0.mk ((by rw [hg]; exact (below_size bp_) : w.heap.size ≤ gb105)); replace HB := Aside0.mk (below_step bp_ hb); clear hb hbox hg; have hcz16_0 : w15.cell? ⟨gb105, 0, none⟩ = some (.int .i64 a0_0) := (blk_cell BK105.out 0).trans rfl; have hcz16_1 : w15.cell? ⟨gb105, 1, none⟩ = some (.int .i64 a0_1) := (blk_cell BK105.out 1).trans rfl; have hcz16_2 : w15.cell? ⟨gb105, 2, none⟩ = some (.int .i64 a0_2) := (blk_cell BK105.out 2).trans rfl; have hcz16_3 : w15.cell? ⟨gb105, 3, none⟩ = some (.int .i64 a0_3) := (blk_cell BK105.out 3).trans rfl; have hfz16_0 := blk_frozen BK105.out 0; have hfz16_1 := blk_frozen BK105.out 1; have hfz16_2 := blk_frozen BK105.out 2; have hfz16_3 := blk_frozen BK105.out 3))
   go_ret
   exact ⟨by first | rfl | (simp [errW_none, errW_some] <;> rfl) | (simp [*, errW_none, errW_some] <;> rfl), bp_⟩
 rw [if_neg c14] at H
 have c14b0 : decide (a0_2 < 1) = false := decide_eq_false c14
 clear c14
 by_cases c17 : a0_2 > 65536
 · rw [if_pos c17] at H
   have c17b0 : decide (65536 < a0_2) = true := decide_eq_true c17
   clear c17
   obtain rfl := Option.some.inj H
   go_enter Try.func31, Try.ntmps31
   go_wp2_with (first | ((with_reducible refine gate_dst (N := 1) rfl ?_); refine box_event ?hg (N := 1) ?hd (cs := #[.int .i64 a0_0, .int .i64 a0_1, .int .i64 a0_2, .int .i64 a0_3]) (t := 25) ?hr ?_; (case hd => rfl); (case hg => rfl); (case hr => first | (go_simp; done) | (go_simp; rfl)); intro gb105 hg w18 hbox hb; have BK105 := Aside0.mk (hbox); have GW105 := Aside0.mk ((by rw [hg]; exact (below_size bp_) : w.heap.size ≤ gb105)); have GE105 := Aside0.mk ((by rw [hg]; exact (below_size bp_) : w.heap.size ≤ gb105)); replace HB := Aside0.mk (below_step bp_ hb); clear hb hbox hg; have hcz19_0 : w18.cell? ⟨gb105, 0, none⟩ = some (.int .i64 a0_0) := (blk_cell BK105.out 0).trans rfl; have hcz19_1 : w18.cell? ⟨gb105, 1, none⟩ = some (.int .i64 a0_1) := (blk_cell BK105.out 1).trans rfl; have hcz19_2 : w18.cell? ⟨gb105, 2, none⟩ = some (.int .i64 a0_2) := (blk_cell BK105.out 2).trans rfl; have hcz19_3 : w18.cell? ⟨gb105, 3, none⟩ = some (.int .i64 a0_3) := (blk_cell BK105.out 3).trans rfl; have hfz19_0 := blk_frozen BK105.out 0; have hfz19_1 := blk_frozen BK105.out 1; have hfz19_2 := blk_frozen BK105.out 2; have hfz19_3 := blk_frozen BK105.out 3))
   go_ret
   exact ⟨by first | rfl | (simp [errW_none, errW_some] <;> rfl) | (simp [*, errW_none, errW_some] <;> rfl), bp_⟩
 rw [if_neg c17] at H
 have c17b0 : decide (65536 < a0_2) = false := decide_eq_false c17
 clear c17
 by_cases c20 : a0_3 < 1
 · rw [if_pos c20] at H
   have c20b0 : decide (a0_3 < 1) = true := decide_eq_true c20
   clear c20
   obtain rfl := Option.some.inj H
   go_enter Try.func31, Try.ntmps31
   go_wp2_with (first | ((with_reducible refine gate_dst (N := 1) rfl ?_); refine box_event ?hg (N := 1) ?hd (cs := #[.int .i64 a0_0, .int .i64 a0_1, .int .i64 a0_2, .int .i64 a0_3]) (t := 25) ?hr ?_; (case hd => rfl); (case hg => rfl); (case hr => first | (go_simp; done) | (go_simp; rfl)); intro gb105 hg w21 hbox hb; have BK105 := Aside0.mk (hbox); have GW105 := Aside0.mk ((by rw [hg]; exact (below_size bp_) : w.heap.size ≤ gb105)); have GE105 := Aside0.mk ((by rw [hg]; exact (below_size bp_) : w.heap.size ≤ gb105)); replace HB := Aside0.mk (below_step bp_ hb); clear hb hbox hg; have hcz22_0 : w21.cell? ⟨gb105, 0, none⟩ = some (.int .i64 a0_0) := (blk_cell BK105.out 0).trans rfl; have hcz22_1 : w21.cell? ⟨gb105, 1, none⟩ = some (.int .i64 a0_1) := (blk_cell BK105.out 1).trans rfl; have hcz22_2 : w21.cell? ⟨gb105, 2, none⟩ = some (.int .i64 a0_2) := (blk_cell BK105.out 2).trans rfl; have hcz22_3 : w21.cell? ⟨gb105, 3, none⟩ = some (.int .i64 a0_3) := (blk_cell BK105.out 3).trans rfl; have hfz22_0 := blk_frozen BK105.out 0; have hfz22_1 := blk_frozen BK105.out 1; have hfz22_2 := blk_frozen BK105.out 2; have hfz22_3 := blk_frozen BK105.out 3))
   go_ret
   exact ⟨by first | rfl | (simp [errW_none, errW_some] <;> rfl) | (simp [*, errW_none, errW_some] <;> rfl), bp_⟩
 rw [if_neg c20] at H
 have c20b0 : decide (a0_3 < 1) = false := decide_eq_false c20
 clear c20
 by_cases c23 : a0_3 > 65535
 · rw [if_pos c23] at H
   have c23b0 : decide (65535 < a0_3) = true := decide_eq_true c23
   clear c23
   obtain rfl := Option.some.inj H
   go_enter Try.func31, Try.ntmps31
   go_wp2_with (first | ((with_reducible refine gate_dst (N := 1) rfl ?_); refine box_event ?hg (N := 1) ?hd (cs := #[.int .i64 a0_0, .int .i64 a0_1, .int .i64 a0_2, .int .i64 a0_3]) (t := 25) ?hr ?_; (case hd => rfl); (case hg => rfl); (case hr => first | (go_simp; done) | (go_simp; rfl)); intro gb105 hg w24 hbox hb; have BK105 := Aside0.mk (hbox); have GW105 := Aside0.mk ((by rw [hg]; exact (below_size bp_) : w.heap.size ≤ gb105)); have GE105 := Aside0.mk ((by rw [hg]; exact (below_size bp_) : w.heap.size ≤ gb105)); replace HB := Aside0.mk (below_step bp_ hb); clear hb hbox hg; have hcz25_0 : w24.cell? ⟨gb105, 0, none⟩ = some (.int .i64 a0_0) := (blk_cell BK105.out 0).trans rfl; have hcz25_1 : w24.cell? ⟨gb105, 1, none⟩ = some (.int .i64 a0_1) := (blk_cell BK105.out 1).trans rfl; have hcz25_2 : w24.cell? ⟨gb105, 2, none⟩ = some (.int .i64 a0_2) := (blk_cell BK105.out 2).trans rfl; have hcz25_3 : w24.cell? ⟨gb105, 3, none⟩ = some (.int .i64 a0_3) := (blk_cell BK105.out 3).trans rfl; have hfz25_0 := blk_frozen BK105.out 0; have hfz25_1 := blk_frozen BK105.out 1; have hfz25_2 := blk_frozen BK105.out 2; have hfz25_3 := blk_frozen BK105.out 3))
   go_ret
   exact ⟨by first | rfl | (simp [errW_none, errW_some] <;> rfl) | (simp [*, errW_none, errW_some] <;> rfl), bp_⟩
 rw [if_neg c23] at H
 have c23b0 : decide (65535 < a0_3) = false := decide_eq_false c23
 clear c23
 by_cases c26 : a0_3 = 1
 · rw [if_pos c26] at H
   have c26b0 : (a0_3 == 1) = true := beq_iff_eq.mpr c26
   have c26b1 : (a0_3 != 1) = false := bne_eq_false_iff_eq.mpr c26
   clear c26
   obtain rfl := Option.some.inj H
   go_enter Try.func31, Try.ntmps31
   go_wp2_with (first | ((with_reducible refine gate_dst (N := 1) rfl ?_); refine box_event ?hg (N := 1) ?hd (cs := #[.int .i64 a0_0, .int .i64 a0_1, .int .i64 a0_2, .int .i64 a0_3]) (t := 25) ?hr ?_; (case hd => rfl); (case hg => rfl); (case hr => first | (go_simp; done) | (go_simp; rfl)); intro gb105 hg w27 hbox hb; have BK105 := Aside0.mk (hbox); have GW105 := Aside0.mk ((by rw [hg]; exact (below_size bp_) : w.heap.size ≤ gb105)); have GE105 := Aside0.mk ((by rw [hg]; exact (below_size bp_) : w.heap.size ≤ gb105)); replace HB := Aside0.mk (below_step bp_ hb); clear hb hbox hg; have hcz28_0 : w27.cell? ⟨gb105, 0, none⟩ = some (.int .i64 a0_0) := (blk_cell BK105.out 0).trans rfl; have hcz28_1 : w27.cell? ⟨gb105, 1, none⟩ = some (.int .i64 a0_1) := (blk_cell BK105.out 1).trans rfl; have hcz28_2 : w27.cell? ⟨gb105, 2, none⟩ = some (.int .i64 a0_2) := (blk_cell BK105.out 2).trans rfl; have hcz28_3 : w27.cell? ⟨gb105, 3, none⟩ = some (.int .i64 a0_3) := (blk_cell BK105.out 3).trans rfl; have hfz28_0 := blk_frozen BK105.out 0; have hfz28_1 := blk_frozen BK105.out 1; have hfz28_2 := blk_frozen BK105.out 2; have hfz28_3 := blk_frozen BK105.out 3))
   go_ret
   exact ⟨by first | rfl | (simp [errW_none, errW_some] <;> rfl) | (simp [*, errW_none, errW_some] <;> rfl), bp_⟩
 rw [if_neg c26] at H
 have c26b0 : (a0_3 == 1) = false := beq_eq_false_iff_ne.mpr c26
 have c26b1 : (a0_3 != 1) = true := bne_iff_ne.mpr c26
 replace H := Option.bind_eq_some_iff.mp H
 obtain ⟨t106, A290, H⟩ := H
 replace H : (some (!t106)) = some r := H
 have A29 := Aside0.mk A290
 clear A290
 obtain rfl := Option.some.inj H
 go_enter Try.func31, Try.ntmps31
 go_wp2_with (first | ((with_reducible refine gate_dst (N := 1) rfl ?_); refine box_event ?hg (N := 1) ?hd (cs := #[.int .i64 a0_0, .int .i64 a0_1, .int .i64 a0_2, .int .i64 a0_3]) (t := 25) ?hr ?_; (case hd => rfl); (case hg => rfl); (case hr => first | (go_simp; done) | (go_simp; rfl)); intro gb105 hg w30 hbox hb; have BK105 := Aside0.mk (hbox); have GW105 := Aside0.mk ((by rw [hg]; exact (below_size bp_) : w.heap.size ≤ gb105)); have GE105 := Aside0.mk ((by rw [hg]; exact (below_size bp_) : w.heap.size ≤ gb105)); replace HB := Aside0.mk (below_step bp_ hb); clear hb hbox hg; have hcz31_0 : w30.cell? ⟨gb105, 0, none⟩ = some (.int .i64 a0_0) := (blk_cell BK105.out 0).trans rfl; have hcz31_1 : w30.cell? ⟨gb105, 1, none⟩ = some (.int .i64 a0_1) := (blk_cell BK105.out 1).trans rfl; have hcz31_2 : w30.cell? ⟨gb105, 2, none⟩ = some (.int .i64 a0_2) := (blk_cell BK105.out 2).trans rfl; have hcz31_3 : w30.cell? ⟨gb105, 3, none⟩ = some (.int .i64 a0_3) := (blk_cell BK105.out 3).trans rfl; have hfz31_0 := blk_frozen BK105.out 0; have hfz31_1 := blk_frozen BK105.out 1; have hfz31_2 := blk_frozen BK105.out 2; have hfz31_3 := blk_frozen BK105.out 3) | (go_at_call 32; (with_reducible refine (chequerref06_bits.calls a0_0 t106 _ A29.out).mono ?_); rintro e w' ⟨rfl, ⟨nd, rfl⟩⟩))
 go_ret
 exact ⟨by first | rfl | (simp [errW_none, errW_some] <;> rfl) | (simp [*, errW_none, errW_some] <;> rfl), bp_⟩

end Go.Proofs.Ytmimfljiighbaaa.Q
