-- written by our own program (wip/tools/myprint.py) out of the translation, by the kit's print; Lean checks it
import Derived.Test.YtdjonaajfhbfhaaQ0
import Derived.Test.YtdjonaajfhbfhaaQ3
import Derived.Test.YtdjonaajfhbfhaaQ20
namespace Go.Proofs.Ytdjonaajfhbfhaa.Q
open Go.RowKit Go.Proofs.YtdjonaajfhbfhaaW.PrintWords Go.Proofs.YtdjonaajfhbfhaaW.PrintLast Go.Proofs.YtdjonaajfhbfhaaW.PrintMore
attribute [local go_sem] max2_int min2_int max_two min_two max_three min_three max_four min_four   -- for this text's walks alone
set_option linter.unusedVariables false
set_option linter.unusedSimpArgs false

/-! ### chequerref07_Bytes: function 63 -/
def chequerref07_Bytes.j0 : Nat → Int → Bool → Option (Int)
  | 0, _, _ => none
  | k + 1, x0, x9 => if x9 = true then (some 0) else (if (Int.tmod x0 8) > 0 then (some (wrap64 ((wrap64 (Int.tdiv x0 8)) + 1))) else (some (wrap64 (Int.tdiv x0 8))))
def chequerref07_Bytes.f (k : Nat) (a0 : Int) : Option (Int) := if a0 < 1 then (chequerref07_Bytes.j0 k a0 true) else (chequerref07_Bytes.j0 k a0 (decide (a0 > 4096)))
theorem chequerref07_Bytes.mono_l : ∀ k, (∀ y0 y1, LeO (chequerref07_Bytes.j0 k y0 y1) (chequerref07_Bytes.j0 (k + 1) y0 y1))
  | 0 => fun _ _ r h => by simp [chequerref07_Bytes.j0] at h
  | k + 1 => by
    have ih0 := chequerref07_Bytes.mono_l k
    · intro y0 y1
      unfold chequerref07_Bytes.j0
      repeat' first
      | (with_reducible exact ih0 _ _)
      | (with_reducible exact LeO.refl _)
      | (with_reducible exact LeO.none _)
      | (with_reducible refine LeO.ite ?_ ?_)
      | (with_reducible refine LeO.bind ?_ (fun _ => ?_))
      | exact ih0 _ _
      | exact LeO.none _
      | refine LeO.ite ?_ ?_
      | refine LeO.bind ?_ (fun _ => ?_)
theorem chequerref07_Bytes.mono : ∀ a0 k, LeO (chequerref07_Bytes.f k a0) (chequerref07_Bytes.f (k + 1) a0) := by
  intro a0 k
  have ih0 := chequerref07_Bytes.mono_l k
  unfold chequerref07_Bytes.f
  repeat' first
      | (with_reducible exact ih0 _ _)
      | (with_reducible exact LeO.refl _)
      | (with_reducible exact LeO.none _)
      | (with_reducible refine LeO.ite ?_ ?_)
      | (with_reducible refine LeO.bind ?_ (fun _ => ?_))
      | exact ih0 _ _
      | exact LeO.none _
      | refine LeO.ite ?_ ?_
      | refine LeO.bind ?_ (fun _ => ?_)
set_option maxHeartbeats 8000000 in
set_option maxRecDepth 100000 in
theorem chequerref07_Bytes.calls (k : Nat) (a0 : Int) (r : Int) (w : World) (h : chequerref07_Bytes.f k a0 = some r) :
    Calls Try.prog 63 #[.int .i64 a0] w fun e w' => e = .returned (.int .i64 r) ∧ Drawn0 w w' := by
  have H : (if a0 < 1 then (chequerref07_Bytes.j0 k a0 true) else (chequerref07_Bytes.j0 k a0 (decide (a0 > 4096)))) = some r := h
  clear h
  have HC2 := Aside0.mk H
  clear H
  go_enter Try.func63, Try.ntmps63
  go_upto_region 1 with (fail)
  go_cut [9] (fun v9 wc => ∃ (kq : Nat) (x9_1 : Bool), v9 = .bool x9_1 ∧ Aside0 (chequerref07_Bytes.j0 kq a0 x9_1 = some r) ∧ Aside0 (kq ≤ k) ∧ Drawn0 w wc)
  case first =>
    have H := HC2.out
    clear HC2
    by_cases c3 : a0 < 1
    · rw [if_pos c3] at H
      have c3b0 : decide (a0 < 1) = true := decide_eq_true c3
      clear c3
      (first | rw [c3b0] | (simp only [i64_w, i32_w]; rw [c3b0]) | skip)
      have H' := Aside0.mk H
      clear H
      go_wp2
      go_meet
      case rel => exact ⟨_, (true), (by first | rfl | (simp; done) | (simp [*]; done)), H', ⟨by first | omega | exact Nat.le_refl _⟩, by repeat (first | exact Drawn0.refl _ | apply Drawn0.step)⟩
    · rw [if_neg c3] at H
      have c3b0 : decide (a0 < 1) = false := decide_eq_false c3
      clear c3
      (first | rw [c3b0] | (simp only [i64_w, i32_w]; rw [c3b0]) | skip)
      have H' := Aside0.mk H
      clear H
      go_wp2
      go_meet
      case rel => exact ⟨_, (decide (a0 > 4096)), (by first | rfl | (simp; done) | (simp [*]; done)), H', ⟨by first | omega | exact Nat.le_refl _⟩, by repeat (first | exact Drawn0.refl _ | apply Drawn0.step)⟩
  case rest =>
    clear HC2
    try clear p2
    try clear c3
    try clear c3b0
    obtain ⟨kq, x9_1, rfl, HA, HJ1, ⟨mc1, rfl⟩⟩ := hcut
    cases kq with
    | zero => exact absurd HA.out (by simp [chequerref07_Bytes.j0])
    | succ kj1 =>
      have H := HA.out
      clear HA
      simp only [chequerref07_Bytes.j0] at H
      by_cases c4 : x9_1 = true
      · subst c4
        have H1 : (some 0) = some r := by rw [if_pos rfl] at H; exact H
        clear H
        have H := H1
        clear H1
        obtain rfl := Option.some.inj H
        go_wp2
        go_ret
        exact ⟨by first | rfl | (simp; done) | (simp [*]; done), by repeat (first | exact Drawn0.refl _ | apply Drawn0.step)⟩
      · replace c4 := Bool.eq_false_iff.mpr c4
        subst c4
        have H1 : (if (Int.tmod a0 8) > 0 then (some (wrap64 ((wrap64 (Int.tdiv a0 8)) + 1))) else (some (wrap64 (Int.tdiv a0 8)))) = some r := by rw [if_neg (show ¬ (false = true) by decide)] at H; exact H
        clear H
        have H := H1
        clear H1
        by_cases c5 : (Int.tmod a0 8) > 0
        · rw [if_pos c5] at H
          have c5b0 : decide (0 < (Int.tmod a0 8)) = true := decide_eq_true c5
          clear c5
          obtain rfl := Option.some.inj H
          go_wp2
          go_ret
          exact ⟨by first | rfl | (simp; done) | (simp [*]; done), by repeat (first | exact Drawn0.refl _ | apply Drawn0.step)⟩
        · rw [if_neg c5] at H
          have c5b0 : decide (0 < (Int.tmod a0 8)) = false := decide_eq_false c5
          clear c5
          obtain rfl := Option.some.inj H
          go_wp2
          go_ret
          exact ⟨by first | rfl | (simp; done) | (simp [*]; done), by repeat (first | exact Drawn0.refl _ | apply Drawn0.step)⟩

/-! ### chequerref07_Bit: function 64 -/
def chequerref07_Bit.l0 : Nat → Int → Int → Option (Int)
  | 0, _, _ => none
  | k + 1, x5, x6 => if x6 < 7 then (chequerref07_Bit.l0 k (wrap64 (Int.tdiv x5 2)) (wrap64 (x6 + 1))) else (some (Int.tmod x5 2))
def chequerref07_Bit.f (k : Nat) (l0 : List Int) (a1 : Int) : Option (Int) := if a1 < 0 then (some (-1)) else (if (wrap64 (Int.tdiv a1 8)) ≥ (l0.length : Int) then (some (-1)) else (if 0 ≤ (wrap64 (Int.tdiv a1 8)) then (if (wrap64 (Int.tdiv a1 8)) < (l0.length : Int) then (chequerref07_Bit.l0 k (wrap64 (rd l0 (wrap64 (Int.tdiv a1 8)))) (Int.tmod a1 8)) else (none)) else (none)))
theorem chequerref07_Bit.mono_l : ∀ k, (∀ y0 y1, LeO (chequerref07_Bit.l0 k y0 y1) (chequerref07_Bit.l0 (k + 1) y0 y1))
  | 0 => fun _ _ r h => by simp [chequerref07_Bit.l0] at h
  | k + 1 => by
    have ih0 := chequerref07_Bit.mono_l k
    · intro y0 y1
      unfold chequerref07_Bit.l0
      repeat' first
      | (with_reducible exact ih0 _ _)
      | (with_reducible exact LeO.refl _)
      | (with_reducible exact LeO.none _)
      | (with_reducible refine LeO.ite ?_ ?_)
      | (with_reducible refine LeO.bind ?_ (fun _ => ?_))
      | exact ih0 _ _
      | exact LeO.none _
      | refine LeO.ite ?_ ?_
      | refine LeO.bind ?_ (fun _ => ?_)
theorem chequerref07_Bit.mono : ∀ a0 a1 k, LeO (chequerref07_Bit.f k a0 a1) (chequerref07_Bit.f (k + 1) a0 a1) := by
  intro a0 a1 k
  have ih0 := chequerref07_Bit.mono_l k
  unfold chequerref07_Bit.f
  repeat' first
      | (with_reducible exact ih0 _ _)
      | (with_reducible exact LeO.refl _)
      | (with_reducible exact LeO.none _)
      | (with_reducible refine LeO.ite ?_ ?_)
      | (with_reducible refine LeO.bind ?_ (fun _ => ?_))
      | exact ih0 _ _
      | exact LeO.none _
      | refine LeO.ite ?_ ?_
      | refine LeO.bind ?_ (fun _ => ?_)
set_option maxHeartbeats 8000000 in
set_option maxRecDepth 100000 in
theorem chequerref07_Bit.calls (k : Nat) (A0 : Option Addr) (c0 : Nat) (l0 : List Int) (a1 : Int) (r : Int) (w : World) (hr0 : Kd.C (Kd.int .u8) w A0 l0.length l0) (hc0 : l0.length ≤ c0) (h : chequerref07_Bit.f k l0 a1 = some r) :
    Calls Try.prog 64 #[.slice A0 l0.length c0, .int .i64 a1] w fun e w' => e = .returned (.int .i64 r) ∧ Drawn0 w w' := by
  have HR0 := Aside0.mk hr0
  have HC0 := Aside0.mk hc0
  clear hr0 hc0
  have H : (if a1 < 0 then (some (-1)) else (if (wrap64 (Int.tdiv a1 8)) ≥ (l0.length : Int) then (some (-1)) else (if 0 ≤ (wrap64 (Int.tdiv a1 8)) then (if (wrap64 (Int.tdiv a1 8)) < (l0.length : Int) then (chequerref07_Bit.l0 k (wrap64 (rd l0 (wrap64 (Int.tdiv a1 8)))) (Int.tmod a1 8)) else (none)) else (none)))) = some r := h
  clear h
  by_cases c3 : a1 < 0
  · rw [if_pos c3] at H
    have c3b0 : decide (a1 < 0) = true := decide_eq_true c3
    clear c3
    obtain rfl := Option.some.inj H
    go_enter Try.func64, Try.ntmps64
    go_wp2
    go_ret
    exact ⟨by first | rfl | (simp; done) | (simp [*]; done), by repeat (first | exact Drawn0.refl _ | apply Drawn0.step)⟩
  · rw [if_neg c3] at H
    have c3b0 : decide (a1 < 0) = false := decide_eq_false c3
    clear c3
    by_cases c4 : (wrap64 (Int.tdiv a1 8)) ≥ (l0.length : Int)
    · rw [if_pos c4] at H
      have c4b0 : decide ((l0.length : Int) ≤ (wrap64 (Int.tdiv a1 8))) = true := decide_eq_true c4
      clear c4
      obtain rfl := Option.some.inj H
      go_enter Try.func64, Try.ntmps64
      go_wp2
      go_ret
      exact ⟨by first | rfl | (simp; done) | (simp [*]; done), by repeat (first | exact Drawn0.refl _ | apply Drawn0.step)⟩
    · rw [if_neg c4] at H
      have c4b0 : decide ((l0.length : Int) ≤ (wrap64 (Int.tdiv a1 8))) = false := decide_eq_false c4
      clear c4
      obtain ⟨ji5, hji5⟩ : ∃ j_ : Int, (wrap64 (Int.tdiv a1 8)) = j_ := ⟨_, rfl⟩
      replace H : (if 0 ≤ (ji5) then (if (ji5) < (l0.length : Int) then (chequerref07_Bit.l0 k (wrap64 (rd l0 (ji5))) (Int.tmod a1 8)) else (none)) else (none)) = some r := by first | (rw [hji5] at H; exact H) | (simp only [hji5] at H ⊢; exact H)
      (try rw [hji5] at c4b0)
      have hji5w : (IntKind.i64.wrap (Int.tdiv a1 8)) = ji5 := (i64_w _).trans hji5
      by_cases c6 : 0 ≤ (ji5)
      · rw [if_pos c6] at H
        have c6b0 : decide (0 ≤ (ji5)) = true := decide_eq_true c6
        clear c6
        by_cases c7 : (ji5) < (l0.length : Int)
        · rw [if_pos c7] at H
          have c7b0 : decide ((ji5) < (l0.length : Int)) = true := decide_eq_true c7
          clear c7
          have H' := Aside0.mk H
          clear H
          have p301 : 0 ≤ ((ji5) : Int) := of_decide_eq_true (by first | (with_reducible assumption) | assumption)
          have q301 : (ji5) < (l0.length : Int) := of_decide_eq_true (by first | (with_reducible assumption) | assumption)
          obtain ⟨ad301, e301, hx301_0⟩ := Kd.at_int HR0.out (ji5) p301 q301
          cases e301
          replace p301 := eq_true p301
          replace q301 := eq_true q301
          go_enter Try.func64, Try.ntmps64
          go_wp2
          go_loopg [5, 6] k (fun kq v5 v6 w' => ∃ (x5_1 : Int) (x6_1 : Int), v5 = .int .i64 x5_1 ∧ v6 = .int .i64 x6_1 ∧ Aside0 (chequerref07_Bit.l0 kq x5_1 x6_1 = some r) ∧ Aside0 (kq ≤ k) ∧ Drawn0 w w')
          case atStart => exact ⟨(wrap64 (rd l0 (ji5))), (Int.tmod a1 8), (by first | rfl | (simp; done) | (simp only [← hji5] <;> (first | rfl | simp)) | (simp [*]; done)), (by first | rfl | (simp; done) | (simp [*]; done)), H', ⟨Nat.le_refl _⟩, by repeat (first | exact Drawn0.refl _ | apply Drawn0.step)⟩
          case round =>
            clear H'
            try clear p2
            try clear c3
            try clear c3b0
            try clear p3
            try clear q3
            try clear hx3
            try clear c4
            try clear c4b0
            try clear c6
            try clear c6b0
            try clear p6
            try clear c7
            try clear c7b0
            try clear hx301_0
            try clear p301
            try clear q301
            obtain ⟨x5_1, x6_1, rfl, rfl, HA, HK1, ⟨m1, rfl⟩⟩ := hrel
            cases gk with
            | zero => exact absurd HA.out (by simp [chequerref07_Bit.l0])
            | succ k1 =>
              have H := HA.out
              clear HA
              simp only [chequerref07_Bit.l0] at H
              by_cases c8 : x6_1 < 7
              · rw [if_pos c8] at H
                have c8b0 : decide (x6_1 < 7) = true := decide_eq_true c8
                clear c8
                have H' := Aside0.mk H
                clear H
                go_wp2
                go_roundg k1
                case measure => have := HK1.out; omega
                case rel => exact ⟨(wrap64 (Int.tdiv x5_1 2)), (wrap64 (x6_1 + 1)), (by first | rfl | (simp; done) | (simp [*]; done)), (by first | rfl | (simp; done) | (simp [*]; done)), H', ⟨by have := HK1.out; omega⟩, by repeat (first | exact Drawn0.refl _ | apply Drawn0.step)⟩
              · rw [if_neg c8] at H
                have c8b0 : decide (x6_1 < 7) = false := decide_eq_false c8
                clear c8
                obtain rfl := Option.some.inj H
                go_wp2
                go_ret
                exact ⟨by first | rfl | (simp; done) | (simp only [← hji5] <;> (first | rfl | simp)) | (simp [*]; done), by repeat (first | exact Drawn0.refl _ | apply Drawn0.step)⟩
        · rw [if_neg c7] at H
          exact absurd H (by simp)
      · rw [if_neg c6] at H
        exact absurd H (by simp)


/-! ### chequerref07_Unpack: function 48 -/
def chequerref07_Unpack.l0 : Nat → List Int → Int → List Int → Int → Option (List Int × Int)
 | 0, _, _, _, _ => none
 | k + 1, x0, x1, x7, x8 => if x8 < x1 then ((chequerref07_Bit.f k x0 x8).bind fun t303 => (if x7.length < 17592186044416 then (chequerref07_Unpack.l0 k x0 x1 (x7 ++ [t303]) (wrap64 (x8 + 1))) else (none))) else (some (x7, 0))
def chequerref07_Unpack.f (k : Nat) (l0 : List Int) (a1 : Int) : Option (List Int × Int) := (chequerref07_Bytes.f k a1).bind fun t302 => (if t302 = 0 then (some (([] : List Int), 1)) else (if (l0.length : Int) < t302 then (some (([] : List Int), 6)) else (chequerref07_Unpack.l0 k l0 a1 ([] : List Int) 0)))
theorem chequerref07_Unpack.mono_l : ∀ k, (∀ y0 y1 y2 y3, LeO (chequerref07_Unpack.l0 k y0 y1 y2 y3) (chequerref07_Unpack.l0 (k + 1) y0 y1 y2 y3))
 | 0 => fun _ _ _ _ r h => by simp [chequerref07_Unpack.l0] at h
 | k + 1 => by
  have ih0 := chequerref07_Unpack.mono_l k
  · intro y0 y1 y2 y3
    unfold chequerref07_Unpack.l0
    repeat' first
    | (with_reducible exact ih0 _ _ _ _)
    | (with_reducible exact chequerref07_Bit.mono _ _ _)
    | (with_reducible exact chequerref07_Bytes.mono _ _)
    | (with_reducible exact LeO.refl _)
    | (with_reducible exact LeO.none _)
    | (with_reducible refine LeO.ite ?_ ?_)
    | (with_reducible refine LeO.bind ?_ (fun _ => ?_))
    | exact ih0 _ _ _ _
    | exact chequerref07_Bit.mono _ _ _
    | exact chequerref07_Bytes.mono _ _
    | exact LeO.none _
    | refine LeO.ite ?_ ?_
    | refine LeO.bind ?_ (fun _ => ?_)
theorem chequerref07_Unpack.mono : ∀ a0 a1 k, LeO (chequerref07_Unpack.f k a0 a1) (chequerref07_Unpack.f (k + 1) a0 a1) := by
 intro a0 a1 k
 have ih0 := chequerref07_Unpack.mono_l k
 unfold chequerref07_Unpack.f
 repeat' first
  | (with_reducible exact ih0 _ _ _ _)
  | (with_reducible exact chequerref07_Bit.mono _ _ _)
  | (with_reducible exact chequerref07_Bytes.mono _ _)
  | (with_reducible exact LeO.refl _)
  | (with_reducible exact LeO.none _)
  | (with_reducible refine LeO.ite ?_ ?_)
  | (with_reducible refine LeO.bind ?_ (fun _ => ?_))
  | exact ih0 _ _ _ _
  | exact chequerref07_Bit.mono _ _ _
  | exact chequerref07_Bytes.mono _ _
  | exact LeO.none _
  | refine LeO.ite ?_ ?_
  | refine LeO.bind ?_ (fun _ => ?_)
set_option maxHeartbeats 8000000 in
set_option maxRecDepth 100000 in
theorem chequerref07_Unpack.calls (k : Nat) (A0 : Option Addr) (c0 : Nat) (l0 : List Int) (a1 : Int) (r1 : List Int) (r2 : Int) (w : World) (hr0 : Kd.C (Kd.int .u8) w A0 l0.length l0) (hc0 : l0.length ≤ c0) (h : chequerref07_Unpack.f k l0 a1 = some (r1, r2)) :
 Calls Try.prog 48 #[.slice A0 l0.length c0, .int .i64 a1] w fun e w' => ∃ v0_ : Value, e = .returned (.tuple #[v0_, .int .i64 r2]) ∧ Kd.R (Kd.int .i64) 3 w' w.heap.size (fun _ => True) v0_ r1 ∧ Below w.heap.size w w' := by
 have HR0 := Aside0.mk hr0
 have HC0 := Aside0.mk hc0
 clear hr0 hc0
 have HB := Aside0.mk (Below.refl w.heap.size w)
 have H : ((chequerref07_Bytes.f k a1).bind fun t302 => (if t302 = 0 then (some (([] : List Int), 1)) else (if (l0.length : Int) < t302 then (some (([] : List Int), 6)) else (chequerref07_Unpack.l0 k l0 a1 ([] : List Int) 0)))) = some (r1, r2) := h
 clear h
 replace H := Option.bind_eq_some_iff.mp H
 obtain ⟨t302, A30, H⟩ := H
 replace H : (if t302 = 0 then (some (([] : List Int), 1)) else (if (l0.length : Int) < t302 then (some (([] : List Int), 6)) else (chequerref07_Unpack.l0 k l0 a1 ([] : List Int) 0))) = some (r1, r2) := H
 have A3 := Aside0.mk A30
 clear A30
 by_cases c4 : t302 = 0
 · rw [if_pos c4] at H
   have c4b0 : (t302 == 0) = true := beq_iff_eq.mpr c4
   have c4b1 : (t302 != 0) = false := bne_eq_false_iff_eq.mpr c4
   clear c4
   simp only [Option.some.injEq, Prod.mk.injEq] at H
   obtain ⟨rfl, rfl⟩ := H
   go_enter Try.func48, Try.ntmps48
   go_wp2_with (first | ((with_reducible refine gate_callee (f := 63) rfl ?_); refine goQ_ (some 10) Try.func63 #[.int .i64 a1] ?_; (with_reducible refine (chequerref07_Bytes.calls k a1 t302 _ A3.out).mono ?_); rintro e w' ⟨rfl, ⟨nd, rfl⟩⟩; refine ⟨_, rfl, ?_⟩))
   go_ret2
   exact ⟨_, by first | rfl | (simp [errW_none, errW_some] <;> rfl) | (simp [*, errW_none, errW_some] <;> rfl), by first | exact Kd.R_nil _ _ _ _ _ | exact Kd.N_nil _ _ _ _ _ | exact Kd.V_nil _ _ _ _ _ | exact Kd.Q_nil _ _ _ _ _ | exact Kd.S_nil _ _ _ _ _, bp_⟩
 · rw [if_neg c4] at H
   have c4b0 : (t302 == 0) = false := beq_eq_false_iff_ne.mpr c4
   have c4b1 : (t302 != 0) = true := bne_iff_ne.mpr c4
   by_cases c5 : (l0.length : Int) < t302
   · rw [if_pos c5] at H
     have c5b0 : decide ((l0.length : Int) < t302) = true := decide_eq_true c5
     clear c5
     simp only [Option.some.injEq, Prod.mk.injEq] at H
     obtain ⟨rfl, rfl⟩ := H
     go_enter Try.func48, Try.ntmps48
     go_wp2_with (first | ((with_reducible refine gate_callee (f := 63) rfl ?_); refine goQ_ (some 10) Try.func63 #[.int .i64 a1] ?_; (with_reducible refine (chequerref07_Bytes.calls k a1 t302 _ A3.out).mono ?_); rintro e w' ⟨rfl, ⟨nd, rfl⟩⟩; refine ⟨_, rfl, ?_⟩))
     go_ret2
     exact ⟨_, by first | rfl | (simp [errW_none, errW_some] <;> rfl) | (simp [*, errW_none, errW_some] <;> rfl), by first | exact Kd.R_nil _ _ _ _ _ | exact Kd.N_nil _ _ _ _ _ | exact Kd.V_nil _ _ _ _ _ | exact Kd.Q_nil _ _ _ _ _ | exact Kd.S_nil _ _ _ _ _, bp_⟩
   · rw [if_neg c5] at H
     have c5b0 : decide ((l0.length : Int) < t302) = false := decide_eq_false c5
     clear c5
     have H' := Aside0.mk H
     clear H
     go_enter Try.func48, Try.ntmps48
     go_wp2_with (first | ((with_reducible refine gate_callee (f := 63) rfl ?_); refine goQ_ (some 10) Try.func63 #[.int .i64 a1] ?_; (with_reducible refine (chequerref07_Bytes.calls k a1 t302 _ A3.out).mono ?_); rintro e w' ⟨rfl, ⟨nd, rfl⟩⟩; refine ⟨_, rfl, ?_⟩))
     go_loopg [7, 8] k (fun kq v7 v8 w' => ∃ (x7_1 : List Int) (x8_1 : Int), v8 = .int .i64 x8_1 ∧ Aside0 (chequerref07_Unpack.l0 kq l0 a1 x7_1 x8_1 = some (r1, r2)) ∧ Aside0 (kq ≤ k) ∧ Aside0 (Kd.R (Kd.int .i64) 3 w' w.heap.size (fun _ => True) v7 x7_1) ∧ Aside0 (Below w.heap.size w w'))
     case atStart => exact ⟨(([] : List Int)), (0), (by first | rfl | (simp; done) | (simp [*]; done)), H', ⟨Nat.le_refl _⟩, ⟨by first | exact Kd.R_nil _ _ _ _ _ | exact Kd.N_nil _ _ _ _ _ | exact Kd.V_nil _ _ _ _ _ | exact Kd.Q_nil _ _ _ _ _ | exact Kd.S_nil _ _ _ _ _⟩, ⟨bp_⟩⟩
     case round =>
      clear H'
      try clear p2
      try clear c4
      try clear c4b0
      try clear c4b1
      try clear c5
      try clear c5b0
      obtain ⟨x7_1, x8_1, rfl, HA, HK1, HO_7, HB⟩ := hrel
      cases gk with
      | zero => exact absurd HA.out (by simp [chequerref07_Unpack.l0])
      | succ k1 =>
       have H := HA.out
       clear HA
       simp only [chequerref07_Unpack.l0] at H
       by_cases c6 : x8_1 < a1
       · rw [if_pos c6] at H
         have c6b0 : decide (x8_1 < a1) = true := decide_eq_true c6
         clear c6
         replace H := Option.bind_eq_some_iff.mp H
         obtain ⟨t303, A70, H⟩ := H
         replace H : (if x7_1.length < 17592186044416 then (chequerref07_Unpack.l0 k1 l0 a1 (x7_1 ++ [t303]) (wrap64 (x8_1 + 1))) else (none)) = some (r1, r2) := H
         have A7 := Aside0.mk A70
         clear A70
         by_cases c8 : x7_1.length < 17592186044416
         · rw [if_pos c8] at H
           have LMc8 := Aside0.mk c8
           clear c8
           obtain ⟨y304, hy304⟩ : ∃ y_ : List Int, y_ = (x7_1 ++ [t303]) := ⟨_, rfl⟩
           replace H : (chequerref07_Unpack.l0 k1 l0 a1 y304 (wrap64 (x8_1 + 1))) = some (r1, r2) := by first | (rw [hy304]; with_reducible exact H) | (have H2_ := (Option.bind_some _ _).symm.trans H; rw [hy304]; with_reducible exact H2_) | (have H2_ := (Option.bind_some _ _).symm.trans H; with_reducible exact H2_) | with_reducible exact H | (rw [hy304]; exact H) | exact H
           have Ny304 := Aside0.mk hy304
           clear hy304
           have H' := Aside0.mk H
           clear H
           go_wp2_with (first | ((with_reducible refine gate_callee (f := 64) rfl ?_); refine goQ_ (some 25) Try.func64 #[.slice A0 l0.length c0, .int .i64 x8_1] ?_; (with_reducible refine (chequerref07_Bit.calls k1 _ _ l0 x8_1 t303 _ ?side1 ?side2 A7.out).mono ?_); (case side1 => repeat (first | exact (Kd.C_below HR0.out HB.out) | (with_reducible refine Kd.C_alloc ?_ _) | (with_reducible refine Kd.C_drewN ?_ _) | (with_reducible refine Kd.C_drew ?_))); (case side2 => exact HC0.out); rintro e w' ⟨rfl, ⟨nd, rfl⟩⟩; refine ⟨_, rfl, ?_⟩) | ((with_reducible refine gate_builtin (b := .append) (xs := #[.tmp 22, .tmp 26]) rfl ?_); at_builtin; refine Kd.R_append (Kd.int .i64) (w0 := w) w.heap.size rfl (.tmp 22) (.tmp 26) 24 3 (.int .i64 0) 8 rfl Try.underlying24 info3 rfl (by decide) (by omega) u7 x7_1 t303 [.int .i64 t303] (fun _ => True) (fun _ => False) rfl rfl ?aP (fun _ hk => hk.elim) ?aF ?aO ?aB ?aS ?aL ?_; (case aP => exact rfl); (case aB => exact bp_); (case aF => exact (fun _ _ => trivial)); (case aO => exact (rp_ HO_7.out)); (case aS => exact (below_size bp_)); (case aL => have := LMc8.out; omega); intro v305 w9 ho hb hg hat; rw [← Ny304.out] at ho; replace HB := Aside0.mk (hb); have HO306 := Aside0.mk (ho); clear HO_7; clear ho hb hg hat))
           go_roundg k1
           case measure => have := HK1.out; omega
           case rel => exact ⟨(y304), (wrap64 (x8_1 + 1)), (by first | rfl | (simp; done) | (simp [*]; done)), H', ⟨by have := HK1.out; omega⟩, ⟨rp_ HO306.out⟩, ⟨bp_⟩⟩
         · rw [if_neg c8] at H
           exact absurd H (by simp)
       · rw [if_neg c6] at H
         have c6b0 : decide (x8_1 < a1) = false := decide_eq_false c6
         clear c6
         simp only [Option.some.injEq, Prod.mk.injEq] at H
         obtain ⟨rfl, rfl⟩ := H
         go_wp2
         go_ret2
         exact ⟨_, by first | rfl | (simp [errW_none, errW_some] <;> rfl) | (simp [*, errW_none, errW_some] <;> rfl), by (with_reducible repeat (first | apply Kd.R_alloc | apply Kd.R_drewN | apply Kd.R_drew)); exact HO_7.out, bp_⟩


/-! ### chequerref09_Row: function 24 -/
mutual
def chequerref09_Row.j0 : Nat → List Int → Int → Int → Int → Int → Option (List Int)
 | 0, _, _, _, _, _ => none
 | k + 1, x5, x308000, x308001, x308002, x308003 => if x308000 = 6 then (chequerref09_Row.j1 k x5 3) else (chequerref09_Row.j1 k x5 1)
def chequerref09_Row.j1 : Nat → List Int → Int → Option (List Int)
 | 0, _, _ => none
 | k + 1, x5, x8 => chequerref09_Row.l0 k x5 x8 ([] : List Int) 0
def chequerref09_Row.l0 : Nat → List Int → Int → List Int → Int → Option (List Int)
 | 0, _, _, _, _ => none
 | k + 1, x5, x8, x9, x10 => if (wrap64 (x10 + x8)) ≤ (x5.length : Int) then (if 0 ≤ x10 then (if x10 ≤ (wrap64 (x10 + x8)) then ((chequerref01_Pack.f k ((x5.take ((wrap64 (x10 + x8)) : Int).toNat).drop (x10 : Int).toNat)).bind fun bt319 => (if x9.length < 17592186044416 then (chequerref09_Row.l0 k x5 x8 (x9 ++ [bt319.1]) (wrap64 (x10 + x8))) else (none))) else (none)) else (none)) else (some x9)
end
def chequerref09_Row.f (k : Nat) (l0 : List Int) (a1_0 : Int) (a1_1 : Int) (a1_2 : Int) (a1_3 : Int) : Option (List Int) := (chequerref09_Samples.f k l0 a1_0 a1_1 a1_2 a1_3).bind fun t308 => (if a1_0 = 4 then ((chequerref07_Unpack.f k l0 a1_1).bind fun bt311 => (chequerref09_Row.j0 k bt311.1 a1_0 a1_1 a1_2 a1_3)) else (chequerref09_Row.j0 k t308 a1_0 a1_1 a1_2 a1_3))
theorem chequerref09_Row.mono_l : ∀ k, (∀ y0 y1 y2 y3 y4, LeO (chequerref09_Row.j0 k y0 y1 y2 y3 y4) (chequerref09_Row.j0 (k + 1) y0 y1 y2 y3 y4)) ∧ (∀ y0 y1, LeO (chequerref09_Row.j1 k y0 y1) (chequerref09_Row.j1 (k + 1) y0 y1)) ∧ (∀ y0 y1 y2 y3, LeO (chequerref09_Row.l0 k y0 y1 y2 y3) (chequerref09_Row.l0 (k + 1) y0 y1 y2 y3))
 | 0 => ⟨fun _ _ _ _ _ r h => by simp [chequerref09_Row.j0] at h, fun _ _ r h => by simp [chequerref09_Row.j1] at h, fun _ _ _ _ r h => by simp [chequerref09_Row.l0] at h⟩
 | k + 1 => by
  obtain ⟨ih0, ih1, ih2⟩ := chequerref09_Row.mono_l k
  refine ⟨?_, ?_, ?_⟩
  · intro y0 y1 y2 y3 y4
    unfold chequerref09_Row.j0
    repeat' first
    | (with_reducible exact ih0 _ _ _ _ _)
    | (with_reducible exact ih1 _ _)
    | (with_reducible exact ih2 _ _ _ _)
    | (with_reducible exact chequerref01_Pack.mono _ _)
    | (with_reducible exact chequerref07_Unpack.mono _ _ _)
    | (with_reducible exact chequerref09_Samples.mono _ _ _ _ _ _)
    | (with_reducible exact LeO.refl _)
    | (with_reducible exact LeO.none _)
    | (with_reducible refine LeO.ite ?_ ?_)
    | (with_reducible refine LeO.bind ?_ (fun _ => ?_))
    | exact ih0 _ _ _ _ _
    | exact ih1 _ _
    | exact ih2 _ _ _ _
    | exact chequerref01_Pack.mono _ _
    | exact chequerref07_Unpack.mono _ _ _
    | exact chequerref09_Samples.mono _ _ _ _ _ _
    | exact LeO.none _
    | refine LeO.ite ?_ ?_
    | refine LeO.bind ?_ (fun _ => ?_)
  · intro y0 y1
    unfold chequerref09_Row.j1
    repeat' first
    | (with_reducible exact ih0 _ _ _ _ _)
    | (with_reducible exact ih1 _ _)
    | (with_reducible exact ih2 _ _ _ _)
    | (with_reducible exact chequerref01_Pack.mono _ _)
    | (with_reducible exact chequerref07_Unpack.mono _ _ _)
    | (with_reducible exact chequerref09_Samples.mono _ _ _ _ _ _)
    | (with_reducible exact LeO.refl _)
    | (with_reducible exact LeO.none _)
    | (with_reducible refine LeO.ite ?_ ?_)
    | (with_reducible refine LeO.bind ?_ (fun _ => ?_))
    | exact ih0 _ _ _ _ _
    | exact ih1 _ _
    | exact ih2 _ _ _ _
    | exact chequerref01_Pack.mono _ _
    | exact chequerref07_Unpack.mono _ _ _
    | exact chequerref09_Samples.mono _ _ _ _ _ _
    | exact LeO.none _
    | refine LeO.ite ?_ ?_
    | refine LeO.bind ?_ (fun _ => ?_)
  · intro y0 y1 y2 y3
    unfold chequerref09_Row.l0
    repeat' first
    | (with_reducible exact ih0 _ _ _ _ _)
    | (with_reducible exact ih1 _ _)
    | (with_reducible exact ih2 _ _ _ _)
    | (with_reducible exact chequerref01_Pack.mono _ _)
    | (with_reducible exact chequerref07_Unpack.mono _ _ _)
    | (with_reducible exact chequerref09_Samples.mono _ _ _ _ _ _)
    | (with_reducible exact LeO.refl _)
    | (with_reducible exact LeO.none _)
    | (with_reducible refine LeO.ite ?_ ?_)
    | (with_reducible refine LeO.bind ?_ (fun _ => ?_))
    | exact ih0 _ _ _ _ _
    | exact ih1 _ _
    | exact ih2 _ _ _ _
    | exact chequerref01_Pack.mono _ _
    | exact chequerref07_Unpack.mono _ _ _
    | exact chequerref09_Samples.mono _ _ _ _ _ _
    | exact LeO.none _
    | refine LeO.ite ?_ ?_
    | refine LeO.bind ?_ (fun _ => ?_)
theorem chequerref09_Row.mono : ∀ a0 a1 a2 a3 a4 k, LeO (chequerref09_Row.f k a0 a1 a2 a3 a4) (chequerref09_Row.f (k + 1) a0 a1 a2 a3 a4) := by
 intro a0 a1 a2 a3 a4 k
 obtain ⟨ih0, ih1, ih2⟩ := chequerref09_Row.mono_l k
 unfold chequerref09_Row.f
 repeat' first
  | (with_reducible exact ih0 _ _ _ _ _)
  | (with_reducible exact ih1 _ _)
  | (with_reducible exact ih2 _ _ _ _)
  | (with_reducible exact chequerref01_Pack.mono _ _)
  | (with_reducible exact chequerref07_Unpack.mono _ _ _)
  | (with_reducible exact chequerref09_Samples.mono _ _ _ _ _ _)
  | (with_reducible exact LeO.refl _)
  | (with_reducible exact LeO.none _)
  | (with_reducible refine LeO.ite ?_ ?_)
  | (with_reducible refine LeO.bind ?_ (fun _ => ?_))
  | exact ih0 _ _ _ _ _
  | exact ih1 _ _
  | exact ih2 _ _ _ _
  | exact chequerref01_Pack.mono _ _
  | exact chequerref07_Unpack.mono _ _ _
  | exact chequerref09_Samples.mono _ _ _ _ _ _
  | exact LeO.none _
  | refine LeO.ite ?_ ?_
  | refine LeO.bind ?_ (fun _ => ?_)
set_option maxHeartbeats 8000000 in
set_option maxRecDepth 100000 in
theorem chequerref09_Row.calls (k : Nat) (A0 : Option Addr) (c0 : Nat) (l0 : List Int) (a1_0 : Int) (a1_1 : Int) (a1_2 : Int) (a1_3 : Int) (r : List Int) (w : World) (hr0 : Kd.C (Kd.int .u8) w A0 l0.length l0) (hc0 : l0.length ≤ c0) (h : chequerref09_Row.f k l0 a1_0 a1_1 a1_2 a1_3 = some r) :
 Calls Try.prog 24 #[.slice A0 l0.length c0, .agg #[.int .i64 a1_0, .int .i64 a1_1, .int .i64 a1_2, .int .i64 a1_3]] w fun e w' => ∃ v0_ : Value, e = .returned (v0_) ∧ Kd.R (Kd.int .u64) 26 w' w.heap.size (fun _ => True) v0_ r ∧ Below w.heap.size w w' := by
 have hu23 := Try.underlying23
 have HR0 := Aside0.mk hr0
 have HC0 := Aside0.mk hc0
 clear hr0 hc0
 have HB := Aside0.mk (Below.refl w.heap.size w)
 have H : ((chequerref09_Samples.f k l0 a1_0 a1_1 a1_2 a1_3).bind fun t308 => (if a1_0 = 4 then ((chequerref07_Unpack.f k l0 a1_1).bind fun bt311 => (chequerref09_Row.j0 k bt311.1 a1_0 a1_1 a1_2 a1_3)) else (chequerref09_Row.j0 k t308 a1_0 a1_1 a1_2 a1_3))) = some r := h
 clear h
 replace H := Option.bind_eq_some_iff.mp H
 obtain ⟨t308, A30, H⟩ := H
 replace H : (if a1_0 = 4 then ((chequerref07_Unpack.f k l0 a1_1).bind fun bt311 => (chequerref09_Row.j0 k bt311.1 a1_0 a1_1 a1_2 a1_3)) else (chequerref09_Row.j0 k t308 a1_0 a1_1 a1_2 a1_3)) = some r := H
 have A3 := Aside0.mk A30
 clear A30
 have HC4 := Aside0.mk H
 clear H
 go_enter Try.func24, Try.ntmps24
 go_upto_if 18 with (first | ((with_reducible refine gate_dst (N := 3) rfl ?_); refine box_event ?hg (N := 3) ?hd (cs := #[.int .i64 a1_0, .int .i64 a1_1, .int .i64 a1_2, .int .i64 a1_3]) (t := 23) ?hr ?_; (case hd => rfl); (case hg => rfl); (case hr => first | (go_simp; done) | (go_simp; rfl)); intro gb307 hg w5 hbox hb; have BK307 := Aside0.mk (hbox); have GW307 := Aside0.mk ((by rw [hg]; exact (below_size bp_) : w.heap.size ≤ gb307)); have GE307 := Aside0.mk ((by rw [hg]; exact (below_size bp_) : w.heap.size ≤ gb307)); replace HB := Aside0.mk (below_step bp_ hb); clear hb hbox hg; have hcz6_0 : w5.cell? ⟨gb307, 0, none⟩ = some (.int .i64 a1_0) := (blk_cell BK307.out 0).trans rfl; have hcz6_1 : w5.cell? ⟨gb307, 1, none⟩ = some (.int .i64 a1_1) := (blk_cell BK307.out 1).trans rfl; have hcz6_2 : w5.cell? ⟨gb307, 2, none⟩ = some (.int .i64 a1_2) := (blk_cell BK307.out 2).trans rfl; have hcz6_3 : w5.cell? ⟨gb307, 3, none⟩ = some (.int .i64 a1_3) := (blk_cell BK307.out 3).trans rfl; have hfz6_0 := blk_frozen BK307.out 0; have hfz6_1 := blk_frozen BK307.out 1; have hfz6_2 := blk_frozen BK307.out 2; have hfz6_3 := blk_frozen BK307.out 3) | ((with_reducible refine gate_callee (f := 47) rfl ?_); refine goQ_ (some 15) Try.func47 #[.slice A0 l0.length c0, .agg #[.int .i64 a1_0, .int .i64 a1_1, .int .i64 a1_2, .int .i64 a1_3]] ?_; (with_reducible refine (chequerref09_Samples.calls k _ _ l0 a1_0 a1_1 a1_2 a1_3 t308 _ ?side1 ?side2 A3.out).mono ?_); (case side1 => repeat (first | exact (Kd.C_below HR0.out HB.out) | (with_reducible refine Kd.C_alloc ?_ _) | (with_reducible refine Kd.C_drewN ?_ _) | (with_reducible refine Kd.C_drew ?_))); (case side2 => exact HC0.out); rintro e w7 ⟨v309, rfl, ho0, hb⟩; refine ⟨_, rfl, ?_⟩; have HO310 := Aside0.mk (Kd.R_lower ho0 (below_size bp_)); replace BK307 := Aside0.mk (blk_below (hp_ BK307.out) hb); replace HB := Aside0.mk (below_step bp_ hb); (try clear hb); (try clear hb2); (try clear hk); (try clear hi); (try clear ho0); have hcz8_0 : w7.cell? ⟨gb307, 0, none⟩ = some (.int .i64 a1_0) := (blk_cell BK307.out 0).trans rfl; have hcz8_1 : w7.cell? ⟨gb307, 1, none⟩ = some (.int .i64 a1_1) := (blk_cell BK307.out 1).trans rfl; have hcz8_2 : w7.cell? ⟨gb307, 2, none⟩ = some (.int .i64 a1_2) := (blk_cell BK307.out 2).trans rfl; have hcz8_3 : w7.cell? ⟨gb307, 3, none⟩ = some (.int .i64 a1_3) := (blk_cell BK307.out 3).trans rfl; have hfz8_0 := blk_frozen BK307.out 0; have hfz8_1 := blk_frozen BK307.out 1; have hfz8_2 := blk_frozen BK307.out 2; have hfz8_3 := blk_frozen BK307.out 3))
 (try simp only [Act.put, List.setIfInBounds_toArray, List.set_cons_zero, List.set_cons_succ])
 go_cut [5] (fun v5 wc => ∃ (kq : Nat) (x5_3 : List Int), Aside0 (chequerref09_Row.j0 kq x5_3 a1_0 a1_1 a1_2 a1_3 = some r) ∧ Aside0 (kq ≤ k) ∧ Aside0 (Kd.R (Kd.int .i64) 3 wc w.heap.size (fun _ => True) v5 x5_3) ∧ Aside0 (wc.heap[gb307]? = some (.cells #[.int .i64 a1_0, .int .i64 a1_1, .int .i64 a1_2, .int .i64 a1_3] 23 (0, 0))) ∧ Aside0 (Below w.heap.size w wc))
 case first =>
  have H := HC4.out
  clear HC4
  by_cases c9 : a1_0 = 4
  · rw [if_pos c9] at H
    have c9b0 : (a1_0 == 4) = true := beq_iff_eq.mpr c9
    have c9b1 : (a1_0 != 4) = false := bne_eq_false_iff_eq.mpr c9
    clear c9
    (first | rw [c9b0] | (simp only [i64_w, i32_w]; rw [c9b0]) | skip)
    replace H := Option.bind_eq_some_iff.mp H
    obtain ⟨⟨t311, t312⟩, A100, H⟩ := H
    replace H : (chequerref09_Row.j0 k t311 a1_0 a1_1 a1_2 a1_3) = some r := H
    have A10 := Aside0.mk A100
    clear A100
    have H' := Aside0.mk H
    clear H
    have hcz11_0 : w7.cell? ⟨gb307, 0, none⟩ = some (.int .i64 a1_0) := (blk_cell BK307.out 0).trans rfl
    have hcz11_1 : w7.cell? ⟨gb307, 1, none⟩ = some (.int .i64 a1_1) := (blk_cell BK307.out 1).trans rfl
    have hcz11_2 : w7.cell? ⟨gb307, 2, none⟩ = some (.int .i64 a1_2) := (blk_cell BK307.out 2).trans rfl
    have hcz11_3 : w7.cell? ⟨gb307, 3, none⟩ = some (.int .i64 a1_3) := (blk_cell BK307.out 3).trans rfl
    have hfz11_0 := blk_frozen BK307.out 0
    have hfz11_1 := blk_frozen BK307.out 1
    have hfz11_2 := blk_frozen BK307.out 2
    have hfz11_3 := blk_frozen BK307.out 3
    go_wp2_with (first | ((with_reducible refine gate_callee (f := 48) rfl ?_); refine goQ_ (some 23) Try.func48 #[.slice A0 l0.length c0, .int .i64 a1_1] ?_; (with_reducible refine (chequerref07_Unpack.calls k _ _ l0 a1_1 t311 t312 _ ?side1 ?side2 A10.out).mono ?_); (case side1 => repeat (first | exact (Kd.C_below HR0.out HB.out) | (with_reducible refine Kd.C_alloc ?_ _) | (with_reducible refine Kd.C_drewN ?_ _) | (with_reducible refine Kd.C_drew ?_))); (case side2 => exact HC0.out); rintro e w12 ⟨v313, rfl, ho0, hb⟩; refine ⟨_, rfl, ?_⟩; have HO314 := Aside0.mk (Kd.R_lower (Kd.R_new' ho0 (Kd.R_lt (rp_ HO310.out))) (below_size bp_)); replace HO310 := Aside0.mk (Kd.R_elder' (rp_ HO310.out) (Kd.R_base ho0) hb); replace BK307 := Aside0.mk (blk_below (hp_ BK307.out) hb); replace HB := Aside0.mk (below_step bp_ hb); (try clear hb); (try clear hb2); (try clear hk); (try clear hi); (try clear ho0)))
    go_meet
    case rel => exact ⟨_, (t311), H', ⟨by first | omega | exact Nat.le_refl _⟩, ⟨by (with_reducible repeat (first | apply Kd.R_alloc | apply Kd.R_drewN | apply Kd.R_drew)); exact Kd.R_mono HO314.out (fun _ hk => trivial)⟩, ⟨hp_ BK307.out⟩, ⟨bp_⟩⟩
  · rw [if_neg c9] at H
    have c9b0 : (a1_0 == 4) = false := beq_eq_false_iff_ne.mpr c9
    have c9b1 : (a1_0 != 4) = true := bne_iff_ne.mpr c9
    (first | rw [c9b0] | (simp only [i64_w, i32_w]; rw [c9b0]) | skip)
    have H' := Aside0.mk H
    clear H
    go_wp2
    go_meet
    case rel => exact ⟨_, (t308), H', ⟨by first | omega | exact Nat.le_refl _⟩, ⟨rp_ HO310.out⟩, ⟨hp_ BK307.out⟩, ⟨bp_⟩⟩
 case rest =>
  clear HC4
  try clear c2
  try clear p2
  try clear c4
  try clear c9
  try clear c9b0
  try clear c9b1
  try clear hcz11_0
  try clear hcz11_1
  try clear hcz11_2
  try clear hcz11_3
  try clear hcz6_0
  try clear hcz6_1
  try clear hcz6_2
  try clear hcz6_3
  try clear hcz8_0
  try clear hcz8_1
  try clear hcz8_2
  try clear hcz8_3
  try clear hfz11_0
  try clear hfz11_1
  try clear hfz11_2
  try clear hfz11_3
  try clear hfz6_0
  try clear hfz6_1
  try clear hfz6_2
  try clear hfz6_3
  try clear hfz8_0
  try clear hfz8_1
  try clear hfz8_2
  try clear hfz8_3
  obtain ⟨kq, x5_3, HA, HJ3, HO_5, BK307, HB⟩ := hcut
  cases kq with
  | zero => exact absurd HA.out (by simp [chequerref09_Row.j0])
  | succ kj3 =>
   have H := HA.out
   clear HA
   simp only [chequerref09_Row.j0] at H
   have HC13 := Aside0.mk H
   clear H
   have hcz14_0 : wc.cell? ⟨gb307, 0, none⟩ = some (.int .i64 a1_0) := (blk_cell BK307.out 0).trans rfl
   have hcz14_1 : wc.cell? ⟨gb307, 1, none⟩ = some (.int .i64 a1_1) := (blk_cell BK307.out 1).trans rfl
   have hcz14_2 : wc.cell? ⟨gb307, 2, none⟩ = some (.int .i64 a1_2) := (blk_cell BK307.out 2).trans rfl
   have hcz14_3 : wc.cell? ⟨gb307, 3, none⟩ = some (.int .i64 a1_3) := (blk_cell BK307.out 3).trans rfl
   have hfz14_0 := blk_frozen BK307.out 0
   have hfz14_1 := blk_frozen BK307.out 1
   have hfz14_2 := blk_frozen BK307.out 2
   have hfz14_3 := blk_frozen BK307.out 3
   go_upto_if 29 with (fail)
   go_cut [8] (fun v8 wc => ∃ (kq : Nat) (x8_12 : Int), v8 = .int .i64 x8_12 ∧ Aside0 (chequerref09_Row.j1 kq x5_3 x8_12 = some r) ∧ Aside0 (kq ≤ kj3) ∧ Aside0 (Kd.R (Kd.int .i64) 3 wc w.heap.size (fun _ => True) u5 x5_3) ∧ Aside0 (wc.heap[gb307]? = some (.cells #[.int .i64 a1_0, .int .i64 a1_1, .int .i64 a1_2, .int .i64 a1_3] 23 (0, 0))) ∧ Aside0 (Below w.heap.size w wc))
   case first =>
    have H := HC13.out
    clear HC13
    by_cases c15 : a1_0 = 6
    · rw [if_pos c15] at H
      have c15b0 : (a1_0 == 6) = true := beq_iff_eq.mpr c15
      have c15b1 : (a1_0 != 6) = false := bne_eq_false_iff_eq.mpr c15
      clear c15
      (first | rw [c15b0] | (simp only [i64_w, i32_w]; rw [c15b0]) | skip)
      have H' := Aside0.mk H
      clear H
      go_wp2
      go_meet
      case rel => exact ⟨_, (3), (by first | rfl | (simp; done) | (simp [*]; done)), H', ⟨by have := HJ3.out; first | omega | exact Nat.le_refl _⟩, ⟨rp_ HO_5.out⟩, ⟨hp_ BK307.out⟩, ⟨bp_⟩⟩
    · rw [if_neg c15] at H
      have c15b0 : (a1_0 == 6) = false := beq_eq_false_iff_ne.mpr c15
      have c15b1 : (a1_0 != 6) = true := bne_iff_ne.mpr c15
      (first | rw [c15b0] | (simp only [i64_w, i32_w]; rw [c15b0]) | skip)
      have H' := Aside0.mk H
      clear H
      go_wp2
      go_meet
      case rel => exact ⟨_, (1), (by first | rfl | (simp; done) | (simp [*]; done)), H', ⟨by have := HJ3.out; first | omega | exact Nat.le_refl _⟩, ⟨rp_ HO_5.out⟩, ⟨hp_ BK307.out⟩, ⟨bp_⟩⟩
   case rest =>
    clear HC13
    try clear c1
    try clear c2
    try clear p2
    try clear c4
    try clear c9
    try clear c9b0
    try clear c9b1
    try clear c15
    try clear c15b0
    try clear c15b1
    try clear hcz11_0
    try clear hcz11_1
    try clear hcz11_2
    try clear hcz11_3
    try clear hcz14_0
    try clear hcz14_1
    try clear hcz14_2
    try clear hcz14_3
    try clear hcz6_0
    try clear hcz6_1
    try clear hcz6_2
    try clear hcz6_3
    try clear hcz8_0
    try clear hcz8_1
    try clear hcz8_2
    try clear hcz8_3
    try clear hfz11_0
    try clear hfz11_1
    try clear hfz11_2
    try clear hfz11_3
    try clear hfz14_0
    try clear hfz14_1
    try clear hfz14_2
    try clear hfz14_3
    try clear hfz6_0
    try clear hfz6_1
    try clear hfz6_2
    try clear hfz6_3
    try clear hfz8_0
    try clear hfz8_1
    try clear hfz8_2
    try clear hfz8_3
    try clear p2
    obtain ⟨kq, x8_12, rfl, HA, HJ12, HO_5, BK307, HB⟩ := hcut
    cases kq with
    | zero => exact absurd HA.out (by simp [chequerref09_Row.j1])
    | succ kj12 =>
     have H := HA.out
     clear HA
     simp only [chequerref09_Row.j1] at H
     have H' := Aside0.mk H
     clear H
     go_wp2
     go_loopg [9, 10] kj12 (fun kq v9 v10 w' => ∃ (x9_3 : List Int) (x10_3 : Int), v10 = .int .i64 x10_3 ∧ Aside0 (chequerref09_Row.l0 kq x5_3 x8_12 x9_3 x10_3 = some r) ∧ Aside0 (kq ≤ kj12) ∧ Aside0 (Kd.R (Kd.int .i64) 3 w' w.heap.size (fun _ => True) u5 x5_3) ∧ Aside0 (Kd.R (Kd.int .u64) 26 w' w.heap.size (fun _ => True) v9 x9_3) ∧ Aside0 (w'.heap[gb307]? = some (.cells #[.int .i64 a1_0, .int .i64 a1_1, .int .i64 a1_2, .int .i64 a1_3] 23 (0, 0))) ∧ Aside0 (Below w.heap.size w w'))
     case atStart => exact ⟨(([] : List Int)), (0), (by first | rfl | (simp; done) | (simp [*]; done)), H', ⟨Nat.le_refl _⟩, ⟨rp_ HO_5.out⟩, ⟨by first | exact Kd.R_nil _ _ _ _ _ | exact Kd.N_nil _ _ _ _ _ | exact Kd.V_nil _ _ _ _ _ | exact Kd.Q_nil _ _ _ _ _ | exact Kd.S_nil _ _ _ _ _⟩, ⟨hp_ BK307.out⟩, ⟨bp_⟩⟩
     case round =>
      clear H'
      try clear c1
      try clear c2
      try clear p2
      try clear c4
      try clear c9
      try clear c9b0
      try clear c9b1
      try clear c15
      try clear c15b0
      try clear c15b1
      try clear hcz11_0
      try clear hcz11_1
      try clear hcz11_2
      try clear hcz11_3
      try clear hcz14_0
      try clear hcz14_1
      try clear hcz14_2
      try clear hcz14_3
      try clear hcz6_0
      try clear hcz6_1
      try clear hcz6_2
      try clear hcz6_3
      try clear hcz8_0
      try clear hcz8_1
      try clear hcz8_2
      try clear hcz8_3
      try clear hfz11_0
      try clear hfz11_1
      try clear hfz11_2
      try clear hfz11_3
      try clear hfz14_0
      try clear hfz14_1
      try clear hfz14_2
      try clear hfz14_3
      try clear hfz6_0
      try clear hfz6_1
      try clear hfz6_2
      try clear hfz6_3
      try clear hfz8_0
      try clear hfz8_1
      try clear hfz8_2
      try clear hfz8_3
      try clear p2
      obtain ⟨x9_3, x10_3, rfl, HA, HK3, HO_5, HO_9, BK307, HB⟩ := hrel
      cases gk with
      | zero => exact absurd HA.out (by simp [chequerref09_Row.l0])
      | succ k3 =>
       have H := HA.out
       clear HA
       simp only [chequerref09_Row.l0] at H
       by_cases c16 : (wrap64 (x10_3 + x8_12)) ≤ (x5_3.length : Int)
       · rw [if_pos c16] at H
         have c16b0 : decide ((wrap64 (x10_3 + x8_12)) ≤ (x5_3.length : Int)) = true := decide_eq_true c16
         clear c16
         by_cases c17 : 0 ≤ x10_3
         · rw [if_pos c17] at H
           have c17b0 := eq_true c17
           have c17b1 : decide (0 ≤ x10_3) = true := decide_eq_true c17
           clear c17
           by_cases c18 : x10_3 ≤ (wrap64 (x10_3 + x8_12))
           · rw [if_pos c18] at H
             have c18b0 := eq_true c18
             have c18b1 : decide (x10_3 ≤ (wrap64 (x10_3 + x8_12))) = true := decide_eq_true c18
             have c19b0 := eq_true (of_decide_eq_true (by first | (with_reducible assumption) | assumption) : (wrap64 (x10_3 + x8_12)) ≤ (x5_3.length : Int))
             obtain ⟨y315, hy315⟩ : ∃ y_ : List Int, y_ = ((x5_3.take ((wrap64 (x10_3 + x8_12)) : Int).toNat).drop (x10_3 : Int).toNat) := ⟨_, rfl⟩
             replace H : ((chequerref01_Pack.f k3 y315).bind fun bt319 => (if x9_3.length < 17592186044416 then (chequerref09_Row.l0 k3 x5_3 x8_12 (x9_3 ++ [bt319.1]) (wrap64 (x10_3 + x8_12))) else (none))) = some r := by first | (rw [hy315]; with_reducible exact H) | (have H2_ := (Option.bind_some _ _).symm.trans H; rw [hy315]; with_reducible exact H2_) | (have H2_ := (Option.bind_some _ _).symm.trans H; with_reducible exact H2_) | with_reducible exact H | (rw [hy315]; exact H) | exact H
             have Ny315 := Aside0.mk hy315
             clear hy315
             replace H := Option.bind_eq_some_iff.mp H
             obtain ⟨⟨t319, t320⟩, A200, H⟩ := H
             replace H : (if x9_3.length < 17592186044416 then (chequerref09_Row.l0 k3 x5_3 x8_12 (x9_3 ++ [t319]) (wrap64 (x10_3 + x8_12))) else (none)) = some r := H
             have A20 := Aside0.mk A200
             clear A200
             by_cases c21 : x9_3.length < 17592186044416
             · rw [if_pos c21] at H
               have LMc21 := Aside0.mk c21
               clear c21
               obtain ⟨y321, hy321⟩ : ∃ y_ : List Int, y_ = (x9_3 ++ [t319]) := ⟨_, rfl⟩
               replace H : (chequerref09_Row.l0 k3 x5_3 x8_12 y321 (wrap64 (x10_3 + x8_12))) = some r := by first | (rw [hy321]; with_reducible exact H) | (have H2_ := (Option.bind_some _ _).symm.trans H; rw [hy321]; with_reducible exact H2_) | (have H2_ := (Option.bind_some _ _).symm.trans H; with_reducible exact H2_) | with_reducible exact H | (rw [hy321]; exact H) | exact H
               have Ny321 := Aside0.mk hy321
               clear hy321
               have H' := Aside0.mk H
               clear H
               obtain ⟨Ao22, co22, eo22⟩ := Kd.R_slice HO_5.out
               subst eo22
               have q23 : ((wrap64 (x10_3 + x8_12)) : Int) ≤ ((x5_3.length : Int) : Int) := of_decide_eq_true (by first | (with_reducible assumption) | assumption)
               obtain ⟨i023, hi023, _, hsz23, _⟩ := info_parts info3
               have hroom23 : x5_3.length ≤ co22 := (Kd.R_reads' HO_5.out).2.1
               have hC23 : Kd.C (Kd.int .i64) _ Ao22 x5_3.length x5_3 := (Kd.R_reads' HO_5.out).2.2
               have ql23 : (x10_3 : Int) ≤ ((wrap64 (x10_3 + x8_12)) : Int) := of_decide_eq_true (by first | (with_reducible assumption) | assumption)
               have q023 : (0 : Int) ≤ (x10_3 : Int) := of_decide_eq_true (by first | (with_reducible assumption) | assumption)
               have hcut23 := cut_mid (P := Try.prog) 24 3 .i64 .i64 Try.underlying24 hi023 1 hsz23 Ao22 x5_3.length co22 x10_3 (wrap64 (x10_3 + x8_12)) q023 ql23 q23 hroom23
               have hr23 := Kd.C_mid (lo := (x10_3 : Int).toNat) (hi := ((wrap64 (x10_3 + x8_12)) : Int).toNat) (c := co22) hC23 (by omega) (by omega) hroom23
               obtain ⟨A23, hA23⟩ : ∃ A1, A1 = (if co22 = (x10_3 : Int).toNat then Ao22 else (Ao22 : Option Addr).map (·.add ((x10_3 : Int).toNat * 1))) := ⟨_, rfl⟩
               obtain ⟨c23, hc23⟩ : ∃ c1, c1 = co22 - (x10_3 : Int).toNat := ⟨_, rfl⟩
               have hy23 : y315.length = ((wrap64 (x10_3 + x8_12)) : Int).toNat - (x10_3 : Int).toNat := (by rw [Ny315.out, List.length_drop, List.length_take] <;> omega)
               rw [show ((x5_3).take ((wrap64 (x10_3 + x8_12)) : Int).toNat).drop (x10_3 : Int).toNat = y315 from Ny315.out.symm] at hr23
               replace hr23 : Kd.C (Kd.int .i64) _ A23 y315.length y315 := (by rw [hA23]; exact hr23)
               rw [← hy23, ← hA23, ← hc23] at hcut23
               have HR318 := Aside0.mk hr23
               have HC318 := Aside0.mk (show y315.length ≤ c23 from by rw [hy23, hc23]; exact Nat.sub_le_sub_right (Nat.le_trans (by omega) hroom23) _)
               clear hr23 hC23 hroom23 hi023 hsz23 hc23
               have KY23 := Aside0.mk hy23
               have KA23 := Aside0.mk hA23
               clear hy23 hA23
               have KL23 := Aside0.mk (show ((wrap64 (x10_3 + x8_12)) : Int).toNat ≤ x5_3.length from by omega)
               have KM23 := Aside0.mk (show (x10_3 : Int).toNat ≤ ((wrap64 (x10_3 + x8_12)) : Int).toNat from by omega)
               replace q23 := eq_true q23
               go_wp2_with (first | ((with_reducible refine gate_callee (f := 49) rfl ?_); refine goQ_ (some 46) Try.func49 #[.slice A23 y315.length c23] ?_; (with_reducible refine (chequerref01_Pack.calls k3 _ _ y315 t319 t320 _ ?side1 ?side2 A20.out).mono ?_); (case side1 => repeat (first | exact (by repeat (first | (with_reducible exact HR318.out) | (with_reducible refine Kd.C_alloc ?_ _) | (with_reducible refine Kd.C_drewN ?_ _) | (with_reducible refine Kd.C_drew ?_) | exact HR318.out)) | (with_reducible refine Kd.C_alloc ?_ _) | (with_reducible refine Kd.C_drewN ?_ _) | (with_reducible refine Kd.C_drew ?_))); (case side2 => exact HC318.out); rintro e w' ⟨rfl, ⟨nd, rfl⟩⟩; refine ⟨_, rfl, ?_⟩) | ((with_reducible refine gate_builtin (b := .append) (xs := #[.tmp 49, .tmp 51]) rfl ?_); at_builtin; refine Kd.R_append (Kd.int .u64) (w0 := w) w.heap.size rfl (.tmp 49) (.tmp 51) 29 26 (.int .u64 0) 8 rfl Try.underlying29 info26 rfl (by decide) (by omega) u9 x9_3 t319 [.int .u64 t319] (fun _ => True) (fun _ => False) rfl rfl ?aP (fun _ hk => hk.elim) ?aF ?aO ?aB ?aS ?aL ?_; (case aP => exact rfl); (case aB => exact bp_); (case aF => exact (fun _ _ => trivial)); (case aO => exact (rp_ HO_9.out)); (case aS => exact (below_size bp_)); (case aL => have := LMc21.out; omega); intro v322 w24 ho hb hg hat; rw [← Ny321.out] at ho; replace BK307 := Aside0.mk (blk_grown (g := gb307) (o := .cells #[.int .i64 a1_0, .int .i64 a1_1, .int .i64 a1_2, .int .i64 a1_3] 23 (0, 0)) (hp_ BK307.out) hg (Kd.R_ne HO_9.out BK307.out (by decide))); replace HB := Aside0.mk (hb); replace HR318 := Aside0.mk ((show Kd.C (Kd.int .i64) w24 A23 y315.length y315 from by rw [Ny315.out, KA23.out]; exact Kd.C_mid (lo := (x10_3 : Int).toNat) (hi := ((wrap64 (x10_3 + x8_12)) : Int).toNat) (c := co22) ((Kd.R_reads' (Kd.R_over' (rp_ HO_5.out) (Kd.R_typed (rp_ HO_9.out)) (by decide) hg)).2.2) KM23.out KL23.out ((Kd.R_reads' (Kd.R_over' (rp_ HO_5.out) (Kd.R_typed (rp_ HO_9.out)) (by decide) hg)).2.1))); replace HO_5 := Aside0.mk (Kd.R_over' (rp_ HO_5.out) (Kd.R_typed (rp_ HO_9.out)) (by decide) hg); have HO323 := Aside0.mk (ho); clear HO_9; clear ho hb hg hat))
               go_roundg k3
               case measure => have := HJ3.out; have := HJ12.out; have := HK3.out; omega
               case rel => exact ⟨(y321), (wrap64 (x10_3 + x8_12)), (by first | rfl | (simp; done) | (simp [*]; done)), H', ⟨by have := HJ3.out; have := HJ12.out; have := HK3.out; omega⟩, ⟨rp_ HO_5.out⟩, ⟨rp_ HO323.out⟩, ⟨hp_ BK307.out⟩, ⟨bp_⟩⟩
             · rw [if_neg c21] at H
               exact absurd H (by simp)
           · rw [if_neg c18] at H
             exact absurd H (by simp)
         · rw [if_neg c17] at H
           exact absurd H (by simp)
       · rw [if_neg c16] at H
         have c16b0 : decide ((wrap64 (x10_3 + x8_12)) ≤ (x5_3.length : Int)) = false := decide_eq_false c16
         clear c16
         obtain rfl := Option.some.inj H
         obtain ⟨Ao25, co25, eo25⟩ := Kd.R_slice HO_5.out
         subst eo25
         go_wp2
         go_ret
         exact ⟨_, by first | rfl | (simp [errW_none, errW_some] <;> rfl) | (simp [*, errW_none, errW_some] <;> rfl), by (with_reducible repeat (first | apply Kd.R_alloc | apply Kd.R_drewN | apply Kd.R_drew)); exact HO_9.out, bp_⟩

end Go.Proofs.Ytdjonaajfhbfhaa.Q
