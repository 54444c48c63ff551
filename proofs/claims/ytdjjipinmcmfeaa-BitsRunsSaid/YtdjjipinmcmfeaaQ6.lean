-- written by our own program (wip/tools/myprint.py) out of the translation, by the kit's print; Lean checks it
import Derived.Test.YtdjjipinmcmfeaaQ0
import Derived.Test.YtdjjipinmcmfeaaQ3
import Derived.Test.YtdjjipinmcmfeaaQ4
import Derived.Test.YtdjjipinmcmfeaaIbits_Unpack
namespace Go.Proofs.Ytdjjipinmcmfeaa.Q
open Go.RowKit Go.Proofs.YtdjjipinmcmfeaaW.PrintWords Go.Proofs.YtdjjipinmcmfeaaW.PrintLast Go.Proofs.YtdjjipinmcmfeaaW.PrintMore
attribute [local go_sem] max2_int min2_int max_two min_two max_three min_three max_four min_four   -- for this text's walks alone
set_option linter.unusedVariables false
set_option linter.unusedSimpArgs false

/-! ### chequerref01_Same: function 16 -/
def chequerref01_Same.l0 : Nat → List Int → List Int → Int → Option (Bool)
  | 0, _, _, _ => none
  | k + 1, x0, x1, x5 => if x5 < (x0.length : Int) then (if 0 ≤ x5 then (if x5 < (x1.length : Int) then (if (rd x0 x5) = (rd x1 x5) then (chequerref01_Same.l0 k x0 x1 (wrap64 (x5 + 1))) else (some false)) else (none)) else (none)) else (some true)
def chequerref01_Same.f (k : Nat) (l0 : List Int) (l1 : List Int) : Option (Bool) := if (l0.length : Int) = (l1.length : Int) then (chequerref01_Same.l0 k l0 l1 0) else (some false)
theorem chequerref01_Same.mono_l : ∀ k, (∀ y0 y1 y2, LeO (chequerref01_Same.l0 k y0 y1 y2) (chequerref01_Same.l0 (k + 1) y0 y1 y2))
  | 0 => fun _ _ _ r h => by simp [chequerref01_Same.l0] at h
  | k + 1 => by
    have ih0 := chequerref01_Same.mono_l k
    · intro y0 y1 y2
      unfold chequerref01_Same.l0
      repeat' first
      | (with_reducible exact ih0 _ _ _)
      | (with_reducible exact LeO.refl _)
      | (with_reducible exact LeO.none _)
      | (with_reducible refine LeO.ite ?_ ?_)
      | (with_reducible refine LeO.bind ?_ (fun _ => ?_))
      | exact ih0 _ _ _
      | exact LeO.none _
      | refine LeO.ite ?_ ?_
      | refine LeO.bind ?_ (fun _ => ?_)
theorem chequerref01_Same.mono : ∀ a0 a1 k, LeO (chequerref01_Same.f k a0 a1) (chequerref01_Same.f (k + 1) a0 a1) := by
  intro a0 a1 k
  have ih0 := chequerref01_Same.mono_l k
  unfold chequerref01_Same.f
  repeat' first
      | (with_reducible exact ih0 _ _ _)
      | (with_reducible exact LeO.refl _)
      | (with_reducible exact LeO.none _)
      | (with_reducible refine LeO.ite ?_ ?_)
      | (with_reducible refine LeO.bind ?_ (fun _ => ?_))
      | exact ih0 _ _ _
      | exact LeO.none _
      | refine LeO.ite ?_ ?_
      | refine LeO.bind ?_ (fun _ => ?_)
set_option maxHeartbeats 8000000 in
set_option maxRecDepth 100000 in
theorem chequerref01_Same.calls (k : Nat) (A0 : Option Addr) (c0 : Nat) (l0 : List Int) (A1 : Option Addr) (c1 : Nat) (l1 : List Int) (r : Bool) (w : World) (hr0 : Kd.C (Kd.int .i64) w A0 l0.length l0) (hc0 : l0.length ≤ c0) (hr1 : Kd.C (Kd.int .i64) w A1 l1.length l1) (hc1 : l1.length ≤ c1) (h : chequerref01_Same.f k l0 l1 = some r) :
    Calls Try.prog 16 #[.slice A0 l0.length c0, .slice A1 l1.length c1] w fun e w' => e = .returned (.bool r) ∧ Drawn0 w w' := by
  have HR0 := Aside0.mk hr0
  have HC0 := Aside0.mk hc0
  clear hr0 hc0
  have HR1 := Aside0.mk hr1
  have HC1 := Aside0.mk hc1
  clear hr1 hc1
  have H : (if (l0.length : Int) = (l1.length : Int) then (chequerref01_Same.l0 k l0 l1 0) else (some false)) = some r := h
  clear h
  by_cases c3 : (l0.length : Int) = (l1.length : Int)
  · rw [if_pos c3] at H
    have c3b0 : ((l0.length : Int) == (l1.length : Int)) = true := beq_iff_eq.mpr c3
    have c3b1 : ((l0.length : Int) != (l1.length : Int)) = false := bne_eq_false_iff_eq.mpr c3
    have c3b2 : (l0.length == l1.length) = true := by first | simpa using c3 | (simp at c3 ⊢; omega)
    clear c3
    have H' := Aside0.mk H
    clear H
    go_enter Try.func16, Try.ntmps16
    go_wp2
    repeat (go_quiet (fail); try go_wp2)
    go_loopg [5] k (fun kq v5 w' => ∃ (x5_1 : Int), v5 = .int .i64 x5_1 ∧ Aside0 (chequerref01_Same.l0 kq l0 l1 x5_1 = some r) ∧ Aside0 (kq ≤ k) ∧ Drawn0 w w')
    case atStart => exact ⟨(0), (by first | rfl | (simp; done) | (simp [*]; done)), H', ⟨Nat.le_refl _⟩, by repeat (first | exact Drawn0.refl _ | apply Drawn0.step)⟩
    case round =>
      clear H'
      try clear c1
      try clear p2
      try clear c3
      try clear c3b0
      try clear c3b1
      try clear c3b2
      obtain ⟨x5_1, rfl, HA, HK1, ⟨m1, rfl⟩⟩ := hrel
      cases gk with
      | zero => exact absurd HA.out (by simp [chequerref01_Same.l0])
      | succ k1 =>
        have H := HA.out
        clear HA
        simp only [chequerref01_Same.l0] at H
        by_cases c4 : x5_1 < (l0.length : Int)
        · rw [if_pos c4] at H
          have c4b0 : decide (x5_1 < (l0.length : Int)) = true := decide_eq_true c4
          clear c4
          by_cases c5 : 0 ≤ x5_1
          · rw [if_pos c5] at H
            have c5b0 : decide (0 ≤ x5_1) = true := decide_eq_true c5
            clear c5
            by_cases c6 : x5_1 < (l1.length : Int)
            · rw [if_pos c6] at H
              have c6b0 : decide (x5_1 < (l1.length : Int)) = true := decide_eq_true c6
              clear c6
              by_cases c7 : (rd l0 x5_1) = (rd l1 x5_1)
              · rw [if_pos c7] at H
                have c7b0 : ((rd l0 x5_1) == (rd l1 x5_1)) = true := beq_iff_eq.mpr c7
                have c7b1 : ((rd l0 x5_1) != (rd l1 x5_1)) = false := bne_eq_false_iff_eq.mpr c7
                clear c7
                have H' := Aside0.mk H
                clear H
                have p145 : 0 ≤ (x5_1 : Int) := of_decide_eq_true (by first | (with_reducible assumption) | assumption)
                have q145 : x5_1 < (l0.length : Int) := of_decide_eq_true (by first | (with_reducible assumption) | assumption)
                obtain ⟨ad145, e145, hx145_0⟩ := Kd.at_int HR0.out x5_1 p145 q145
                cases e145
                replace p145 := eq_true p145
                replace q145 := eq_true q145
                have p146 : 0 ≤ (x5_1 : Int) := of_decide_eq_true (by first | (with_reducible assumption) | assumption)
                have q146 : x5_1 < (l1.length : Int) := of_decide_eq_true (by first | (with_reducible assumption) | assumption)
                obtain ⟨ad146, e146, hx146_0⟩ := Kd.at_int HR1.out x5_1 p146 q146
                cases e146
                replace p146 := eq_true p146
                replace q146 := eq_true q146
                go_wp2
                repeat (go_quiet (fail); try go_wp2)
                go_roundg k1
                case measure => have := HK1.out; omega
                case rel => exact ⟨(wrap64 (x5_1 + 1)), (by first | rfl | (simp; done) | (simp [*]; done)), H', ⟨by have := HK1.out; omega⟩, by repeat (first | exact Drawn0.refl _ | apply Drawn0.step)⟩
              · rw [if_neg c7] at H
                have c7b0 : ((rd l0 x5_1) == (rd l1 x5_1)) = false := beq_eq_false_iff_ne.mpr c7
                have c7b1 : ((rd l0 x5_1) != (rd l1 x5_1)) = true := bne_iff_ne.mpr c7
                obtain rfl := Option.some.inj H
                have p145 : 0 ≤ (x5_1 : Int) := of_decide_eq_true (by first | (with_reducible assumption) | assumption)
                have q145 : x5_1 < (l0.length : Int) := of_decide_eq_true (by first | (with_reducible assumption) | assumption)
                obtain ⟨ad145, e145, hx145_0⟩ := Kd.at_int HR0.out x5_1 p145 q145
                cases e145
                replace p145 := eq_true p145
                replace q145 := eq_true q145
                have p146 : 0 ≤ (x5_1 : Int) := of_decide_eq_true (by first | (with_reducible assumption) | assumption)
                have q146 : x5_1 < (l1.length : Int) := of_decide_eq_true (by first | (with_reducible assumption) | assumption)
                obtain ⟨ad146, e146, hx146_0⟩ := Kd.at_int HR1.out x5_1 p146 q146
                cases e146
                replace p146 := eq_true p146
                replace q146 := eq_true q146
                go_wp2
                repeat (go_quiet (fail); try go_wp2)
                go_ret
                exact ⟨by first | rfl | (simp; done) | (simp [*]; done), by repeat (first | exact Drawn0.refl _ | apply Drawn0.step)⟩
            · rw [if_neg c6] at H
              exact absurd H (by simp)
          · rw [if_neg c5] at H
            exact absurd H (by simp)
        · rw [if_neg c4] at H
          have c4b0 : decide (x5_1 < (l0.length : Int)) = false := decide_eq_false c4
          clear c4
          obtain rfl := Option.some.inj H
          go_wp2
          repeat (go_quiet (fail); try go_wp2)
          go_ret
          exact ⟨by first | rfl | (simp; done) | (simp [*]; done), by repeat (first | exact Drawn0.refl _ | apply Drawn0.step)⟩
  · rw [if_neg c3] at H
    have c3b0 : ((l0.length : Int) == (l1.length : Int)) = false := beq_eq_false_iff_ne.mpr c3
    have c3b1 : ((l0.length : Int) != (l1.length : Int)) = true := bne_iff_ne.mpr c3
    have c3b2 : (l0.length == l1.length) = false := by first | simpa using c3 | (simp at c3 ⊢; omega)
    obtain rfl := Option.some.inj H
    go_enter Try.func16, Try.ntmps16
    go_wp2
    repeat (go_quiet (fail); try go_wp2)
    go_ret
    exact ⟨by first | rfl | (simp; done) | (simp [*]; done), by repeat (first | exact Drawn0.refl _ | apply Drawn0.step)⟩

/-! ### bits_Spare: function 17 -/
def bits_Spare.f (l0 : List Int) (a1 : Int) : Option (Int) := (bits_Unpack.f l0 a1).bind fun bt147 => (if bt147.2 = 0 then ((bits_Bytes.f a1).bind fun t151 => (if 0 ≤ (wrap64 (t151 - 1)) then (if (wrap64 (t151 - 1)) < (l0.length : Int) then (if 0 ≤ (wrap64 ((wrap64 (8 * t151)) - a1)) then (some (Go.bits .and .i64 (wrap64 (rd l0 (wrap64 (t151 - 1)))) (wrap64 ((shl .i64 1 (wrap64 ((wrap64 (8 * t151)) - a1))) - 1)))) else (none)) else (none)) else (none))) else (some 0))
set_option maxHeartbeats 8000000 in
set_option maxRecDepth 100000 in
theorem bits_Spare.calls (A0 : Option Addr) (c0 : Nat) (l0 : List Int) (a1 : Int) (r : Int) (w : World) (hr0 : Kd.C (Kd.int .u8) w A0 l0.length l0) (hc0 : l0.length ≤ c0) (h : bits_Spare.f l0 a1 = some r) :
    Calls Try.prog 17 #[.slice A0 l0.length c0, .int .i64 a1] w fun e w' => e = .returned (.int .i64 r) ∧ Below w.heap.size w w' := by
  have HR0 := Aside0.mk hr0
  have HC0 := Aside0.mk hc0
  clear hr0 hc0
  have HB := Aside0.mk (Below.refl w.heap.size w)
  have H : ((bits_Unpack.f l0 a1).bind fun bt147 => (if bt147.2 = 0 then ((bits_Bytes.f a1).bind fun t151 => (if 0 ≤ (wrap64 (t151 - 1)) then (if (wrap64 (t151 - 1)) < (l0.length : Int) then (if 0 ≤ (wrap64 ((wrap64 (8 * t151)) - a1)) then (some (Go.bits .and .i64 (wrap64 (rd l0 (wrap64 (t151 - 1)))) (wrap64 ((shl .i64 1 (wrap64 ((wrap64 (8 * t151)) - a1))) - 1)))) else (none)) else (none)) else (none))) else (some 0))) = some r := h
  clear h
  replace H := Option.bind_eq_some_iff.mp H
  obtain ⟨⟨t147, t148⟩, A30, H⟩ := H
  replace H : (if t148 = 0 then ((bits_Bytes.f a1).bind fun t151 => (if 0 ≤ (wrap64 (t151 - 1)) then (if (wrap64 (t151 - 1)) < (l0.length : Int) then (if 0 ≤ (wrap64 ((wrap64 (8 * t151)) - a1)) then (some (Go.bits .and .i64 (wrap64 (rd l0 (wrap64 (t151 - 1)))) (wrap64 ((shl .i64 1 (wrap64 ((wrap64 (8 * t151)) - a1))) - 1)))) else (none)) else (none)) else (none))) else (some 0)) = some r := H
  have A3 := Aside0.mk A30
  clear A30
  by_cases c4 : t148 = 0
  · rw [if_pos c4] at H
    have c4b0 : (t148 == 0) = true := beq_iff_eq.mpr c4
    have c4b1 : (t148 != 0) = false := bne_eq_false_iff_eq.mpr c4
    clear c4
    replace H := Option.bind_eq_some_iff.mp H
    obtain ⟨t151, A50, H⟩ := H
    replace H : (if 0 ≤ (wrap64 (t151 - 1)) then (if (wrap64 (t151 - 1)) < (l0.length : Int) then (if 0 ≤ (wrap64 ((wrap64 (8 * t151)) - a1)) then (some (Go.bits .and .i64 (wrap64 (rd l0 (wrap64 (t151 - 1)))) (wrap64 ((shl .i64 1 (wrap64 ((wrap64 (8 * t151)) - a1))) - 1)))) else (none)) else (none)) else (none)) = some r := H
    have A5 := Aside0.mk A50
    clear A50
    obtain ⟨ji6, hji6⟩ : ∃ j_ : Int, (wrap64 (t151 - 1)) = j_ := ⟨_, rfl⟩
    replace H : (if 0 ≤ (ji6) then (if (ji6) < (l0.length : Int) then (if 0 ≤ (wrap64 ((wrap64 (8 * t151)) - a1)) then (some (Go.bits .and .i64 (wrap64 (rd l0 (ji6))) (wrap64 ((shl .i64 1 (wrap64 ((wrap64 (8 * t151)) - a1))) - 1)))) else (none)) else (none)) else (none)) = some r := by first | (rw [hji6] at H; exact H) | (simp only [hji6] at H ⊢; exact H)
    (try rw [hji6] at A3)
    (try rw [hji6] at A5)
    have hji6w : (IntKind.i64.wrap (t151 - 1)) = ji6 := (i64_w _).trans hji6
    by_cases c7 : 0 ≤ (ji6)
    · rw [if_pos c7] at H
      have c7b0 : decide (0 ≤ (ji6)) = true := decide_eq_true c7
      clear c7
      by_cases c8 : (ji6) < (l0.length : Int)
      · rw [if_pos c8] at H
        have c8b0 : decide ((ji6) < (l0.length : Int)) = true := decide_eq_true c8
        clear c8
        obtain ⟨ji9, hji9⟩ : ∃ j_ : Int, (wrap64 ((wrap64 (8 * t151)) - a1)) = j_ := ⟨_, rfl⟩
        replace H : (if 0 ≤ (ji9) then (some (Go.bits .and .i64 (wrap64 (rd l0 (ji6))) (wrap64 ((shl .i64 1 (ji9)) - 1)))) else (none)) = some r := by first | (rw [hji9] at H; exact H) | (simp only [hji9] at H ⊢; exact H)
        (try rw [hji9] at A3)
        (try rw [hji9] at A5)
        have hji9w : (IntKind.i64.wrap ((wrap64 (8 * t151)) - a1)) = ji9 := (i64_w _).trans hji9
        by_cases c10 : 0 ≤ (ji9)
        · rw [if_pos c10] at H
          have c10b0 := eq_true c10
          have c10b1 : decide (0 ≤ (ji9)) = true := decide_eq_true c10
          clear c10
          obtain ⟨ji11, hji11⟩ : ∃ j_ : Int, (shl .i64 1 (ji9)) = j_ := ⟨_, rfl⟩
          replace H : (some (Go.bits .and .i64 (wrap64 (rd l0 (ji6))) (wrap64 ((ji11) - 1)))) = some r := by first | (rw [hji11] at H; exact H) | (simp only [hji11] at H ⊢; exact H)
          (try rw [hji11] at A3)
          (try rw [hji11] at A5)
          have hji11_ : (IntKind.i64.wrap (1 * 2 ^ min (ji9).toNat 64)) = ji11 := hji11
          have hji11z : (ji9) ≤ 64 → (IntKind.i64.wrap (1 * 2 ^ (ji9).toNat)) = ji11 := shl_small hji11
          have hji11u : (IntKind.i64.wrap (2 ^ min (ji9).toNat 64)) = ji11 := by have h_ := hji11_; rw [Int.one_mul] at h_; exact h_
          have hji11v : (ji9) ≤ 64 → (IntKind.i64.wrap (2 ^ (ji9).toNat)) = ji11 := fun hle_ => by have h_ := hji11z hle_; rw [Int.one_mul] at h_; exact h_
          have hji11y : (wrap64 (1 * 2 ^ min (ji9).toNat 64)) = ji11 := (i64_w _).symm.trans hji11_
          have hji11x : (ji9) ≤ 64 → (wrap64 (1 * 2 ^ (ji9).toNat)) = ji11 := fun h_ => (i64_w _).symm.trans (hji11z h_)
          obtain rfl := Option.some.inj H
          go_enter Try.func17, Try.ntmps17
          go_wp2_with (first | (go_at_call 15; (with_reducible refine (bits_Unpack.calls _ _ l0 a1 t147 t148 _ ?side1 ?side2 A3.out).mono ?_); (case side1 => repeat (first | exact HR0.out | (with_reducible refine Kd.C_alloc ?_ _) | (with_reducible refine Kd.C_drewN ?_ _) | (with_reducible refine Kd.C_drew ?_))); (case side2 => exact HC0.out); rintro e w12 ⟨v149, rfl, ho0, hb⟩; have n0_ := Aside0.mk (Kd.R_lower ho0 (below_size (by repeat (first | (with_reducible first | exact HB.out | apply below_alloc | apply pw_below_drewN | apply below_drew1) | exact HB.out)))); have n1_ := Aside0.mk (below_step (by repeat (first | (with_reducible first | exact HB.out | apply below_alloc | apply pw_below_drewN | apply below_drew1) | exact HB.out)) hb); clear HB; have HO150 := n0_; have HB := n1_; clear n0_ n1_; (try clear hb); (try clear hb2); (try clear hk); (try clear hi); (try clear ho0)) | (go_at_call 22; (with_reducible refine (bits_Bytes.calls a1 t151 _ A5.out).mono ?_); rintro e w' ⟨rfl, ⟨nd, rfl⟩⟩; (try first | exact ⟨rfl, _, World.drewN_drewN _ _ _⟩ | exact ⟨rfl, _, Eq.trans (World.drewN_drewN _ _ _) (congrArg (World.drewN _) (Nat.add_assoc _ _ _))⟩); have p152 : 0 ≤ ((ji6) : Int) := of_decide_eq_true (by first | (with_reducible assumption) | assumption); have q152 : (ji6) < (l0.length : Int) := of_decide_eq_true (by first | (with_reducible assumption) | assumption); obtain ⟨ad152, e152, hx152_0⟩ := Kd.at_int HR0.out (ji6) p152 q152; cases e152; replace hx152_0 := (HB.out.cell (World.block_lt_of_cell? w _ hx152_0)).trans hx152_0; replace p152 := eq_true p152; replace q152 := eq_true q152))
          repeat (go_quiet (first | (go_at_call 15; (with_reducible refine (bits_Unpack.calls _ _ l0 a1 t147 t148 _ ?side1 ?side2 A3.out).mono ?_); (case side1 => repeat (first | exact HR0.out | (with_reducible refine Kd.C_alloc ?_ _) | (with_reducible refine Kd.C_drewN ?_ _) | (with_reducible refine Kd.C_drew ?_))); (case side2 => exact HC0.out); rintro e w12 ⟨v149, rfl, ho0, hb⟩; have n0_ := Aside0.mk (Kd.R_lower ho0 (below_size (by repeat (first | (with_reducible first | exact HB.out | apply below_alloc | apply pw_below_drewN | apply below_drew1) | exact HB.out)))); have n1_ := Aside0.mk (below_step (by repeat (first | (with_reducible first | exact HB.out | apply below_alloc | apply pw_below_drewN | apply below_drew1) | exact HB.out)) hb); clear HB; have HO150 := n0_; have HB := n1_; clear n0_ n1_; (try clear hb); (try clear hb2); (try clear hk); (try clear hi); (try clear ho0)) | (go_at_call 22; (with_reducible refine (bits_Bytes.calls a1 t151 _ A5.out).mono ?_); rintro e w' ⟨rfl, ⟨nd, rfl⟩⟩; (try first | exact ⟨rfl, _, World.drewN_drewN _ _ _⟩ | exact ⟨rfl, _, Eq.trans (World.drewN_drewN _ _ _) (congrArg (World.drewN _) (Nat.add_assoc _ _ _))⟩); have p152 : 0 ≤ ((ji6) : Int) := of_decide_eq_true (by first | (with_reducible assumption) | assumption); have q152 : (ji6) < (l0.length : Int) := of_decide_eq_true (by first | (with_reducible assumption) | assumption); obtain ⟨ad152, e152, hx152_0⟩ := Kd.at_int HR0.out (ji6) p152 q152; cases e152; replace hx152_0 := (HB.out.cell (World.block_lt_of_cell? w _ hx152_0)).trans hx152_0; replace p152 := eq_true p152; replace q152 := eq_true q152)); try go_wp2_with (first | (go_at_call 15; (with_reducible refine (bits_Unpack.calls _ _ l0 a1 t147 t148 _ ?side1 ?side2 A3.out).mono ?_); (case side1 => repeat (first | exact HR0.out | (with_reducible refine Kd.C_alloc ?_ _) | (with_reducible refine Kd.C_drewN ?_ _) | (with_reducible refine Kd.C_drew ?_))); (case side2 => exact HC0.out); rintro e w12 ⟨v149, rfl, ho0, hb⟩; have n0_ := Aside0.mk (Kd.R_lower ho0 (below_size (by repeat (first | (with_reducible first | exact HB.out | apply below_alloc | apply pw_below_drewN | apply below_drew1) | exact HB.out)))); have n1_ := Aside0.mk (below_step (by repeat (first | (with_reducible first | exact HB.out | apply below_alloc | apply pw_below_drewN | apply below_drew1) | exact HB.out)) hb); clear HB; have HO150 := n0_; have HB := n1_; clear n0_ n1_; (try clear hb); (try clear hb2); (try clear hk); (try clear hi); (try clear ho0)) | (go_at_call 22; (with_reducible refine (bits_Bytes.calls a1 t151 _ A5.out).mono ?_); rintro e w' ⟨rfl, ⟨nd, rfl⟩⟩; (try first | exact ⟨rfl, _, World.drewN_drewN _ _ _⟩ | exact ⟨rfl, _, Eq.trans (World.drewN_drewN _ _ _) (congrArg (World.drewN _) (Nat.add_assoc _ _ _))⟩); have p152 : 0 ≤ ((ji6) : Int) := of_decide_eq_true (by first | (with_reducible assumption) | assumption); have q152 : (ji6) < (l0.length : Int) := of_decide_eq_true (by first | (with_reducible assumption) | assumption); obtain ⟨ad152, e152, hx152_0⟩ := Kd.at_int HR0.out (ji6) p152 q152; cases e152; replace hx152_0 := (HB.out.cell (World.block_lt_of_cell? w _ hx152_0)).trans hx152_0; replace p152 := eq_true p152; replace q152 := eq_true q152)))
          go_ret
          exact ⟨by first | rfl | (simp [errW_none, errW_some] <;> rfl) | (simp only [← hji6, ← hji9, ← hji11]; first | rfl | (simp [errW_none, errW_some] <;> rfl)) | (simp [*, errW_none, errW_some] <;> rfl), by repeat (first | (with_reducible first | exact HB.out | apply below_alloc | apply pw_below_drewN | apply below_drew1) | exact HB.out)⟩
        · rw [if_neg c10] at H
          exact absurd H (by simp)
      · rw [if_neg c8] at H
        exact absurd H (by simp)
    · rw [if_neg c7] at H
      exact absurd H (by simp)
  · rw [if_neg c4] at H
    have c4b0 : (t148 == 0) = false := beq_eq_false_iff_ne.mpr c4
    have c4b1 : (t148 != 0) = true := bne_iff_ne.mpr c4
    obtain rfl := Option.some.inj H
    go_enter Try.func17, Try.ntmps17
    go_wp2_with (first | (go_at_call 15; (with_reducible refine (bits_Unpack.calls _ _ l0 a1 t147 t148 _ ?side1 ?side2 A3.out).mono ?_); (case side1 => repeat (first | exact HR0.out | (with_reducible refine Kd.C_alloc ?_ _) | (with_reducible refine Kd.C_drewN ?_ _) | (with_reducible refine Kd.C_drew ?_))); (case side2 => exact HC0.out); rintro e w13 ⟨v149, rfl, ho0, hb⟩; have n0_ := Aside0.mk (Kd.R_lower ho0 (below_size (by repeat (first | (with_reducible first | exact HB.out | apply below_alloc | apply pw_below_drewN | apply below_drew1) | exact HB.out)))); have n1_ := Aside0.mk (below_step (by repeat (first | (with_reducible first | exact HB.out | apply below_alloc | apply pw_below_drewN | apply below_drew1) | exact HB.out)) hb); clear HB; have HO150 := n0_; have HB := n1_; clear n0_ n1_; (try clear hb); (try clear hb2); (try clear hk); (try clear hi); (try clear ho0)))
    repeat (go_quiet (first | (go_at_call 15; (with_reducible refine (bits_Unpack.calls _ _ l0 a1 t147 t148 _ ?side1 ?side2 A3.out).mono ?_); (case side1 => repeat (first | exact HR0.out | (with_reducible refine Kd.C_alloc ?_ _) | (with_reducible refine Kd.C_drewN ?_ _) | (with_reducible refine Kd.C_drew ?_))); (case side2 => exact HC0.out); rintro e w13 ⟨v149, rfl, ho0, hb⟩; have n0_ := Aside0.mk (Kd.R_lower ho0 (below_size (by repeat (first | (with_reducible first | exact HB.out | apply below_alloc | apply pw_below_drewN | apply below_drew1) | exact HB.out)))); have n1_ := Aside0.mk (below_step (by repeat (first | (with_reducible first | exact HB.out | apply below_alloc | apply pw_below_drewN | apply below_drew1) | exact HB.out)) hb); clear HB; have HO150 := n0_; have HB := n1_; clear n0_ n1_; (try clear hb); (try clear hb2); (try clear hk); (try clear hi); (try clear ho0))); try go_wp2_with (first | (go_at_call 15; (with_reducible refine (bits_Unpack.calls _ _ l0 a1 t147 t148 _ ?side1 ?side2 A3.out).mono ?_); (case side1 => repeat (first | exact HR0.out | (with_reducible refine Kd.C_alloc ?_ _) | (with_reducible refine Kd.C_drewN ?_ _) | (with_reducible refine Kd.C_drew ?_))); (case side2 => exact HC0.out); rintro e w13 ⟨v149, rfl, ho0, hb⟩; have n0_ := Aside0.mk (Kd.R_lower ho0 (below_size (by repeat (first | (with_reducible first | exact HB.out | apply below_alloc | apply pw_below_drewN | apply below_drew1) | exact HB.out)))); have n1_ := Aside0.mk (below_step (by repeat (first | (with_reducible first | exact HB.out | apply below_alloc | apply pw_below_drewN | apply below_drew1) | exact HB.out)) hb); clear HB; have HO150 := n0_; have HB := n1_; clear n0_ n1_; (try clear hb); (try clear hb2); (try clear hk); (try clear hi); (try clear ho0))))
    go_ret
    exact ⟨by first | rfl | (simp [errW_none, errW_some] <;> rfl) | (simp [*, errW_none, errW_some] <;> rfl), by repeat (first | (with_reducible first | exact HB.out | apply below_alloc | apply pw_below_drewN | apply below_drew1) | exact HB.out)⟩

/-! ### chequerlaw07_BitsPacks: function 4 -/
def chequerlaw07_BitsPacks.j0 : Nat → List Int → List Int → Int → Bool → Option (Bool)
  | 0, _, _, _, _ => none
  | k + 1, x3, x8, x9, x62 => if x62 = true then (some false) else (if (x3.length : Int) = 0 then (if x9 = 1 then ((chequerlaw07_lives.f k).bind fun t173 => (some t173)) else (some false)) else ((bits_Unpack.f x8 (x3.length : Int)).bind fun bt174 => (if bt174.2 = 0 then ((chequerref01_Same.f k bt174.1 x3).bind fun t178 => (if t178 = true then ((bits_Spare.f x8 (x3.length : Int)).bind fun t179 => (if t179 = 0 then ((chequerlaw07_lives.f k).bind fun t180 => (some t180)) else (some false))) else (some false))) else (some false))))
def chequerlaw07_BitsPacks.f (k : Nat) (l0 : List Int) : Option (Bool) := if 0 ≤ (mn (l0.length : Int) 60) then (if (mn (l0.length : Int) 60) ≤ (l0.length : Int) then ((chequerref07_Ones.f k (l0.take ((mn (l0.length : Int) 60) : Int).toNat) 60).bind fun t154 => ((bits_Pack.f k (l0.take ((mn (l0.length : Int) 60) : Int).toNat)).bind fun bt157 => ((chequerref07_Pack.f k (l0.take ((mn (l0.length : Int) 60) : Int).toNat)).bind fun bt161 => ((bits_Pack.f k t154).bind fun bt165 => ((chequerref07_Pack.f k t154).bind fun bt169 => (if (strOfNums bt157.1).toList = (strOfNums bt161.1).toList then (if bt157.2 = bt161.2 then (if (strOfNums bt165.1).toList = (strOfNums bt169.1).toList then (chequerlaw07_BitsPacks.j0 k t154 bt165.1 bt165.2 (bt165.2 != bt169.2)) else (chequerlaw07_BitsPacks.j0 k t154 bt165.1 bt165.2 true)) else (chequerlaw07_BitsPacks.j0 k t154 bt165.1 bt165.2 true)) else (chequerlaw07_BitsPacks.j0 k t154 bt165.1 bt165.2 true))))))) else (none)) else (none)
theorem chequerlaw07_BitsPacks.mono_l : ∀ k, (∀ y0 y1 y2 y3, LeO (chequerlaw07_BitsPacks.j0 k y0 y1 y2 y3) (chequerlaw07_BitsPacks.j0 (k + 1) y0 y1 y2 y3))
  | 0 => fun _ _ _ _ r h => by simp [chequerlaw07_BitsPacks.j0] at h
  | k + 1 => by
    have ih0 := chequerlaw07_BitsPacks.mono_l k
    · intro y0 y1 y2 y3
      unfold chequerlaw07_BitsPacks.j0
      repeat' first
      | (with_reducible exact ih0 _ _ _ _)
      | (with_reducible exact bits_Pack.mono _ _)
      | (with_reducible exact chequerlaw07_lives.mono _)
      | (with_reducible exact chequerref01_Same.mono _ _ _)
      | (with_reducible exact chequerref07_Ones.mono _ _ _)
      | (with_reducible exact chequerref07_Pack.mono _ _)
      | (with_reducible exact LeO.refl _)
      | (with_reducible exact LeO.none _)
      | (with_reducible refine LeO.ite ?_ ?_)
      | (with_reducible refine LeO.bind ?_ (fun _ => ?_))
      | exact ih0 _ _ _ _
      | exact bits_Pack.mono _ _
      | exact chequerlaw07_lives.mono _
      | exact chequerref01_Same.mono _ _ _
      | exact chequerref07_Ones.mono _ _ _
      | exact chequerref07_Pack.mono _ _
      | exact LeO.none _
      | refine LeO.ite ?_ ?_
      | refine LeO.bind ?_ (fun _ => ?_)
theorem chequerlaw07_BitsPacks.mono : ∀ a0 k, LeO (chequerlaw07_BitsPacks.f k a0) (chequerlaw07_BitsPacks.f (k + 1) a0) := by
  intro a0 k
  have ih0 := chequerlaw07_BitsPacks.mono_l k
  unfold chequerlaw07_BitsPacks.f
  repeat' first
      | (with_reducible exact ih0 _ _ _ _)
      | (with_reducible exact bits_Pack.mono _ _)
      | (with_reducible exact chequerlaw07_lives.mono _)
      | (with_reducible exact chequerref01_Same.mono _ _ _)
      | (with_reducible exact chequerref07_Ones.mono _ _ _)
      | (with_reducible exact chequerref07_Pack.mono _ _)
      | (with_reducible exact LeO.refl _)
      | (with_reducible exact LeO.none _)
      | (with_reducible refine LeO.ite ?_ ?_)
      | (with_reducible refine LeO.bind ?_ (fun _ => ?_))
      | exact ih0 _ _ _ _
      | exact bits_Pack.mono _ _
      | exact chequerlaw07_lives.mono _
      | exact chequerref01_Same.mono _ _ _
      | exact chequerref07_Ones.mono _ _ _
      | exact chequerref07_Pack.mono _ _
      | exact LeO.none _
      | refine LeO.ite ?_ ?_
      | refine LeO.bind ?_ (fun _ => ?_)
set_option maxHeartbeats 8000000 in
set_option maxRecDepth 100000 in
theorem chequerlaw07_BitsPacks.calls (k : Nat) (A0 : Option Addr) (c0 : Nat) (l0 : List Int) (r : Bool) (w : World) (hr0 : Kd.C (Kd.int .i64) w A0 l0.length l0) (hc0 : l0.length ≤ c0) (h : chequerlaw07_BitsPacks.f k l0 = some r) :
    Calls Try.prog 4 #[.slice A0 l0.length c0] w fun e w' => e = .returned (.bool r) ∧ Below w.heap.size w w' := by
  have HR0 := Aside0.mk hr0
  have HC0 := Aside0.mk hc0
  clear hr0 hc0
  have HB := Aside0.mk (Below.refl w.heap.size w)
  have H : (if 0 ≤ (mn (l0.length : Int) 60) then (if (mn (l0.length : Int) 60) ≤ (l0.length : Int) then ((chequerref07_Ones.f k (l0.take ((mn (l0.length : Int) 60) : Int).toNat) 60).bind fun t154 => ((bits_Pack.f k (l0.take ((mn (l0.length : Int) 60) : Int).toNat)).bind fun bt157 => ((chequerref07_Pack.f k (l0.take ((mn (l0.length : Int) 60) : Int).toNat)).bind fun bt161 => ((bits_Pack.f k t154).bind fun bt165 => ((chequerref07_Pack.f k t154).bind fun bt169 => (if (strOfNums bt157.1).toList = (strOfNums bt161.1).toList then (if bt157.2 = bt161.2 then (if (strOfNums bt165.1).toList = (strOfNums bt169.1).toList then (chequerlaw07_BitsPacks.j0 k t154 bt165.1 bt165.2 (bt165.2 != bt169.2)) else (chequerlaw07_BitsPacks.j0 k t154 bt165.1 bt165.2 true)) else (chequerlaw07_BitsPacks.j0 k t154 bt165.1 bt165.2 true)) else (chequerlaw07_BitsPacks.j0 k t154 bt165.1 bt165.2 true))))))) else (none)) else (none)) = some r := h
  clear h
  obtain ⟨ji2, hji2⟩ : ∃ j_ : Int, (mn (l0.length : Int) 60) = j_ := ⟨_, rfl⟩
  replace H : (if 0 ≤ (ji2) then (if (ji2) ≤ (l0.length : Int) then ((chequerref07_Ones.f k (l0.take ((ji2) : Int).toNat) 60).bind fun t154 => ((bits_Pack.f k (l0.take ((ji2) : Int).toNat)).bind fun bt157 => ((chequerref07_Pack.f k (l0.take ((ji2) : Int).toNat)).bind fun bt161 => ((bits_Pack.f k t154).bind fun bt165 => ((chequerref07_Pack.f k t154).bind fun bt169 => (if (strOfNums bt157.1).toList = (strOfNums bt161.1).toList then (if bt157.2 = bt161.2 then (if (strOfNums bt165.1).toList = (strOfNums bt169.1).toList then (chequerlaw07_BitsPacks.j0 k t154 bt165.1 bt165.2 (bt165.2 != bt169.2)) else (chequerlaw07_BitsPacks.j0 k t154 bt165.1 bt165.2 true)) else (chequerlaw07_BitsPacks.j0 k t154 bt165.1 bt165.2 true)) else (chequerlaw07_BitsPacks.j0 k t154 bt165.1 bt165.2 true))))))) else (none)) else (none)) = some r := by first | (rw [hji2] at H; exact H) | (simp only [hji2] at H ⊢; exact H)
  (try (have hji2h : ji2 ≤ 60 := by (rw [← hji2]; unfold mn; (repeat' split) <;> omega)))
  (try (have hji2g : ji2 ≤ 64 := by omega))
  (try (have hji2l : 0 ≤ ji2 := by (rw [← hji2]; unfold mn; (repeat' split) <;> omega)))
  (try (have hji2m : 0 ≤ ji2 := by omega))
  have hji2_ : (if 60 < (l0.length : Int) then 60 else (l0.length : Int)) = ji2 := hji2
  by_cases c3 : 0 ≤ (ji2)
  · rw [if_pos c3] at H
    have c3b0 := eq_true c3
    have c3b1 : decide (0 ≤ (ji2)) = true := decide_eq_true c3
    clear c3
    by_cases c4 : (ji2) ≤ (l0.length : Int)
    · rw [if_pos c4] at H
      have c4b0 := eq_true c4
      have c4b1 : decide ((ji2) ≤ (l0.length : Int)) = true := decide_eq_true c4
      clear c4
      replace H := Option.bind_eq_some_iff.mp H
      obtain ⟨t154, A50, H⟩ := H
      replace H : ((bits_Pack.f k (l0.take ((ji2) : Int).toNat)).bind fun bt157 => ((chequerref07_Pack.f k (l0.take ((ji2) : Int).toNat)).bind fun bt161 => ((bits_Pack.f k t154).bind fun bt165 => ((chequerref07_Pack.f k t154).bind fun bt169 => (if (strOfNums bt157.1).toList = (strOfNums bt161.1).toList then (if bt157.2 = bt161.2 then (if (strOfNums bt165.1).toList = (strOfNums bt169.1).toList then (chequerlaw07_BitsPacks.j0 k t154 bt165.1 bt165.2 (bt165.2 != bt169.2)) else (chequerlaw07_BitsPacks.j0 k t154 bt165.1 bt165.2 true)) else (chequerlaw07_BitsPacks.j0 k t154 bt165.1 bt165.2 true)) else (chequerlaw07_BitsPacks.j0 k t154 bt165.1 bt165.2 true)))))) = some r := H
      have A5 := Aside0.mk A50
      clear A50
      replace H := Option.bind_eq_some_iff.mp H
      obtain ⟨⟨t157, t158⟩, A60, H⟩ := H
      replace H : ((chequerref07_Pack.f k (l0.take ((ji2) : Int).toNat)).bind fun bt161 => ((bits_Pack.f k t154).bind fun bt165 => ((chequerref07_Pack.f k t154).bind fun bt169 => (if (strOfNums t157).toList = (strOfNums bt161.1).toList then (if t158 = bt161.2 then (if (strOfNums bt165.1).toList = (strOfNums bt169.1).toList then (chequerlaw07_BitsPacks.j0 k t154 bt165.1 bt165.2 (bt165.2 != bt169.2)) else (chequerlaw07_BitsPacks.j0 k t154 bt165.1 bt165.2 true)) else (chequerlaw07_BitsPacks.j0 k t154 bt165.1 bt165.2 true)) else (chequerlaw07_BitsPacks.j0 k t154 bt165.1 bt165.2 true))))) = some r := H
      have A6 := Aside0.mk A60
      clear A60
      replace H := Option.bind_eq_some_iff.mp H
      obtain ⟨⟨t161, t162⟩, A70, H⟩ := H
      replace H : ((bits_Pack.f k t154).bind fun bt165 => ((chequerref07_Pack.f k t154).bind fun bt169 => (if (strOfNums t157).toList = (strOfNums t161).toList then (if t158 = t162 then (if (strOfNums bt165.1).toList = (strOfNums bt169.1).toList then (chequerlaw07_BitsPacks.j0 k t154 bt165.1 bt165.2 (bt165.2 != bt169.2)) else (chequerlaw07_BitsPacks.j0 k t154 bt165.1 bt165.2 true)) else (chequerlaw07_BitsPacks.j0 k t154 bt165.1 bt165.2 true)) else (chequerlaw07_BitsPacks.j0 k t154 bt165.1 bt165.2 true)))) = some r := H
      have A7 := Aside0.mk A70
      clear A70
      replace H := Option.bind_eq_some_iff.mp H
      obtain ⟨⟨t165, t166⟩, A80, H⟩ := H
      replace H : ((chequerref07_Pack.f k t154).bind fun bt169 => (if (strOfNums t157).toList = (strOfNums t161).toList then (if t158 = t162 then (if (strOfNums t165).toList = (strOfNums bt169.1).toList then (chequerlaw07_BitsPacks.j0 k t154 t165 t166 (t166 != bt169.2)) else (chequerlaw07_BitsPacks.j0 k t154 t165 t166 true)) else (chequerlaw07_BitsPacks.j0 k t154 t165 t166 true)) else (chequerlaw07_BitsPacks.j0 k t154 t165 t166 true))) = some r := H
      have A8 := Aside0.mk A80
      clear A80
      replace H := Option.bind_eq_some_iff.mp H
      obtain ⟨⟨t169, t170⟩, A90, H⟩ := H
      replace H : (if (strOfNums t157).toList = (strOfNums t161).toList then (if t158 = t162 then (if (strOfNums t165).toList = (strOfNums t169).toList then (chequerlaw07_BitsPacks.j0 k t154 t165 t166 (t166 != t170)) else (chequerlaw07_BitsPacks.j0 k t154 t165 t166 true)) else (chequerlaw07_BitsPacks.j0 k t154 t165 t166 true)) else (chequerlaw07_BitsPacks.j0 k t154 t165 t166 true)) = some r := H
      have A9 := Aside0.mk A90
      clear A90
      have HC10 := Aside0.mk H
      clear H
      obtain ⟨i011, hi011, _, hsz11, _⟩ := info_parts info3
      obtain ⟨hcut11, hA11, hC11⟩ := print_take_of (P := Try.prog) (Value.int .i64) 0 28 3 .i64 Try.underlying28 hi011 hsz11 A0 c0 l0 (ji2) (of_decide_eq_true (by first | (with_reducible assumption) | assumption)) (of_decide_eq_true (by first | (with_reducible assumption) | assumption)) HC0.out
      have HR153 := Aside0.mk (Kd.C_of_reads (h1 := fun _ => rfl) (hA11 _ (Kd.reads_of_C HR0.out)))
      have HC153 := Aside0.mk hC11
      clear hA11 hC11 hi011 hsz11
      go_enter Try.func4, Try.ntmps4
      go_upto_region 7 with (first | ((with_reducible refine gate_callee (f := 12) rfl ?_); refine goesL_ (some 20) rfl rfl Try.func12 (by kernel_rfl) rfl #[.slice A0 (l0.take ((ji2) : Int).toNat).length c0, .int .i64 60] rfl (by (try simp only [List.map_toArray, List.map_cons, List.map_nil]); first | done | (rw [show (l0.take ((ji2) : Int).toNat).length = (ji2).toNat from (by rw [List.length_take]; have h_ : ((ji2) : Int) ≤ (l0.length : Int) := (by first | exact of_decide_eq_true (by first | (with_reducible assumption) | assumption) | (have h2_ := hji2_; (split at h2_ <;> omega))); omega)] <;> rfl) | (simp only [hji2]; rfl) | rfl | (simp only [List.length_drop, List.length_take]; rfl)) ?_; (with_reducible refine (chequerref07_Ones.calls k _ _ (l0.take ((ji2) : Int).toNat) 60 t154 _ ?side1 ?side2 A5.out).mono ?_); (case side1 => repeat (first | exact HR153.out | (with_reducible refine Kd.C_alloc ?_ _) | (with_reducible refine Kd.C_drewN ?_ _) | (with_reducible refine Kd.C_drew ?_))); (case side2 => exact HC153.out); rintro e w12 ⟨v155, rfl, ho0, hb⟩; refine ⟨_, rfl, ?_⟩; have n0_ := Aside0.mk (Kd.R_lower ho0 (below_size (by repeat (first | (with_reducible first | exact HB.out | apply below_alloc | apply pw_below_drewN | apply below_drew1) | exact HB.out)))); have n1_ := Aside0.mk (below_step (by repeat (first | (with_reducible first | exact HB.out | apply below_alloc | apply pw_below_drewN | apply below_drew1) | exact HB.out)) hb); clear HB; have HO156 := n0_; have HB := n1_; clear n0_ n1_; (try clear hb); (try clear hb2); (try clear hk); (try clear hi); (try clear ho0)) | ((with_reducible refine gate_callee (f := 13) rfl ?_); refine goesL_ (some 23) rfl rfl Try.func13 (by kernel_rfl) rfl #[.slice A0 (l0.take ((ji2) : Int).toNat).length c0] rfl (by (try simp only [List.map_toArray, List.map_cons, List.map_nil]); first | done | (rw [show (l0.take ((ji2) : Int).toNat).length = (ji2).toNat from (by rw [List.length_take]; have h_ : ((ji2) : Int) ≤ (l0.length : Int) := (by first | exact of_decide_eq_true (by first | (with_reducible assumption) | assumption) | (have h2_ := hji2_; (split at h2_ <;> omega))); omega)] <;> rfl) | (simp only [hji2]; rfl) | rfl | (simp only [List.length_drop, List.length_take]; rfl)) ?_; (with_reducible refine (bits_Pack.calls k _ _ (l0.take ((ji2) : Int).toNat) t157 t158 _ ?side1 ?side2 A6.out).mono ?_); (case side1 => repeat (first | exact (Kd.C_below HR153.out HB.out) | (with_reducible refine Kd.C_alloc ?_ _) | (with_reducible refine Kd.C_drewN ?_ _) | (with_reducible refine Kd.C_drew ?_))); (case side2 => exact HC153.out); rintro e w13 ⟨v159, rfl, ho0, hb⟩; refine ⟨_, rfl, ?_⟩; have n0_ := Aside0.mk (Kd.R_below (by (with_reducible repeat (first | apply Kd.R_alloc | apply Kd.R_drewN | apply Kd.R_drew)); exact HO156.out) hb); have n1_ := Aside0.mk (Kd.R_lower ho0 (below_size (by repeat (first | (with_reducible first | exact HB.out | apply below_alloc | apply pw_below_drewN | apply below_drew1) | exact HB.out)))); have n2_ := Aside0.mk (below_step (by repeat (first | (with_reducible first | exact HB.out | apply below_alloc | apply pw_below_drewN | apply below_drew1) | exact HB.out)) hb); clear HO156; clear HB; have HO156 := n0_; have HO160 := n1_; have HB := n2_; clear n0_ n1_ n2_; (try clear hb); (try clear hb2); (try clear hk); (try clear hi); (try clear ho0)) | ((with_reducible refine gate_callee (f := 14) rfl ?_); refine goesL_ (some 28) rfl rfl Try.func14 (by kernel_rfl) rfl #[.slice A0 (l0.take ((ji2) : Int).toNat).length c0] rfl (by (try simp only [List.map_toArray, List.map_cons, List.map_nil]); first | done | (rw [show (l0.take ((ji2) : Int).toNat).length = (ji2).toNat from (by rw [List.length_take]; have h_ : ((ji2) : Int) ≤ (l0.length : Int) := (by first | exact of_decide_eq_true (by first | (with_reducible assumption) | assumption) | (have h2_ := hji2_; (split at h2_ <;> omega))); omega)] <;> rfl) | (simp only [hji2]; rfl) | rfl | (simp only [List.length_drop, List.length_take]; rfl)) ?_; (with_reducible refine (chequerref07_Pack.calls k _ _ (l0.take ((ji2) : Int).toNat) t161 t162 _ ?side1 ?side2 A7.out).mono ?_); (case side1 => repeat (first | exact (Kd.C_below HR153.out HB.out) | (with_reducible refine Kd.C_alloc ?_ _) | (with_reducible refine Kd.C_drewN ?_ _) | (with_reducible refine Kd.C_drew ?_))); (case side2 => exact HC153.out); rintro e w14 ⟨v163, rfl, ho0, hb⟩; refine ⟨_, rfl, ?_⟩; have n0_ := Aside0.mk (Kd.R_below (by (with_reducible repeat (first | apply Kd.R_alloc | apply Kd.R_drewN | apply Kd.R_drew)); exact HO156.out) hb); have n1_ := Aside0.mk (Kd.R_elder' (by (with_reducible repeat (first | apply Kd.R_alloc | apply Kd.R_drewN | apply Kd.R_drew)); exact HO160.out) (Kd.R_base ho0) hb); have n2_ := Aside0.mk (Kd.R_lower (Kd.R_new' ho0 (Kd.R_lt (by (with_reducible repeat (first | apply Kd.R_alloc | apply Kd.R_drewN | apply Kd.R_drew)); exact HO160.out))) (below_size (by repeat (first | (with_reducible first | exact HB.out | apply below_alloc | apply pw_below_drewN | apply below_drew1) | exact HB.out)))); have n3_ := Aside0.mk (below_step (by repeat (first | (with_reducible first | exact HB.out | apply below_alloc | apply pw_below_drewN | apply below_drew1) | exact HB.out)) hb); clear HO156; clear HO160; clear HB; have HO156 := n0_; have HO160 := n1_; have HO164 := n2_; have HB := n3_; clear n0_ n1_ n2_ n3_; (try clear hb); (try clear hb2); (try clear hk); (try clear hi); (try clear ho0); obtain ⟨Ao15, co15, eo15⟩ := Kd.R_slice HO156.out; subst eo15) | ((with_reducible refine gate_callee (f := 13) rfl ?_); refine goesL_ (some 33) rfl rfl Try.func13 (by kernel_rfl) rfl #[.slice Ao15 t154.length co15] rfl (by (try simp only [List.map_toArray, List.map_cons, List.map_nil]); first | done | rfl | (simp only [List.length_drop, List.length_take]; rfl)) ?_; (with_reducible refine (bits_Pack.calls k _ _ t154 t165 t166 _ ?side1 ?side2 A8.out).mono ?_); (case side1 => repeat (first | exact (Kd.R_reads' HO156.out).2.2 | (with_reducible refine Kd.C_alloc ?_ _) | (with_reducible refine Kd.C_drewN ?_ _) | (with_reducible refine Kd.C_drew ?_))); (case side2 => exact (Kd.R_reads' HO156.out).2.1); rintro e w16 ⟨v167, rfl, ho0, hb⟩; refine ⟨_, rfl, ?_⟩; have n0_ := Aside0.mk (Kd.R_below (by (with_reducible repeat (first | apply Kd.R_alloc | apply Kd.R_drewN | apply Kd.R_drew)); exact HO156.out) hb); have n1_ := Aside0.mk (Kd.R_elder' (by (with_reducible repeat (first | apply Kd.R_alloc | apply Kd.R_drewN | apply Kd.R_drew)); exact HO160.out) (Kd.R_base ho0) hb); have n2_ := Aside0.mk (Kd.R_elder' (by (with_reducible repeat (first | apply Kd.R_alloc | apply Kd.R_drewN | apply Kd.R_drew)); exact HO164.out) (Kd.R_base ho0) hb); have n3_ := Aside0.mk (Kd.R_lower (Kd.R_new' (Kd.R_new' ho0 (Kd.R_lt (by (with_reducible repeat (first | apply Kd.R_alloc | apply Kd.R_drewN | apply Kd.R_drew)); exact HO160.out))) (Kd.R_lt (by (with_reducible repeat (first | apply Kd.R_alloc | apply Kd.R_drewN | apply Kd.R_drew)); exact HO164.out))) (below_size (by repeat (first | (with_reducible first | exact HB.out | apply below_alloc | apply pw_below_drewN | apply below_drew1) | exact HB.out)))); have n4_ := Aside0.mk (below_step (by repeat (first | (with_reducible first | exact HB.out | apply below_alloc | apply pw_below_drewN | apply below_drew1) | exact HB.out)) hb); clear HO156; clear HO160; clear HO164; clear HB; have HO156 := n0_; have HO160 := n1_; have HO164 := n2_; have HO168 := n3_; have HB := n4_; clear n0_ n1_ n2_ n3_ n4_; (try clear hb); (try clear hb2); (try clear hk); (try clear hi); (try clear ho0)) | ((with_reducible refine gate_callee (f := 14) rfl ?_); refine goesL_ (some 38) rfl rfl Try.func14 (by kernel_rfl) rfl #[.slice Ao15 t154.length co15] rfl (by (try simp only [List.map_toArray, List.map_cons, List.map_nil]); first | done | rfl | (simp only [List.length_drop, List.length_take]; rfl)) ?_; (with_reducible refine (chequerref07_Pack.calls k _ _ t154 t169 t170 _ ?side1 ?side2 A9.out).mono ?_); (case side1 => repeat (first | exact (Kd.R_reads' HO156.out).2.2 | (with_reducible refine Kd.C_alloc ?_ _) | (with_reducible refine Kd.C_drewN ?_ _) | (with_reducible refine Kd.C_drew ?_))); (case side2 => exact (Kd.R_reads' HO156.out).2.1); rintro e w17 ⟨v171, rfl, ho0, hb⟩; refine ⟨_, rfl, ?_⟩; have n0_ := Aside0.mk (Kd.R_below (by (with_reducible repeat (first | apply Kd.R_alloc | apply Kd.R_drewN | apply Kd.R_drew)); exact HO156.out) hb); have n1_ := Aside0.mk (Kd.R_elder' (by (with_reducible repeat (first | apply Kd.R_alloc | apply Kd.R_drewN | apply Kd.R_drew)); exact HO160.out) (Kd.R_base ho0) hb); have n2_ := Aside0.mk (Kd.R_elder' (by (with_reducible repeat (first | apply Kd.R_alloc | apply Kd.R_drewN | apply Kd.R_drew)); exact HO164.out) (Kd.R_base ho0) hb); have n3_ := Aside0.mk (Kd.R_elder' (by (with_reducible repeat (first | apply Kd.R_alloc | apply Kd.R_drewN | apply Kd.R_drew)); exact HO168.out) (Kd.R_base ho0) hb); have n4_ := Aside0.mk (Kd.R_lower (Kd.R_new' (Kd.R_new' (Kd.R_new' ho0 (Kd.R_lt (by (with_reducible repeat (first | apply Kd.R_alloc | apply Kd.R_drewN | apply Kd.R_drew)); exact HO160.out))) (Kd.R_lt (by (with_reducible repeat (first | apply Kd.R_alloc | apply Kd.R_drewN | apply Kd.R_drew)); exact HO164.out))) (Kd.R_lt (by (with_reducible repeat (first | apply Kd.R_alloc | apply Kd.R_drewN | apply Kd.R_drew)); exact HO168.out))) (below_size (by repeat (first | (with_reducible first | exact HB.out | apply below_alloc | apply pw_below_drewN | apply below_drew1) | exact HB.out)))); have n5_ := Aside0.mk (below_step (by repeat (first | (with_reducible first | exact HB.out | apply below_alloc | apply pw_below_drewN | apply below_drew1) | exact HB.out)) hb); clear HO156; clear HO160; clear HO164; clear HO168; clear HB; have HO156 := n0_; have HO160 := n1_; have HO164 := n2_; have HO168 := n3_; have HO172 := n4_; have HB := n5_; clear n0_ n1_ n2_ n3_ n4_ n5_; (try clear hb); (try clear hb2); (try clear hk); (try clear hi); (try clear ho0)))
      (try simp only [Act.put, List.setIfInBounds_toArray, List.set_cons_zero, List.set_cons_succ])
      go_cut [62] (fun v62 wc => ∃ (kq : Nat) (x62_9 : Bool), v62 = .bool x62_9 ∧ Aside0 (chequerlaw07_BitsPacks.j0 kq t154 t165 t166 x62_9 = some r) ∧ Aside0 (kq ≤ k) ∧ Aside0 (Kd.R (Kd.int .i64) 3 wc w.heap.size (fun _ => True) (.slice Ao15 t154.length co15) t154) ∧ Aside0 (Kd.R (Kd.int .u8) 5 wc w.heap.size (fun _ => True) v167 t165) ∧ Aside0 (Below w.heap.size w wc))
      case first =>
        have H := HC10.out
        clear HC10
        by_cases c18 : (strOfNums t157).toList = (strOfNums t161).toList
        · rw [if_pos c18] at H
          have c18b0 : ((strOfNums t157).toList == (strOfNums t161).toList) = true := beq_iff_eq.mpr c18
          have c18b1 : ((strOfNums t157).toList != (strOfNums t161).toList) = false := bne_eq_false_iff_eq.mpr c18
          clear c18
          (first | rw [c18b0] | (simp only [i64_w, i32_w]; rw [c18b0]) | skip)
          by_cases c19 : t158 = t162
          · rw [if_pos c19] at H
            have c19b0 : (t158 == t162) = true := beq_iff_eq.mpr c19
            have c19b1 : (t158 != t162) = false := bne_eq_false_iff_eq.mpr c19
            clear c19
            by_cases c20 : (strOfNums t165).toList = (strOfNums t169).toList
            · rw [if_pos c20] at H
              have c20b0 : ((strOfNums t165).toList == (strOfNums t169).toList) = true := beq_iff_eq.mpr c20
              have c20b1 : ((strOfNums t165).toList != (strOfNums t169).toList) = false := bne_eq_false_iff_eq.mpr c20
              clear c20
              have H' := Aside0.mk H
              clear H
              have hcv21 := own_string (P := Try.prog) Try.underlying22 Try.underlying5 Try.underlying9 (Kd.own_of_R HO160.out)
              have hcv22 := own_string (P := Try.prog) Try.underlying22 Try.underlying5 Try.underlying9 (Kd.own_of_R HO164.out)
              have hcv23 := own_string (P := Try.prog) Try.underlying22 Try.underlying5 Try.underlying9 (Kd.own_of_R HO168.out)
              have hcv24 := own_string (P := Try.prog) Try.underlying22 Try.underlying5 Try.underlying9 (Kd.own_of_R HO172.out)
              go_wp2
              go_meet
              case rel => exact ⟨_, ((t166 != t170)), (by first | rfl | (simp; done) | (simp [*]; done)), H', ⟨by first | omega | exact Nat.le_refl _⟩, ⟨by (with_reducible repeat (first | apply Kd.R_alloc | apply Kd.R_drewN | apply Kd.R_drew)); exact HO156.out⟩, ⟨by (with_reducible repeat (first | apply Kd.R_alloc | apply Kd.R_drewN | apply Kd.R_drew)); exact Kd.R_mono HO168.out (fun _ hk => trivial)⟩, ⟨by repeat (first | (with_reducible first | exact HB.out | apply below_alloc | apply pw_below_drewN | apply below_drew1) | exact HB.out)⟩⟩
            · rw [if_neg c20] at H
              have c20b0 : ((strOfNums t165).toList == (strOfNums t169).toList) = false := beq_eq_false_iff_ne.mpr c20
              have c20b1 : ((strOfNums t165).toList != (strOfNums t169).toList) = true := bne_iff_ne.mpr c20
              have H' := Aside0.mk H
              clear H
              have hcv25 := own_string (P := Try.prog) Try.underlying22 Try.underlying5 Try.underlying9 (Kd.own_of_R HO160.out)
              have hcv26 := own_string (P := Try.prog) Try.underlying22 Try.underlying5 Try.underlying9 (Kd.own_of_R HO164.out)
              have hcv27 := own_string (P := Try.prog) Try.underlying22 Try.underlying5 Try.underlying9 (Kd.own_of_R HO168.out)
              have hcv28 := own_string (P := Try.prog) Try.underlying22 Try.underlying5 Try.underlying9 (Kd.own_of_R HO172.out)
              go_wp2
              go_meet
              case rel => exact ⟨_, (true), (by first | rfl | (simp; done) | (simp [*]; done)), H', ⟨by first | omega | exact Nat.le_refl _⟩, ⟨by (with_reducible repeat (first | apply Kd.R_alloc | apply Kd.R_drewN | apply Kd.R_drew)); exact HO156.out⟩, ⟨by (with_reducible repeat (first | apply Kd.R_alloc | apply Kd.R_drewN | apply Kd.R_drew)); exact Kd.R_mono HO168.out (fun _ hk => trivial)⟩, ⟨by repeat (first | (with_reducible first | exact HB.out | apply below_alloc | apply pw_below_drewN | apply below_drew1) | exact HB.out)⟩⟩
          · rw [if_neg c19] at H
            have c19b0 : (t158 == t162) = false := beq_eq_false_iff_ne.mpr c19
            have c19b1 : (t158 != t162) = true := bne_iff_ne.mpr c19
            have H' := Aside0.mk H
            clear H
            have hcv29 := own_string (P := Try.prog) Try.underlying22 Try.underlying5 Try.underlying9 (Kd.own_of_R HO160.out)
            have hcv30 := own_string (P := Try.prog) Try.underlying22 Try.underlying5 Try.underlying9 (Kd.own_of_R HO164.out)
            go_wp2
            go_meet
            case rel => exact ⟨_, (true), (by first | rfl | (simp; done) | (simp [*]; done)), H', ⟨by first | omega | exact Nat.le_refl _⟩, ⟨by (with_reducible repeat (first | apply Kd.R_alloc | apply Kd.R_drewN | apply Kd.R_drew)); exact HO156.out⟩, ⟨by (with_reducible repeat (first | apply Kd.R_alloc | apply Kd.R_drewN | apply Kd.R_drew)); exact Kd.R_mono HO168.out (fun _ hk => trivial)⟩, ⟨by repeat (first | (with_reducible first | exact HB.out | apply below_alloc | apply pw_below_drewN | apply below_drew1) | exact HB.out)⟩⟩
        · rw [if_neg c18] at H
          have c18b0 : ((strOfNums t157).toList == (strOfNums t161).toList) = false := beq_eq_false_iff_ne.mpr c18
          have c18b1 : ((strOfNums t157).toList != (strOfNums t161).toList) = true := bne_iff_ne.mpr c18
          (first | rw [c18b0] | (simp only [i64_w, i32_w]; rw [c18b0]) | skip)
          have H' := Aside0.mk H
          clear H
          have hcv31 := own_string (P := Try.prog) Try.underlying22 Try.underlying5 Try.underlying9 (Kd.own_of_R HO160.out)
          have hcv32 := own_string (P := Try.prog) Try.underlying22 Try.underlying5 Try.underlying9 (Kd.own_of_R HO164.out)
          go_wp2
          go_meet
          case rel => exact ⟨_, (true), (by first | rfl | (simp; done) | (simp [*]; done)), H', ⟨by first | omega | exact Nat.le_refl _⟩, ⟨by (with_reducible repeat (first | apply Kd.R_alloc | apply Kd.R_drewN | apply Kd.R_drew)); exact HO156.out⟩, ⟨by (with_reducible repeat (first | apply Kd.R_alloc | apply Kd.R_drewN | apply Kd.R_drew)); exact Kd.R_mono HO168.out (fun _ hk => trivial)⟩, ⟨by repeat (first | (with_reducible first | exact HB.out | apply below_alloc | apply pw_below_drewN | apply below_drew1) | exact HB.out)⟩⟩
      case rest =>
        clear HC10
        try clear c1
        try clear c2
        try clear p2
        try clear hcv2
        try clear c3
        try clear c3b0
        try clear c3b1
        try clear hcv3
        try clear c4
        try clear c4b0
        try clear c4b1
        try clear c12
        try clear c13
        try clear c14
        try clear c18
        try clear c18b0
        try clear c18b1
        try clear c19
        try clear c19b0
        try clear c19b1
        try clear c20
        try clear c20b0
        try clear c20b1
        try clear hcv21
        try clear hcv22
        try clear hcv23
        try clear hcv24
        try clear hcv25
        try clear hcv26
        try clear hcv27
        try clear hcv28
        try clear hcv29
        try clear hcv30
        try clear hcv31
        try clear hcv32
        obtain ⟨kq, x62_9, rfl, HA, HJ9, HO_3, HO_8, HB⟩ := hcut
        cases kq with
        | zero => exact absurd HA.out (by simp [chequerlaw07_BitsPacks.j0])
        | succ kj9 =>
          have H := HA.out
          clear HA
          simp only [chequerlaw07_BitsPacks.j0] at H
          by_cases c33 : x62_9 = true
          · subst c33
            have H1 : (some false) = some r := by rw [if_pos rfl] at H; exact H
            clear H
            have H := H1
            clear H1
            obtain rfl := Option.some.inj H
            go_wp2
            go_ret
            exact ⟨by first | rfl | (simp [errW_none, errW_some] <;> rfl) | (simp only [← hji2]; first | rfl | (simp [errW_none, errW_some] <;> rfl)) | (simp [*, errW_none, errW_some] <;> rfl), by repeat (first | (with_reducible first | exact HB.out | apply below_alloc | apply pw_below_drewN | apply below_drew1) | exact HB.out)⟩
          · replace c33 := Bool.eq_false_iff.mpr c33
            subst c33
            have H1 : (if (t154.length : Int) = 0 then (if t166 = 1 then ((chequerlaw07_lives.f kj9).bind fun t173 => (some t173)) else (some false)) else ((bits_Unpack.f t165 (t154.length : Int)).bind fun bt174 => (if bt174.2 = 0 then ((chequerref01_Same.f kj9 bt174.1 t154).bind fun t178 => (if t178 = true then ((bits_Spare.f t165 (t154.length : Int)).bind fun t179 => (if t179 = 0 then ((chequerlaw07_lives.f kj9).bind fun t180 => (some t180)) else (some false))) else (some false))) else (some false)))) = some r := by rw [if_neg (show ¬ (false = true) by decide)] at H; exact H
            clear H
            have H := H1
            clear H1
            by_cases c34 : (t154.length : Int) = 0
            · rw [if_pos c34] at H
              have c34b0 : ((t154.length : Int) == 0) = true := beq_iff_eq.mpr c34
              have c34b1 : ((t154.length : Int) != 0) = false := bne_eq_false_iff_eq.mpr c34
              clear c34
              by_cases c35 : t166 = 1
              · rw [if_pos c35] at H
                have c35b0 : (t166 == 1) = true := beq_iff_eq.mpr c35
                have c35b1 : (t166 != 1) = false := bne_eq_false_iff_eq.mpr c35
                clear c35
                replace H := Option.bind_eq_some_iff.mp H
                obtain ⟨t173, A360, H⟩ := H
                replace H : (some t173) = some r := H
                have A36 := Aside0.mk A360
                clear A360
                obtain rfl := Option.some.inj H
                go_wp2_with (first | (go_at_call 11; (with_reducible refine (chequerlaw07_lives.calls kj9  t173 _ A36.out).mono ?_); rintro e w37 ⟨rfl, hb⟩; have n0_ := Aside0.mk (Kd.R_below (by (with_reducible repeat (first | apply Kd.R_alloc | apply Kd.R_drewN | apply Kd.R_drew)); exact HO_3.out) hb); have n1_ := Aside0.mk (Kd.R_below (by (with_reducible repeat (first | apply Kd.R_alloc | apply Kd.R_drewN | apply Kd.R_drew)); exact HO_8.out) hb); have n2_ := Aside0.mk (below_step (by repeat (first | (with_reducible first | exact HB.out | apply below_alloc | apply pw_below_drewN | apply below_drew1) | exact HB.out)) hb); clear HO_3; clear HO_8; clear HB; have HO_3 := n0_; have HO_8 := n1_; have HB := n2_; clear n0_ n1_ n2_; (try clear hb); (try clear hb2); (try clear hk); (try clear hi)))
                go_ret
                exact ⟨by first | rfl | (simp [errW_none, errW_some] <;> rfl) | (simp only [← hji2]; first | rfl | (simp [errW_none, errW_some] <;> rfl)) | (simp [*, errW_none, errW_some] <;> rfl), by repeat (first | (with_reducible first | exact HB.out | apply below_alloc | apply pw_below_drewN | apply below_drew1) | exact HB.out)⟩
              · rw [if_neg c35] at H
                have c35b0 : (t166 == 1) = false := beq_eq_false_iff_ne.mpr c35
                have c35b1 : (t166 != 1) = true := bne_iff_ne.mpr c35
                obtain rfl := Option.some.inj H
                go_wp2
                go_ret
                exact ⟨by first | rfl | (simp [errW_none, errW_some] <;> rfl) | (simp only [← hji2]; first | rfl | (simp [errW_none, errW_some] <;> rfl)) | (simp [*, errW_none, errW_some] <;> rfl), by repeat (first | (with_reducible first | exact HB.out | apply below_alloc | apply pw_below_drewN | apply below_drew1) | exact HB.out)⟩
            · rw [if_neg c34] at H
              have c34b0 : ((t154.length : Int) == 0) = false := beq_eq_false_iff_ne.mpr c34
              have c34b1 : ((t154.length : Int) != 0) = true := bne_iff_ne.mpr c34
              have c34b2 : ¬ (t154 = []) := fun h_ => c34 (by rw [h_]; rfl)
              replace H := Option.bind_eq_some_iff.mp H
              obtain ⟨⟨t174, t175⟩, A380, H⟩ := H
              replace H : (if t175 = 0 then ((chequerref01_Same.f kj9 t174 t154).bind fun t178 => (if t178 = true then ((bits_Spare.f t165 (t154.length : Int)).bind fun t179 => (if t179 = 0 then ((chequerlaw07_lives.f kj9).bind fun t180 => (some t180)) else (some false))) else (some false))) else (some false)) = some r := H
              have A38 := Aside0.mk A380
              clear A380
              by_cases c39 : t175 = 0
              · rw [if_pos c39] at H
                have c39b0 : (t175 == 0) = true := beq_iff_eq.mpr c39
                have c39b1 : (t175 != 0) = false := bne_eq_false_iff_eq.mpr c39
                clear c39
                replace H := Option.bind_eq_some_iff.mp H
                obtain ⟨t178, A400, H⟩ := H
                replace H : (if t178 = true then ((bits_Spare.f t165 (t154.length : Int)).bind fun t179 => (if t179 = 0 then ((chequerlaw07_lives.f kj9).bind fun t180 => (some t180)) else (some false))) else (some false)) = some r := H
                have A40 := Aside0.mk A400
                clear A400
                by_cases c41 : t178 = true
                · subst c41
                  have H1 : ((bits_Spare.f t165 (t154.length : Int)).bind fun t179 => (if t179 = 0 then ((chequerlaw07_lives.f kj9).bind fun t180 => (some t180)) else (some false))) = some r := by rw [if_pos rfl] at H; exact H
                  clear H
                  have H := H1
                  clear H1
                  replace H := Option.bind_eq_some_iff.mp H
                  obtain ⟨t179, A420, H⟩ := H
                  replace H : (if t179 = 0 then ((chequerlaw07_lives.f kj9).bind fun t180 => (some t180)) else (some false)) = some r := H
                  have A42 := Aside0.mk A420
                  clear A420
                  by_cases c43 : t179 = 0
                  · rw [if_pos c43] at H
                    have c43b0 : (t179 == 0) = true := beq_iff_eq.mpr c43
                    have c43b1 : (t179 != 0) = false := bne_eq_false_iff_eq.mpr c43
                    clear c43
                    replace H := Option.bind_eq_some_iff.mp H
                    obtain ⟨t180, A440, H⟩ := H
                    replace H : (some t180) = some r := H
                    have A44 := Aside0.mk A440
                    clear A440
                    obtain rfl := Option.some.inj H
                    obtain ⟨Ao45, co45, eo45⟩ := Kd.R_slice HO_8.out
                    subst eo45
                    go_wp2_with (first | ((with_reducible refine gate_callee (f := 15) rfl ?_); refine goesL_ (some 75) rfl rfl Try.func15 (by kernel_rfl) rfl #[.slice Ao45 t165.length co45, .int .i64 (t154.length : Int)] rfl (by (try simp only [List.map_toArray, List.map_cons, List.map_nil]); first | done | rfl | (simp only [List.length_drop, List.length_take]; rfl)) ?_; (with_reducible refine (bits_Unpack.calls _ _ t165 (t154.length : Int) t174 t175 _ ?side1 ?side2 A38.out).mono ?_); (case side1 => repeat (first | exact (Kd.R_reads' HO_8.out).2.2 | (with_reducible refine Kd.C_alloc ?_ _) | (with_reducible refine Kd.C_drewN ?_ _) | (with_reducible refine Kd.C_drew ?_))); (case side2 => exact (Kd.R_reads' HO_8.out).2.1); rintro e w46 ⟨v176, rfl, ho0, hb⟩; refine ⟨_, rfl, ?_⟩; have n0_ := Aside0.mk (Kd.R_elder' (by (with_reducible repeat (first | apply Kd.R_alloc | apply Kd.R_drewN | apply Kd.R_drew)); exact HO_3.out) (Kd.R_base ho0) hb); have n1_ := Aside0.mk (Kd.R_below (by (with_reducible repeat (first | apply Kd.R_alloc | apply Kd.R_drewN | apply Kd.R_drew)); exact HO_8.out) hb); have n2_ := Aside0.mk (Kd.R_lower (Kd.R_new' ho0 (Kd.R_lt (by (with_reducible repeat (first | apply Kd.R_alloc | apply Kd.R_drewN | apply Kd.R_drew)); exact HO_3.out))) (below_size (by repeat (first | (with_reducible first | exact HB.out | apply below_alloc | apply pw_below_drewN | apply below_drew1) | exact HB.out)))); have n3_ := Aside0.mk (below_step (by repeat (first | (with_reducible first | exact HB.out | apply below_alloc | apply pw_below_drewN | apply below_drew1) | exact HB.out)) hb); clear HO_3; clear HO_8; clear HB; have HO_3 := n0_; have HO_8 := n1_; have HO177 := n2_; have HB := n3_; clear n0_ n1_ n2_ n3_; (try clear hb); (try clear hb2); (try clear hk); (try clear hi); (try clear ho0); obtain ⟨Ao47, co47, eo47⟩ := Kd.R_slice HO177.out; subst eo47) | (go_at_call 16; (with_reducible refine (chequerref01_Same.calls kj9 _ _ t174 _ _ t154 true _ ?side1 ?side2 ?side3 ?side4 A40.out).mono ?_); (case side1 => repeat (first | exact (Kd.R_reads' HO177.out).2.2 | (with_reducible refine Kd.C_alloc ?_ _) | (with_reducible refine Kd.C_drewN ?_ _) | (with_reducible refine Kd.C_drew ?_))); (case side2 => exact (Kd.R_reads' HO177.out).2.1); (case side3 => repeat (first | exact (Kd.R_reads' HO_3.out).2.2 | (with_reducible refine Kd.C_alloc ?_ _) | (with_reducible refine Kd.C_drewN ?_ _) | (with_reducible refine Kd.C_drew ?_))); (case side4 => exact (Kd.R_reads' HO_3.out).2.1); rintro e w' ⟨rfl, ⟨nd, rfl⟩⟩) | (go_at_call 17; (with_reducible refine (bits_Spare.calls _ _ t165 (t154.length : Int) t179 _ ?side1 ?side2 A42.out).mono ?_); (case side1 => repeat (first | exact (Kd.R_reads' HO_8.out).2.2 | (with_reducible refine Kd.C_alloc ?_ _) | (with_reducible refine Kd.C_drewN ?_ _) | (with_reducible refine Kd.C_drew ?_))); (case side2 => exact (Kd.R_reads' HO_8.out).2.1); rintro e w48 ⟨rfl, hb⟩; have n0_ := Aside0.mk (Kd.R_below (by (with_reducible repeat (first | apply Kd.R_alloc | apply Kd.R_drewN | apply Kd.R_drew)); exact HO_3.out) hb); have n1_ := Aside0.mk (Kd.R_below (by (with_reducible repeat (first | apply Kd.R_alloc | apply Kd.R_drewN | apply Kd.R_drew)); exact HO_8.out) hb); have n2_ := Aside0.mk (Kd.R_below (by (with_reducible repeat (first | apply Kd.R_alloc | apply Kd.R_drewN | apply Kd.R_drew)); exact HO177.out) hb); have n3_ := Aside0.mk (below_step (by repeat (first | (with_reducible first | exact HB.out | apply below_alloc | apply pw_below_drewN | apply below_drew1) | exact HB.out)) hb); clear HO_3; clear HO_8; clear HO177; clear HB; have HO_3 := n0_; have HO_8 := n1_; have HO177 := n2_; have HB := n3_; clear n0_ n1_ n2_ n3_; (try clear hb); (try clear hb2); (try clear hk); (try clear hi)) | (go_at_call 11; (with_reducible refine (chequerlaw07_lives.calls kj9  t180 _ A44.out).mono ?_); rintro e w49 ⟨rfl, hb⟩; have n0_ := Aside0.mk (Kd.R_below (by (with_reducible repeat (first | apply Kd.R_alloc | apply Kd.R_drewN | apply Kd.R_drew)); exact HO_3.out) hb); have n1_ := Aside0.mk (Kd.R_below (by (with_reducible repeat (first | apply Kd.R_alloc | apply Kd.R_drewN | apply Kd.R_drew)); exact HO_8.out) hb); have n2_ := Aside0.mk (Kd.R_below (by (with_reducible repeat (first | apply Kd.R_alloc | apply Kd.R_drewN | apply Kd.R_drew)); exact HO177.out) hb); have n3_ := Aside0.mk (below_step (by repeat (first | (with_reducible first | exact HB.out | apply below_alloc | apply pw_below_drewN | apply below_drew1) | exact HB.out)) hb); clear HO_3; clear HO_8; clear HO177; clear HB; have HO_3 := n0_; have HO_8 := n1_; have HO177 := n2_; have HB := n3_; clear n0_ n1_ n2_ n3_; (try clear hb); (try clear hb2); (try clear hk); (try clear hi)))
                    go_ret
                    exact ⟨by first | rfl | (simp [errW_none, errW_some] <;> rfl) | (simp only [← hji2]; first | rfl | (simp [errW_none, errW_some] <;> rfl)) | (simp [*, errW_none, errW_some] <;> rfl), by repeat (first | (with_reducible first | exact HB.out | apply below_alloc | apply pw_below_drewN | apply below_drew1) | exact HB.out)⟩
                  · rw [if_neg c43] at H
                    have c43b0 : (t179 == 0) = false := beq_eq_false_iff_ne.mpr c43
                    have c43b1 : (t179 != 0) = true := bne_iff_ne.mpr c43
                    obtain rfl := Option.some.inj H
                    obtain ⟨Ao50, co50, eo50⟩ := Kd.R_slice HO_8.out
                    subst eo50
                    go_wp2_with (first | ((with_reducible refine gate_callee (f := 15) rfl ?_); refine goesL_ (some 75) rfl rfl Try.func15 (by kernel_rfl) rfl #[.slice Ao50 t165.length co50, .int .i64 (t154.length : Int)] rfl (by (try simp only [List.map_toArray, List.map_cons, List.map_nil]); first | done | rfl | (simp only [List.length_drop, List.length_take]; rfl)) ?_; (with_reducible refine (bits_Unpack.calls _ _ t165 (t154.length : Int) t174 t175 _ ?side1 ?side2 A38.out).mono ?_); (case side1 => repeat (first | exact (Kd.R_reads' HO_8.out).2.2 | (with_reducible refine Kd.C_alloc ?_ _) | (with_reducible refine Kd.C_drewN ?_ _) | (with_reducible refine Kd.C_drew ?_))); (case side2 => exact (Kd.R_reads' HO_8.out).2.1); rintro e w51 ⟨v176, rfl, ho0, hb⟩; refine ⟨_, rfl, ?_⟩; have n0_ := Aside0.mk (Kd.R_elder' (by (with_reducible repeat (first | apply Kd.R_alloc | apply Kd.R_drewN | apply Kd.R_drew)); exact HO_3.out) (Kd.R_base ho0) hb); have n1_ := Aside0.mk (Kd.R_below (by (with_reducible repeat (first | apply Kd.R_alloc | apply Kd.R_drewN | apply Kd.R_drew)); exact HO_8.out) hb); have n2_ := Aside0.mk (Kd.R_lower (Kd.R_new' ho0 (Kd.R_lt (by (with_reducible repeat (first | apply Kd.R_alloc | apply Kd.R_drewN | apply Kd.R_drew)); exact HO_3.out))) (below_size (by repeat (first | (with_reducible first | exact HB.out | apply below_alloc | apply pw_below_drewN | apply below_drew1) | exact HB.out)))); have n3_ := Aside0.mk (below_step (by repeat (first | (with_reducible first | exact HB.out | apply below_alloc | apply pw_below_drewN | apply below_drew1) | exact HB.out)) hb); clear HO_3; clear HO_8; clear HB; have HO_3 := n0_; have HO_8 := n1_; have HO177 := n2_; have HB := n3_; clear n0_ n1_ n2_ n3_; (try clear hb); (try clear hb2); (try clear hk); (try clear hi); (try clear ho0); obtain ⟨Ao52, co52, eo52⟩ := Kd.R_slice HO177.out; subst eo52) | (go_at_call 16; (with_reducible refine (chequerref01_Same.calls kj9 _ _ t174 _ _ t154 true _ ?side1 ?side2 ?side3 ?side4 A40.out).mono ?_); (case side1 => repeat (first | exact (Kd.R_reads' HO177.out).2.2 | (with_reducible refine Kd.C_alloc ?_ _) | (with_reducible refine Kd.C_drewN ?_ _) | (with_reducible refine Kd.C_drew ?_))); (case side2 => exact (Kd.R_reads' HO177.out).2.1); (case side3 => repeat (first | exact (Kd.R_reads' HO_3.out).2.2 | (with_reducible refine Kd.C_alloc ?_ _) | (with_reducible refine Kd.C_drewN ?_ _) | (with_reducible refine Kd.C_drew ?_))); (case side4 => exact (Kd.R_reads' HO_3.out).2.1); rintro e w' ⟨rfl, ⟨nd, rfl⟩⟩) | (go_at_call 17; (with_reducible refine (bits_Spare.calls _ _ t165 (t154.length : Int) t179 _ ?side1 ?side2 A42.out).mono ?_); (case side1 => repeat (first | exact (Kd.R_reads' HO_8.out).2.2 | (with_reducible refine Kd.C_alloc ?_ _) | (with_reducible refine Kd.C_drewN ?_ _) | (with_reducible refine Kd.C_drew ?_))); (case side2 => exact (Kd.R_reads' HO_8.out).2.1); rintro e w53 ⟨rfl, hb⟩; have n0_ := Aside0.mk (Kd.R_below (by (with_reducible repeat (first | apply Kd.R_alloc | apply Kd.R_drewN | apply Kd.R_drew)); exact HO_3.out) hb); have n1_ := Aside0.mk (Kd.R_below (by (with_reducible repeat (first | apply Kd.R_alloc | apply Kd.R_drewN | apply Kd.R_drew)); exact HO_8.out) hb); have n2_ := Aside0.mk (Kd.R_below (by (with_reducible repeat (first | apply Kd.R_alloc | apply Kd.R_drewN | apply Kd.R_drew)); exact HO177.out) hb); have n3_ := Aside0.mk (below_step (by repeat (first | (with_reducible first | exact HB.out | apply below_alloc | apply pw_below_drewN | apply below_drew1) | exact HB.out)) hb); clear HO_3; clear HO_8; clear HO177; clear HB; have HO_3 := n0_; have HO_8 := n1_; have HO177 := n2_; have HB := n3_; clear n0_ n1_ n2_ n3_; (try clear hb); (try clear hb2); (try clear hk); (try clear hi)))
                    go_ret
                    exact ⟨by first | rfl | (simp [errW_none, errW_some] <;> rfl) | (simp only [← hji2]; first | rfl | (simp [errW_none, errW_some] <;> rfl)) | (simp [*, errW_none, errW_some] <;> rfl), by repeat (first | (with_reducible first | exact HB.out | apply below_alloc | apply pw_below_drewN | apply below_drew1) | exact HB.out)⟩
                · replace c41 := Bool.eq_false_iff.mpr c41
                  subst c41
                  have H1 : (some false) = some r := by rw [if_neg (show ¬ (false = true) by decide)] at H; exact H
                  clear H
                  have H := H1
                  clear H1
                  obtain rfl := Option.some.inj H
                  obtain ⟨Ao54, co54, eo54⟩ := Kd.R_slice HO_8.out
                  subst eo54
                  go_wp2_with (first | ((with_reducible refine gate_callee (f := 15) rfl ?_); refine goesL_ (some 75) rfl rfl Try.func15 (by kernel_rfl) rfl #[.slice Ao54 t165.length co54, .int .i64 (t154.length : Int)] rfl (by (try simp only [List.map_toArray, List.map_cons, List.map_nil]); first | done | rfl | (simp only [List.length_drop, List.length_take]; rfl)) ?_; (with_reducible refine (bits_Unpack.calls _ _ t165 (t154.length : Int) t174 t175 _ ?side1 ?side2 A38.out).mono ?_); (case side1 => repeat (first | exact (Kd.R_reads' HO_8.out).2.2 | (with_reducible refine Kd.C_alloc ?_ _) | (with_reducible refine Kd.C_drewN ?_ _) | (with_reducible refine Kd.C_drew ?_))); (case side2 => exact (Kd.R_reads' HO_8.out).2.1); rintro e w55 ⟨v176, rfl, ho0, hb⟩; refine ⟨_, rfl, ?_⟩; have n0_ := Aside0.mk (Kd.R_elder' (by (with_reducible repeat (first | apply Kd.R_alloc | apply Kd.R_drewN | apply Kd.R_drew)); exact HO_3.out) (Kd.R_base ho0) hb); have n1_ := Aside0.mk (Kd.R_below (by (with_reducible repeat (first | apply Kd.R_alloc | apply Kd.R_drewN | apply Kd.R_drew)); exact HO_8.out) hb); have n2_ := Aside0.mk (Kd.R_lower (Kd.R_new' ho0 (Kd.R_lt (by (with_reducible repeat (first | apply Kd.R_alloc | apply Kd.R_drewN | apply Kd.R_drew)); exact HO_3.out))) (below_size (by repeat (first | (with_reducible first | exact HB.out | apply below_alloc | apply pw_below_drewN | apply below_drew1) | exact HB.out)))); have n3_ := Aside0.mk (below_step (by repeat (first | (with_reducible first | exact HB.out | apply below_alloc | apply pw_below_drewN | apply below_drew1) | exact HB.out)) hb); clear HO_3; clear HO_8; clear HB; have HO_3 := n0_; have HO_8 := n1_; have HO177 := n2_; have HB := n3_; clear n0_ n1_ n2_ n3_; (try clear hb); (try clear hb2); (try clear hk); (try clear hi); (try clear ho0); obtain ⟨Ao56, co56, eo56⟩ := Kd.R_slice HO177.out; subst eo56) | (go_at_call 16; (with_reducible refine (chequerref01_Same.calls kj9 _ _ t174 _ _ t154 false _ ?side1 ?side2 ?side3 ?side4 A40.out).mono ?_); (case side1 => repeat (first | exact (Kd.R_reads' HO177.out).2.2 | (with_reducible refine Kd.C_alloc ?_ _) | (with_reducible refine Kd.C_drewN ?_ _) | (with_reducible refine Kd.C_drew ?_))); (case side2 => exact (Kd.R_reads' HO177.out).2.1); (case side3 => repeat (first | exact (Kd.R_reads' HO_3.out).2.2 | (with_reducible refine Kd.C_alloc ?_ _) | (with_reducible refine Kd.C_drewN ?_ _) | (with_reducible refine Kd.C_drew ?_))); (case side4 => exact (Kd.R_reads' HO_3.out).2.1); rintro e w' ⟨rfl, ⟨nd, rfl⟩⟩))
                  go_ret
                  exact ⟨by first | rfl | (simp [errW_none, errW_some] <;> rfl) | (simp only [← hji2]; first | rfl | (simp [errW_none, errW_some] <;> rfl)) | (simp [*, errW_none, errW_some] <;> rfl), by repeat (first | (with_reducible first | exact HB.out | apply below_alloc | apply pw_below_drewN | apply below_drew1) | exact HB.out)⟩
              · rw [if_neg c39] at H
                have c39b0 : (t175 == 0) = false := beq_eq_false_iff_ne.mpr c39
                have c39b1 : (t175 != 0) = true := bne_iff_ne.mpr c39
                obtain rfl := Option.some.inj H
                obtain ⟨Ao57, co57, eo57⟩ := Kd.R_slice HO_8.out
                subst eo57
                go_wp2_with (first | ((with_reducible refine gate_callee (f := 15) rfl ?_); refine goesL_ (some 75) rfl rfl Try.func15 (by kernel_rfl) rfl #[.slice Ao57 t165.length co57, .int .i64 (t154.length : Int)] rfl (by (try simp only [List.map_toArray, List.map_cons, List.map_nil]); first | done | rfl | (simp only [List.length_drop, List.length_take]; rfl)) ?_; (with_reducible refine (bits_Unpack.calls _ _ t165 (t154.length : Int) t174 t175 _ ?side1 ?side2 A38.out).mono ?_); (case side1 => repeat (first | exact (Kd.R_reads' HO_8.out).2.2 | (with_reducible refine Kd.C_alloc ?_ _) | (with_reducible refine Kd.C_drewN ?_ _) | (with_reducible refine Kd.C_drew ?_))); (case side2 => exact (Kd.R_reads' HO_8.out).2.1); rintro e w58 ⟨v176, rfl, ho0, hb⟩; refine ⟨_, rfl, ?_⟩; have n0_ := Aside0.mk (Kd.R_elder' (by (with_reducible repeat (first | apply Kd.R_alloc | apply Kd.R_drewN | apply Kd.R_drew)); exact HO_3.out) (Kd.R_base ho0) hb); have n1_ := Aside0.mk (Kd.R_below (by (with_reducible repeat (first | apply Kd.R_alloc | apply Kd.R_drewN | apply Kd.R_drew)); exact HO_8.out) hb); have n2_ := Aside0.mk (Kd.R_lower (Kd.R_new' ho0 (Kd.R_lt (by (with_reducible repeat (first | apply Kd.R_alloc | apply Kd.R_drewN | apply Kd.R_drew)); exact HO_3.out))) (below_size (by repeat (first | (with_reducible first | exact HB.out | apply below_alloc | apply pw_below_drewN | apply below_drew1) | exact HB.out)))); have n3_ := Aside0.mk (below_step (by repeat (first | (with_reducible first | exact HB.out | apply below_alloc | apply pw_below_drewN | apply below_drew1) | exact HB.out)) hb); clear HO_3; clear HO_8; clear HB; have HO_3 := n0_; have HO_8 := n1_; have HO177 := n2_; have HB := n3_; clear n0_ n1_ n2_ n3_; (try clear hb); (try clear hb2); (try clear hk); (try clear hi); (try clear ho0)))
                go_ret
                exact ⟨by first | rfl | (simp [errW_none, errW_some] <;> rfl) | (simp only [← hji2]; first | rfl | (simp [errW_none, errW_some] <;> rfl)) | (simp [*, errW_none, errW_some] <;> rfl), by repeat (first | (with_reducible first | exact HB.out | apply below_alloc | apply pw_below_drewN | apply below_drew1) | exact HB.out)⟩
    · rw [if_neg c4] at H
      exact absurd H (by simp)
  · rw [if_neg c3] at H
    exact absurd H (by simp)

/-- THE ONE PURE STATEMENT of chequerlaw07_BitsPacks. -/
def chequerlaw07_BitsPacks.Pure : Prop := ∀ (l0 : List Int), l0.length ≤ maxLen → l0.length * 8 ≤ 140737488351232 → (∀ x ∈ l0, (Lit.int .i64 x).wf = true) → ∃ k, chequerlaw07_BitsPacks.f k l0 = some true
theorem chequerlaw07_BitsPacks.walk (P : chequerlaw07_BitsPacks.Pure) (a0 : Option Addr) (len0 cap0 : Nat) (z0 : List Int) (w : World) (w0 : (a0 = none ∧ len0 = 0 ∧ cap0 = 0 ∧ z0 = []) ∨ ∃ x, a0 = some x ∧ len0 ≤ cap0 ∧ cap0 ≤ maxLen ∧ z0.length = cap0 ∧ (∀ i, i < z0.length → w.cell? (x.add i) = some (.int .i64 (z0.getD i 0))) ∧ ∀ n ∈ z0, (Lit.int .i64 n).wf = true) (y0 : len0 * 8 ≤ 140737488351232) :
    Calls Try.prog 4 #[.slice a0 len0 cap0] w fun e w' => e = .returned (.bool true) ∧ Below w.heap.size w w' := by
  obtain ⟨l0, rfl, hr0, hm0, hw0, hc0⟩ := ReadsInt.ofRowC w0
  obtain ⟨k, h⟩ := P l0 hm0 y0 hw0
  refine (chequerlaw07_BitsPacks.calls k _ _ l0 true w (Kd.C_of_reads (d := (0 : Int)) (h1 := fun _ => rfl) hr0) hc0 h).mono ?_
  rintro e w' ⟨rfl, hd⟩
  exact ⟨rfl, hd⟩

/-! ### bits_Count: function 18 -/
def bits_Count.l0 : Nat → Int → List Int → Int → Int → Option (Int)
  | 0, _, _, _, _ => none
  | k + 1, x7, x16, x17, x18 => if x18 < x17 then (if 0 ≤ x18 then (if x18 < (x16.length : Int) then (bits_Count.l0 k (wrap64 (x7 + (rd x16 x18))) x16 x17 (wrap64 (x18 + 1))) else (none)) else (none)) else (some x7)
def bits_Count.f (k : Nat) (l0 : List Int) (a1 : Int) : Option (Int) := (bits_Unpack.f l0 a1).bind fun bt181 => (bits_Count.l0 k 0 bt181.1 (bt181.1.length : Int) 0)
theorem bits_Count.mono_l : ∀ k, (∀ y0 y1 y2 y3, LeO (bits_Count.l0 k y0 y1 y2 y3) (bits_Count.l0 (k + 1) y0 y1 y2 y3))
  | 0 => fun _ _ _ _ r h => by simp [bits_Count.l0] at h
  | k + 1 => by
    have ih0 := bits_Count.mono_l k
    · intro y0 y1 y2 y3
      unfold bits_Count.l0
      repeat' first
      | (with_reducible exact ih0 _ _ _ _)
      | (with_reducible exact LeO.refl _)
      | (with_reducible exact LeO.none _)
      | (with_reducible refine LeO.ite ?_ ?_)
      | (with_reducible refine LeO.bind ?_ (fun _ => ?_))
      | exact ih0 _ _ _ _
      | exact LeO.none _
      | refine LeO.ite ?_ ?_
      | refine LeO.bind ?_ (fun _ => ?_)
theorem bits_Count.mono : ∀ a0 a1 k, LeO (bits_Count.f k a0 a1) (bits_Count.f (k + 1) a0 a1) := by
  intro a0 a1 k
  have ih0 := bits_Count.mono_l k
  unfold bits_Count.f
  repeat' first
      | (with_reducible exact ih0 _ _ _ _)
      | (with_reducible exact LeO.refl _)
      | (with_reducible exact LeO.none _)
      | (with_reducible refine LeO.ite ?_ ?_)
      | (with_reducible refine LeO.bind ?_ (fun _ => ?_))
      | exact ih0 _ _ _ _
      | exact LeO.none _
      | refine LeO.ite ?_ ?_
      | refine LeO.bind ?_ (fun _ => ?_)
set_option maxHeartbeats 8000000 in
set_option maxRecDepth 100000 in
theorem bits_Count.calls (k : Nat) (A0 : Option Addr) (c0 : Nat) (l0 : List Int) (a1 : Int) (r : Int) (w : World) (hr0 : Kd.C (Kd.int .u8) w A0 l0.length l0) (hc0 : l0.length ≤ c0) (h : bits_Count.f k l0 a1 = some r) :
    Calls Try.prog 18 #[.slice A0 l0.length c0, .int .i64 a1] w fun e w' => e = .returned (.int .i64 r) ∧ Below w.heap.size w w' := by
  have HR0 := Aside0.mk hr0
  have HC0 := Aside0.mk hc0
  clear hr0 hc0
  have HB := Aside0.mk (Below.refl w.heap.size w)
  have H : ((bits_Unpack.f l0 a1).bind fun bt181 => (bits_Count.l0 k 0 bt181.1 (bt181.1.length : Int) 0)) = some r := h
  clear h
  replace H := Option.bind_eq_some_iff.mp H
  obtain ⟨⟨t181, t182⟩, A30, H⟩ := H
  replace H : (bits_Count.l0 k 0 t181 (t181.length : Int) 0) = some r := H
  have A3 := Aside0.mk A30
  clear A30
  have H' := Aside0.mk H
  clear H
  go_enter Try.func18, Try.ntmps18
  go_wp2_with (first | ((with_reducible refine gate_callee (f := 15) rfl ?_); refine goesL_ (some 13) rfl rfl Try.func15 (by kernel_rfl) rfl #[.slice A0 l0.length c0, .int .i64 a1] rfl (by (try simp only [List.map_toArray, List.map_cons, List.map_nil]); first | done | rfl | (simp only [List.length_drop, List.length_take]; rfl)) ?_; (with_reducible refine (bits_Unpack.calls _ _ l0 a1 t181 t182 _ ?side1 ?side2 A3.out).mono ?_); (case side1 => repeat (first | exact HR0.out | (with_reducible refine Kd.C_alloc ?_ _) | (with_reducible refine Kd.C_drewN ?_ _) | (with_reducible refine Kd.C_drew ?_))); (case side2 => exact HC0.out); rintro e w4 ⟨v183, rfl, ho0, hb⟩; refine ⟨_, rfl, ?_⟩; have n0_ := Aside0.mk (Kd.R_lower ho0 (below_size (by repeat (first | (with_reducible first | exact HB.out | apply below_alloc | apply pw_below_drewN | apply below_drew1) | exact HB.out)))); have n1_ := Aside0.mk (below_step (by repeat (first | (with_reducible first | exact HB.out | apply below_alloc | apply pw_below_drewN | apply below_drew1) | exact HB.out)) hb); clear HB; have HO184 := n0_; have HB := n1_; clear n0_ n1_; (try clear hb); (try clear hb2); (try clear hk); (try clear hi); (try clear ho0); obtain ⟨Ao5, co5, eo5⟩ := Kd.R_slice HO184.out; subst eo5))
  go_loopg [7, 18] k (fun kq v7 v18 w' => ∃ (x7_1 : Int) (x18_1 : Int), v7 = .int .i64 x7_1 ∧ v18 = .int .i64 x18_1 ∧ Aside0 (bits_Count.l0 kq x7_1 t181 (t181.length : Int) x18_1 = some r) ∧ Aside0 (kq ≤ k) ∧ Aside0 (Kd.R (Kd.int .i64) 3 w' w.heap.size (fun _ => True) (.slice Ao5 t181.length co5) t181) ∧ Aside0 (Below w.heap.size w w'))
  case atStart => exact ⟨(0), (0), (by first | rfl | (simp; done) | (simp [*]; done)), (by first | rfl | (simp; done) | (simp [*]; done)), H', ⟨Nat.le_refl _⟩, ⟨by (with_reducible repeat (first | apply Kd.R_alloc | apply Kd.R_drewN | apply Kd.R_drew)); exact HO184.out⟩, ⟨by repeat (first | (with_reducible first | exact HB.out | apply below_alloc | apply pw_below_drewN | apply below_drew1) | exact HB.out)⟩⟩
  case round =>
    clear H'
    try clear c1
    try clear p2
    obtain ⟨x7_1, x18_1, rfl, rfl, HA, HK1, HO_16, HB⟩ := hrel
    cases gk with
    | zero => exact absurd HA.out (by simp [bits_Count.l0])
    | succ k1 =>
      have H := HA.out
      clear HA
      simp only [bits_Count.l0] at H
      by_cases c6 : x18_1 < (t181.length : Int)
      · rw [if_pos c6] at H
        have c6b0 : decide (x18_1 < (t181.length : Int)) = true := decide_eq_true c6
        clear c6
        by_cases c7 : 0 ≤ x18_1
        · rw [if_pos c7] at H
          have c7b0 : decide (0 ≤ x18_1) = true := decide_eq_true c7
          clear c7
          by_cases c8 : x18_1 < (t181.length : Int)
          · rw [if_pos c8] at H
            have c8b0 : decide (x18_1 < (t181.length : Int)) = true := decide_eq_true c8
            clear c8
            have H' := Aside0.mk H
            clear H
            have p185 : 0 ≤ (x18_1 : Int) := of_decide_eq_true (by first | (with_reducible assumption) | assumption)
            have q185 : x18_1 < (t181.length : Int) := of_decide_eq_true (by first | (with_reducible assumption) | assumption)
            obtain ⟨ad185, e185, hx185_0⟩ := Kd.at_int (Kd.R_reads' HO_16.out).2.2 x18_1 p185 q185
            cases e185
            replace p185 := eq_true p185
            replace q185 := eq_true q185
            go_wp2
            go_roundg k1
            case measure => have := HK1.out; omega
            case rel => exact ⟨(wrap64 (x7_1 + (rd t181 x18_1))), (wrap64 (x18_1 + 1)), (by first | rfl | (simp; done) | (simp [*]; done)), (by first | rfl | (simp; done) | (simp [*]; done)), H', ⟨by have := HK1.out; omega⟩, ⟨by (with_reducible repeat (first | apply Kd.R_alloc | apply Kd.R_drewN | apply Kd.R_drew)); exact HO_16.out⟩, ⟨by repeat (first | (with_reducible first | exact HB.out | apply below_alloc | apply pw_below_drewN | apply below_drew1) | exact HB.out)⟩⟩
          · rw [if_neg c8] at H
            exact absurd H (by simp)
        · rw [if_neg c7] at H
          exact absurd H (by simp)
      · rw [if_neg c6] at H
        have c6b0 : decide (x18_1 < (t181.length : Int)) = false := decide_eq_false c6
        clear c6
        obtain rfl := Option.some.inj H
        go_wp2
        go_ret
        exact ⟨by first | rfl | (simp [errW_none, errW_some] <;> rfl) | (simp [*, errW_none, errW_some] <;> rfl), by repeat (first | (with_reducible first | exact HB.out | apply below_alloc | apply pw_below_drewN | apply below_drew1) | exact HB.out)⟩

end Go.Proofs.Ytdjjipinmcmfeaa.Q
