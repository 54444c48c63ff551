-- written by our own program (wip/tools/myprint.py) out of the translation, by the kit's print; Lean checks it
import Derived.Test.YtdjonaajfhbfhaaWRepsOne
import Derived.Test.YtdjonaajfhbfhaaQ0
import Derived.Test.YtdjonaajfhbfhaaIraw_Read
namespace Go.Proofs.Ytdjonaajfhbfhaa.Q
open Go.RowKit Go.Proofs.YtdjonaajfhbfhaaW.PrintWords Go.Proofs.YtdjonaajfhbfhaaW.PrintLast Go.Proofs.YtdjonaajfhbfhaaW.PrintMore
attribute [local go_sem] max2_int min2_int max_two min_two max_three min_three max_four min_four   -- for this text's walks alone
set_option linter.unusedVariables false
set_option linter.unusedSimpArgs false

/-! ### chequerref03_SameRow: function 14 -/
def chequerref03_SameRow.l0 : Nat → List Int → List Int → Int → Option (Bool)
  | 0, _, _, _ => none
  | k + 1, x0, x1, x5 => if x5 < (x0.length : Int) then (if 0 ≤ x5 then (if x5 < (x1.length : Int) then (if (rd x0 x5) = (rd x1 x5) then (chequerref03_SameRow.l0 k x0 x1 (wrap64 (x5 + 1))) else (some false)) else (none)) else (none)) else (some true)
def chequerref03_SameRow.f (k : Nat) (l0 : List Int) (l1 : List Int) : Option (Bool) := if (l0.length : Int) = (l1.length : Int) then (chequerref03_SameRow.l0 k l0 l1 0) else (some false)
theorem chequerref03_SameRow.mono_l : ∀ k, (∀ y0 y1 y2, LeO (chequerref03_SameRow.l0 k y0 y1 y2) (chequerref03_SameRow.l0 (k + 1) y0 y1 y2))
  | 0 => fun _ _ _ r h => by simp [chequerref03_SameRow.l0] at h
  | k + 1 => by
    have ih0 := chequerref03_SameRow.mono_l k
    · intro y0 y1 y2
      unfold chequerref03_SameRow.l0
      repeat' first
      | (with_reducible exact ih0 _ _ _)
      | (with_reducible exact LeO.refl _)
      | (with_reducible exact LeO.none _)
      | (with_reducible refine LeO.ite ?_ ?_)
      | (with_reducible refine LeO.bind ?_ (fun _ => ?_))
      | exact ih0 _ _ _
      | exact LeO.none _
      | refine LeO.ite ?_ ?_
      | refine LeO.bind ?_ (fun _ => ?_)
theorem chequerref03_SameRow.mono : ∀ a0 a1 k, LeO (chequerref03_SameRow.f k a0 a1) (chequerref03_SameRow.f (k + 1) a0 a1) := by
  intro a0 a1 k
  have ih0 := chequerref03_SameRow.mono_l k
  unfold chequerref03_SameRow.f
  repeat' first
      | (with_reducible exact ih0 _ _ _)
      | (with_reducible exact LeO.refl _)
      | (with_reducible exact LeO.none _)
      | (with_reducible refine LeO.ite ?_ ?_)
      | (with_reducible refine LeO.bind ?_ (fun _ => ?_))
      | exact ih0 _ _ _
      | exact LeO.none _
      | refine LeO.ite ?_ ?_
      | refine LeO.bind ?_ (fun _ => ?_)
set_option maxHeartbeats 8000000 in
set_option maxRecDepth 100000 in
theorem chequerref03_SameRow.calls (k : Nat) (A0 : Option Addr) (c0 : Nat) (l0 : List Int) (A1 : Option Addr) (c1 : Nat) (l1 : List Int) (r : Bool) (w : World) (hr0 : Kd.C (Kd.int .u64) w A0 l0.length l0) (hc0 : l0.length ≤ c0) (hr1 : Kd.C (Kd.int .u64) w A1 l1.length l1) (hc1 : l1.length ≤ c1) (h : chequerref03_SameRow.f k l0 l1 = some r) :
    Calls Try.prog 14 #[.slice A0 l0.length c0, .slice A1 l1.length c1] w fun e w' => e = .returned (.bool r) ∧ Drawn0 w w' := by
  have HR0 := Aside0.mk hr0
  have HC0 := Aside0.mk hc0
  clear hr0 hc0
  have HR1 := Aside0.mk hr1
  have HC1 := Aside0.mk hc1
  clear hr1 hc1
  have H : (if (l0.length : Int) = (l1.length : Int) then (chequerref03_SameRow.l0 k l0 l1 0) else (some false)) = some r := h
  clear h
  by_cases c3 : (l0.length : Int) = (l1.length : Int)
  · rw [if_pos c3] at H
    have c3b0 : ((l0.length : Int) == (l1.length : Int)) = true := beq_iff_eq.mpr c3
    have c3b1 : ((l0.length : Int) != (l1.length : Int)) = false := bne_eq_false_iff_eq.mpr c3
    have c3b2 : (l0.length == l1.length) = true := by first | simpa using c3 | (simp at c3 ⊢; omega)
    clear c3
    have H' := Aside0.mk H
    clear H
    go_enter Try.func14, Try.ntmps14
    go_wp2
    repeat (go_quiet (fail); try go_wp2)
    go_loopg [5] k (fun kq v5 w' => ∃ (x5_1 : Int), v5 = .int .i64 x5_1 ∧ Aside0 (chequerref03_SameRow.l0 kq l0 l1 x5_1 = some r) ∧ Aside0 (kq ≤ k) ∧ Drawn0 w w')
    case atStart => exact ⟨(0), (by first | rfl | (simp; done) | (simp [*]; done)), H', ⟨Nat.le_refl _⟩, by repeat (first | exact Drawn0.refl _ | apply Drawn0.step)⟩
    case round =>
      clear H'
      try clear c1
      try clear p2
      try clear c3
      try clear c3b0
      try clear c3b1
      try clear c3b2
      obtain ⟨x5_1, rfl, HA, HK1, ⟨m1, rfl⟩⟩ := hrel
      cases gk with
      | zero => exact absurd HA.out (by simp [chequerref03_SameRow.l0])
      | succ k1 =>
        have H := HA.out
        clear HA
        simp only [chequerref03_SameRow.l0] at H
        by_cases c4 : x5_1 < (l0.length : Int)
        · rw [if_pos c4] at H
          have c4b0 : decide (x5_1 < (l0.length : Int)) = true := decide_eq_true c4
          clear c4
          by_cases c5 : 0 ≤ x5_1
          · rw [if_pos c5] at H
            have c5b0 : decide (0 ≤ x5_1) = true := decide_eq_true c5
            clear c5
            by_cases c6 : x5_1 < (l1.length : Int)
            · rw [if_pos c6] at H
              have c6b0 : decide (x5_1 < (l1.length : Int)) = true := decide_eq_true c6
              clear c6
              by_cases c7 : (rd l0 x5_1) = (rd l1 x5_1)
              · rw [if_pos c7] at H
                have c7b0 : ((rd l0 x5_1) == (rd l1 x5_1)) = true := beq_iff_eq.mpr c7
                have c7b1 : ((rd l0 x5_1) != (rd l1 x5_1)) = false := bne_eq_false_iff_eq.mpr c7
                clear c7
                have H' := Aside0.mk H
                clear H
                have p244 : 0 ≤ (x5_1 : Int) := of_decide_eq_true (by first | (with_reducible assumption) | assumption)
                have q244 : x5_1 < (l0.length : Int) := of_decide_eq_true (by first | (with_reducible assumption) | assumption)
                obtain ⟨ad244, e244, hx244_0⟩ := Kd.at_int HR0.out x5_1 p244 q244
                cases e244
                replace p244 := eq_true p244
                replace q244 := eq_true q244
                have p245 : 0 ≤ (x5_1 : Int) := of_decide_eq_true (by first | (with_reducible assumption) | assumption)
                have q245 : x5_1 < (l1.length : Int) := of_decide_eq_true (by first | (with_reducible assumption) | assumption)
                obtain ⟨ad245, e245, hx245_0⟩ := Kd.at_int HR1.out x5_1 p245 q245
                cases e245
                replace p245 := eq_true p245
                replace q245 := eq_true q245
                go_wp2
                repeat (go_quiet (fail); try go_wp2)
                go_roundg k1
                case measure => have := HK1.out; omega
                case rel => exact ⟨(wrap64 (x5_1 + 1)), (by first | rfl | (simp; done) | (simp [*]; done)), H', ⟨by have := HK1.out; omega⟩, by repeat (first | exact Drawn0.refl _ | apply Drawn0.step)⟩
              · rw [if_neg c7] at H
                have c7b0 : ((rd l0 x5_1) == (rd l1 x5_1)) = false := beq_eq_false_iff_ne.mpr c7
                have c7b1 : ((rd l0 x5_1) != (rd l1 x5_1)) = true := bne_iff_ne.mpr c7
                obtain rfl := Option.some.inj H
                have p244 : 0 ≤ (x5_1 : Int) := of_decide_eq_true (by first | (with_reducible assumption) | assumption)
                have q244 : x5_1 < (l0.length : Int) := of_decide_eq_true (by first | (with_reducible assumption) | assumption)
                obtain ⟨ad244, e244, hx244_0⟩ := Kd.at_int HR0.out x5_1 p244 q244
                cases e244
                replace p244 := eq_true p244
                replace q244 := eq_true q244
                have p245 : 0 ≤ (x5_1 : Int) := of_decide_eq_true (by first | (with_reducible assumption) | assumption)
                have q245 : x5_1 < (l1.length : Int) := of_decide_eq_true (by first | (with_reducible assumption) | assumption)
                obtain ⟨ad245, e245, hx245_0⟩ := Kd.at_int HR1.out x5_1 p245 q245
                cases e245
                replace p245 := eq_true p245
                replace q245 := eq_true q245
                go_wp2
                repeat (go_quiet (fail); try go_wp2)
                go_ret
                exact ⟨by first | rfl | (simp; done) | (simp [*]; done), by repeat (first | exact Drawn0.refl _ | apply Drawn0.step)⟩
            · rw [if_neg c6] at H
              exact absurd H (by simp)
          · rw [if_neg c5] at H
            exact absurd H (by simp)
        · rw [if_neg c4] at H
          have c4b0 : decide (x5_1 < (l0.length : Int)) = false := decide_eq_false c4
          clear c4
          obtain rfl := Option.some.inj H
          go_wp2
          repeat (go_quiet (fail); try go_wp2)
          go_ret
          exact ⟨by first | rfl | (simp; done) | (simp [*]; done), by repeat (first | exact Drawn0.refl _ | apply Drawn0.step)⟩
  · rw [if_neg c3] at H
    have c3b0 : ((l0.length : Int) == (l1.length : Int)) = false := beq_eq_false_iff_ne.mpr c3
    have c3b1 : ((l0.length : Int) != (l1.length : Int)) = true := bne_iff_ne.mpr c3
    have c3b2 : (l0.length == l1.length) = false := by first | simpa using c3 | (simp at c3 ⊢; omega)
    obtain rfl := Option.some.inj H
    go_enter Try.func14, Try.ntmps14
    go_wp2
    repeat (go_quiet (fail); try go_wp2)
    go_ret
    exact ⟨by first | rfl | (simp; done) | (simp [*]; done), by repeat (first | exact Drawn0.refl _ | apply Drawn0.step)⟩


/-! ### chequerlaw09_lives: function 16 -/
def chequerlaw09_lives.f (k : Nat)  : Option (Bool) := (raw_Read.f (([7, 9] : List Int)) 5 2 1 255).bind fun bt249 => (if bt249.2 = 0 then ((chequerref03_SameRow.f k bt249.1 (([281474976710663, 281474976710665] : List Int))).bind fun t256 => (some t256)) else (some false))
theorem chequerlaw09_lives.mono : ∀ k, LeO (chequerlaw09_lives.f k ) (chequerlaw09_lives.f (k + 1) ) := by
 intro  k
 unfold chequerlaw09_lives.f
 repeat' first
  | (with_reducible exact chequerref03_SameRow.mono _ _ _)
  | (with_reducible exact LeO.refl _)
  | (with_reducible exact LeO.none _)
  | (with_reducible refine LeO.ite ?_ ?_)
  | (with_reducible refine LeO.bind ?_ (fun _ => ?_))
  | exact chequerref03_SameRow.mono _ _ _
  | exact LeO.none _
  | refine LeO.ite ?_ ?_
  | refine LeO.bind ?_ (fun _ => ?_)
set_option maxHeartbeats 8000000 in
set_option maxRecDepth 100000 in
theorem chequerlaw09_lives.calls (k : Nat)  (r : Bool) (w : World) (h : chequerlaw09_lives.f k  = some r) :
 Calls Try.prog 16 #[] w fun e w' => e = .returned (.bool r) ∧ Below w.heap.size w w' := by
 have hu34 := Try.underlying34
 have HB := Aside0.mk (Below.refl w.heap.size w)
 have H : ((raw_Read.f (([7, 9] : List Int)) 5 2 1 255).bind fun bt249 => (if bt249.2 = 0 then ((chequerref03_SameRow.f k bt249.1 (([281474976710663, 281474976710665] : List Int))).bind fun t256 => (some t256)) else (some false))) = some r := h
 clear h
 obtain ⟨y246, hy246⟩ : ∃ y_ : List Int, y_ = (([7, 9] : List Int)) := ⟨_, rfl⟩
 replace H : ((raw_Read.f y246 5 2 1 255).bind fun bt249 => (if bt249.2 = 0 then ((chequerref03_SameRow.f k bt249.1 (([281474976710663, 281474976710665] : List Int))).bind fun t256 => (some t256)) else (some false))) = some r := by first | (rw [hy246]; with_reducible exact H) | (have H2_ := (Option.bind_some _ _).symm.trans H; rw [hy246]; with_reducible exact H2_) | (have H2_ := (Option.bind_some _ _).symm.trans H; with_reducible exact H2_) | with_reducible exact H | (rw [hy246]; exact H) | exact H
 have Ny246 := Aside0.mk hy246
 clear hy246
 replace H := Option.bind_eq_some_iff.mp H
 obtain ⟨⟨t249, t252⟩, A10, H⟩ := H
 replace H : (if t252 = 0 then ((chequerref03_SameRow.f k t249 (([281474976710663, 281474976710665] : List Int))).bind fun t256 => (some t256)) else (some false)) = some r := H
 have A1 := Aside0.mk A10
 clear A10
 by_cases c2 : t252 = 0
 · rw [if_pos c2] at H
   have c2b0 : (t252 == 0) = true := beq_iff_eq.mpr c2
   have c2b1 : (t252 != 0) = false := bne_eq_false_iff_eq.mpr c2
   clear c2
   obtain ⟨y253, hy253⟩ : ∃ y_ : List Int, y_ = (([281474976710663, 281474976710665] : List Int)) := ⟨_, rfl⟩
   replace H : ((chequerref03_SameRow.f k t249 y253).bind fun t256 => (some t256)) = some r := by first | (rw [hy253]; with_reducible exact H) | (have H2_ := (Option.bind_some _ _).symm.trans H; rw [hy253]; with_reducible exact H2_) | (have H2_ := (Option.bind_some _ _).symm.trans H; with_reducible exact H2_) | with_reducible exact H | (rw [hy253]; exact H) | exact H
   have Ny253 := Aside0.mk hy253
   clear hy253
   replace H := Option.bind_eq_some_iff.mp H
   obtain ⟨t256, A30, H⟩ := H
   replace H : (some t256) = some r := H
   have A3 := Aside0.mk A30
   clear A30
   obtain rfl := Option.some.inj H
   go_enter Try.func16, Try.ntmps16
   go_wp2_with (first | ((with_reducible refine gate_dst (N := 4) rfl ?_); (try (refine gate_guard (by rfl) ?_; dsimp only)); refine Kd.R_lit (Kd.int .u8) _ 5 ?hg (N := 4) ?hd (xs := ([7, 9] : List Int)) (inner := [.int .u8 7, .int .u8 9]) (ok := fun _ => True) (okp := fun _ => True) ?hr ?hp (fun _ hk => hk) trivial (Below.refl _ _) (Nat.le_refl _) (by simp) ?_; (case hd => rfl); (case hg => rfl); (case hr => first | (go_simp; done) | (go_simp; rfl)); (case hp => exact (Reps.one (show Kd.M (Kd.int .u8) _ _ _ 7 [.int .u8 7] from rfl) (Reps.one (show Kd.M (Kd.int .u8) _ _ _ 9 [.int .u8 9] from rfl) (Reps.none _ _)))); intro v247 w4 ho5 hb hg_ hnew_; clear hg_ hnew_; (first | rw [← Ny246.out] at ho5 | (simp only [Int.reduceToNat] at ho5; rw [← Ny246.out] at ho5)); have HO248 := Aside0.mk (Kd.R_lower ho5 (below_size bp_)); replace HB := Aside0.mk (below_step bp_ hb); clear hb ho5; obtain ⟨Ao6, co6, eo6⟩ := Kd.R_slice HO248.out; subst eo6) | ((with_reducible refine gate_callee (f := 13) rfl ?_); refine goQ_ (some 6) Try.func13 #[.slice Ao6 y246.length co6, .agg #[.int .i64 5, .int .i64 2, .int .i64 1, .int .i64 255]] ?_; (with_reducible refine (raw_Read.calls _ _ y246 5 2 1 255 t249 t252 _ ?side1 ?side2 A1.out).mono ?_); (case side1 => exact cp_ (Kd.R_reads' HO248.out).2.2); (case side2 => exact (Kd.R_reads' HO248.out).2.1); rintro e w7 ⟨v250, rfl, ho0, hb⟩; refine ⟨_, rfl, ?_⟩; replace HO248 := Aside0.mk (Kd.R_below (rp_ HO248.out) hb); have HO251 := Aside0.mk (Kd.R_lower ho0 (below_size bp_)); replace HB := Aside0.mk (below_step bp_ hb); (try clear hb); (try clear hb2); (try clear hk); (try clear hi); (try clear ho0)) | ((with_reducible refine gate_dst (N := 13) rfl ?_); (try (refine gate_guard (by rfl) ?_; dsimp only)); refine Kd.R_lit (Kd.int .u64) _ 26 ?hg (N := 13) ?hd (xs := ([281474976710663, 281474976710665] : List Int)) (inner := [.int .u64 281474976710663, .int .u64 281474976710665]) (ok := fun _ => True) (okp := fun _ => True) ?hr ?hp (fun _ hk => hk) trivial (Below.refl _ _) (Nat.le_refl _) (by simp) ?_; (case hd => rfl); (case hg => rfl); (case hr => first | (go_simp; done) | (go_simp; rfl)); (case hp => exact (Reps.one (show Kd.M (Kd.int .u64) _ _ _ 281474976710663 [.int .u64 281474976710663] from rfl) (Reps.one (show Kd.M (Kd.int .u64) _ _ _ 281474976710665 [.int .u64 281474976710665] from rfl) (Reps.none _ _)))); intro v254 w8 ho9 hb hg_ hnew_; clear hg_ hnew_; (first | rw [← Ny253.out] at ho9 | (simp only [Int.reduceToNat] at ho9; rw [← Ny253.out] at ho9)); replace HO248 := Aside0.mk (Kd.R_below (rp_ HO248.out) hb); have HO255 := Aside0.mk (Kd.R_lower (Kd.R_new' ho9 (Kd.R_lt (rp_ HO251.out))) (below_size bp_)); replace HO251 := Aside0.mk (Kd.R_elder' (rp_ HO251.out) (Kd.R_base ho9) hb); replace HB := Aside0.mk (below_step bp_ hb); clear hb ho9; obtain ⟨Ao10, co10, eo10⟩ := Kd.R_slice HO251.out; subst eo10; obtain ⟨Ao11, co11, eo11⟩ := Kd.R_slice HO255.out; subst eo11) | (go_at_call 14; (with_reducible refine (chequerref03_SameRow.calls k _ _ t249 _ _ y253 t256 _ ?side1 ?side2 ?side3 ?side4 A3.out).mono ?_); (case side1 => exact cp_ (Kd.R_reads' HO251.out).2.2); (case side2 => exact (Kd.R_reads' HO251.out).2.1); (case side3 => exact cp_ (Kd.R_reads' HO255.out).2.2); (case side4 => exact (Kd.R_reads' HO255.out).2.1); rintro e w' ⟨rfl, ⟨nd, rfl⟩⟩))
   go_ret
   exact ⟨by first | rfl | (simp [errW_none, errW_some] <;> rfl) | (simp [*, errW_none, errW_some] <;> rfl), bp_⟩
 · rw [if_neg c2] at H
   have c2b0 : (t252 == 0) = false := beq_eq_false_iff_ne.mpr c2
   have c2b1 : (t252 != 0) = true := bne_iff_ne.mpr c2
   obtain rfl := Option.some.inj H
   go_enter Try.func16, Try.ntmps16
   go_wp2_with (first | ((with_reducible refine gate_dst (N := 4) rfl ?_); (try (refine gate_guard (by rfl) ?_; dsimp only)); refine Kd.R_lit (Kd.int .u8) _ 5 ?hg (N := 4) ?hd (xs := ([7, 9] : List Int)) (inner := [.int .u8 7, .int .u8 9]) (ok := fun _ => True) (okp := fun _ => True) ?hr ?hp (fun _ hk => hk) trivial (Below.refl _ _) (Nat.le_refl _) (by simp) ?_; (case hd => rfl); (case hg => rfl); (case hr => first | (go_simp; done) | (go_simp; rfl)); (case hp => exact (Reps.one (show Kd.M (Kd.int .u8) _ _ _ 7 [.int .u8 7] from rfl) (Reps.one (show Kd.M (Kd.int .u8) _ _ _ 9 [.int .u8 9] from rfl) (Reps.none _ _)))); intro v247 w12 ho13 hb hg_ hnew_; clear hg_ hnew_; (first | rw [← Ny246.out] at ho13 | (simp only [Int.reduceToNat] at ho13; rw [← Ny246.out] at ho13)); have HO248 := Aside0.mk (Kd.R_lower ho13 (below_size bp_)); replace HB := Aside0.mk (below_step bp_ hb); clear hb ho13; obtain ⟨Ao14, co14, eo14⟩ := Kd.R_slice HO248.out; subst eo14) | ((with_reducible refine gate_callee (f := 13) rfl ?_); refine goQ_ (some 6) Try.func13 #[.slice Ao14 y246.length co14, .agg #[.int .i64 5, .int .i64 2, .int .i64 1, .int .i64 255]] ?_; (with_reducible refine (raw_Read.calls _ _ y246 5 2 1 255 t249 t252 _ ?side1 ?side2 A1.out).mono ?_); (case side1 => exact cp_ (Kd.R_reads' HO248.out).2.2); (case side2 => exact (Kd.R_reads' HO248.out).2.1); rintro e w15 ⟨v250, rfl, ho0, hb⟩; refine ⟨_, rfl, ?_⟩; replace HO248 := Aside0.mk (Kd.R_below (rp_ HO248.out) hb); have HO251 := Aside0.mk (Kd.R_lower ho0 (below_size bp_)); replace HB := Aside0.mk (below_step bp_ hb); (try clear hb); (try clear hb2); (try clear hk); (try clear hi); (try clear ho0)))
   go_ret
   exact ⟨by first | rfl | (simp [errW_none, errW_some] <;> rfl) | (simp [*, errW_none, errW_some] <;> rfl), bp_⟩

end Go.Proofs.Ytdjonaajfhbfhaa.Q
