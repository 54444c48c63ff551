-- written by our own program (wip/tools/myprint.py) out of the translation, by the kit's print; Lean checks it
import Derived.Test.YtidpaaemfiopkaaQ0
import Derived.Test.YtidpaaemfiopkaaQ3
import Derived.Test.YtidpaaemfiopkaaIrect_Matrix_row
namespace Go.Proofs.Ytidpaaemfiopkaa.Q
open Go.RowKit Go.Proofs.YtidpaaemfiopkaaW.PrintWords Go.Proofs.YtidpaaemfiopkaaW.PrintLast Go.Proofs.YtidpaaemfiopkaaW.PrintMore
attribute [local go_sem] max2_int min2_int max_two min_two max_three min_three max_four min_four   -- for this text's walks alone
set_option linter.unusedVariables false
set_option linter.unusedSimpArgs false

/-! ### api_Pixel_47: function 47 -/
def api_Pixel_47.l0 : Nat → List Int → List Int → Int → Int → Option (Bool)
  | 0, _, _, _, _ => none
  | k + 1, x0, x1, x12, x13 => if x13 < x12 then (if 0 ≤ x13 then (if x13 < (x0.length : Int) then (if x13 < (x1.length : Int) then (if (rd x0 x13) = (rd x1 x13) then (api_Pixel_47.l0 k x0 x1 x12 (wrap64 (x13 + 1))) else (some false)) else (none)) else (none)) else (none)) else (some true)
def api_Pixel_47.f (k : Nat) (l0 : List Int) (l1 : List Int) : Option (Bool) := if (l0.length : Int) = (l1.length : Int) then (api_Pixel_47.l0 k l0 l1 (l0.length : Int) 0) else (some false)
theorem api_Pixel_47.mono_l : ∀ k, (∀ y0 y1 y2 y3, LeO (api_Pixel_47.l0 k y0 y1 y2 y3) (api_Pixel_47.l0 (k + 1) y0 y1 y2 y3))
  | 0 => fun _ _ _ _ r h => by simp [api_Pixel_47.l0] at h
  | k + 1 => by
    have ih0 := api_Pixel_47.mono_l k
    · intro y0 y1 y2 y3
      unfold api_Pixel_47.l0
      repeat' first
      | (with_reducible exact ih0 _ _ _ _)
      | (with_reducible exact LeO.refl _)
      | (with_reducible exact LeO.none _)
      | (with_reducible refine LeO.ite ?_ ?_)
      | (with_reducible refine LeO.bind ?_ (fun _ => ?_))
      | exact ih0 _ _ _ _
      | exact LeO.none _
      | refine LeO.ite ?_ ?_
      | refine LeO.bind ?_ (fun _ => ?_)
theorem api_Pixel_47.mono : ∀ a0 a1 k, LeO (api_Pixel_47.f k a0 a1) (api_Pixel_47.f (k + 1) a0 a1) := by
  intro a0 a1 k
  have ih0 := api_Pixel_47.mono_l k
  unfold api_Pixel_47.f
  repeat' first
      | (with_reducible exact ih0 _ _ _ _)
      | (with_reducible exact LeO.refl _)
      | (with_reducible exact LeO.none _)
      | (with_reducible refine LeO.ite ?_ ?_)
      | (with_reducible refine LeO.bind ?_ (fun _ => ?_))
      | exact ih0 _ _ _ _
      | exact LeO.none _
      | refine LeO.ite ?_ ?_
      | refine LeO.bind ?_ (fun _ => ?_)
set_option maxHeartbeats 8000000 in
set_option maxRecDepth 100000 in
theorem api_Pixel_47.calls (k : Nat) (A0 : Option Addr) (c0 : Nat) (l0 : List Int) (A1 : Option Addr) (c1 : Nat) (l1 : List Int) (r : Bool) (w : World) (hr0 : Kd.C (Kd.int .u64) w A0 l0.length l0) (hc0 : l0.length ≤ c0) (hr1 : Kd.C (Kd.int .u64) w A1 l1.length l1) (hc1 : l1.length ≤ c1) (h : api_Pixel_47.f k l0 l1 = some r) :
    Calls Try.prog 47 #[.slice A0 l0.length c0, .slice A1 l1.length c1] w fun e w' => e = .returned (.bool r) ∧ Drawn0 w w' := by
  have HR0 := Aside0.mk hr0
  have HC0 := Aside0.mk hc0
  clear hr0 hc0
  have HR1 := Aside0.mk hr1
  have HC1 := Aside0.mk hc1
  clear hr1 hc1
  have H : (if (l0.length : Int) = (l1.length : Int) then (api_Pixel_47.l0 k l0 l1 (l0.length : Int) 0) else (some false)) = some r := h
  clear h
  by_cases c3 : (l0.length : Int) = (l1.length : Int)
  · rw [if_pos c3] at H
    have c3b0 : ((l0.length : Int) == (l1.length : Int)) = true := beq_iff_eq.mpr c3
    have c3b1 : ((l0.length : Int) != (l1.length : Int)) = false := bne_eq_false_iff_eq.mpr c3
    have c3b2 : (l0.length == l1.length) = true := by first | simpa using c3 | (simp at c3 ⊢; omega)
    clear c3
    have H' := Aside0.mk H
    clear H
    go_enter Try.func47, Try.ntmps47
    go_wp2
    repeat (go_quiet (fail); try go_wp2)
    go_loopg [13] k (fun kq v13 w' => ∃ (x13_1 : Int), v13 = .int .i64 x13_1 ∧ Aside0 (api_Pixel_47.l0 kq l0 l1 (l0.length : Int) x13_1 = some r) ∧ Aside0 (kq ≤ k) ∧ Drawn0 w w')
    case atStart => exact ⟨(0), (by first | rfl | (simp; done) | (simp [*]; done)), H', ⟨Nat.le_refl _⟩, by repeat (first | exact Drawn0.refl _ | apply Drawn0.step)⟩
    case round =>
      clear H'
      try clear c1
      try clear p2
      try clear c3
      try clear c3b0
      try clear c3b1
      try clear c3b2
      obtain ⟨x13_1, rfl, HA, HK1, ⟨m1, rfl⟩⟩ := hrel
      cases gk with
      | zero => exact absurd HA.out (by simp [api_Pixel_47.l0])
      | succ k1 =>
        have H := HA.out; clear HA; simp only [api_Pixel_47.l0] at H
        by_cases c4 : x13_1 < (l0.length : Int)
        · rw [if_pos c4] at H
          have c4b0 : decide (x13_1 < (l0.length : Int)) = true := decide_eq_true c4
          clear c4
          by_cases c5 : 0 ≤ x13_1
          · rw [if_pos c5] at H
            have c5b0 : decide (0 ≤ x13_1) = true := decide_eq_true c5
            clear c5
            by_cases c6 : x13_1 < (l0.length : Int)
            · rw [if_pos c6] at H
              have c6b0 : decide (x13_1 < (l0.length : Int)) = true := decide_eq_true c6
              clear c6
              by_cases c7 : x13_1 < (l1.length : Int)
              · rw [if_pos c7] at H
                have c7b0 : decide (x13_1 < (l1.length : Int)) = true := decide_eq_true c7
                clear c7
                by_cases c8 : (rd l0 x13_1) = (rd l1 x13_1)
                · rw [if_pos c8] at H
                  have c8b0 : ((rd l0 x13_1) == (rd l1 x13_1)) = true := beq_iff_eq.mpr c8
                  have c8b1 : ((rd l0 x13_1) != (rd l1 x13_1)) = false := bne_eq_false_iff_eq.mpr c8
                  clear c8
                  have H' := Aside0.mk H
                  clear H
                  have p126 : 0 ≤ (x13_1 : Int) := of_decide_eq_true (by first | (with_reducible assumption) | assumption)
                  have q126 : x13_1 < (l0.length : Int) := of_decide_eq_true (by first | (with_reducible assumption) | assumption)
                  obtain ⟨ad126, e126, hx126_0⟩ := Kd.at_int HR0.out x13_1 p126 q126
                  cases e126
                  replace p126 := eq_true p126; replace q126 := eq_true q126
                  have p127 : 0 ≤ (x13_1 : Int) := of_decide_eq_true (by first | (with_reducible assumption) | assumption)
                  have q127 : x13_1 < (l1.length : Int) := of_decide_eq_true (by first | (with_reducible assumption) | assumption)
                  obtain ⟨ad127, e127, hx127_0⟩ := Kd.at_int HR1.out x13_1 p127 q127
                  cases e127
                  replace p127 := eq_true p127; replace q127 := eq_true q127
                  go_wp2
                  repeat (go_quiet (fail); try go_wp2)
                  go_roundg k1
                  case measure => have := HK1.out; omega
                  case rel => exact ⟨(wrap64 (x13_1 + 1)), (by first | rfl | (simp; done) | (simp [*]; done)), H', ⟨by have := HK1.out; omega⟩, by repeat (first | exact Drawn0.refl _ | apply Drawn0.step)⟩
                rw [if_neg c8] at H
                have c8b0 : ((rd l0 x13_1) == (rd l1 x13_1)) = false := beq_eq_false_iff_ne.mpr c8
                have c8b1 : ((rd l0 x13_1) != (rd l1 x13_1)) = true := bne_iff_ne.mpr c8
                obtain rfl := Option.some.inj H
                have p126 : 0 ≤ (x13_1 : Int) := of_decide_eq_true (by first | (with_reducible assumption) | assumption)
                have q126 : x13_1 < (l0.length : Int) := of_decide_eq_true (by first | (with_reducible assumption) | assumption)
                obtain ⟨ad126, e126, hx126_0⟩ := Kd.at_int HR0.out x13_1 p126 q126
                cases e126
                replace p126 := eq_true p126; replace q126 := eq_true q126
                have p127 : 0 ≤ (x13_1 : Int) := of_decide_eq_true (by first | (with_reducible assumption) | assumption)
                have q127 : x13_1 < (l1.length : Int) := of_decide_eq_true (by first | (with_reducible assumption) | assumption)
                obtain ⟨ad127, e127, hx127_0⟩ := Kd.at_int HR1.out x13_1 p127 q127
                cases e127
                replace p127 := eq_true p127; replace q127 := eq_true q127
                go_wp2
                repeat (go_quiet (fail); try go_wp2)
                go_ret
                exact ⟨by first | rfl | (simp; done) | (simp [*]; done), by repeat (first | exact Drawn0.refl _ | apply Drawn0.step)⟩
              rw [if_neg c7] at H
              exact absurd H (by simp)
            rw [if_neg c6] at H
            exact absurd H (by simp)
          rw [if_neg c5] at H
          exact absurd H (by simp)
        rw [if_neg c4] at H
        have c4b0 : decide (x13_1 < (l0.length : Int)) = false := decide_eq_false c4
        clear c4
        obtain rfl := Option.some.inj H
        go_wp2
        repeat (go_quiet (fail); try go_wp2)
        go_ret
        exact ⟨by first | rfl | (simp; done) | (simp [*]; done), by repeat (first | exact Drawn0.refl _ | apply Drawn0.step)⟩
  rw [if_neg c3] at H
  have c3b0 : ((l0.length : Int) == (l1.length : Int)) = false := beq_eq_false_iff_ne.mpr c3
  have c3b1 : ((l0.length : Int) != (l1.length : Int)) = true := bne_iff_ne.mpr c3
  have c3b2 : (l0.length == l1.length) = false := by first | simpa using c3 | (simp at c3 ⊢; omega)
  obtain rfl := Option.some.inj H
  go_enter Try.func47, Try.ntmps47
  go_wp2
  repeat (go_quiet (fail); try go_wp2)
  go_ret
  exact ⟨by first | rfl | (simp; done) | (simp [*]; done), by repeat (first | exact Drawn0.refl _ | apply Drawn0.step)⟩

abbrev Fl5 : Array Bool := #[false, false, false, false, false, false, false, false, false, false, false, false, false, false, false]
abbrev Fl6 : Array Bool := #[false, true, false, false, false, false, false, false, false, false, false, false, false, false, false]
abbrev Fl7 : Array Bool := #[false, true, true, false, false, false, false, false, false, false, false, false, false, false, false]
abbrev Fl8 : Array Bool := #[false, true, true, true, false, false, false, false, false, false, false, false, false, false, false]
abbrev Fl9 : Array Bool := #[false, true, true, true, true, false, false, false, false, false, false, false, false, false, false]
abbrev Fl10 : Array Bool := #[false, true, true, true, true, true, false, false, false, false, false, false, false, false, false]
abbrev Fl11 : Array Bool := #[false, true, true, true, true, true, false, false, false, true, false, false, false, false, false]
abbrev Fl12 : Array Bool := #[false, true, true, true, true, true, false, false, false, true, true, false, false, false, false]
abbrev Fl13 : Array Bool := #[true, true, true, true, true, true, false, false, false, true, true, false, false, false, false]
abbrev Fl14 : Array Bool := #[true, true, true, true, true, true, true, false, false, true, true, false, false, false, false]
abbrev Fl15 : Array Bool := #[true, true, true, true, true, true, true, false, true, true, true, false, false, false, false]
abbrev Fl16 : Array Bool := #[true, true, true, true, true, true, true, false, true, true, true, true, false, false, false]
abbrev Fl17 : Array Bool := #[true, true, true, true, true, true, true, true, true, true, true, true, false, false, false]
abbrev Fl18 : Array Bool := #[true, true, true, true, true, true, true, true, true, true, true, true, true, false, false]
abbrev Fl19 : Array Bool := #[true, true, true, true, true, true, true, true, true, true, true, true, true, true, false]
abbrev Fl20 : Array Bool := #[true, true, true, true, true, true, true, true, true, true, true, true, true, true, true]
/-! ### rect_Matrix_Has: function 23 -/
def rect_Matrix_Has.l0 : Nat → Int → Int → Int → Int → Int → Int → List Int → Int → Int → List Int → Option (Bool)
 | 0, _, _, _, _, _, _, _, _, _, _ => none
 | k + 1, x2, x3, x20, x21, x129000, x129001, x129002, x130000, x130001, x130002 => if x21 < x20 then ((rect_Matrix_row.f x129000 x129001 x129002 x2 (wrap64 (x3 + x21)) x130000).bind fun t131 => ((rect_Matrix_row.f x130000 x130001 x130002 0 x21 x130000).bind fun t134 => ((api_Pixel_47.f k t131 t134).bind fun t137 => (if t137 = true then (rect_Matrix_Has.l0 k x2 x3 x20 (wrap64 (x21 + 1)) x129000 x129001 x129002 x130000 x130001 x130002) else (some false))))) else (some true)
def rect_Matrix_Has.f (k : Nat) (a0_0 : Int) (a0_1 : Int) (l0_2 : List Int) (a1_0 : Int) (a1_1 : Int) (l1_2 : List Int) (a2 : Int) (a3 : Int) : Option (Bool) := (rect_Matrix_inside.f a0_0 a0_1 l0_2 a2 a3 a1_0 a1_1).bind fun t130 => (if t130 = true then (rect_Matrix_Has.l0 k a2 a3 a1_1 0 a0_0 a0_1 l0_2 a1_0 a1_1 l1_2) else (some false))
theorem rect_Matrix_Has.mono_l : ∀ k, (∀ y0 y1 y2 y3 y4 y5 y6 y7 y8 y9, LeO (rect_Matrix_Has.l0 k y0 y1 y2 y3 y4 y5 y6 y7 y8 y9) (rect_Matrix_Has.l0 (k + 1) y0 y1 y2 y3 y4 y5 y6 y7 y8 y9))
 | 0 => fun _ _ _ _ _ _ _ _ _ _ r h => by simp [rect_Matrix_Has.l0] at h
 | k + 1 => by
  have ih0 := rect_Matrix_Has.mono_l k
  · intro y0 y1 y2 y3 y4 y5 y6 y7 y8 y9
    unfold rect_Matrix_Has.l0
    repeat' first
    | (with_reducible exact ih0 _ _ _ _ _ _ _ _ _ _)
    | (with_reducible exact api_Pixel_47.mono _ _ _)
    | (with_reducible exact LeO.refl _)
    | (with_reducible exact LeO.none _)
    | (with_reducible refine LeO.ite ?_ ?_)
    | (with_reducible refine LeO.bind ?_ (fun _ => ?_))
    | exact ih0 _ _ _ _ _ _ _ _ _ _
    | exact api_Pixel_47.mono _ _ _
    | exact LeO.none _
    | refine LeO.ite ?_ ?_
    | refine LeO.bind ?_ (fun _ => ?_)
theorem rect_Matrix_Has.mono : ∀ a0 a1 a2 a3 a4 a5 a6 a7 k, LeO (rect_Matrix_Has.f k a0 a1 a2 a3 a4 a5 a6 a7) (rect_Matrix_Has.f (k + 1) a0 a1 a2 a3 a4 a5 a6 a7) := by
 intro a0 a1 a2 a3 a4 a5 a6 a7 k
 have ih0 := rect_Matrix_Has.mono_l k
 unfold rect_Matrix_Has.f
 repeat' first
  | (with_reducible exact ih0 _ _ _ _ _ _ _ _ _ _)
  | (with_reducible exact api_Pixel_47.mono _ _ _)
  | (with_reducible exact LeO.refl _)
  | (with_reducible exact LeO.none _)
  | (with_reducible refine LeO.ite ?_ ?_)
  | (with_reducible refine LeO.bind ?_ (fun _ => ?_))
  | exact ih0 _ _ _ _ _ _ _ _ _ _
  | exact api_Pixel_47.mono _ _ _
  | exact LeO.none _
  | refine LeO.ite ?_ ?_
  | refine LeO.bind ?_ (fun _ => ?_)
def rect_Matrix_Has.T6 : Bool × List (List Nat × List Nat) := (true, [([], []), ([], []), ([], []), ([], []), ([2, 3], [2, 3]), ([], []), ([5], [5]), ([0, 1, 4, 6], [0, 1, 4, 6]), ([], []), ([], []), ([], []), ([10], [10]), ([8, 9, 11, 7], [8, 9, 11]), ([7, 12, 12], [7, 12]), ([13], [13])])
def rect_Matrix_Has.B6 : List Nat := [0, 0, 0, 0, 12, 0, 32, 127, 0, 0, 0, 1024, 4095, 8191, 16383]
theorem rect_Matrix_Has.tab6 : rtab .any (opsOf Try.f23 6) = rect_Matrix_Has.T6 := by kernel_rfl
theorem rect_Matrix_Has.bits6 : waitsOk rect_Matrix_Has.T6.2 rect_Matrix_Has.B6 = true := by kernel_rfl
set_option maxHeartbeats 8000000 in
set_option maxRecDepth 100000 in
theorem rect_Matrix_Has.calls (k : Nat) (a0_0 : Int) (a0_1 : Int) (A0_2 : Option Addr) (c0_2 : Nat) (l0_2 : List Int) (a1_0 : Int) (a1_1 : Int) (A1_2 : Option Addr) (c1_2 : Nat) (l1_2 : List Int) (a2 : Int) (a3 : Int) (r : Bool) (w : World) (hr0_2 : Kd.C (Kd.int .u64) w A0_2 l0_2.length l0_2) (hc0_2 : l0_2.length ≤ c0_2) (hr1_2 : Kd.C (Kd.int .u64) w A1_2 l1_2.length l1_2) (hc1_2 : l1_2.length ≤ c1_2) (h : rect_Matrix_Has.f k a0_0 a0_1 l0_2 a1_0 a1_1 l1_2 a2 a3 = some r) :
 Calls Try.prog 23 #[.agg #[.int .i64 a0_0, .int .i64 a0_1, .slice A0_2 l0_2.length c0_2], .agg #[.int .i64 a1_0, .int .i64 a1_1, .slice A1_2 l1_2.length c1_2], .int .i64 a2, .int .i64 a3] w fun e w' => e = .returned (.bool r) ∧ Below w.heap.size w w' := by
 have hu32 := Try.underlying32
 have HR0_2 := Aside0.mk hr0_2
 have HC0_2 := Aside0.mk hc0_2
 clear hr0_2 hc0_2
 have HR1_2 := Aside0.mk hr1_2
 have HC1_2 := Aside0.mk hc1_2
 clear hr1_2 hc1_2
 have HB := Aside0.mk (Below.refl w.heap.size w)
 have H : ((rect_Matrix_inside.f a0_0 a0_1 l0_2 a2 a3 a1_0 a1_1).bind fun t130 => (if t130 = true then (rect_Matrix_Has.l0 k a2 a3 a1_1 0 a0_0 a0_1 l0_2 a1_0 a1_1 l1_2) else (some false))) = some r := h
 clear h
 replace H := Option.bind_eq_some_iff.mp H
 obtain ⟨t130, A50, H⟩ := H
 replace H : (if t130 = true then (rect_Matrix_Has.l0 k a2 a3 a1_1 0 a0_0 a0_1 l0_2 a1_0 a1_1 l1_2) else (some false)) = some r := H
 have A5 := Aside0.mk A50
 clear A50
 by_cases c6 : t130 = true
 · subst c6
   have H1 : (rect_Matrix_Has.l0 k a2 a3 a1_1 0 a0_0 a0_1 l0_2 a1_0 a1_1 l1_2) = some r := by rw [if_pos rfl] at H; exact H
   clear H; have H := H1; clear H1
   have H' := Aside0.mk H
   clear H
   go_enter Try.func23, Try.ntmps23
   go_wp2_with (first | ((with_reducible refine gate_dst (N := 4) rfl ?_); refine box_event ?hg (N := 4) ?hd (cs := #[.int .i64 a0_0, .int .i64 a0_1, .slice A0_2 l0_2.length c0_2]) (t := 32) ?hr ?_; (case hd => rfl); (case hg => rfl); (case hr => first | (go_simp; done) | (go_simp; rfl)); intro gb128 hg w7 hbox hb; have BK128 := Aside0.mk (hbox); have GW128 := Aside0.mk ((by rw [hg]; exact (below_size bp_) : w.heap.size ≤ gb128)); have GE128 := Aside0.mk ((by rw [hg]; exact (below_size bp_) : w.heap.size ≤ gb128)); replace HB := Aside0.mk (below_step bp_ hb); clear hb hbox hg) | ((with_reducible refine gate_dst (N := 5) rfl ?_); refine box_event ?hg (N := 5) ?hd (cs := #[.int .i64 a1_0, .int .i64 a1_1, .slice A1_2 l1_2.length c1_2]) (t := 32) ?hr ?_; (case hd => rfl); (case hg => rfl); (case hr => first | (go_simp; done) | (go_simp; rfl)); intro gb129 hg w8 hbox hb; have BK129 := Aside0.mk (hbox); have GW129 := Aside0.mk ((by rw [hg]; exact (below_size bp_) : w.heap.size ≤ gb129)); have GE129 := Aside0.mk ((by rw [hg]; exact (below_size bp_) : w.heap.size ≤ gb129)); replace HB := Aside0.mk (below_step bp_ hb); have NB128_129 := Aside0.mk ((nlt_ hg (hp_ BK128.out))); have NB129_128 := Aside0.mk ((ngt_ hg (hp_ BK128.out))); replace BK128 := kb_ BK128.out hb; clear hb hbox hg; have hnb9 := NB128_129.out; have hnc9 := NB129_128.out; have hcz10_0 : w8.cell? ⟨gb128, 0, none⟩ = some (.int .i64 a0_0) := bc_ BK128.out 0; have hcz10_1 : w8.cell? ⟨gb128, 1, none⟩ = some (.int .i64 a0_1) := bc_ BK128.out 1; have hcz10_2 : w8.cell? ⟨gb128, 2, none⟩ = some (.slice A0_2 l0_2.length c0_2) := bc_ BK128.out 2; have hfz10_0 := blk_frozen BK128.out 0; have hfz10_1 := blk_frozen BK128.out 1; have hfz10_2 := blk_frozen BK128.out 2; have hcz11_0 : w8.cell? ⟨gb129, 0, none⟩ = some (.int .i64 a1_0) := bc_ BK129.out 0; have hcz11_1 : w8.cell? ⟨gb129, 1, none⟩ = some (.int .i64 a1_1) := bc_ BK129.out 1; have hcz11_2 : w8.cell? ⟨gb129, 2, none⟩ = some (.slice A1_2 l1_2.length c1_2) := bc_ BK129.out 2; have hfz11_0 := blk_frozen BK129.out 0; have hfz11_1 := blk_frozen BK129.out 1; have hfz11_2 := blk_frozen BK129.out 2) | ((with_reducible refine gate_callee (f := 44) rfl ?_); refine goQ_ (some 17) Try.func44 #[.agg #[.int .i64 a0_0, .int .i64 a0_1, .slice A0_2 l0_2.length c0_2], .int .i64 a2, .int .i64 a3, .int .i64 a1_0, .int .i64 a1_1] ?_; (with_reducible refine (rect_Matrix_inside.calls a0_0 a0_1 _ _ l0_2 a2 a3 a1_0 a1_1 true _ ?side1 ?side2 A5.out).mono ?_); (case side1 => repeat (first | exact (Kd.C_below HR0_2.out HB.out) | (with_reducible refine Kd.C_alloc ?_ _) | (with_reducible refine Kd.C_drewN ?_ _) | (with_reducible refine Kd.C_drew ?_))); (case side2 => exact HC0_2.out); rintro e w12 ⟨rfl, hb⟩; refine ⟨_, rfl, ?_⟩; replace BK128 := kb_ BK128.out hb; replace BK129 := kb_ BK129.out hb; replace HB := Aside0.mk (below_step bp_ hb); (try clear hb); (try clear hb2); (try clear hk); (try clear hi); have hcz13_0 : w12.cell? ⟨gb129, 0, none⟩ = some (.int .i64 a1_0) := bc_ BK129.out 0; have hcz13_1 : w12.cell? ⟨gb129, 1, none⟩ = some (.int .i64 a1_1) := bc_ BK129.out 1; have hcz13_2 : w12.cell? ⟨gb129, 2, none⟩ = some (.slice A1_2 l1_2.length c1_2) := bc_ BK129.out 2; have hfz13_0 := blk_frozen BK129.out 0; have hfz13_1 := blk_frozen BK129.out 1; have hfz13_2 := blk_frozen BK129.out 2))
   go_loopg [21] k (fun kq v21 w' => ∃ (x21_1 : Int), v21 = .int .i64 x21_1 ∧ Aside0 (rect_Matrix_Has.l0 kq a2 a3 a1_1 x21_1 a0_0 a0_1 l0_2 a1_0 a1_1 l1_2 = some r) ∧ Aside0 (kq ≤ k) ∧ Aside0 (w'.heap[gb128]? = some (.cells #[.int .i64 a0_0, .int .i64 a0_1, (.slice A0_2 l0_2.length c0_2)] 32 (0, 0))) ∧ Aside0 (w'.heap[gb129]? = some (.cells #[.int .i64 a1_0, .int .i64 a1_1, (.slice A1_2 l1_2.length c1_2)] 32 (0, 0))) ∧ Aside0 (Below w.heap.size w w'))
   case atStart => exact ⟨(0), (by first | rfl | (simp; done) | (simp [*]; done)), H', ⟨Nat.le_refl _⟩, ⟨hp_ BK128.out⟩, ⟨hp_ BK129.out⟩, ⟨bp_⟩⟩
   case round =>
    clear H'
    try clear c1
    try clear c2
    try clear p2
    try clear c4
    try clear c6
    try clear c9
    try clear hcz10_0
    try clear hcz10_1
    try clear hcz10_2
    try clear hcz11_0
    try clear hcz11_1
    try clear hcz11_2
    try clear hcz13_0
    try clear hcz13_1
    try clear hcz13_2
    try clear hfz10_0
    try clear hfz10_1
    try clear hfz10_2
    try clear hfz11_0
    try clear hfz11_1
    try clear hfz11_2
    try clear hfz13_0
    try clear hfz13_1
    try clear hfz13_2
    obtain ⟨x21_1, rfl, HA, HK1, BK128, BK129, HB⟩ := hrel
    cases gk with
    | zero => exact absurd HA.out (by simp [rect_Matrix_Has.l0])
    | succ k1 =>
     have H := HA.out; clear HA; simp only [rect_Matrix_Has.l0] at H
     by_cases c14 : x21_1 < a1_1
     · rw [if_pos c14] at H
       have c14b0 : decide (x21_1 < a1_1) = true := decide_eq_true c14
       clear c14; replace H := Option.bind_eq_some_iff.mp H; obtain ⟨t131, A150, H⟩ := H
       replace H : ((rect_Matrix_row.f a1_0 a1_1 l1_2 0 x21_1 a1_0).bind fun t134 => ((api_Pixel_47.f k1 t131 t134).bind fun t137 => (if t137 = true then (rect_Matrix_Has.l0 k1 a2 a3 a1_1 (wrap64 (x21_1 + 1)) a0_0 a0_1 l0_2 a1_0 a1_1 l1_2) else (some false)))) = some r := H
       have A15 := Aside0.mk A150; clear A150; replace H := Option.bind_eq_some_iff.mp H; obtain ⟨t134, A160, H⟩ := H
       replace H : ((api_Pixel_47.f k1 t131 t134).bind fun t137 => (if t137 = true then (rect_Matrix_Has.l0 k1 a2 a3 a1_1 (wrap64 (x21_1 + 1)) a0_0 a0_1 l0_2 a1_0 a1_1 l1_2) else (some false))) = some r := H
       have A16 := Aside0.mk A160; clear A160; replace H := Option.bind_eq_some_iff.mp H; obtain ⟨t137, A170, H⟩ := H
       replace H : (if t137 = true then (rect_Matrix_Has.l0 k1 a2 a3 a1_1 (wrap64 (x21_1 + 1)) a0_0 a0_1 l0_2 a1_0 a1_1 l1_2) else (some false)) = some r := H
       have A17 := Aside0.mk A170; clear A170
       by_cases c18 : t137 = true
       · subst c18
         have H1 : (rect_Matrix_Has.l0 k1 a2 a3 a1_1 (wrap64 (x21_1 + 1)) a0_0 a0_1 l0_2 a1_0 a1_1 l1_2) = some r := by rw [if_pos rfl] at H; exact H
         clear H; have H := H1; clear H1
         have H' := Aside0.mk H
         clear H
         try go_wp2
         (try (rw [drewN_self wr]; generalize hq_ : World.drewN wr _ = wr; have n0_ := Aside0.mk (qhp_ hq_ BK128.out); have n1_ := Aside0.mk (qhp_ hq_ BK129.out); have n2_ : Aside0 (Below w.heap.size w wr) := ⟨qbp_ hq_⟩; clear BK128 BK129 HB hq_; have BK128 := n0_; have BK129 := n1_; have HB := n2_; clear n0_ n1_ n2_))
         replace BK128 := Aside0.mk (blk_drew BK128.out); replace BK129 := Aside0.mk (blk_drew BK129.out); replace HB := Aside0.mk (below_drew1 HB.out); refine start_ (n := 15) (S := fun w' => w'.cell? ⟨gb128, 0, none⟩ = some (.int .i64 a0_0) ∧ w'.cell? ⟨gb128, 1, none⟩ = some (.int .i64 a0_1) ∧ w'.cell? ⟨gb128, 2, none⟩ = some (.slice A0_2 l0_2.length c0_2) ∧ w'.cell? ⟨gb129, 0, none⟩ = some (.int .i64 a1_0) ∧ w'.cell? ⟨gb129, 1, none⟩ = some (.int .i64 a1_1) ∧ w'.cell? ⟨gb129, 2, none⟩ = some (.slice A1_2 l1_2.length c1_2)) (ds := []) Fl5 (by kernel_rfl) rfl rfl ⟨bc_ BK128.out 0, bc_ BK128.out 1, bc_ BK128.out 2, bc_ BK129.out 0, bc_ BK129.out 1, bc_ BK129.out 2⟩ (fun hHeld => ?_); refine with_tabW rect_Matrix_Has.tab6 rect_Matrix_Has.bits6 (fun HT_ HW_ => ?_)
         generalize wr.drew = w19 at BK128 BK129 HB hHeld ⊢
         refine pur_ (i := 1) (N := some 25) Fl6 (any_of HT_.out (by kernel_rfl)) ?_; refine pur_ (i := 2) (N := some 26) Fl7 (any_of HT_.out (by kernel_rfl)) ?_; refine pur_ (i := 3) (N := some 27) Fl8 (any_of HT_.out (by kernel_rfl)) ?_; refine pur_ (i := 4) (N := some 28) Fl9 (any_of HT_.out (by kernel_rfl)) ?_; refine pur_ (i := 5) (N := some 29) Fl10 (any_of HT_.out (by kernel_rfl)) ?_; refine pur_ (i := 9) (N := some 33) Fl11 (any_of HT_.out (by kernel_rfl)) ?_; refine pur_ (i := 10) (N := some 34) Fl12 (any_of HT_.out (by kernel_rfl)) ?_; refine tak_ (i := 0) (N := some 24) Fl13 (take_ofW HT_.out HW_.out (by kernel_rfl)) hHeld ?_; refine tak_ (i := 6) (N := some 30) Fl14 (take_ofW HT_.out HW_.out (by kernel_rfl)) hHeld ?_; refine tak_ (i := 8) (N := some 32) Fl15 (take_ofW HT_.out HW_.out (by kernel_rfl)) hHeld ?_; refine tak_ (i := 11) (N := some 35) Fl16 (take_ofW HT_.out HW_.out (by kernel_rfl)) hHeld ?_; refine one_ (i := 7) (N := some 31) Fl17 rfl rfl (one_of HT_.out (by kernel_rfl)) (by decide) (fun K hK => ?_); refine goZ_ Try.func46 #[.agg #[.int .i64 a0_0, .int .i64 a0_1, .slice A0_2 l0_2.length c0_2], .int .i64 a2, .int .i64 (wrap64 (a3 + x21_1)), .int .i64 a1_0] ?_
         with_reducible refine (rect_Matrix_row.calls a0_0 a0_1 (fun k_ => k_ < w.heap.size) _ _ l0_2 a2 (wrap64 (a3 + x21_1)) a1_0 t131 _ ?side1 A15.out).mono ?_
         (case side1 => exact Kd.V_mk HC0_2.out (Kd.F_below (Kd.C_F (Kd.heap_int .u64) HR0_2.out) bp_))
         rintro e w20 ⟨v132, rfl, ho0, hb⟩
         refine ⟨_, rfl, ?_⟩; have HO133 := Aside0.mk (Kd.V_lower (Kd.V_mono (ok' := fun k_ => k_ ≠ gb128 ∧ k_ ≠ gb129) ho0 (fun k_ hk_ => ⟨Or.elim hk_ (fun hs_ => fun e_ => Nat.not_le.2 hs_ (by rw [e_]; exact GW128.out)) (fb_ BK128.out k_), Or.elim hk_ (fun hs_ => fun e_ => Nat.not_le.2 hs_ (by rw [e_]; exact GW129.out)) (fb_ BK129.out k_)⟩)) (below_size bp_)); replace BK128 := kb_ BK128.out hb; replace BK129 := kb_ BK129.out hb; replace HB := Aside0.mk (below_step bp_ hb)
         (try clear hb)
         (try clear hb2)
         (try clear hk)
         (try clear hi)
         (try clear ho0)
         refine hK.out _ _ ⟨bc_ BK128.out 0, bc_ BK128.out 1, bc_ BK128.out 2, bc_ BK129.out 0, bc_ BK129.out 1, bc_ BK129.out 2⟩ (fun hHeld => ?_); clear hK K; refine nor_ (some 31) ?_; refine one_ (i := 12) (N := some 36) Fl18 rfl rfl (one_of HT_.out (by kernel_rfl)) (by decide) (fun K hK => ?_); refine goZ_ Try.func46 #[.agg #[.int .i64 a1_0, .int .i64 a1_1, .slice A1_2 l1_2.length c1_2], .int .i64 0, .int .i64 x21_1, .int .i64 a1_0] ?_
         with_reducible refine (rect_Matrix_row.calls a1_0 a1_1 (fun k_ => k_ < w.heap.size) _ _ l1_2 0 x21_1 a1_0 t134 _ ?side1 A16.out).mono ?_
         (case side1 => exact Kd.V_mk HC1_2.out (Kd.F_below (Kd.C_F (Kd.heap_int .u64) HR1_2.out) bp_))
         rintro e w21 ⟨v135, rfl, ho0, hb⟩
         refine ⟨_, rfl, ?_⟩; replace HO133 := vb_ HO133.out hb; have HO136 := Aside0.mk (Kd.V_lower (Kd.V_mono (ok' := fun k_ => k_ ≠ gb128 ∧ k_ ≠ gb129) ho0 (fun k_ hk_ => ⟨Or.elim hk_ (fun hs_ => fun e_ => Nat.not_le.2 hs_ (by rw [e_]; exact GW128.out)) (fb_ BK128.out k_), Or.elim hk_ (fun hs_ => fun e_ => Nat.not_le.2 hs_ (by rw [e_]; exact GW129.out)) (fb_ BK129.out k_)⟩)) (below_size bp_)); replace BK128 := kb_ BK128.out hb; replace BK129 := kb_ BK129.out hb; replace HB := Aside0.mk (below_step bp_ hb)
         (try clear hb)
         (try clear hb2)
         (try clear hk)
         (try clear hi)
         (try clear ho0)
         obtain ⟨Ao22, co22, eo22⟩ := Kd.V_slice HO133.out
         (first | subst eo22 | (injection eo22 with f1_ f2_ f3_; have f4_ := f1_.symm; have f5_ := f3_.symm; clear f1_ f2_ f3_; subst f4_; subst f5_))
         obtain ⟨Ao23, co23, eo23⟩ := Kd.V_slice HO136.out
         (first | subst eo23 | (injection eo23 with f1_ f2_ f3_; have f4_ := f1_.symm; have f5_ := f3_.symm; clear f1_ f2_ f3_; subst f4_; subst f5_))
         refine hK.out _ _ ⟨bc_ BK128.out 0, bc_ BK128.out 1, bc_ BK128.out 2, bc_ BK129.out 0, bc_ BK129.out 1, bc_ BK129.out 2⟩ (fun hHeld => ?_); clear hK K; refine nor_ (some 36) ?_; refine one_ (i := 13) (N := some 37) Fl19 rfl rfl (one_of HT_.out (by kernel_rfl)) (by decide) (fun K hK => ?_); refine goZ_ Try.func47 #[.slice Ao22 t131.length co22, .slice Ao23 t134.length co23] ?_
         with_reducible refine (api_Pixel_47.calls k1 _ _ t131 _ _ t134 true _ ?side1 ?side2 ?side3 ?side4 A17.out).mono ?_
         (case side1 => exact cp_ (Kd.V_reads' HO133.out).2.2)
         (case side2 => exact (Kd.V_reads' HO133.out).2.1)
         (case side3 => exact cp_ (Kd.V_reads' HO136.out).2.2)
         (case side4 => exact (Kd.V_reads' HO136.out).2.1)
         rintro e w' ⟨rfl, ⟨nd, rfl⟩⟩
         refine ⟨_, rfl, ?_⟩; refine hK.out _ _ ⟨bc_ BK128.out 0, bc_ BK128.out 1, bc_ BK128.out 2, bc_ BK129.out 0, bc_ BK129.out 1, bc_ BK129.out 2⟩ (fun hHeld => ?_); clear hK K; refine nor_ (some 37) ?_; refine pur_ (i := 14) (N := some 38) Fl20 (any_of HT_.out (by kernel_rfl)) ?_; refine done_ (done_of HT_.out (by kernel_rfl)) ?_
         try go_wp2
         go_roundg k1
         case measure => have := HK1.out; omega
         case rel => exact ⟨(wrap64 (x21_1 + 1)), (by first | rfl | (simp; done) | (simp [*]; done)), H', ⟨by have := HK1.out; omega⟩, ⟨hp_ BK128.out⟩, ⟨hp_ BK129.out⟩, ⟨bp_⟩⟩
       replace c18 := Bool.eq_false_iff.mpr c18; subst c18
       have H1 : (some false) = some r := by rw [if_neg (show ¬ (false = true) by decide)] at H; exact H
       clear H; have H := H1; clear H1
       obtain rfl := Option.some.inj H
       try go_wp2
       (try (rw [drewN_self wr]; generalize hq_ : World.drewN wr _ = wr; have n0_ := Aside0.mk (qhp_ hq_ BK128.out); have n1_ := Aside0.mk (qhp_ hq_ BK129.out); have n2_ : Aside0 (Below w.heap.size w wr) := ⟨qbp_ hq_⟩; clear BK128 BK129 HB hq_; have BK128 := n0_; have BK129 := n1_; have HB := n2_; clear n0_ n1_ n2_))
       replace BK128 := Aside0.mk (blk_drew BK128.out); replace BK129 := Aside0.mk (blk_drew BK129.out); replace HB := Aside0.mk (below_drew1 HB.out); refine start_ (n := 15) (S := fun w' => w'.cell? ⟨gb128, 0, none⟩ = some (.int .i64 a0_0) ∧ w'.cell? ⟨gb128, 1, none⟩ = some (.int .i64 a0_1) ∧ w'.cell? ⟨gb128, 2, none⟩ = some (.slice A0_2 l0_2.length c0_2) ∧ w'.cell? ⟨gb129, 0, none⟩ = some (.int .i64 a1_0) ∧ w'.cell? ⟨gb129, 1, none⟩ = some (.int .i64 a1_1) ∧ w'.cell? ⟨gb129, 2, none⟩ = some (.slice A1_2 l1_2.length c1_2)) (ds := []) Fl5 (by kernel_rfl) rfl rfl ⟨bc_ BK128.out 0, bc_ BK128.out 1, bc_ BK128.out 2, bc_ BK129.out 0, bc_ BK129.out 1, bc_ BK129.out 2⟩ (fun hHeld => ?_); refine with_tabW rect_Matrix_Has.tab6 rect_Matrix_Has.bits6 (fun HT_ HW_ => ?_)
       generalize wr.drew = w24 at BK128 BK129 HB hHeld ⊢
       refine pur_ (i := 1) (N := some 25) Fl6 (any_of HT_.out (by kernel_rfl)) ?_; refine pur_ (i := 2) (N := some 26) Fl7 (any_of HT_.out (by kernel_rfl)) ?_; refine pur_ (i := 3) (N := some 27) Fl8 (any_of HT_.out (by kernel_rfl)) ?_; refine pur_ (i := 4) (N := some 28) Fl9 (any_of HT_.out (by kernel_rfl)) ?_; refine pur_ (i := 5) (N := some 29) Fl10 (any_of HT_.out (by kernel_rfl)) ?_; refine pur_ (i := 9) (N := some 33) Fl11 (any_of HT_.out (by kernel_rfl)) ?_; refine pur_ (i := 10) (N := some 34) Fl12 (any_of HT_.out (by kernel_rfl)) ?_; refine tak_ (i := 0) (N := some 24) Fl13 (take_ofW HT_.out HW_.out (by kernel_rfl)) hHeld ?_; refine tak_ (i := 6) (N := some 30) Fl14 (take_ofW HT_.out HW_.out (by kernel_rfl)) hHeld ?_; refine tak_ (i := 8) (N := some 32) Fl15 (take_ofW HT_.out HW_.out (by kernel_rfl)) hHeld ?_; refine tak_ (i := 11) (N := some 35) Fl16 (take_ofW HT_.out HW_.out (by kernel_rfl)) hHeld ?_; refine one_ (i := 7) (N := some 31) Fl17 rfl rfl (one_of HT_.out (by kernel_rfl)) (by decide) (fun K hK => ?_); refine goZ_ Try.func46 #[.agg #[.int .i64 a0_0, .int .i64 a0_1, .slice A0_2 l0_2.length c0_2], .int .i64 a2, .int .i64 (wrap64 (a3 + x21_1)), .int .i64 a1_0] ?_
       with_reducible refine (rect_Matrix_row.calls a0_0 a0_1 (fun k_ => k_ < w.heap.size) _ _ l0_2 a2 (wrap64 (a3 + x21_1)) a1_0 t131 _ ?side1 A15.out).mono ?_
       (case side1 => exact Kd.V_mk HC0_2.out (Kd.F_below (Kd.C_F (Kd.heap_int .u64) HR0_2.out) bp_))
       rintro e w25 ⟨v132, rfl, ho0, hb⟩
       refine ⟨_, rfl, ?_⟩; have HO133 := Aside0.mk (Kd.V_lower (Kd.V_mono (ok' := fun k_ => k_ ≠ gb128 ∧ k_ ≠ gb129) ho0 (fun k_ hk_ => ⟨Or.elim hk_ (fun hs_ => fun e_ => Nat.not_le.2 hs_ (by rw [e_]; exact GW128.out)) (fb_ BK128.out k_), Or.elim hk_ (fun hs_ => fun e_ => Nat.not_le.2 hs_ (by rw [e_]; exact GW129.out)) (fb_ BK129.out k_)⟩)) (below_size bp_)); replace BK128 := kb_ BK128.out hb; replace BK129 := kb_ BK129.out hb; replace HB := Aside0.mk (below_step bp_ hb)
       (try clear hb)
       (try clear hb2)
       (try clear hk)
       (try clear hi)
       (try clear ho0)
       refine hK.out _ _ ⟨bc_ BK128.out 0, bc_ BK128.out 1, bc_ BK128.out 2, bc_ BK129.out 0, bc_ BK129.out 1, bc_ BK129.out 2⟩ (fun hHeld => ?_); clear hK K; refine nor_ (some 31) ?_; refine one_ (i := 12) (N := some 36) Fl18 rfl rfl (one_of HT_.out (by kernel_rfl)) (by decide) (fun K hK => ?_); refine goZ_ Try.func46 #[.agg #[.int .i64 a1_0, .int .i64 a1_1, .slice A1_2 l1_2.length c1_2], .int .i64 0, .int .i64 x21_1, .int .i64 a1_0] ?_
       with_reducible refine (rect_Matrix_row.calls a1_0 a1_1 (fun k_ => k_ < w.heap.size) _ _ l1_2 0 x21_1 a1_0 t134 _ ?side1 A16.out).mono ?_
       (case side1 => exact Kd.V_mk HC1_2.out (Kd.F_below (Kd.C_F (Kd.heap_int .u64) HR1_2.out) bp_))
       rintro e w26 ⟨v135, rfl, ho0, hb⟩
       refine ⟨_, rfl, ?_⟩; replace HO133 := vb_ HO133.out hb; have HO136 := Aside0.mk (Kd.V_lower (Kd.V_mono (ok' := fun k_ => k_ ≠ gb128 ∧ k_ ≠ gb129) ho0 (fun k_ hk_ => ⟨Or.elim hk_ (fun hs_ => fun e_ => Nat.not_le.2 hs_ (by rw [e_]; exact GW128.out)) (fb_ BK128.out k_), Or.elim hk_ (fun hs_ => fun e_ => Nat.not_le.2 hs_ (by rw [e_]; exact GW129.out)) (fb_ BK129.out k_)⟩)) (below_size bp_)); replace BK128 := kb_ BK128.out hb; replace BK129 := kb_ BK129.out hb; replace HB := Aside0.mk (below_step bp_ hb)
       (try clear hb)
       (try clear hb2)
       (try clear hk)
       (try clear hi)
       (try clear ho0)
       obtain ⟨Ao27, co27, eo27⟩ := Kd.V_slice HO133.out
       (first | subst eo27 | (injection eo27 with f1_ f2_ f3_; have f4_ := f1_.symm; have f5_ := f3_.symm; clear f1_ f2_ f3_; subst f4_; subst f5_))
       obtain ⟨Ao28, co28, eo28⟩ := Kd.V_slice HO136.out
       (first | subst eo28 | (injection eo28 with f1_ f2_ f3_; have f4_ := f1_.symm; have f5_ := f3_.symm; clear f1_ f2_ f3_; subst f4_; subst f5_))
       refine hK.out _ _ ⟨bc_ BK128.out 0, bc_ BK128.out 1, bc_ BK128.out 2, bc_ BK129.out 0, bc_ BK129.out 1, bc_ BK129.out 2⟩ (fun hHeld => ?_); clear hK K; refine nor_ (some 36) ?_; refine one_ (i := 13) (N := some 37) Fl19 rfl rfl (one_of HT_.out (by kernel_rfl)) (by decide) (fun K hK => ?_); refine goZ_ Try.func47 #[.slice Ao27 t131.length co27, .slice Ao28 t134.length co28] ?_
       with_reducible refine (api_Pixel_47.calls k1 _ _ t131 _ _ t134 false _ ?side1 ?side2 ?side3 ?side4 A17.out).mono ?_
       (case side1 => exact cp_ (Kd.V_reads' HO133.out).2.2)
       (case side2 => exact (Kd.V_reads' HO133.out).2.1)
       (case side3 => exact cp_ (Kd.V_reads' HO136.out).2.2)
       (case side4 => exact (Kd.V_reads' HO136.out).2.1)
       rintro e w' ⟨rfl, ⟨nd, rfl⟩⟩
       refine ⟨_, rfl, ?_⟩; refine hK.out _ _ ⟨bc_ BK128.out 0, bc_ BK128.out 1, bc_ BK128.out 2, bc_ BK129.out 0, bc_ BK129.out 1, bc_ BK129.out 2⟩ (fun hHeld => ?_); clear hK K; refine nor_ (some 37) ?_; refine pur_ (i := 14) (N := some 38) Fl20 (any_of HT_.out (by kernel_rfl)) ?_; refine done_ (done_of HT_.out (by kernel_rfl)) ?_
       try go_wp2
       go_ret
       exact ⟨by first | rfl | (simp [errW_none, errW_some] <;> rfl) | (simp [*, errW_none, errW_some] <;> rfl), bp_⟩
     rw [if_neg c14] at H
     have c14b0 : decide (x21_1 < a1_1) = false := decide_eq_false c14
     clear c14
     obtain rfl := Option.some.inj H
     go_wp2
     go_ret
     exact ⟨by first | rfl | (simp [errW_none, errW_some] <;> rfl) | (simp [*, errW_none, errW_some] <;> rfl), bp_⟩
 replace c6 := Bool.eq_false_iff.mpr c6
 subst c6
 have H1 : (some false) = some r := by rw [if_neg (show ¬ (false = true) by decide)] at H; exact H
 clear H
 have H := H1
 clear H1
 obtain rfl := Option.some.inj H
 go_enter Try.func23, Try.ntmps23
 go_wp2_with (first | ((with_reducible refine gate_dst (N := 4) rfl ?_); refine box_event ?hg (N := 4) ?hd (cs := #[.int .i64 a0_0, .int .i64 a0_1, .slice A0_2 l0_2.length c0_2]) (t := 32) ?hr ?_; (case hd => rfl); (case hg => rfl); (case hr => first | (go_simp; done) | (go_simp; rfl)); intro gb128 hg w29 hbox hb; have BK128 := Aside0.mk (hbox); have GW128 := Aside0.mk ((by rw [hg]; exact (below_size bp_) : w.heap.size ≤ gb128)); have GE128 := Aside0.mk ((by rw [hg]; exact (below_size bp_) : w.heap.size ≤ gb128)); replace HB := Aside0.mk (below_step bp_ hb); clear hb hbox hg) | ((with_reducible refine gate_dst (N := 5) rfl ?_); refine box_event ?hg (N := 5) ?hd (cs := #[.int .i64 a1_0, .int .i64 a1_1, .slice A1_2 l1_2.length c1_2]) (t := 32) ?hr ?_; (case hd => rfl); (case hg => rfl); (case hr => first | (go_simp; done) | (go_simp; rfl)); intro gb129 hg w30 hbox hb; have BK129 := Aside0.mk (hbox); have GW129 := Aside0.mk ((by rw [hg]; exact (below_size bp_) : w.heap.size ≤ gb129)); have GE129 := Aside0.mk ((by rw [hg]; exact (below_size bp_) : w.heap.size ≤ gb129)); replace HB := Aside0.mk (below_step bp_ hb); have NB128_129 := Aside0.mk ((nlt_ hg (hp_ BK128.out))); have NB129_128 := Aside0.mk ((ngt_ hg (hp_ BK128.out))); replace BK128 := kb_ BK128.out hb; clear hb hbox hg; have hnb31 := NB128_129.out; have hnc31 := NB129_128.out; have hcz32_0 : w30.cell? ⟨gb128, 0, none⟩ = some (.int .i64 a0_0) := bc_ BK128.out 0; have hcz32_1 : w30.cell? ⟨gb128, 1, none⟩ = some (.int .i64 a0_1) := bc_ BK128.out 1; have hcz32_2 : w30.cell? ⟨gb128, 2, none⟩ = some (.slice A0_2 l0_2.length c0_2) := bc_ BK128.out 2; have hfz32_0 := blk_frozen BK128.out 0; have hfz32_1 := blk_frozen BK128.out 1; have hfz32_2 := blk_frozen BK128.out 2; have hcz33_0 : w30.cell? ⟨gb129, 0, none⟩ = some (.int .i64 a1_0) := bc_ BK129.out 0; have hcz33_1 : w30.cell? ⟨gb129, 1, none⟩ = some (.int .i64 a1_1) := bc_ BK129.out 1; have hcz33_2 : w30.cell? ⟨gb129, 2, none⟩ = some (.slice A1_2 l1_2.length c1_2) := bc_ BK129.out 2; have hfz33_0 := blk_frozen BK129.out 0; have hfz33_1 := blk_frozen BK129.out 1; have hfz33_2 := blk_frozen BK129.out 2) | ((with_reducible refine gate_callee (f := 44) rfl ?_); refine goQ_ (some 17) Try.func44 #[.agg #[.int .i64 a0_0, .int .i64 a0_1, .slice A0_2 l0_2.length c0_2], .int .i64 a2, .int .i64 a3, .int .i64 a1_0, .int .i64 a1_1] ?_; (with_reducible refine (rect_Matrix_inside.calls a0_0 a0_1 _ _ l0_2 a2 a3 a1_0 a1_1 false _ ?side1 ?side2 A5.out).mono ?_); (case side1 => repeat (first | exact (Kd.C_below HR0_2.out HB.out) | (with_reducible refine Kd.C_alloc ?_ _) | (with_reducible refine Kd.C_drewN ?_ _) | (with_reducible refine Kd.C_drew ?_))); (case side2 => exact HC0_2.out); rintro e w34 ⟨rfl, hb⟩; refine ⟨_, rfl, ?_⟩; replace HB := Aside0.mk (below_step bp_ hb); (try clear hb); (try clear hb2); (try clear hk); (try clear hi)))
 go_ret
 exact ⟨by first | rfl | (simp [errW_none, errW_some] <;> rfl) | (simp [*, errW_none, errW_some] <;> rfl), bp_⟩


/-! ### rect_Matrix_Find: function 14 -/
mutual
def rect_Matrix_Find.l0 : Nat → List (S36) → Int → Int → Int → Int → List Int → Int → Int → List Int → Option ((List (S36)))
 | 0, _, _, _, _, _, _, _, _, _ => none
 | k + 1, x5, x9, x10, x139000, x139001, x139002, x140000, x140001, x140002 => if x10 < x9 then (rect_Matrix_Find.l1 k x5 x10 x9 x10 x139000 0 x139000 x139001 x139002 x140000 x140001 x140002) else (some x5)
def rect_Matrix_Find.l1 : Nat → List (S36) → Int → Int → Int → Int → Int → Int → Int → List Int → Int → Int → List Int → Option ((List (S36)))
 | 0, _, _, _, _, _, _, _, _, _, _, _, _ => none
 | k + 1, x5, x6, x9, x10, x14, x15, x139000, x139001, x139002, x140000, x140001, x140002 => if x15 < x14 then ((rect_Matrix_inside.f x139000 x139001 x139002 x15 x6 x140000 x140001).bind fun t140 => (if t140 = true then ((rect_Matrix_Has.f k x139000 x139001 x139002 x140000 x140001 x140002 x15 x6).bind fun t141 => (if t141 = true then (if x5.length < 8796093022208 then (rect_Matrix_Find.l1 k (x5 ++ [(⟨x15, x6⟩ : S36)]) x6 x9 x10 x14 (wrap64 (x15 + 1)) x139000 x139001 x139002 x140000 x140001 x140002) else (none)) else (rect_Matrix_Find.l1 k x5 x6 x9 x10 x14 (wrap64 (x15 + 1)) x139000 x139001 x139002 x140000 x140001 x140002))) else (rect_Matrix_Find.l0 k x5 x9 (wrap64 (x10 + 1)) x139000 x139001 x139002 x140000 x140001 x140002))) else (rect_Matrix_Find.l0 k x5 x9 (wrap64 (x10 + 1)) x139000 x139001 x139002 x140000 x140001 x140002)
end
def rect_Matrix_Find.f (k : Nat) (a0_0 : Int) (a0_1 : Int) (l0_2 : List Int) (a1_0 : Int) (a1_1 : Int) (l1_2 : List Int) : Option ((List (S36))) := rect_Matrix_Find.l0 k ([] : List (S36)) a0_1 0 a0_0 a0_1 l0_2 a1_0 a1_1 l1_2
theorem rect_Matrix_Find.mono_l : ∀ k, (∀ y0 y1 y2 y3 y4 y5 y6 y7 y8, LeO (rect_Matrix_Find.l0 k y0 y1 y2 y3 y4 y5 y6 y7 y8) (rect_Matrix_Find.l0 (k + 1) y0 y1 y2 y3 y4 y5 y6 y7 y8)) ∧ (∀ y0 y1 y2 y3 y4 y5 y6 y7 y8 y9 y10 y11, LeO (rect_Matrix_Find.l1 k y0 y1 y2 y3 y4 y5 y6 y7 y8 y9 y10 y11) (rect_Matrix_Find.l1 (k + 1) y0 y1 y2 y3 y4 y5 y6 y7 y8 y9 y10 y11))
 | 0 => ⟨fun _ _ _ _ _ _ _ _ _ r h => by simp [rect_Matrix_Find.l0] at h, fun _ _ _ _ _ _ _ _ _ _ _ _ r h => by simp [rect_Matrix_Find.l1] at h⟩
 | k + 1 => by
  obtain ⟨ih0, ih1⟩ := rect_Matrix_Find.mono_l k
  refine ⟨?_, ?_⟩
  · intro y0 y1 y2 y3 y4 y5 y6 y7 y8
    unfold rect_Matrix_Find.l0
    repeat' first
    | (with_reducible exact ih0 _ _ _ _ _ _ _ _ _)
    | (with_reducible exact ih1 _ _ _ _ _ _ _ _ _ _ _ _)
    | (with_reducible exact rect_Matrix_Has.mono _ _ _ _ _ _ _ _ _)
    | (with_reducible exact LeO.refl _)
    | (with_reducible exact LeO.none _)
    | (with_reducible refine LeO.ite ?_ ?_)
    | (with_reducible refine LeO.bind ?_ (fun _ => ?_))
    | exact ih0 _ _ _ _ _ _ _ _ _
    | exact ih1 _ _ _ _ _ _ _ _ _ _ _ _
    | exact rect_Matrix_Has.mono _ _ _ _ _ _ _ _ _
    | exact LeO.none _
    | refine LeO.ite ?_ ?_
    | refine LeO.bind ?_ (fun _ => ?_)
  intro y0 y1 y2 y3 y4 y5 y6 y7 y8 y9 y10 y11
  unfold rect_Matrix_Find.l1
  repeat' first
  | (with_reducible exact ih0 _ _ _ _ _ _ _ _ _)
  | (with_reducible exact ih1 _ _ _ _ _ _ _ _ _ _ _ _)
  | (with_reducible exact rect_Matrix_Has.mono _ _ _ _ _ _ _ _ _)
  | (with_reducible exact LeO.refl _)
  | (with_reducible exact LeO.none _)
  | (with_reducible refine LeO.ite ?_ ?_)
  | (with_reducible refine LeO.bind ?_ (fun _ => ?_))
  | exact ih0 _ _ _ _ _ _ _ _ _
  | exact ih1 _ _ _ _ _ _ _ _ _ _ _ _
  | exact rect_Matrix_Has.mono _ _ _ _ _ _ _ _ _
  | exact LeO.none _
  | refine LeO.ite ?_ ?_
  | refine LeO.bind ?_ (fun _ => ?_)
theorem rect_Matrix_Find.mono : ∀ a0 a1 a2 a3 a4 a5 k, LeO (rect_Matrix_Find.f k a0 a1 a2 a3 a4 a5) (rect_Matrix_Find.f (k + 1) a0 a1 a2 a3 a4 a5) := by
 intro a0 a1 a2 a3 a4 a5 k
 obtain ⟨ih0, ih1⟩ := rect_Matrix_Find.mono_l k
 unfold rect_Matrix_Find.f
 repeat' first
  | (with_reducible exact ih0 _ _ _ _ _ _ _ _ _)
  | (with_reducible exact ih1 _ _ _ _ _ _ _ _ _ _ _ _)
  | (with_reducible exact rect_Matrix_Has.mono _ _ _ _ _ _ _ _ _)
  | (with_reducible exact LeO.refl _)
  | (with_reducible exact LeO.none _)
  | (with_reducible refine LeO.ite ?_ ?_)
  | (with_reducible refine LeO.bind ?_ (fun _ => ?_))
  | exact ih0 _ _ _ _ _ _ _ _ _
  | exact ih1 _ _ _ _ _ _ _ _ _ _ _ _
  | exact rect_Matrix_Has.mono _ _ _ _ _ _ _ _ _
  | exact LeO.none _
  | refine LeO.ite ?_ ?_
  | refine LeO.bind ?_ (fun _ => ?_)
set_option maxHeartbeats 8000000 in
set_option maxRecDepth 100000 in
theorem rect_Matrix_Find.calls (k : Nat) (a0_0 : Int) (a0_1 : Int) (A0_2 : Option Addr) (c0_2 : Nat) (l0_2 : List Int) (a1_0 : Int) (a1_1 : Int) (A1_2 : Option Addr) (c1_2 : Nat) (l1_2 : List Int) (r : List (S36)) (w : World) (hr0_2 : Kd.C (Kd.int .u64) w A0_2 l0_2.length l0_2) (hc0_2 : l0_2.length ≤ c0_2) (hr1_2 : Kd.C (Kd.int .u64) w A1_2 l1_2.length l1_2) (hc1_2 : l1_2.length ≤ c1_2) (h : rect_Matrix_Find.f k a0_0 a0_1 l0_2 a1_0 a1_1 l1_2 = some r) :
 Calls Try.prog 14 #[.agg #[.int .i64 a0_0, .int .i64 a0_1, .slice A0_2 l0_2.length c0_2], .agg #[.int .i64 a1_0, .int .i64 a1_1, .slice A1_2 l1_2.length c1_2]] w fun e w' => ∃ v0_ : Value, e = .returned (v0_) ∧ Kd.R k36 36 w' w.heap.size (fun _ => True) v0_ r ∧ Below w.heap.size w w' := by
 have hu32 := Try.underlying32
 have hu36 := Try.underlying36
 have HR0_2 := Aside0.mk hr0_2
 have HC0_2 := Aside0.mk hc0_2
 clear hr0_2 hc0_2
 have HR1_2 := Aside0.mk hr1_2
 have HC1_2 := Aside0.mk hc1_2
 clear hr1_2 hc1_2
 have HB := Aside0.mk (Below.refl w.heap.size w)
 have H : (rect_Matrix_Find.l0 k ([] : List (S36)) a0_1 0 a0_0 a0_1 l0_2 a1_0 a1_1 l1_2) = some r := h
 clear h
 have H' := Aside0.mk H
 clear H
 go_enter Try.func14, Try.ntmps14
 go_wp2_with (first | ((with_reducible refine gate_dst (N := 2) rfl ?_); refine box_event ?hg (N := 2) ?hd (cs := #[.int .i64 a0_0, .int .i64 a0_1, .slice A0_2 l0_2.length c0_2]) (t := 32) ?hr ?_; (case hd => rfl); (case hg => rfl); (case hr => first | (go_simp; done) | (go_simp; rfl)); intro gb138 hg w3 hbox hb; have BK138 := Aside0.mk (hbox); have GW138 := Aside0.mk ((by rw [hg]; exact (below_size bp_) : w.heap.size ≤ gb138)); have GE138 := Aside0.mk ((by rw [hg]; exact (below_size bp_) : w.heap.size ≤ gb138)); replace HB := Aside0.mk (below_step bp_ hb); clear hb hbox hg) | ((with_reducible refine gate_dst (N := 3) rfl ?_); refine box_event ?hg (N := 3) ?hd (cs := #[.int .i64 a1_0, .int .i64 a1_1, .slice A1_2 l1_2.length c1_2]) (t := 32) ?hr ?_; (case hd => rfl); (case hg => rfl); (case hr => first | (go_simp; done) | (go_simp; rfl)); intro gb139 hg w4 hbox hb; have BK139 := Aside0.mk (hbox); have GW139 := Aside0.mk ((by rw [hg]; exact (below_size bp_) : w.heap.size ≤ gb139)); have GE139 := Aside0.mk ((by rw [hg]; exact (below_size bp_) : w.heap.size ≤ gb139)); replace HB := Aside0.mk (below_step bp_ hb); have NB138_139 := Aside0.mk ((nlt_ hg (hp_ BK138.out))); have NB139_138 := Aside0.mk ((ngt_ hg (hp_ BK138.out))); replace BK138 := kb_ BK138.out hb; clear hb hbox hg; have hnb5 := NB138_139.out; have hnc5 := NB139_138.out; have hcz6_0 : w4.cell? ⟨gb138, 0, none⟩ = some (.int .i64 a0_0) := bc_ BK138.out 0; have hcz6_1 : w4.cell? ⟨gb138, 1, none⟩ = some (.int .i64 a0_1) := bc_ BK138.out 1; have hcz6_2 : w4.cell? ⟨gb138, 2, none⟩ = some (.slice A0_2 l0_2.length c0_2) := bc_ BK138.out 2; have hfz6_0 := blk_frozen BK138.out 0; have hfz6_1 := blk_frozen BK138.out 1; have hfz6_2 := blk_frozen BK138.out 2))
 go_loopg [5, 10] k (fun kq v5 v10 w' => ∃ (x5_1 : List (S36)) (x10_1 : Int), v10 = .int .i64 x10_1 ∧ Aside0 (rect_Matrix_Find.l0 kq x5_1 a0_1 x10_1 a0_0 a0_1 l0_2 a1_0 a1_1 l1_2 = some r) ∧ Aside0 (kq ≤ k) ∧ Aside0 (Kd.R k36 36 w' w.heap.size (fun _ => True) v5 x5_1) ∧ Aside0 (w'.heap[gb138]? = some (.cells #[.int .i64 a0_0, .int .i64 a0_1, (.slice A0_2 l0_2.length c0_2)] 32 (0, 0))) ∧ Aside0 (w'.heap[gb139]? = some (.cells #[.int .i64 a1_0, .int .i64 a1_1, (.slice A1_2 l1_2.length c1_2)] 32 (0, 0))) ∧ Aside0 (Below w.heap.size w w'))
 case atStart => exact ⟨(([] : List (S36))), (0), (by first | rfl | (simp; done) | (simp [*]; done)), H', ⟨Nat.le_refl _⟩, ⟨by first | exact Kd.R_nil _ _ _ _ _ | exact Kd.N_nil _ _ _ _ _ | exact Kd.V_nil _ _ _ _ _ | exact Kd.Q_nil _ _ _ _ _ | exact Kd.S_nil _ _ _ _ _⟩, ⟨hp_ BK138.out⟩, ⟨hp_ BK139.out⟩, ⟨bp_⟩⟩
 case round =>
  clear H'
  try clear c1
  try clear p2
  try clear c5
  try clear hcz6_0
  try clear hcz6_1
  try clear hcz6_2
  try clear hfz6_0
  try clear hfz6_1
  try clear hfz6_2
  obtain ⟨x5_1, x10_1, rfl, HA, HK1, HO_5, BK138, BK139, HB⟩ := hrel
  cases gk with
  | zero => exact absurd HA.out (by simp [rect_Matrix_Find.l0])
  | succ k1 =>
   have H := HA.out; clear HA; simp only [rect_Matrix_Find.l0] at H
   by_cases c7 : x10_1 < a0_1
   · rw [if_pos c7] at H
     have c7b0 : decide (x10_1 < a0_1) = true := decide_eq_true c7
     clear c7
     have H' := Aside0.mk H
     clear H; have hnb8 := NB138_139.out; have hnc8 := NB139_138.out
     have hcz9_0 : wr.cell? ⟨gb138, 0, none⟩ = some (.int .i64 a0_0) := bc_ BK138.out 0
     have hcz9_1 : wr.cell? ⟨gb138, 1, none⟩ = some (.int .i64 a0_1) := bc_ BK138.out 1
     have hcz9_2 : wr.cell? ⟨gb138, 2, none⟩ = some (.slice A0_2 l0_2.length c0_2) := bc_ BK138.out 2
     have hfz9_0 := blk_frozen BK138.out 0; have hfz9_1 := blk_frozen BK138.out 1; have hfz9_2 := blk_frozen BK138.out 2
     go_wp2
     refine wp_scope_straight ?_
     go_wp2
     refine wp_label ?_
     go_wp2
     go_loopg [5, 15] k1 (fun kq v5 v15 w' => ∃ (x5_2 : List (S36)) (x15_2 : Int), v15 = .int .i64 x15_2 ∧ Aside0 (rect_Matrix_Find.l1 kq x5_2 x10_1 a0_1 x10_1 a0_0 x15_2 a0_0 a0_1 l0_2 a1_0 a1_1 l1_2 = some r) ∧ Aside0 (kq ≤ k1) ∧ Aside0 (Kd.R k36 36 w' w.heap.size (fun _ => True) v5 x5_2) ∧ Aside0 (w'.heap[gb138]? = some (.cells #[.int .i64 a0_0, .int .i64 a0_1, (.slice A0_2 l0_2.length c0_2)] 32 (0, 0))) ∧ Aside0 (w'.heap[gb139]? = some (.cells #[.int .i64 a1_0, .int .i64 a1_1, (.slice A1_2 l1_2.length c1_2)] 32 (0, 0))) ∧ Aside0 (Below w.heap.size w w'))
     case atStart => exact ⟨(x5_1), (0), (by first | rfl | (simp; done) | (simp [*]; done)), H', ⟨Nat.le_refl _⟩, ⟨rp_ HO_5.out⟩, ⟨hp_ BK138.out⟩, ⟨hp_ BK139.out⟩, ⟨bp_⟩⟩
     case round =>
      clear H'
      try clear c1
      try clear p2
      try clear c5
      try clear c7
      try clear c7b0
      try clear c8
      try clear hcz6_0
      try clear hcz6_1
      try clear hcz6_2
      try clear hcz9_0
      try clear hcz9_1
      try clear hcz9_2
      try clear hfz6_0
      try clear hfz6_1
      try clear hfz6_2
      try clear hfz9_0
      try clear hfz9_1
      try clear hfz9_2
      try clear p2
      obtain ⟨x5_2, x15_2, rfl, HA, HK2, HO_5, BK138, BK139, HB⟩ := hrel
      cases gk with
      | zero => exact absurd HA.out (by simp [rect_Matrix_Find.l1])
      | succ k2 =>
       have H := HA.out; clear HA; simp only [rect_Matrix_Find.l1] at H
       by_cases c10 : x15_2 < a0_0
       · rw [if_pos c10] at H
         have c10b0 : decide (x15_2 < a0_0) = true := decide_eq_true c10
         clear c10; replace H := Option.bind_eq_some_iff.mp H; obtain ⟨t140, A110, H⟩ := H
         replace H : (if t140 = true then ((rect_Matrix_Has.f k2 a0_0 a0_1 l0_2 a1_0 a1_1 l1_2 x15_2 x10_1).bind fun t141 => (if t141 = true then (if x5_2.length < 8796093022208 then (rect_Matrix_Find.l1 k2 (x5_2 ++ [(⟨x15_2, x10_1⟩ : S36)]) x10_1 a0_1 x10_1 a0_0 (wrap64 (x15_2 + 1)) a0_0 a0_1 l0_2 a1_0 a1_1 l1_2) else (none)) else (rect_Matrix_Find.l1 k2 x5_2 x10_1 a0_1 x10_1 a0_0 (wrap64 (x15_2 + 1)) a0_0 a0_1 l0_2 a1_0 a1_1 l1_2))) else (rect_Matrix_Find.l0 k2 x5_2 a0_1 (wrap64 (x10_1 + 1)) a0_0 a0_1 l0_2 a1_0 a1_1 l1_2)) = some r := H
         have A11 := Aside0.mk A110; clear A110
         by_cases c12 : t140 = true
         · subst c12
           have H1 : ((rect_Matrix_Has.f k2 a0_0 a0_1 l0_2 a1_0 a1_1 l1_2 x15_2 x10_1).bind fun t141 => (if t141 = true then (if x5_2.length < 8796093022208 then (rect_Matrix_Find.l1 k2 (x5_2 ++ [(⟨x15_2, x10_1⟩ : S36)]) x10_1 a0_1 x10_1 a0_0 (wrap64 (x15_2 + 1)) a0_0 a0_1 l0_2 a1_0 a1_1 l1_2) else (none)) else (rect_Matrix_Find.l1 k2 x5_2 x10_1 a0_1 x10_1 a0_0 (wrap64 (x15_2 + 1)) a0_0 a0_1 l0_2 a1_0 a1_1 l1_2))) = some r := by rw [if_pos rfl] at H; exact H
           clear H; have H := H1; clear H1; replace H := Option.bind_eq_some_iff.mp H; obtain ⟨t141, A130, H⟩ := H
           replace H : (if t141 = true then (if x5_2.length < 8796093022208 then (rect_Matrix_Find.l1 k2 (x5_2 ++ [(⟨x15_2, x10_1⟩ : S36)]) x10_1 a0_1 x10_1 a0_0 (wrap64 (x15_2 + 1)) a0_0 a0_1 l0_2 a1_0 a1_1 l1_2) else (none)) else (rect_Matrix_Find.l1 k2 x5_2 x10_1 a0_1 x10_1 a0_0 (wrap64 (x15_2 + 1)) a0_0 a0_1 l0_2 a1_0 a1_1 l1_2)) = some r := H
           have A13 := Aside0.mk A130; clear A130
           by_cases c14 : t141 = true
           · subst c14
             have H1 : (if x5_2.length < 8796093022208 then (rect_Matrix_Find.l1 k2 (x5_2 ++ [(⟨x15_2, x10_1⟩ : S36)]) x10_1 a0_1 x10_1 a0_0 (wrap64 (x15_2 + 1)) a0_0 a0_1 l0_2 a1_0 a1_1 l1_2) else (none)) = some r := by rw [if_pos rfl] at H; exact H
             clear H; have H := H1; clear H1
             by_cases c15 : x5_2.length < 8796093022208
             · rw [if_pos c15] at H; have LMc15 := Aside0.mk c15; clear c15
               obtain ⟨y142, hy142⟩ : ∃ y_ : List (S36), y_ = (x5_2 ++ [(⟨x15_2, x10_1⟩ : S36)]) := ⟨_, rfl⟩
               replace H : (rect_Matrix_Find.l1 k2 y142 x10_1 a0_1 x10_1 a0_0 (wrap64 (x15_2 + 1)) a0_0 a0_1 l0_2 a1_0 a1_1 l1_2) = some r := by first | (rw [hy142]; with_reducible exact H) | (have H2_ := (Option.bind_some _ _).symm.trans H; rw [hy142]; with_reducible exact H2_) | (have H2_ := (Option.bind_some _ _).symm.trans H; with_reducible exact H2_) | with_reducible exact H | (rw [hy142]; exact H) | exact H
               have Ny142 := Aside0.mk hy142; clear hy142
               have H' := Aside0.mk H
               clear H; have hnb16 := NB138_139.out; have hnc16 := NB139_138.out
               have hcz17_0 : wr.cell? ⟨gb138, 0, none⟩ = some (.int .i64 a0_0) := bc_ BK138.out 0
               have hcz17_1 : wr.cell? ⟨gb138, 1, none⟩ = some (.int .i64 a0_1) := bc_ BK138.out 1
               have hcz17_2 : wr.cell? ⟨gb138, 2, none⟩ = some (.slice A0_2 l0_2.length c0_2) := bc_ BK138.out 2
               have hfz17_0 := blk_frozen BK138.out 0; have hfz17_1 := blk_frozen BK138.out 1; have hfz17_2 := blk_frozen BK138.out 2
               have hcz18_0 : wr.cell? ⟨gb139, 0, none⟩ = some (.int .i64 a1_0) := bc_ BK139.out 0
               have hcz18_1 : wr.cell? ⟨gb139, 1, none⟩ = some (.int .i64 a1_1) := bc_ BK139.out 1
               have hcz18_2 : wr.cell? ⟨gb139, 2, none⟩ = some (.slice A1_2 l1_2.length c1_2) := bc_ BK139.out 2
               have hfz18_0 := blk_frozen BK139.out 0; have hfz18_1 := blk_frozen BK139.out 1; have hfz18_2 := blk_frozen BK139.out 2
               go_wp2_with (first | ((with_reducible refine gate_callee (f := 44) rfl ?_); refine goQ_ (some 25) Try.func44 #[.agg #[.int .i64 a0_0, .int .i64 a0_1, .slice A0_2 l0_2.length c0_2], .int .i64 x15_2, .int .i64 x10_1, .int .i64 a1_0, .int .i64 a1_1] ?_; (with_reducible refine (rect_Matrix_inside.calls a0_0 a0_1 _ _ l0_2 x15_2 x10_1 a1_0 a1_1 true _ ?side1 ?side2 A11.out).mono ?_); (case side1 => repeat (first | exact (Kd.C_below HR0_2.out HB.out) | (with_reducible refine Kd.C_alloc ?_ _) | (with_reducible refine Kd.C_drewN ?_ _) | (with_reducible refine Kd.C_drew ?_))); (case side2 => exact HC0_2.out); rintro e w19 ⟨rfl, hb⟩; refine ⟨_, rfl, ?_⟩; replace HO_5 := rb_ HO_5.out hb; replace BK138 := kb_ BK138.out hb; replace BK139 := kb_ BK139.out hb; replace HB := Aside0.mk (below_step bp_ hb); (try clear hb); (try clear hb2); (try clear hk); (try clear hi); have hcz20_0 : w19.cell? ⟨gb138, 0, none⟩ = some (.int .i64 a0_0) := bc_ BK138.out 0; have hcz20_1 : w19.cell? ⟨gb138, 1, none⟩ = some (.int .i64 a0_1) := bc_ BK138.out 1; have hcz20_2 : w19.cell? ⟨gb138, 2, none⟩ = some (.slice A0_2 l0_2.length c0_2) := bc_ BK138.out 2; have hfz20_0 := blk_frozen BK138.out 0; have hfz20_1 := blk_frozen BK138.out 1; have hfz20_2 := blk_frozen BK138.out 2; have hcz21_0 : w19.cell? ⟨gb139, 0, none⟩ = some (.int .i64 a1_0) := bc_ BK139.out 0; have hcz21_1 : w19.cell? ⟨gb139, 1, none⟩ = some (.int .i64 a1_1) := bc_ BK139.out 1; have hcz21_2 : w19.cell? ⟨gb139, 2, none⟩ = some (.slice A1_2 l1_2.length c1_2) := bc_ BK139.out 2; have hfz21_0 := blk_frozen BK139.out 0; have hfz21_1 := blk_frozen BK139.out 1; have hfz21_2 := blk_frozen BK139.out 2) | ((with_reducible refine gate_callee (f := 23) rfl ?_); refine goQ_ (some 31) Try.func23 #[.agg #[.int .i64 a0_0, .int .i64 a0_1, .slice A0_2 l0_2.length c0_2], .agg #[.int .i64 a1_0, .int .i64 a1_1, .slice A1_2 l1_2.length c1_2], .int .i64 x15_2, .int .i64 x10_1] ?_; (with_reducible refine (rect_Matrix_Has.calls k2 a0_0 a0_1 _ _ l0_2 a1_0 a1_1 _ _ l1_2 x15_2 x10_1 true _ ?side1 ?side2 ?side3 ?side4 A13.out).mono ?_); (case side1 => repeat (first | exact (Kd.C_below HR0_2.out HB.out) | (with_reducible refine Kd.C_alloc ?_ _) | (with_reducible refine Kd.C_drewN ?_ _) | (with_reducible refine Kd.C_drew ?_))); (case side2 => exact HC0_2.out); (case side3 => repeat (first | exact (Kd.C_below HR1_2.out HB.out) | (with_reducible refine Kd.C_alloc ?_ _) | (with_reducible refine Kd.C_drewN ?_ _) | (with_reducible refine Kd.C_drew ?_))); (case side4 => exact HC1_2.out); rintro e w22 ⟨rfl, hb⟩; refine ⟨_, rfl, ?_⟩; replace HO_5 := rb_ HO_5.out hb; replace BK138 := kb_ BK138.out hb; replace BK139 := kb_ BK139.out hb; replace HB := Aside0.mk (below_step bp_ hb); (try clear hb); (try clear hb2); (try clear hk); (try clear hi)) | ((with_reducible refine gate_builtin (b := .append) (xs := #[.tmp 32, .tmp 36]) rfl ?_); at_builtin; refine Kd.R_append k36 (w0 := w) w.heap.size rfl (.tmp 32) (.tmp 36) 31 36 (.agg #[(.int .i64 0), (.int .i64 0)]) 16 rfl Try.underlying31 info36 rfl (by decide) (by omega) u5 x5_2 (⟨x15_2, x10_1⟩ : S36) [.int .i64 x15_2, .int .i64 x10_1] (fun _ => True) (fun _ => False) rfl rfl ?aP (fun _ hk => hk.elim) ?aF ?aO ?aB ?aS ?aL ?_; (case aP => exact k36_mkM _ _ _ (⟨x15_2, x10_1⟩ : S36)); (case aB => exact bp_); (case aF => exact (fun _ _ => trivial)); (case aO => exact (rp_ HO_5.out)); (case aS => exact (below_size bp_)); (case aL => have := LMc15.out; omega); intro v143 w23 ho hb hg hat; rw [← Ny142.out] at ho; replace BK138 := Aside0.mk (blk_grown (g := gb138) (o := .cells #[.int .i64 a0_0, .int .i64 a0_1, .slice A0_2 l0_2.length c0_2] 32 (0, 0)) (hp_ BK138.out) hg (Kd.R_ne HO_5.out BK138.out (by decide))); replace BK139 := Aside0.mk (blk_grown (g := gb139) (o := .cells #[.int .i64 a1_0, .int .i64 a1_1, .slice A1_2 l1_2.length c1_2] 32 (0, 0)) (hp_ BK139.out) hg (Kd.R_ne HO_5.out BK139.out (by decide))); replace HB := Aside0.mk (hb); have HO144 := Aside0.mk (ho); clear HO_5; clear ho hb hg hat))
               (try (simp only [Exit.noGoto]; go_wp2))
               go_roundg k2
               case measure => have := HK1.out; have := HK2.out; omega
               case rel => exact ⟨(y142), (wrap64 (x15_2 + 1)), (by first | rfl | (simp; done) | (simp [*]; done)), H', ⟨by have := HK1.out; have := HK2.out; omega⟩, ⟨rp_ HO144.out⟩, ⟨hp_ BK138.out⟩, ⟨hp_ BK139.out⟩, ⟨bp_⟩⟩
             rw [if_neg c15] at H
             exact absurd H (by simp)
           replace c14 := Bool.eq_false_iff.mpr c14; subst c14
           have H1 : (rect_Matrix_Find.l1 k2 x5_2 x10_1 a0_1 x10_1 a0_0 (wrap64 (x15_2 + 1)) a0_0 a0_1 l0_2 a1_0 a1_1 l1_2) = some r := by rw [if_neg (show ¬ (false = true) by decide)] at H; exact H
           clear H; have H := H1; clear H1
           have H' := Aside0.mk H
           clear H; have hnb24 := NB138_139.out; have hnc24 := NB139_138.out
           have hcz25_0 : wr.cell? ⟨gb138, 0, none⟩ = some (.int .i64 a0_0) := bc_ BK138.out 0
           have hcz25_1 : wr.cell? ⟨gb138, 1, none⟩ = some (.int .i64 a0_1) := bc_ BK138.out 1
           have hcz25_2 : wr.cell? ⟨gb138, 2, none⟩ = some (.slice A0_2 l0_2.length c0_2) := bc_ BK138.out 2
           have hfz25_0 := blk_frozen BK138.out 0; have hfz25_1 := blk_frozen BK138.out 1; have hfz25_2 := blk_frozen BK138.out 2
           have hcz26_0 : wr.cell? ⟨gb139, 0, none⟩ = some (.int .i64 a1_0) := bc_ BK139.out 0
           have hcz26_1 : wr.cell? ⟨gb139, 1, none⟩ = some (.int .i64 a1_1) := bc_ BK139.out 1
           have hcz26_2 : wr.cell? ⟨gb139, 2, none⟩ = some (.slice A1_2 l1_2.length c1_2) := bc_ BK139.out 2
           have hfz26_0 := blk_frozen BK139.out 0; have hfz26_1 := blk_frozen BK139.out 1; have hfz26_2 := blk_frozen BK139.out 2
           go_wp2_with (first | ((with_reducible refine gate_callee (f := 44) rfl ?_); refine goQ_ (some 25) Try.func44 #[.agg #[.int .i64 a0_0, .int .i64 a0_1, .slice A0_2 l0_2.length c0_2], .int .i64 x15_2, .int .i64 x10_1, .int .i64 a1_0, .int .i64 a1_1] ?_; (with_reducible refine (rect_Matrix_inside.calls a0_0 a0_1 _ _ l0_2 x15_2 x10_1 a1_0 a1_1 true _ ?side1 ?side2 A11.out).mono ?_); (case side1 => repeat (first | exact (Kd.C_below HR0_2.out HB.out) | (with_reducible refine Kd.C_alloc ?_ _) | (with_reducible refine Kd.C_drewN ?_ _) | (with_reducible refine Kd.C_drew ?_))); (case side2 => exact HC0_2.out); rintro e w27 ⟨rfl, hb⟩; refine ⟨_, rfl, ?_⟩; replace HO_5 := rb_ HO_5.out hb; replace BK138 := kb_ BK138.out hb; replace BK139 := kb_ BK139.out hb; replace HB := Aside0.mk (below_step bp_ hb); (try clear hb); (try clear hb2); (try clear hk); (try clear hi); have hcz28_0 : w27.cell? ⟨gb138, 0, none⟩ = some (.int .i64 a0_0) := bc_ BK138.out 0; have hcz28_1 : w27.cell? ⟨gb138, 1, none⟩ = some (.int .i64 a0_1) := bc_ BK138.out 1; have hcz28_2 : w27.cell? ⟨gb138, 2, none⟩ = some (.slice A0_2 l0_2.length c0_2) := bc_ BK138.out 2; have hfz28_0 := blk_frozen BK138.out 0; have hfz28_1 := blk_frozen BK138.out 1; have hfz28_2 := blk_frozen BK138.out 2; have hcz29_0 : w27.cell? ⟨gb139, 0, none⟩ = some (.int .i64 a1_0) := bc_ BK139.out 0; have hcz29_1 : w27.cell? ⟨gb139, 1, none⟩ = some (.int .i64 a1_1) := bc_ BK139.out 1; have hcz29_2 : w27.cell? ⟨gb139, 2, none⟩ = some (.slice A1_2 l1_2.length c1_2) := bc_ BK139.out 2; have hfz29_0 := blk_frozen BK139.out 0; have hfz29_1 := blk_frozen BK139.out 1; have hfz29_2 := blk_frozen BK139.out 2) | ((with_reducible refine gate_callee (f := 23) rfl ?_); refine goQ_ (some 31) Try.func23 #[.agg #[.int .i64 a0_0, .int .i64 a0_1, .slice A0_2 l0_2.length c0_2], .agg #[.int .i64 a1_0, .int .i64 a1_1, .slice A1_2 l1_2.length c1_2], .int .i64 x15_2, .int .i64 x10_1] ?_; (with_reducible refine (rect_Matrix_Has.calls k2 a0_0 a0_1 _ _ l0_2 a1_0 a1_1 _ _ l1_2 x15_2 x10_1 false _ ?side1 ?side2 ?side3 ?side4 A13.out).mono ?_); (case side1 => repeat (first | exact (Kd.C_below HR0_2.out HB.out) | (with_reducible refine Kd.C_alloc ?_ _) | (with_reducible refine Kd.C_drewN ?_ _) | (with_reducible refine Kd.C_drew ?_))); (case side2 => exact HC0_2.out); (case side3 => repeat (first | exact (Kd.C_below HR1_2.out HB.out) | (with_reducible refine Kd.C_alloc ?_ _) | (with_reducible refine Kd.C_drewN ?_ _) | (with_reducible refine Kd.C_drew ?_))); (case side4 => exact HC1_2.out); rintro e w30 ⟨rfl, hb⟩; refine ⟨_, rfl, ?_⟩; replace HO_5 := rb_ HO_5.out hb; replace BK138 := kb_ BK138.out hb; replace BK139 := kb_ BK139.out hb; replace HB := Aside0.mk (below_step bp_ hb); (try clear hb); (try clear hb2); (try clear hk); (try clear hi)))
           (try (simp only [Exit.noGoto]; go_wp2))
           go_roundg k2
           case measure => have := HK1.out; have := HK2.out; omega
           case rel => exact ⟨(x5_2), (wrap64 (x15_2 + 1)), (by first | rfl | (simp; done) | (simp [*]; done)), H', ⟨by have := HK1.out; have := HK2.out; omega⟩, ⟨rp_ HO_5.out⟩, ⟨hp_ BK138.out⟩, ⟨hp_ BK139.out⟩, ⟨bp_⟩⟩
         replace c12 := Bool.eq_false_iff.mpr c12; subst c12
         have H1 : (rect_Matrix_Find.l0 k2 x5_2 a0_1 (wrap64 (x10_1 + 1)) a0_0 a0_1 l0_2 a1_0 a1_1 l1_2) = some r := by rw [if_neg (show ¬ (false = true) by decide)] at H; exact H
         clear H; have H := H1; clear H1
         have H' := Aside0.mk H
         clear H; have hnb31 := NB138_139.out; have hnc31 := NB139_138.out
         have hcz32_0 : wr.cell? ⟨gb138, 0, none⟩ = some (.int .i64 a0_0) := bc_ BK138.out 0
         have hcz32_1 : wr.cell? ⟨gb138, 1, none⟩ = some (.int .i64 a0_1) := bc_ BK138.out 1
         have hcz32_2 : wr.cell? ⟨gb138, 2, none⟩ = some (.slice A0_2 l0_2.length c0_2) := bc_ BK138.out 2
         have hfz32_0 := blk_frozen BK138.out 0; have hfz32_1 := blk_frozen BK138.out 1; have hfz32_2 := blk_frozen BK138.out 2
         have hcz33_0 : wr.cell? ⟨gb139, 0, none⟩ = some (.int .i64 a1_0) := bc_ BK139.out 0
         have hcz33_1 : wr.cell? ⟨gb139, 1, none⟩ = some (.int .i64 a1_1) := bc_ BK139.out 1
         have hcz33_2 : wr.cell? ⟨gb139, 2, none⟩ = some (.slice A1_2 l1_2.length c1_2) := bc_ BK139.out 2
         have hfz33_0 := blk_frozen BK139.out 0; have hfz33_1 := blk_frozen BK139.out 1; have hfz33_2 := blk_frozen BK139.out 2
         go_wp2_with (first | ((with_reducible refine gate_callee (f := 44) rfl ?_); refine goQ_ (some 25) Try.func44 #[.agg #[.int .i64 a0_0, .int .i64 a0_1, .slice A0_2 l0_2.length c0_2], .int .i64 x15_2, .int .i64 x10_1, .int .i64 a1_0, .int .i64 a1_1] ?_; (with_reducible refine (rect_Matrix_inside.calls a0_0 a0_1 _ _ l0_2 x15_2 x10_1 a1_0 a1_1 false _ ?side1 ?side2 A11.out).mono ?_); (case side1 => repeat (first | exact (Kd.C_below HR0_2.out HB.out) | (with_reducible refine Kd.C_alloc ?_ _) | (with_reducible refine Kd.C_drewN ?_ _) | (with_reducible refine Kd.C_drew ?_))); (case side2 => exact HC0_2.out); rintro e w34 ⟨rfl, hb⟩; refine ⟨_, rfl, ?_⟩; replace HO_5 := rb_ HO_5.out hb; replace BK138 := kb_ BK138.out hb; replace BK139 := kb_ BK139.out hb; replace HB := Aside0.mk (below_step bp_ hb); (try clear hb); (try clear hb2); (try clear hk); (try clear hi)))
         (try (simp only [Exit.noGoto]; go_wp2))
         go_roundg k2
         case measure => have := HK1.out; have := HK2.out; omega
         case rel => exact ⟨(x5_2), (wrap64 (x10_1 + 1)), (by first | rfl | (simp; done) | (simp [*]; done)), H', ⟨by have := HK1.out; have := HK2.out; omega⟩, ⟨rp_ HO_5.out⟩, ⟨hp_ BK138.out⟩, ⟨hp_ BK139.out⟩, ⟨bp_⟩⟩
       rw [if_neg c10] at H
       have c10b0 : decide (x15_2 < a0_0) = false := decide_eq_false c10
       clear c10
       have H' := Aside0.mk H
       clear H
       go_wp2
       (try (simp only [Exit.noGoto]; go_wp2))
       go_roundg k2
       case measure => have := HK1.out; have := HK2.out; omega
       case rel => exact ⟨(x5_2), (wrap64 (x10_1 + 1)), (by first | rfl | (simp; done) | (simp [*]; done)), H', ⟨by have := HK1.out; have := HK2.out; omega⟩, ⟨rp_ HO_5.out⟩, ⟨hp_ BK138.out⟩, ⟨hp_ BK139.out⟩, ⟨bp_⟩⟩
   rw [if_neg c7] at H
   have c7b0 : decide (x10_1 < a0_1) = false := decide_eq_false c7
   clear c7
   obtain rfl := Option.some.inj H
   go_wp2
   go_ret
   exact ⟨_, by first | rfl | (simp [errW_none, errW_some] <;> rfl) | (simp [*, errW_none, errW_some] <;> rfl), by (with_reducible repeat (first | apply Kd.R_alloc | apply Kd.R_drewN | apply Kd.R_drew)); exact HO_5.out, bp_⟩

end Go.Proofs.Ytidpaaemfiopkaa.Q
