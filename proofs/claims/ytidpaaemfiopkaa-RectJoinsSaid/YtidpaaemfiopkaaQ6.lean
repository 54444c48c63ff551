-- written by our own program (wip/tools/myprint.py) out of the translation, by the kit's print; Lean checks it
import Derived.Test.YtidpaaemfiopkaaQ0
import Derived.Test.YtidpaaemfiopkaaQ3
namespace Go.Proofs.Ytidpaaemfiopkaa.Q
open Go.RowKit Go.Proofs.YtidpaaemfiopkaaW.PrintWords Go.Proofs.YtidpaaemfiopkaaW.PrintLast Go.Proofs.YtidpaaemfiopkaaW.PrintMore
attribute [local go_sem] max2_int min2_int max_two min_two max_three min_three max_four min_four   -- for this text's walks alone
set_option linter.unusedVariables false
set_option linter.unusedSimpArgs false

/-! ### chequerref03_SameRow: function 32 -/
def chequerref03_SameRow.l0 : Nat → List Int → List Int → Int → Option (Bool)
  | 0, _, _, _ => none
  | k + 1, x0, x1, x5 => if x5 < (x0.length : Int) then (if 0 ≤ x5 then (if x5 < (x1.length : Int) then (if (rd x0 x5) = (rd x1 x5) then (chequerref03_SameRow.l0 k x0 x1 (wrap64 (x5 + 1))) else (some false)) else (none)) else (none)) else (some true)
def chequerref03_SameRow.f (k : Nat) (l0 : List Int) (l1 : List Int) : Option (Bool) := if (l0.length : Int) = (l1.length : Int) then (chequerref03_SameRow.l0 k l0 l1 0) else (some false)
theorem chequerref03_SameRow.mono_l : ∀ k, (∀ y0 y1 y2, LeO (chequerref03_SameRow.l0 k y0 y1 y2) (chequerref03_SameRow.l0 (k + 1) y0 y1 y2))
  | 0 => fun _ _ _ r h => by simp [chequerref03_SameRow.l0] at h
  | k + 1 => by
    have ih0 := chequerref03_SameRow.mono_l k
    · intro y0 y1 y2
      unfold chequerref03_SameRow.l0
      repeat' first
      | (with_reducible exact ih0 _ _ _)
      | (with_reducible exact LeO.refl _)
      | (with_reducible exact LeO.none _)
      | (with_reducible refine LeO.ite ?_ ?_)
      | (with_reducible refine LeO.bind ?_ (fun _ => ?_))
      | exact ih0 _ _ _
      | exact LeO.none _
      | refine LeO.ite ?_ ?_
      | refine LeO.bind ?_ (fun _ => ?_)
theorem chequerref03_SameRow.mono : ∀ a0 a1 k, LeO (chequerref03_SameRow.f k a0 a1) (chequerref03_SameRow.f (k + 1) a0 a1) := by
  intro a0 a1 k
  have ih0 := chequerref03_SameRow.mono_l k
  unfold chequerref03_SameRow.f
  repeat' first
      | (with_reducible exact ih0 _ _ _)
      | (with_reducible exact LeO.refl _)
      | (with_reducible exact LeO.none _)
      | (with_reducible refine LeO.ite ?_ ?_)
      | (with_reducible refine LeO.bind ?_ (fun _ => ?_))
      | exact ih0 _ _ _
      | exact LeO.none _
      | refine LeO.ite ?_ ?_
      | refine LeO.bind ?_ (fun _ => ?_)
set_option maxHeartbeats 8000000 in
set_option maxRecDepth 100000 in
theorem chequerref03_SameRow.calls (k : Nat) (A0 : Option Addr) (c0 : Nat) (l0 : List Int) (A1 : Option Addr) (c1 : Nat) (l1 : List Int) (r : Bool) (w : World) (hr0 : Kd.C (Kd.int .u64) w A0 l0.length l0) (hc0 : l0.length ≤ c0) (hr1 : Kd.C (Kd.int .u64) w A1 l1.length l1) (hc1 : l1.length ≤ c1) (h : chequerref03_SameRow.f k l0 l1 = some r) :
    Calls Try.prog 32 #[.slice A0 l0.length c0, .slice A1 l1.length c1] w fun e w' => e = .returned (.bool r) ∧ Drawn0 w w' := by
  have HR0 := Aside0.mk hr0
  have HC0 := Aside0.mk hc0
  clear hr0 hc0
  have HR1 := Aside0.mk hr1
  have HC1 := Aside0.mk hc1
  clear hr1 hc1
  have H : (if (l0.length : Int) = (l1.length : Int) then (chequerref03_SameRow.l0 k l0 l1 0) else (some false)) = some r := h
  clear h
  by_cases c3 : (l0.length : Int) = (l1.length : Int)
  · rw [if_pos c3] at H
    have c3b0 : ((l0.length : Int) == (l1.length : Int)) = true := beq_iff_eq.mpr c3
    have c3b1 : ((l0.length : Int) != (l1.length : Int)) = false := bne_eq_false_iff_eq.mpr c3
    have c3b2 : (l0.length == l1.length) = true := by first | simpa using c3 | (simp at c3 ⊢; omega)
    clear c3
    have H' := Aside0.mk H
    clear H
    go_enter Try.func32, Try.ntmps32
    go_wp2
    repeat (go_quiet (fail); try go_wp2)
    go_loopg [5] k (fun kq v5 w' => ∃ (x5_1 : Int), v5 = .int .i64 x5_1 ∧ Aside0 (chequerref03_SameRow.l0 kq l0 l1 x5_1 = some r) ∧ Aside0 (kq ≤ k) ∧ Drawn0 w w')
    case atStart => exact ⟨(0), (by first | rfl | (simp; done) | (simp [*]; done)), H', ⟨Nat.le_refl _⟩, by repeat (first | exact Drawn0.refl _ | apply Drawn0.step)⟩
    case round =>
      clear H'
      try clear c1
      try clear p2
      try clear c3
      try clear c3b0
      try clear c3b1
      try clear c3b2
      obtain ⟨x5_1, rfl, HA, HK1, ⟨m1, rfl⟩⟩ := hrel
      cases gk with
      | zero => exact absurd HA.out (by simp [chequerref03_SameRow.l0])
      | succ k1 =>
        have H := HA.out; clear HA; simp only [chequerref03_SameRow.l0] at H
        by_cases c4 : x5_1 < (l0.length : Int)
        · rw [if_pos c4] at H
          have c4b0 : decide (x5_1 < (l0.length : Int)) = true := decide_eq_true c4
          clear c4
          by_cases c5 : 0 ≤ x5_1
          · rw [if_pos c5] at H
            have c5b0 : decide (0 ≤ x5_1) = true := decide_eq_true c5
            clear c5
            by_cases c6 : x5_1 < (l1.length : Int)
            · rw [if_pos c6] at H
              have c6b0 : decide (x5_1 < (l1.length : Int)) = true := decide_eq_true c6
              clear c6
              by_cases c7 : (rd l0 x5_1) = (rd l1 x5_1)
              · rw [if_pos c7] at H
                have c7b0 : ((rd l0 x5_1) == (rd l1 x5_1)) = true := beq_iff_eq.mpr c7
                have c7b1 : ((rd l0 x5_1) != (rd l1 x5_1)) = false := bne_eq_false_iff_eq.mpr c7
                clear c7
                have H' := Aside0.mk H
                clear H
                have p145 : 0 ≤ (x5_1 : Int) := of_decide_eq_true (by first | (with_reducible assumption) | assumption)
                have q145 : x5_1 < (l0.length : Int) := of_decide_eq_true (by first | (with_reducible assumption) | assumption)
                obtain ⟨ad145, e145, hx145_0⟩ := Kd.at_int HR0.out x5_1 p145 q145
                cases e145
                replace p145 := eq_true p145; replace q145 := eq_true q145
                have p146 : 0 ≤ (x5_1 : Int) := of_decide_eq_true (by first | (with_reducible assumption) | assumption)
                have q146 : x5_1 < (l1.length : Int) := of_decide_eq_true (by first | (with_reducible assumption) | assumption)
                obtain ⟨ad146, e146, hx146_0⟩ := Kd.at_int HR1.out x5_1 p146 q146
                cases e146
                replace p146 := eq_true p146; replace q146 := eq_true q146
                go_wp2
                repeat (go_quiet (fail); try go_wp2)
                go_roundg k1
                case measure => have := HK1.out; omega
                case rel => exact ⟨(wrap64 (x5_1 + 1)), (by first | rfl | (simp; done) | (simp [*]; done)), H', ⟨by have := HK1.out; omega⟩, by repeat (first | exact Drawn0.refl _ | apply Drawn0.step)⟩
              rw [if_neg c7] at H
              have c7b0 : ((rd l0 x5_1) == (rd l1 x5_1)) = false := beq_eq_false_iff_ne.mpr c7
              have c7b1 : ((rd l0 x5_1) != (rd l1 x5_1)) = true := bne_iff_ne.mpr c7
              obtain rfl := Option.some.inj H
              have p145 : 0 ≤ (x5_1 : Int) := of_decide_eq_true (by first | (with_reducible assumption) | assumption)
              have q145 : x5_1 < (l0.length : Int) := of_decide_eq_true (by first | (with_reducible assumption) | assumption)
              obtain ⟨ad145, e145, hx145_0⟩ := Kd.at_int HR0.out x5_1 p145 q145
              cases e145
              replace p145 := eq_true p145; replace q145 := eq_true q145
              have p146 : 0 ≤ (x5_1 : Int) := of_decide_eq_true (by first | (with_reducible assumption) | assumption)
              have q146 : x5_1 < (l1.length : Int) := of_decide_eq_true (by first | (with_reducible assumption) | assumption)
              obtain ⟨ad146, e146, hx146_0⟩ := Kd.at_int HR1.out x5_1 p146 q146
              cases e146
              replace p146 := eq_true p146; replace q146 := eq_true q146
              go_wp2
              repeat (go_quiet (fail); try go_wp2)
              go_ret
              exact ⟨by first | rfl | (simp; done) | (simp [*]; done), by repeat (first | exact Drawn0.refl _ | apply Drawn0.step)⟩
            rw [if_neg c6] at H
            exact absurd H (by simp)
          rw [if_neg c5] at H
          exact absurd H (by simp)
        rw [if_neg c4] at H
        have c4b0 : decide (x5_1 < (l0.length : Int)) = false := decide_eq_false c4
        clear c4
        obtain rfl := Option.some.inj H
        go_wp2
        repeat (go_quiet (fail); try go_wp2)
        go_ret
        exact ⟨by first | rfl | (simp; done) | (simp [*]; done), by repeat (first | exact Drawn0.refl _ | apply Drawn0.step)⟩
  rw [if_neg c3] at H
  have c3b0 : ((l0.length : Int) == (l1.length : Int)) = false := beq_eq_false_iff_ne.mpr c3
  have c3b1 : ((l0.length : Int) != (l1.length : Int)) = true := bne_iff_ne.mpr c3
  have c3b2 : (l0.length == l1.length) = false := by first | simpa using c3 | (simp at c3 ⊢; omega)
  obtain rfl := Option.some.inj H
  go_enter Try.func32, Try.ntmps32
  go_wp2
  repeat (go_quiet (fail); try go_wp2)
  go_ret
  exact ⟨by first | rfl | (simp; done) | (simp [*]; done), by repeat (first | exact Drawn0.refl _ | apply Drawn0.step)⟩


/-! ### chequerref03_Same: function 26 -/
def chequerref03_Same.f (k : Nat) (a0_0 : Int) (a0_1 : Int) (l0_2 : List Int) (a1_0 : Int) (a1_1 : Int) (l1_2 : List Int) : Option (Bool) := if a0_0 = a1_0 then (if a0_1 = a1_1 then ((chequerref03_SameRow.f k l0_2 l1_2).bind fun t149 => (some t149)) else (some false)) else (some false)
theorem chequerref03_Same.mono : ∀ a0 a1 a2 a3 a4 a5 k, LeO (chequerref03_Same.f k a0 a1 a2 a3 a4 a5) (chequerref03_Same.f (k + 1) a0 a1 a2 a3 a4 a5) := by
 intro a0 a1 a2 a3 a4 a5 k
 unfold chequerref03_Same.f
 repeat' first
  | (with_reducible exact chequerref03_SameRow.mono _ _ _)
  | (with_reducible exact LeO.refl _)
  | (with_reducible exact LeO.none _)
  | (with_reducible refine LeO.ite ?_ ?_)
  | (with_reducible refine LeO.bind ?_ (fun _ => ?_))
  | exact chequerref03_SameRow.mono _ _ _
  | exact LeO.none _
  | refine LeO.ite ?_ ?_
  | refine LeO.bind ?_ (fun _ => ?_)
set_option maxHeartbeats 8000000 in
set_option maxRecDepth 100000 in
theorem chequerref03_Same.calls (k : Nat) (a0_0 : Int) (a0_1 : Int) (A0_2 : Option Addr) (c0_2 : Nat) (l0_2 : List Int) (a1_0 : Int) (a1_1 : Int) (A1_2 : Option Addr) (c1_2 : Nat) (l1_2 : List Int) (r : Bool) (w : World) (hr0_2 : Kd.C (Kd.int .u64) w A0_2 l0_2.length l0_2) (hc0_2 : l0_2.length ≤ c0_2) (hr1_2 : Kd.C (Kd.int .u64) w A1_2 l1_2.length l1_2) (hc1_2 : l1_2.length ≤ c1_2) (h : chequerref03_Same.f k a0_0 a0_1 l0_2 a1_0 a1_1 l1_2 = some r) :
 Calls Try.prog 26 #[.agg #[.int .i64 a0_0, .int .i64 a0_1, .slice A0_2 l0_2.length c0_2], .agg #[.int .i64 a1_0, .int .i64 a1_1, .slice A1_2 l1_2.length c1_2]] w fun e w' => e = .returned (.bool r) ∧ Below w.heap.size w w' := by
 have hu24 := Try.underlying24
 have HR0_2 := Aside0.mk hr0_2
 have HC0_2 := Aside0.mk hc0_2
 clear hr0_2 hc0_2
 have HR1_2 := Aside0.mk hr1_2
 have HC1_2 := Aside0.mk hc1_2
 clear hr1_2 hc1_2
 have HB := Aside0.mk (Below.refl w.heap.size w)
 have H : (if a0_0 = a1_0 then (if a0_1 = a1_1 then ((chequerref03_SameRow.f k l0_2 l1_2).bind fun t149 => (some t149)) else (some false)) else (some false)) = some r := h
 clear h
 by_cases c3 : a0_0 = a1_0
 · rw [if_pos c3] at H
   have c3b0 : (a0_0 == a1_0) = true := beq_iff_eq.mpr c3
   have c3b1 : (a0_0 != a1_0) = false := bne_eq_false_iff_eq.mpr c3
   clear c3
   by_cases c4 : a0_1 = a1_1
   · rw [if_pos c4] at H
     have c4b0 : (a0_1 == a1_1) = true := beq_iff_eq.mpr c4
     have c4b1 : (a0_1 != a1_1) = false := bne_eq_false_iff_eq.mpr c4
     clear c4; replace H := Option.bind_eq_some_iff.mp H; obtain ⟨t149, A50, H⟩ := H
     replace H : (some t149) = some r := H
     have A5 := Aside0.mk A50; clear A50
     obtain rfl := Option.some.inj H
     go_enter Try.func26, Try.ntmps26
     go_wp2_with (first | ((with_reducible refine gate_dst (N := 2) rfl ?_); refine box_event ?hg (N := 2) ?hd (cs := #[.int .i64 a0_0, .int .i64 a0_1, .slice A0_2 l0_2.length c0_2]) (t := 24) ?hr ?_; (case hd => rfl); (case hg => rfl); (case hr => first | (go_simp; done) | (go_simp; rfl)); intro gb147 hg w6 hbox hb; have BK147 := Aside0.mk (hbox); have GW147 := Aside0.mk ((by rw [hg]; exact (below_size bp_) : w.heap.size ≤ gb147)); have GE147 := Aside0.mk ((by rw [hg]; exact (below_size bp_) : w.heap.size ≤ gb147)); replace HB := Aside0.mk (below_step bp_ hb); clear hb hbox hg) | ((with_reducible refine gate_dst (N := 3) rfl ?_); refine box_event ?hg (N := 3) ?hd (cs := #[.int .i64 a1_0, .int .i64 a1_1, .slice A1_2 l1_2.length c1_2]) (t := 24) ?hr ?_; (case hd => rfl); (case hg => rfl); (case hr => first | (go_simp; done) | (go_simp; rfl)); intro gb148 hg w7 hbox hb; have BK148 := Aside0.mk (hbox); have GW148 := Aside0.mk ((by rw [hg]; exact (below_size bp_) : w.heap.size ≤ gb148)); have GE148 := Aside0.mk ((by rw [hg]; exact (below_size bp_) : w.heap.size ≤ gb148)); replace HB := Aside0.mk (below_step bp_ hb); have NB147_148 := Aside0.mk ((nlt_ hg (hp_ BK147.out))); have NB148_147 := Aside0.mk ((ngt_ hg (hp_ BK147.out))); replace BK147 := kb_ BK147.out hb; clear hb hbox hg; have hnb8 := NB147_148.out; have hnc8 := NB148_147.out; have hcz9_0 : w7.cell? ⟨gb147, 0, none⟩ = some (.int .i64 a0_0) := bc_ BK147.out 0; have hcz9_1 : w7.cell? ⟨gb147, 1, none⟩ = some (.int .i64 a0_1) := bc_ BK147.out 1; have hcz9_2 : w7.cell? ⟨gb147, 2, none⟩ = some (.slice A0_2 l0_2.length c0_2) := bc_ BK147.out 2; have hfz9_0 := blk_frozen BK147.out 0; have hfz9_1 := blk_frozen BK147.out 1; have hfz9_2 := blk_frozen BK147.out 2; have hcz10_0 : w7.cell? ⟨gb148, 0, none⟩ = some (.int .i64 a1_0) := bc_ BK148.out 0; have hcz10_1 : w7.cell? ⟨gb148, 1, none⟩ = some (.int .i64 a1_1) := bc_ BK148.out 1; have hcz10_2 : w7.cell? ⟨gb148, 2, none⟩ = some (.slice A1_2 l1_2.length c1_2) := bc_ BK148.out 2; have hfz10_0 := blk_frozen BK148.out 0; have hfz10_1 := blk_frozen BK148.out 1; have hfz10_2 := blk_frozen BK148.out 2) | (go_at_call 32; (with_reducible refine (chequerref03_SameRow.calls k _ _ l0_2 _ _ l1_2 t149 _ ?side1 ?side2 ?side3 ?side4 A5.out).mono ?_); (case side1 => repeat (first | exact (Kd.C_below HR0_2.out HB.out) | (with_reducible refine Kd.C_alloc ?_ _) | (with_reducible refine Kd.C_drewN ?_ _) | (with_reducible refine Kd.C_drew ?_))); (case side2 => exact HC0_2.out); (case side3 => repeat (first | exact (Kd.C_below HR1_2.out HB.out) | (with_reducible refine Kd.C_alloc ?_ _) | (with_reducible refine Kd.C_drewN ?_ _) | (with_reducible refine Kd.C_drew ?_))); (case side4 => exact HC1_2.out); rintro e w' ⟨rfl, ⟨nd, rfl⟩⟩))
     go_ret
     exact ⟨by first | rfl | (simp [errW_none, errW_some] <;> rfl) | (simp [*, errW_none, errW_some] <;> rfl), bp_⟩
   rw [if_neg c4] at H
   have c4b0 : (a0_1 == a1_1) = false := beq_eq_false_iff_ne.mpr c4
   have c4b1 : (a0_1 != a1_1) = true := bne_iff_ne.mpr c4
   obtain rfl := Option.some.inj H
   go_enter Try.func26, Try.ntmps26
   go_wp2_with (first | ((with_reducible refine gate_dst (N := 2) rfl ?_); refine box_event ?hg (N := 2) ?hd (cs := #[.int .i64 a0_0, .int .i64 a0_1, .slice A0_2 l0_2.length c0_2]) (t := 24) ?hr ?_; (case hd => rfl); (case hg => rfl); (case hr => first | (go_simp; done) | (go_simp; rfl)); intro gb147 hg w11 hbox hb; have BK147 := Aside0.mk (hbox); have GW147 := Aside0.mk ((by rw [hg]; exact (below_size bp_) : w.heap.size ≤ gb147)); have GE147 := Aside0.mk ((by rw [hg]; exact (below_size bp_) : w.heap.size ≤ gb147)); replace HB := Aside0.mk (below_step bp_ hb); clear hb hbox hg) | ((with_reducible refine gate_dst (N := 3) rfl ?_); refine box_event ?hg (N := 3) ?hd (cs := #[.int .i64 a1_0, .int .i64 a1_1, .slice A1_2 l1_2.length c1_2]) (t := 24) ?hr ?_; (case hd => rfl); (case hg => rfl); (case hr => first | (go_simp; done) | (go_simp; rfl)); intro gb148 hg w12 hbox hb; have BK148 := Aside0.mk (hbox); have GW148 := Aside0.mk ((by rw [hg]; exact (below_size bp_) : w.heap.size ≤ gb148)); have GE148 := Aside0.mk ((by rw [hg]; exact (below_size bp_) : w.heap.size ≤ gb148)); replace HB := Aside0.mk (below_step bp_ hb); have NB147_148 := Aside0.mk ((nlt_ hg (hp_ BK147.out))); have NB148_147 := Aside0.mk ((ngt_ hg (hp_ BK147.out))); replace BK147 := kb_ BK147.out hb; clear hb hbox hg; have hnb13 := NB147_148.out; have hnc13 := NB148_147.out; have hcz14_0 : w12.cell? ⟨gb147, 0, none⟩ = some (.int .i64 a0_0) := bc_ BK147.out 0; have hcz14_1 : w12.cell? ⟨gb147, 1, none⟩ = some (.int .i64 a0_1) := bc_ BK147.out 1; have hcz14_2 : w12.cell? ⟨gb147, 2, none⟩ = some (.slice A0_2 l0_2.length c0_2) := bc_ BK147.out 2; have hfz14_0 := blk_frozen BK147.out 0; have hfz14_1 := blk_frozen BK147.out 1; have hfz14_2 := blk_frozen BK147.out 2; have hcz15_0 : w12.cell? ⟨gb148, 0, none⟩ = some (.int .i64 a1_0) := bc_ BK148.out 0; have hcz15_1 : w12.cell? ⟨gb148, 1, none⟩ = some (.int .i64 a1_1) := bc_ BK148.out 1; have hcz15_2 : w12.cell? ⟨gb148, 2, none⟩ = some (.slice A1_2 l1_2.length c1_2) := bc_ BK148.out 2; have hfz15_0 := blk_frozen BK148.out 0; have hfz15_1 := blk_frozen BK148.out 1; have hfz15_2 := blk_frozen BK148.out 2))
   go_ret
   exact ⟨by first | rfl | (simp [errW_none, errW_some] <;> rfl) | (simp [*, errW_none, errW_some] <;> rfl), bp_⟩
 rw [if_neg c3] at H
 have c3b0 : (a0_0 == a1_0) = false := beq_eq_false_iff_ne.mpr c3
 have c3b1 : (a0_0 != a1_0) = true := bne_iff_ne.mpr c3
 obtain rfl := Option.some.inj H
 go_enter Try.func26, Try.ntmps26
 go_wp2_with (first | ((with_reducible refine gate_dst (N := 2) rfl ?_); refine box_event ?hg (N := 2) ?hd (cs := #[.int .i64 a0_0, .int .i64 a0_1, .slice A0_2 l0_2.length c0_2]) (t := 24) ?hr ?_; (case hd => rfl); (case hg => rfl); (case hr => first | (go_simp; done) | (go_simp; rfl)); intro gb147 hg w16 hbox hb; have BK147 := Aside0.mk (hbox); have GW147 := Aside0.mk ((by rw [hg]; exact (below_size bp_) : w.heap.size ≤ gb147)); have GE147 := Aside0.mk ((by rw [hg]; exact (below_size bp_) : w.heap.size ≤ gb147)); replace HB := Aside0.mk (below_step bp_ hb); clear hb hbox hg) | ((with_reducible refine gate_dst (N := 3) rfl ?_); refine box_event ?hg (N := 3) ?hd (cs := #[.int .i64 a1_0, .int .i64 a1_1, .slice A1_2 l1_2.length c1_2]) (t := 24) ?hr ?_; (case hd => rfl); (case hg => rfl); (case hr => first | (go_simp; done) | (go_simp; rfl)); intro gb148 hg w17 hbox hb; have BK148 := Aside0.mk (hbox); have GW148 := Aside0.mk ((by rw [hg]; exact (below_size bp_) : w.heap.size ≤ gb148)); have GE148 := Aside0.mk ((by rw [hg]; exact (below_size bp_) : w.heap.size ≤ gb148)); replace HB := Aside0.mk (below_step bp_ hb); have NB147_148 := Aside0.mk ((nlt_ hg (hp_ BK147.out))); have NB148_147 := Aside0.mk ((ngt_ hg (hp_ BK147.out))); replace BK147 := kb_ BK147.out hb; clear hb hbox hg; have hnb18 := NB147_148.out; have hnc18 := NB148_147.out; have hcz19_0 : w17.cell? ⟨gb147, 0, none⟩ = some (.int .i64 a0_0) := bc_ BK147.out 0; have hcz19_1 : w17.cell? ⟨gb147, 1, none⟩ = some (.int .i64 a0_1) := bc_ BK147.out 1; have hcz19_2 : w17.cell? ⟨gb147, 2, none⟩ = some (.slice A0_2 l0_2.length c0_2) := bc_ BK147.out 2; have hfz19_0 := blk_frozen BK147.out 0; have hfz19_1 := blk_frozen BK147.out 1; have hfz19_2 := blk_frozen BK147.out 2; have hcz20_0 : w17.cell? ⟨gb148, 0, none⟩ = some (.int .i64 a1_0) := bc_ BK148.out 0; have hcz20_1 : w17.cell? ⟨gb148, 1, none⟩ = some (.int .i64 a1_1) := bc_ BK148.out 1; have hcz20_2 : w17.cell? ⟨gb148, 2, none⟩ = some (.slice A1_2 l1_2.length c1_2) := bc_ BK148.out 2; have hfz20_0 := blk_frozen BK148.out 0; have hfz20_1 := blk_frozen BK148.out 1; have hfz20_2 := blk_frozen BK148.out 2))
 go_ret
 exact ⟨by first | rfl | (simp [errW_none, errW_some] <;> rfl) | (simp [*, errW_none, errW_some] <;> rfl), bp_⟩


/-! ### chequerref03_Has: function 28 -/
def chequerref03_Has.f (k : Nat) (a0_0 : Int) (a0_1 : Int) (l0_2 : List Int) (a1_0 : Int) (a1_1 : Int) (l1_2 : List Int) (a2 : Int) (a3 : Int) : Option (Bool) := (chequerref03_Sub.f k a0_0 a0_1 l0_2 a2 a3 a1_0 a1_1).bind fun bt152 => (if bt152.2.2.2 = true then ((chequerref03_Same.f k bt152.1 bt152.2.1 bt152.2.2.1 a1_0 a1_1 l1_2).bind fun t159 => (some t159)) else (some false))
theorem chequerref03_Has.mono : ∀ a0 a1 a2 a3 a4 a5 a6 a7 k, LeO (chequerref03_Has.f k a0 a1 a2 a3 a4 a5 a6 a7) (chequerref03_Has.f (k + 1) a0 a1 a2 a3 a4 a5 a6 a7) := by
 intro a0 a1 a2 a3 a4 a5 a6 a7 k
 unfold chequerref03_Has.f
 repeat' first
  | (with_reducible exact chequerref03_Same.mono _ _ _ _ _ _ _)
  | (with_reducible exact chequerref03_Sub.mono _ _ _ _ _ _ _ _)
  | (with_reducible exact LeO.refl _)
  | (with_reducible exact LeO.none _)
  | (with_reducible refine LeO.ite ?_ ?_)
  | (with_reducible refine LeO.bind ?_ (fun _ => ?_))
  | exact chequerref03_Same.mono _ _ _ _ _ _ _
  | exact chequerref03_Sub.mono _ _ _ _ _ _ _ _
  | exact LeO.none _
  | refine LeO.ite ?_ ?_
  | refine LeO.bind ?_ (fun _ => ?_)
set_option maxHeartbeats 8000000 in
set_option maxRecDepth 100000 in
theorem chequerref03_Has.calls (k : Nat) (a0_0 : Int) (a0_1 : Int) (A0_2 : Option Addr) (c0_2 : Nat) (l0_2 : List Int) (a1_0 : Int) (a1_1 : Int) (A1_2 : Option Addr) (c1_2 : Nat) (l1_2 : List Int) (a2 : Int) (a3 : Int) (r : Bool) (w : World) (hr0_2 : Kd.C (Kd.int .u64) w A0_2 l0_2.length l0_2) (hc0_2 : l0_2.length ≤ c0_2) (hr1_2 : Kd.C (Kd.int .u64) w A1_2 l1_2.length l1_2) (hc1_2 : l1_2.length ≤ c1_2) (h : chequerref03_Has.f k a0_0 a0_1 l0_2 a1_0 a1_1 l1_2 a2 a3 = some r) :
 Calls Try.prog 28 #[.agg #[.int .i64 a0_0, .int .i64 a0_1, .slice A0_2 l0_2.length c0_2], .agg #[.int .i64 a1_0, .int .i64 a1_1, .slice A1_2 l1_2.length c1_2], .int .i64 a2, .int .i64 a3] w fun e w' => e = .returned (.bool r) ∧ Below w.heap.size w w' := by
 have hu24 := Try.underlying24
 have HR0_2 := Aside0.mk hr0_2
 have HC0_2 := Aside0.mk hc0_2
 clear hr0_2 hc0_2
 have HR1_2 := Aside0.mk hr1_2
 have HC1_2 := Aside0.mk hc1_2
 clear hr1_2 hc1_2
 have HB := Aside0.mk (Below.refl w.heap.size w)
 have H : ((chequerref03_Sub.f k a0_0 a0_1 l0_2 a2 a3 a1_0 a1_1).bind fun bt152 => (if bt152.2.2.2 = true then ((chequerref03_Same.f k bt152.1 bt152.2.1 bt152.2.2.1 a1_0 a1_1 l1_2).bind fun t159 => (some t159)) else (some false))) = some r := h
 clear h
 replace H := Option.bind_eq_some_iff.mp H
 obtain ⟨⟨t152, t153, t154, t157⟩, A50, H⟩ := H
 replace H : (if t157 = true then ((chequerref03_Same.f k t152 t153 t154 a1_0 a1_1 l1_2).bind fun t159 => (some t159)) else (some false)) = some r := H
 have A5 := Aside0.mk A50
 clear A50
 by_cases c6 : t157 = true
 · subst c6
   have H1 : ((chequerref03_Same.f k t152 t153 t154 a1_0 a1_1 l1_2).bind fun t159 => (some t159)) = some r := by rw [if_pos rfl] at H; exact H
   clear H; have H := H1; clear H1; replace H := Option.bind_eq_some_iff.mp H; obtain ⟨t159, A70, H⟩ := H
   replace H : (some t159) = some r := H
   have A7 := Aside0.mk A70; clear A70
   obtain rfl := Option.some.inj H
   go_enter Try.func28, Try.ntmps28
   go_wp2_with (first | ((with_reducible refine gate_dst (N := 4) rfl ?_); refine box_event ?hg (N := 4) ?hd (cs := #[.int .i64 a0_0, .int .i64 a0_1, .slice A0_2 l0_2.length c0_2]) (t := 24) ?hr ?_; (case hd => rfl); (case hg => rfl); (case hr => first | (go_simp; done) | (go_simp; rfl)); intro gb150 hg w8 hbox hb; have BK150 := Aside0.mk (hbox); have GW150 := Aside0.mk ((by rw [hg]; exact (below_size bp_) : w.heap.size ≤ gb150)); have GE150 := Aside0.mk ((by rw [hg]; exact (below_size bp_) : w.heap.size ≤ gb150)); replace HB := Aside0.mk (below_step bp_ hb); clear hb hbox hg) | ((with_reducible refine gate_dst (N := 5) rfl ?_); refine box_event ?hg (N := 5) ?hd (cs := #[.int .i64 a1_0, .int .i64 a1_1, .slice A1_2 l1_2.length c1_2]) (t := 24) ?hr ?_; (case hd => rfl); (case hg => rfl); (case hr => first | (go_simp; done) | (go_simp; rfl)); intro gb151 hg w9 hbox hb; have BK151 := Aside0.mk (hbox); have GW151 := Aside0.mk ((by rw [hg]; exact (below_size bp_) : w.heap.size ≤ gb151)); have GE151 := Aside0.mk ((by rw [hg]; exact (below_size bp_) : w.heap.size ≤ gb151)); replace HB := Aside0.mk (below_step bp_ hb); have NB150_151 := Aside0.mk ((nlt_ hg (hp_ BK150.out))); have NB151_150 := Aside0.mk ((ngt_ hg (hp_ BK150.out))); replace BK150 := kb_ BK150.out hb; clear hb hbox hg; have hnb10 := NB150_151.out; have hnc10 := NB151_150.out; have hcz11_0 : w9.cell? ⟨gb150, 0, none⟩ = some (.int .i64 a0_0) := bc_ BK150.out 0; have hcz11_1 : w9.cell? ⟨gb150, 1, none⟩ = some (.int .i64 a0_1) := bc_ BK150.out 1; have hcz11_2 : w9.cell? ⟨gb150, 2, none⟩ = some (.slice A0_2 l0_2.length c0_2) := bc_ BK150.out 2; have hfz11_0 := blk_frozen BK150.out 0; have hfz11_1 := blk_frozen BK150.out 1; have hfz11_2 := blk_frozen BK150.out 2; have hcz12_0 : w9.cell? ⟨gb151, 0, none⟩ = some (.int .i64 a1_0) := bc_ BK151.out 0; have hcz12_1 : w9.cell? ⟨gb151, 1, none⟩ = some (.int .i64 a1_1) := bc_ BK151.out 1; have hcz12_2 : w9.cell? ⟨gb151, 2, none⟩ = some (.slice A1_2 l1_2.length c1_2) := bc_ BK151.out 2; have hfz12_0 := blk_frozen BK151.out 0; have hfz12_1 := blk_frozen BK151.out 1; have hfz12_2 := blk_frozen BK151.out 2) | ((with_reducible refine gate_callee (f := 12) rfl ?_); refine goQ_ (some 19) Try.func12 #[.agg #[.int .i64 a0_0, .int .i64 a0_1, .slice A0_2 l0_2.length c0_2], .int .i64 a2, .int .i64 a3, .int .i64 a1_0, .int .i64 a1_1] ?_; (with_reducible refine (chequerref03_Sub.calls k a0_0 a0_1 _ _ l0_2 a2 a3 a1_0 a1_1 t152 t153 t154 true _ ?side1 ?side2 A5.out).mono ?_); (case side1 => repeat (first | exact (Kd.C_below HR0_2.out HB.out) | (with_reducible refine Kd.C_alloc ?_ _) | (with_reducible refine Kd.C_drewN ?_ _) | (with_reducible refine Kd.C_drew ?_))); (case side2 => exact HC0_2.out); rintro e w13 ⟨v155, rfl, ho0, hb⟩; refine ⟨_, rfl, ?_⟩; have HO156 := Aside0.mk (Kd.R_lower ho0 (below_size bp_)); replace BK151 := kb_ BK151.out hb; replace HB := Aside0.mk (below_step bp_ hb); (try clear hb); (try clear hb2); (try clear hk); (try clear hi); (try clear ho0)) | ((with_reducible refine gate_dst (N := 9) rfl ?_); refine box_event ?hg (N := 9) ?hd (cs := #[.int .i64 0, .int .i64 0, .slice none 0 0]) (t := 24) ?hr ?_; (case hd => rfl); (case hg => rfl); (case hr => first | (go_simp; done) | (go_simp; rfl)); intro gb158 hg w14 hbox hb; replace HO156 := rb_ HO156.out hb; have BK158 := Aside0.mk (hbox); have GW158 := Aside0.mk ((by rw [hg]; exact (below_size bp_) : w.heap.size ≤ gb158)); have GE158 := Aside0.mk ((by rw [hg]; exact (below_size bp_) : w.heap.size ≤ gb158)); replace HB := Aside0.mk (below_step bp_ hb); have NB151_158 := Aside0.mk ((nlt_ hg (hp_ BK151.out))); have NB158_151 := Aside0.mk ((ngt_ hg (hp_ BK151.out))); replace BK151 := kb_ BK151.out hb; clear hb hbox hg; have hnb15 := NB158_151.out; have hnc15 := NB151_158.out; have hcz16_0 : w14.cell? ⟨gb158, 0, none⟩ = some (.int .i64 0) := bc_ BK158.out 0; have hcz16_1 : w14.cell? ⟨gb158, 1, none⟩ = some (.int .i64 0) := bc_ BK158.out 1; have hcz16_2 : w14.cell? ⟨gb158, 2, none⟩ = some (.slice none 0 0) := bc_ BK158.out 2; have hfz16_0 := blk_frozen BK158.out 0; have hfz16_1 := blk_frozen BK158.out 1; have hfz16_2 := blk_frozen BK158.out 2; obtain ⟨Ao17, co17, eo17⟩ := Kd.R_slice HO156.out; subst eo17; have hcz18_0 : w14.cell? ⟨gb151, 0, none⟩ = some (.int .i64 a1_0) := bc_ BK151.out 0; have hcz18_1 : w14.cell? ⟨gb151, 1, none⟩ = some (.int .i64 a1_1) := bc_ BK151.out 1; have hcz18_2 : w14.cell? ⟨gb151, 2, none⟩ = some (.slice A1_2 l1_2.length c1_2) := bc_ BK151.out 2; have hfz18_0 := blk_frozen BK151.out 0; have hfz18_1 := blk_frozen BK151.out 1; have hfz18_2 := blk_frozen BK151.out 2) | (go_at_call 26; (with_reducible refine (chequerref03_Same.calls k t152 t153 _ _ t154 a1_0 a1_1 _ _ l1_2 t159 _ ?side1 ?side2 ?side3 ?side4 A7.out).mono ?_); (case side1 => refine (Kd.R_reads' (e := 46) (base := w.heap.size) (ok := fun k_ => True) (n := t154.length) (c := co17) ?_).2.2; exact (by (with_reducible repeat (first | apply Kd.R_alloc | apply Kd.R_drewN | apply Kd.R_drew)); exact (Kd.R_mono (Kd.R_far (p := ⟨gb158, 2, none⟩) (Kd.R_far (p := ⟨gb158, 1, none⟩) (Kd.R_far (p := ⟨gb158, 0, none⟩) (Kd.R_types HO156.out BK158.out (by decide)) (fun _ hk => hk.2) (.int .i64 t152)) (fun _ hk => hk.2) (.int .i64 t153)) (fun _ hk => hk.2) (.slice Ao17 t154.length co17)) (fun _ h_ => h_.1)))); (case side2 => exact (Kd.R_reads' HO156.out).2.1); (case side3 => exact Kd.C_below HR1_2.out bp_); (case side4 => exact HC1_2.out); rintro e w19 ⟨rfl, hb⟩; replace HO156 := Aside0.mk (Kd.R_below (by (with_reducible repeat (first | apply Kd.R_alloc | apply Kd.R_drewN | apply Kd.R_drew)); exact (Kd.R_mono (Kd.R_far (p := ⟨gb158, 2, none⟩) (Kd.R_far (p := ⟨gb158, 1, none⟩) (Kd.R_far (p := ⟨gb158, 0, none⟩) (Kd.R_types HO156.out BK158.out (by decide)) (fun _ hk => hk.2) (.int .i64 t152)) (fun _ hk => hk.2) (.int .i64 t153)) (fun _ hk => hk.2) (.slice Ao17 t154.length co17)) (fun _ h_ => h_.1))) hb); replace BK151 := Aside0.mk (blk_below (hf_ BK151.out NB151_158.out) hb); replace BK158 := Aside0.mk (blk_below (g := gb158) (o := .cells #[.int .i64 t152, .int .i64 t153, .slice Ao17 t154.length co17] 24 (0, 0)) (by (with_reducible repeat (first | refine blk_drewN ?_ _ | refine blk_drew ?_ | refine blk_alloc ?_ _)); refine blk_put (cs := #[.int .i64 t152, .int .i64 t153, .slice none 0 0]) ?_ 2 _ rfl; (with_reducible repeat (first | refine blk_drewN ?_ _ | refine blk_drew ?_ | refine blk_alloc ?_ _)); refine blk_put (cs := #[.int .i64 t152, .int .i64 0, .slice none 0 0]) ?_ 1 _ rfl; (with_reducible repeat (first | refine blk_drewN ?_ _ | refine blk_drew ?_ | refine blk_alloc ?_ _)); refine blk_put (cs := #[.int .i64 0, .int .i64 0, .slice none 0 0]) ?_ 0 _ rfl; (with_reducible repeat (first | refine blk_drewN ?_ _ | refine blk_drew ?_ | refine blk_alloc ?_ _)); exact BK158.out) hb); replace HB := Aside0.mk (below_step bp_ hb); (try clear hb); (try clear hb2); (try clear hk); (try clear hi)))
   go_ret
   exact ⟨by first | rfl | (simp [errW_none, errW_some] <;> rfl) | (simp [*, errW_none, errW_some] <;> rfl), bp_⟩
 replace c6 := Bool.eq_false_iff.mpr c6
 subst c6
 have H1 : (some false) = some r := by rw [if_neg (show ¬ (false = true) by decide)] at H; exact H
 clear H
 have H := H1
 clear H1
 obtain rfl := Option.some.inj H
 go_enter Try.func28, Try.ntmps28
 go_wp2_with (first | ((with_reducible refine gate_dst (N := 4) rfl ?_); refine box_event ?hg (N := 4) ?hd (cs := #[.int .i64 a0_0, .int .i64 a0_1, .slice A0_2 l0_2.length c0_2]) (t := 24) ?hr ?_; (case hd => rfl); (case hg => rfl); (case hr => first | (go_simp; done) | (go_simp; rfl)); intro gb150 hg w20 hbox hb; have BK150 := Aside0.mk (hbox); have GW150 := Aside0.mk ((by rw [hg]; exact (below_size bp_) : w.heap.size ≤ gb150)); have GE150 := Aside0.mk ((by rw [hg]; exact (below_size bp_) : w.heap.size ≤ gb150)); replace HB := Aside0.mk (below_step bp_ hb); clear hb hbox hg) | ((with_reducible refine gate_dst (N := 5) rfl ?_); refine box_event ?hg (N := 5) ?hd (cs := #[.int .i64 a1_0, .int .i64 a1_1, .slice A1_2 l1_2.length c1_2]) (t := 24) ?hr ?_; (case hd => rfl); (case hg => rfl); (case hr => first | (go_simp; done) | (go_simp; rfl)); intro gb151 hg w21 hbox hb; have BK151 := Aside0.mk (hbox); have GW151 := Aside0.mk ((by rw [hg]; exact (below_size bp_) : w.heap.size ≤ gb151)); have GE151 := Aside0.mk ((by rw [hg]; exact (below_size bp_) : w.heap.size ≤ gb151)); replace HB := Aside0.mk (below_step bp_ hb); have NB150_151 := Aside0.mk ((nlt_ hg (hp_ BK150.out))); have NB151_150 := Aside0.mk ((ngt_ hg (hp_ BK150.out))); replace BK150 := kb_ BK150.out hb; clear hb hbox hg; have hnb22 := NB150_151.out; have hnc22 := NB151_150.out; have hcz23_0 : w21.cell? ⟨gb150, 0, none⟩ = some (.int .i64 a0_0) := bc_ BK150.out 0; have hcz23_1 : w21.cell? ⟨gb150, 1, none⟩ = some (.int .i64 a0_1) := bc_ BK150.out 1; have hcz23_2 : w21.cell? ⟨gb150, 2, none⟩ = some (.slice A0_2 l0_2.length c0_2) := bc_ BK150.out 2; have hfz23_0 := blk_frozen BK150.out 0; have hfz23_1 := blk_frozen BK150.out 1; have hfz23_2 := blk_frozen BK150.out 2; have hcz24_0 : w21.cell? ⟨gb151, 0, none⟩ = some (.int .i64 a1_0) := bc_ BK151.out 0; have hcz24_1 : w21.cell? ⟨gb151, 1, none⟩ = some (.int .i64 a1_1) := bc_ BK151.out 1; have hcz24_2 : w21.cell? ⟨gb151, 2, none⟩ = some (.slice A1_2 l1_2.length c1_2) := bc_ BK151.out 2; have hfz24_0 := blk_frozen BK151.out 0; have hfz24_1 := blk_frozen BK151.out 1; have hfz24_2 := blk_frozen BK151.out 2) | ((with_reducible refine gate_callee (f := 12) rfl ?_); refine goQ_ (some 19) Try.func12 #[.agg #[.int .i64 a0_0, .int .i64 a0_1, .slice A0_2 l0_2.length c0_2], .int .i64 a2, .int .i64 a3, .int .i64 a1_0, .int .i64 a1_1] ?_; (with_reducible refine (chequerref03_Sub.calls k a0_0 a0_1 _ _ l0_2 a2 a3 a1_0 a1_1 t152 t153 t154 false _ ?side1 ?side2 A5.out).mono ?_); (case side1 => repeat (first | exact (Kd.C_below HR0_2.out HB.out) | (with_reducible refine Kd.C_alloc ?_ _) | (with_reducible refine Kd.C_drewN ?_ _) | (with_reducible refine Kd.C_drew ?_))); (case side2 => exact HC0_2.out); rintro e w25 ⟨v155, rfl, ho0, hb⟩; refine ⟨_, rfl, ?_⟩; have HO156 := Aside0.mk (Kd.R_lower ho0 (below_size bp_)); replace HB := Aside0.mk (below_step bp_ hb); (try clear hb); (try clear hb2); (try clear hk); (try clear hi); (try clear ho0)) | ((with_reducible refine gate_dst (N := 9) rfl ?_); refine box_event ?hg (N := 9) ?hd (cs := #[.int .i64 0, .int .i64 0, .slice none 0 0]) (t := 24) ?hr ?_; (case hd => rfl); (case hg => rfl); (case hr => first | (go_simp; done) | (go_simp; rfl)); intro gb158 hg w26 hbox hb; replace HO156 := rb_ HO156.out hb; have BK158 := Aside0.mk (hbox); have GW158 := Aside0.mk ((by rw [hg]; exact (below_size bp_) : w.heap.size ≤ gb158)); have GE158 := Aside0.mk ((by rw [hg]; exact (below_size bp_) : w.heap.size ≤ gb158)); replace HB := Aside0.mk (below_step bp_ hb); clear hb hbox hg; have hcz27_0 : w26.cell? ⟨gb158, 0, none⟩ = some (.int .i64 0) := bc_ BK158.out 0; have hcz27_1 : w26.cell? ⟨gb158, 1, none⟩ = some (.int .i64 0) := bc_ BK158.out 1; have hcz27_2 : w26.cell? ⟨gb158, 2, none⟩ = some (.slice none 0 0) := bc_ BK158.out 2; have hfz27_0 := blk_frozen BK158.out 0; have hfz27_1 := blk_frozen BK158.out 1; have hfz27_2 := blk_frozen BK158.out 2; obtain ⟨Ao28, co28, eo28⟩ := Kd.R_slice HO156.out; subst eo28))
 go_ret
 exact ⟨by first | rfl | (simp [errW_none, errW_some] <;> rfl) | (simp [*, errW_none, errW_some] <;> rfl), bp_⟩


/-! ### chequerref03_Find: function 15 -/
mutual
def chequerref03_Find.l0 : Nat → List (S36) → Int → Int → Int → List Int → Int → Int → List Int → Option ((List (S36)))
 | 0, _, _, _, _, _, _, _, _ => none
 | k + 1, x5, x6, x161000, x161001, x161002, x162000, x162001, x162002 => if x6 < x161001 then (chequerref03_Find.l1 k x5 x6 0 x161000 x161001 x161002 x162000 x162001 x162002) else (some x5)
def chequerref03_Find.l1 : Nat → List (S36) → Int → Int → Int → Int → List Int → Int → Int → List Int → Option ((List (S36)))
 | 0, _, _, _, _, _, _, _, _, _ => none
 | k + 1, x5, x6, x7, x161000, x161001, x161002, x162000, x162001, x162002 => if x7 < x161000 then ((chequerref03_Has.f k x161000 x161001 x161002 x162000 x162001 x162002 x7 x6).bind fun t162 => (if t162 = true then (if x5.length < 8796093022208 then (chequerref03_Find.l1 k (x5 ++ [(⟨x7, x6⟩ : S36)]) x6 (wrap64 (x7 + 1)) x161000 x161001 x161002 x162000 x162001 x162002) else (none)) else (chequerref03_Find.l1 k x5 x6 (wrap64 (x7 + 1)) x161000 x161001 x161002 x162000 x162001 x162002))) else (chequerref03_Find.l0 k x5 (wrap64 (x6 + 1)) x161000 x161001 x161002 x162000 x162001 x162002)
end
def chequerref03_Find.f (k : Nat) (a0_0 : Int) (a0_1 : Int) (l0_2 : List Int) (a1_0 : Int) (a1_1 : Int) (l1_2 : List Int) : Option ((List (S36))) := chequerref03_Find.l0 k ([] : List (S36)) 0 a0_0 a0_1 l0_2 a1_0 a1_1 l1_2
theorem chequerref03_Find.mono_l : ∀ k, (∀ y0 y1 y2 y3 y4 y5 y6 y7, LeO (chequerref03_Find.l0 k y0 y1 y2 y3 y4 y5 y6 y7) (chequerref03_Find.l0 (k + 1) y0 y1 y2 y3 y4 y5 y6 y7)) ∧ (∀ y0 y1 y2 y3 y4 y5 y6 y7 y8, LeO (chequerref03_Find.l1 k y0 y1 y2 y3 y4 y5 y6 y7 y8) (chequerref03_Find.l1 (k + 1) y0 y1 y2 y3 y4 y5 y6 y7 y8))
 | 0 => ⟨fun _ _ _ _ _ _ _ _ r h => by simp [chequerref03_Find.l0] at h, fun _ _ _ _ _ _ _ _ _ r h => by simp [chequerref03_Find.l1] at h⟩
 | k + 1 => by
  obtain ⟨ih0, ih1⟩ := chequerref03_Find.mono_l k
  refine ⟨?_, ?_⟩
  · intro y0 y1 y2 y3 y4 y5 y6 y7
    unfold chequerref03_Find.l0
    repeat' first
    | (with_reducible exact ih0 _ _ _ _ _ _ _ _)
    | (with_reducible exact ih1 _ _ _ _ _ _ _ _ _)
    | (with_reducible exact chequerref03_Has.mono _ _ _ _ _ _ _ _ _)
    | (with_reducible exact LeO.refl _)
    | (with_reducible exact LeO.none _)
    | (with_reducible refine LeO.ite ?_ ?_)
    | (with_reducible refine LeO.bind ?_ (fun _ => ?_))
    | exact ih0 _ _ _ _ _ _ _ _
    | exact ih1 _ _ _ _ _ _ _ _ _
    | exact chequerref03_Has.mono _ _ _ _ _ _ _ _ _
    | exact LeO.none _
    | refine LeO.ite ?_ ?_
    | refine LeO.bind ?_ (fun _ => ?_)
  intro y0 y1 y2 y3 y4 y5 y6 y7 y8
  unfold chequerref03_Find.l1
  repeat' first
  | (with_reducible exact ih0 _ _ _ _ _ _ _ _)
  | (with_reducible exact ih1 _ _ _ _ _ _ _ _ _)
  | (with_reducible exact chequerref03_Has.mono _ _ _ _ _ _ _ _ _)
  | (with_reducible exact LeO.refl _)
  | (with_reducible exact LeO.none _)
  | (with_reducible refine LeO.ite ?_ ?_)
  | (with_reducible refine LeO.bind ?_ (fun _ => ?_))
  | exact ih0 _ _ _ _ _ _ _ _
  | exact ih1 _ _ _ _ _ _ _ _ _
  | exact chequerref03_Has.mono _ _ _ _ _ _ _ _ _
  | exact LeO.none _
  | refine LeO.ite ?_ ?_
  | refine LeO.bind ?_ (fun _ => ?_)
theorem chequerref03_Find.mono : ∀ a0 a1 a2 a3 a4 a5 k, LeO (chequerref03_Find.f k a0 a1 a2 a3 a4 a5) (chequerref03_Find.f (k + 1) a0 a1 a2 a3 a4 a5) := by
 intro a0 a1 a2 a3 a4 a5 k
 obtain ⟨ih0, ih1⟩ := chequerref03_Find.mono_l k
 unfold chequerref03_Find.f
 repeat' first
  | (with_reducible exact ih0 _ _ _ _ _ _ _ _)
  | (with_reducible exact ih1 _ _ _ _ _ _ _ _ _)
  | (with_reducible exact chequerref03_Has.mono _ _ _ _ _ _ _ _ _)
  | (with_reducible exact LeO.refl _)
  | (with_reducible exact LeO.none _)
  | (with_reducible refine LeO.ite ?_ ?_)
  | (with_reducible refine LeO.bind ?_ (fun _ => ?_))
  | exact ih0 _ _ _ _ _ _ _ _
  | exact ih1 _ _ _ _ _ _ _ _ _
  | exact chequerref03_Has.mono _ _ _ _ _ _ _ _ _
  | exact LeO.none _
  | refine LeO.ite ?_ ?_
  | refine LeO.bind ?_ (fun _ => ?_)
set_option maxHeartbeats 8000000 in
set_option maxRecDepth 100000 in
theorem chequerref03_Find.calls (k : Nat) (a0_0 : Int) (a0_1 : Int) (A0_2 : Option Addr) (c0_2 : Nat) (l0_2 : List Int) (a1_0 : Int) (a1_1 : Int) (A1_2 : Option Addr) (c1_2 : Nat) (l1_2 : List Int) (r : List (S36)) (w : World) (hr0_2 : Kd.C (Kd.int .u64) w A0_2 l0_2.length l0_2) (hc0_2 : l0_2.length ≤ c0_2) (hr1_2 : Kd.C (Kd.int .u64) w A1_2 l1_2.length l1_2) (hc1_2 : l1_2.length ≤ c1_2) (h : chequerref03_Find.f k a0_0 a0_1 l0_2 a1_0 a1_1 l1_2 = some r) :
 Calls Try.prog 15 #[.agg #[.int .i64 a0_0, .int .i64 a0_1, .slice A0_2 l0_2.length c0_2], .agg #[.int .i64 a1_0, .int .i64 a1_1, .slice A1_2 l1_2.length c1_2]] w fun e w' => ∃ v0_ : Value, e = .returned (v0_) ∧ Kd.R k36 36 w' w.heap.size (fun _ => True) v0_ r ∧ Below w.heap.size w w' := by
 have hu24 := Try.underlying24
 have hu36 := Try.underlying36
 have HR0_2 := Aside0.mk hr0_2
 have HC0_2 := Aside0.mk hc0_2
 clear hr0_2 hc0_2
 have HR1_2 := Aside0.mk hr1_2
 have HC1_2 := Aside0.mk hc1_2
 clear hr1_2 hc1_2
 have HB := Aside0.mk (Below.refl w.heap.size w)
 have H : (chequerref03_Find.l0 k ([] : List (S36)) 0 a0_0 a0_1 l0_2 a1_0 a1_1 l1_2) = some r := h
 clear h
 have H' := Aside0.mk H
 clear H
 go_enter Try.func15, Try.ntmps15
 go_wp2_with (first | ((with_reducible refine gate_dst (N := 2) rfl ?_); refine box_event ?hg (N := 2) ?hd (cs := #[.int .i64 a0_0, .int .i64 a0_1, .slice A0_2 l0_2.length c0_2]) (t := 24) ?hr ?_; (case hd => rfl); (case hg => rfl); (case hr => first | (go_simp; done) | (go_simp; rfl)); intro gb160 hg w3 hbox hb; have BK160 := Aside0.mk (hbox); have GW160 := Aside0.mk ((by rw [hg]; exact (below_size bp_) : w.heap.size ≤ gb160)); have GE160 := Aside0.mk ((by rw [hg]; exact (below_size bp_) : w.heap.size ≤ gb160)); replace HB := Aside0.mk (below_step bp_ hb); clear hb hbox hg) | ((with_reducible refine gate_dst (N := 3) rfl ?_); refine box_event ?hg (N := 3) ?hd (cs := #[.int .i64 a1_0, .int .i64 a1_1, .slice A1_2 l1_2.length c1_2]) (t := 24) ?hr ?_; (case hd => rfl); (case hg => rfl); (case hr => first | (go_simp; done) | (go_simp; rfl)); intro gb161 hg w4 hbox hb; have BK161 := Aside0.mk (hbox); have GW161 := Aside0.mk ((by rw [hg]; exact (below_size bp_) : w.heap.size ≤ gb161)); have GE161 := Aside0.mk ((by rw [hg]; exact (below_size bp_) : w.heap.size ≤ gb161)); replace HB := Aside0.mk (below_step bp_ hb); have NB160_161 := Aside0.mk ((nlt_ hg (hp_ BK160.out))); have NB161_160 := Aside0.mk ((ngt_ hg (hp_ BK160.out))); replace BK160 := kb_ BK160.out hb; clear hb hbox hg))
 go_loopg [5, 6] k (fun kq v5 v6 w' => ∃ (x5_1 : List (S36)) (x6_1 : Int), v6 = .int .i64 x6_1 ∧ Aside0 (chequerref03_Find.l0 kq x5_1 x6_1 a0_0 a0_1 l0_2 a1_0 a1_1 l1_2 = some r) ∧ Aside0 (kq ≤ k) ∧ Aside0 (Kd.R k36 36 w' w.heap.size (fun _ => True) v5 x5_1) ∧ Aside0 (w'.heap[gb160]? = some (.cells #[.int .i64 a0_0, .int .i64 a0_1, (.slice A0_2 l0_2.length c0_2)] 24 (0, 0))) ∧ Aside0 (w'.heap[gb161]? = some (.cells #[.int .i64 a1_0, .int .i64 a1_1, (.slice A1_2 l1_2.length c1_2)] 24 (0, 0))) ∧ Aside0 (Below w.heap.size w w'))
 case atStart => exact ⟨(([] : List (S36))), (0), (by first | rfl | (simp; done) | (simp [*]; done)), H', ⟨Nat.le_refl _⟩, ⟨by first | exact Kd.R_nil _ _ _ _ _ | exact Kd.N_nil _ _ _ _ _ | exact Kd.V_nil _ _ _ _ _ | exact Kd.Q_nil _ _ _ _ _ | exact Kd.S_nil _ _ _ _ _⟩, ⟨hp_ BK160.out⟩, ⟨hp_ BK161.out⟩, ⟨bp_⟩⟩
 case round =>
  clear H'
  try clear c1
  try clear p2
  obtain ⟨x5_1, x6_1, rfl, HA, HK1, HO_5, BK160, BK161, HB⟩ := hrel
  cases gk with
  | zero => exact absurd HA.out (by simp [chequerref03_Find.l0])
  | succ k1 =>
   have H := HA.out; clear HA; simp only [chequerref03_Find.l0] at H
   by_cases c5 : x6_1 < a0_1
   · rw [if_pos c5] at H
     have c5b0 : decide (x6_1 < a0_1) = true := decide_eq_true c5
     clear c5
     have H' := Aside0.mk H
     clear H; have hnb6 := NB160_161.out; have hnc6 := NB161_160.out
     have hcz7_0 : wr.cell? ⟨gb160, 0, none⟩ = some (.int .i64 a0_0) := bc_ BK160.out 0
     have hcz7_1 : wr.cell? ⟨gb160, 1, none⟩ = some (.int .i64 a0_1) := bc_ BK160.out 1
     have hcz7_2 : wr.cell? ⟨gb160, 2, none⟩ = some (.slice A0_2 l0_2.length c0_2) := bc_ BK160.out 2
     have hfz7_0 := blk_frozen BK160.out 0; have hfz7_1 := blk_frozen BK160.out 1; have hfz7_2 := blk_frozen BK160.out 2
     go_wp2
     go_loopg [5, 7] k1 (fun kq v5 v7 w' => ∃ (x5_2 : List (S36)) (x7_2 : Int), v7 = .int .i64 x7_2 ∧ Aside0 (chequerref03_Find.l1 kq x5_2 x6_1 x7_2 a0_0 a0_1 l0_2 a1_0 a1_1 l1_2 = some r) ∧ Aside0 (kq ≤ k1) ∧ Aside0 (Kd.R k36 36 w' w.heap.size (fun _ => True) v5 x5_2) ∧ Aside0 (w'.heap[gb160]? = some (.cells #[.int .i64 a0_0, .int .i64 a0_1, (.slice A0_2 l0_2.length c0_2)] 24 (0, 0))) ∧ Aside0 (w'.heap[gb161]? = some (.cells #[.int .i64 a1_0, .int .i64 a1_1, (.slice A1_2 l1_2.length c1_2)] 24 (0, 0))) ∧ Aside0 (Below w.heap.size w w'))
     case atStart => exact ⟨(x5_1), (0), (by first | rfl | (simp; done) | (simp [*]; done)), H', ⟨Nat.le_refl _⟩, ⟨rp_ HO_5.out⟩, ⟨hp_ BK160.out⟩, ⟨hp_ BK161.out⟩, ⟨bp_⟩⟩
     case round =>
      clear H'
      try clear c1
      try clear p2
      try clear c5
      try clear c5b0
      try clear c6
      try clear hcz7_0
      try clear hcz7_1
      try clear hcz7_2
      try clear hfz7_0
      try clear hfz7_1
      try clear hfz7_2
      try clear p2
      obtain ⟨x5_2, x7_2, rfl, HA, HK2, HO_5, BK160, BK161, HB⟩ := hrel
      cases gk with
      | zero => exact absurd HA.out (by simp [chequerref03_Find.l1])
      | succ k2 =>
       have H := HA.out; clear HA; simp only [chequerref03_Find.l1] at H
       by_cases c8 : x7_2 < a0_0
       · rw [if_pos c8] at H
         have c8b0 : decide (x7_2 < a0_0) = true := decide_eq_true c8
         clear c8; replace H := Option.bind_eq_some_iff.mp H; obtain ⟨t162, A90, H⟩ := H
         replace H : (if t162 = true then (if x5_2.length < 8796093022208 then (chequerref03_Find.l1 k2 (x5_2 ++ [(⟨x7_2, x6_1⟩ : S36)]) x6_1 (wrap64 (x7_2 + 1)) a0_0 a0_1 l0_2 a1_0 a1_1 l1_2) else (none)) else (chequerref03_Find.l1 k2 x5_2 x6_1 (wrap64 (x7_2 + 1)) a0_0 a0_1 l0_2 a1_0 a1_1 l1_2)) = some r := H
         have A9 := Aside0.mk A90; clear A90
         by_cases c10 : t162 = true
         · subst c10
           have H1 : (if x5_2.length < 8796093022208 then (chequerref03_Find.l1 k2 (x5_2 ++ [(⟨x7_2, x6_1⟩ : S36)]) x6_1 (wrap64 (x7_2 + 1)) a0_0 a0_1 l0_2 a1_0 a1_1 l1_2) else (none)) = some r := by rw [if_pos rfl] at H; exact H
           clear H; have H := H1; clear H1
           by_cases c11 : x5_2.length < 8796093022208
           · rw [if_pos c11] at H; have LMc11 := Aside0.mk c11; clear c11
             obtain ⟨y163, hy163⟩ : ∃ y_ : List (S36), y_ = (x5_2 ++ [(⟨x7_2, x6_1⟩ : S36)]) := ⟨_, rfl⟩
             replace H : (chequerref03_Find.l1 k2 y163 x6_1 (wrap64 (x7_2 + 1)) a0_0 a0_1 l0_2 a1_0 a1_1 l1_2) = some r := by first | (rw [hy163]; with_reducible exact H) | (have H2_ := (Option.bind_some _ _).symm.trans H; rw [hy163]; with_reducible exact H2_) | (have H2_ := (Option.bind_some _ _).symm.trans H; with_reducible exact H2_) | with_reducible exact H | (rw [hy163]; exact H) | exact H
             have Ny163 := Aside0.mk hy163; clear hy163
             have H' := Aside0.mk H
             clear H; have hnb12 := NB160_161.out; have hnc12 := NB161_160.out
             have hcz13_0 : wr.cell? ⟨gb160, 0, none⟩ = some (.int .i64 a0_0) := bc_ BK160.out 0
             have hcz13_1 : wr.cell? ⟨gb160, 1, none⟩ = some (.int .i64 a0_1) := bc_ BK160.out 1
             have hcz13_2 : wr.cell? ⟨gb160, 2, none⟩ = some (.slice A0_2 l0_2.length c0_2) := bc_ BK160.out 2
             have hfz13_0 := blk_frozen BK160.out 0; have hfz13_1 := blk_frozen BK160.out 1; have hfz13_2 := blk_frozen BK160.out 2
             have hcz14_0 : wr.cell? ⟨gb161, 0, none⟩ = some (.int .i64 a1_0) := bc_ BK161.out 0
             have hcz14_1 : wr.cell? ⟨gb161, 1, none⟩ = some (.int .i64 a1_1) := bc_ BK161.out 1
             have hcz14_2 : wr.cell? ⟨gb161, 2, none⟩ = some (.slice A1_2 l1_2.length c1_2) := bc_ BK161.out 2
             have hfz14_0 := blk_frozen BK161.out 0; have hfz14_1 := blk_frozen BK161.out 1; have hfz14_2 := blk_frozen BK161.out 2
             go_wp2_with (first | ((with_reducible refine gate_callee (f := 28) rfl ?_); refine goQ_ (some 24) Try.func28 #[.agg #[.int .i64 a0_0, .int .i64 a0_1, .slice A0_2 l0_2.length c0_2], .agg #[.int .i64 a1_0, .int .i64 a1_1, .slice A1_2 l1_2.length c1_2], .int .i64 x7_2, .int .i64 x6_1] ?_; (with_reducible refine (chequerref03_Has.calls k2 a0_0 a0_1 _ _ l0_2 a1_0 a1_1 _ _ l1_2 x7_2 x6_1 true _ ?side1 ?side2 ?side3 ?side4 A9.out).mono ?_); (case side1 => repeat (first | exact (Kd.C_below HR0_2.out HB.out) | (with_reducible refine Kd.C_alloc ?_ _) | (with_reducible refine Kd.C_drewN ?_ _) | (with_reducible refine Kd.C_drew ?_))); (case side2 => exact HC0_2.out); (case side3 => repeat (first | exact (Kd.C_below HR1_2.out HB.out) | (with_reducible refine Kd.C_alloc ?_ _) | (with_reducible refine Kd.C_drewN ?_ _) | (with_reducible refine Kd.C_drew ?_))); (case side4 => exact HC1_2.out); rintro e w15 ⟨rfl, hb⟩; refine ⟨_, rfl, ?_⟩; replace HO_5 := rb_ HO_5.out hb; replace BK160 := kb_ BK160.out hb; replace BK161 := kb_ BK161.out hb; replace HB := Aside0.mk (below_step bp_ hb); (try clear hb); (try clear hb2); (try clear hk); (try clear hi)) | ((with_reducible refine gate_builtin (b := .append) (xs := #[.tmp 25, .tmp 29]) rfl ?_); at_builtin; refine Kd.R_append k36 (w0 := w) w.heap.size rfl (.tmp 25) (.tmp 29) 31 36 (.agg #[(.int .i64 0), (.int .i64 0)]) 16 rfl Try.underlying31 info36 rfl (by decide) (by omega) u5 x5_2 (⟨x7_2, x6_1⟩ : S36) [.int .i64 x7_2, .int .i64 x6_1] (fun _ => True) (fun _ => False) rfl rfl ?aP (fun _ hk => hk.elim) ?aF ?aO ?aB ?aS ?aL ?_; (case aP => exact k36_mkM _ _ _ (⟨x7_2, x6_1⟩ : S36)); (case aB => exact bp_); (case aF => exact (fun _ _ => trivial)); (case aO => exact (rp_ HO_5.out)); (case aS => exact (below_size bp_)); (case aL => have := LMc11.out; omega); intro v164 w16 ho hb hg hat; rw [← Ny163.out] at ho; replace BK160 := Aside0.mk (blk_grown (g := gb160) (o := .cells #[.int .i64 a0_0, .int .i64 a0_1, .slice A0_2 l0_2.length c0_2] 24 (0, 0)) (hp_ BK160.out) hg (Kd.R_ne HO_5.out BK160.out (by decide))); replace BK161 := Aside0.mk (blk_grown (g := gb161) (o := .cells #[.int .i64 a1_0, .int .i64 a1_1, .slice A1_2 l1_2.length c1_2] 24 (0, 0)) (hp_ BK161.out) hg (Kd.R_ne HO_5.out BK161.out (by decide))); replace HB := Aside0.mk (hb); have HO165 := Aside0.mk (ho); clear HO_5; clear ho hb hg hat))
             go_roundg k2
             case measure => have := HK1.out; have := HK2.out; omega
             case rel => exact ⟨(y163), (wrap64 (x7_2 + 1)), (by first | rfl | (simp; done) | (simp [*]; done)), H', ⟨by have := HK1.out; have := HK2.out; omega⟩, ⟨rp_ HO165.out⟩, ⟨hp_ BK160.out⟩, ⟨hp_ BK161.out⟩, ⟨bp_⟩⟩
           rw [if_neg c11] at H
           exact absurd H (by simp)
         replace c10 := Bool.eq_false_iff.mpr c10; subst c10
         have H1 : (chequerref03_Find.l1 k2 x5_2 x6_1 (wrap64 (x7_2 + 1)) a0_0 a0_1 l0_2 a1_0 a1_1 l1_2) = some r := by rw [if_neg (show ¬ (false = true) by decide)] at H; exact H
         clear H; have H := H1; clear H1
         have H' := Aside0.mk H
         clear H; have hnb17 := NB160_161.out; have hnc17 := NB161_160.out
         have hcz18_0 : wr.cell? ⟨gb160, 0, none⟩ = some (.int .i64 a0_0) := bc_ BK160.out 0
         have hcz18_1 : wr.cell? ⟨gb160, 1, none⟩ = some (.int .i64 a0_1) := bc_ BK160.out 1
         have hcz18_2 : wr.cell? ⟨gb160, 2, none⟩ = some (.slice A0_2 l0_2.length c0_2) := bc_ BK160.out 2
         have hfz18_0 := blk_frozen BK160.out 0; have hfz18_1 := blk_frozen BK160.out 1; have hfz18_2 := blk_frozen BK160.out 2
         have hcz19_0 : wr.cell? ⟨gb161, 0, none⟩ = some (.int .i64 a1_0) := bc_ BK161.out 0
         have hcz19_1 : wr.cell? ⟨gb161, 1, none⟩ = some (.int .i64 a1_1) := bc_ BK161.out 1
         have hcz19_2 : wr.cell? ⟨gb161, 2, none⟩ = some (.slice A1_2 l1_2.length c1_2) := bc_ BK161.out 2
         have hfz19_0 := blk_frozen BK161.out 0; have hfz19_1 := blk_frozen BK161.out 1; have hfz19_2 := blk_frozen BK161.out 2
         go_wp2_with (first | ((with_reducible refine gate_callee (f := 28) rfl ?_); refine goQ_ (some 24) Try.func28 #[.agg #[.int .i64 a0_0, .int .i64 a0_1, .slice A0_2 l0_2.length c0_2], .agg #[.int .i64 a1_0, .int .i64 a1_1, .slice A1_2 l1_2.length c1_2], .int .i64 x7_2, .int .i64 x6_1] ?_; (with_reducible refine (chequerref03_Has.calls k2 a0_0 a0_1 _ _ l0_2 a1_0 a1_1 _ _ l1_2 x7_2 x6_1 false _ ?side1 ?side2 ?side3 ?side4 A9.out).mono ?_); (case side1 => repeat (first | exact (Kd.C_below HR0_2.out HB.out) | (with_reducible refine Kd.C_alloc ?_ _) | (with_reducible refine Kd.C_drewN ?_ _) | (with_reducible refine Kd.C_drew ?_))); (case side2 => exact HC0_2.out); (case side3 => repeat (first | exact (Kd.C_below HR1_2.out HB.out) | (with_reducible refine Kd.C_alloc ?_ _) | (with_reducible refine Kd.C_drewN ?_ _) | (with_reducible refine Kd.C_drew ?_))); (case side4 => exact HC1_2.out); rintro e w20 ⟨rfl, hb⟩; refine ⟨_, rfl, ?_⟩; replace HO_5 := rb_ HO_5.out hb; replace BK160 := kb_ BK160.out hb; replace BK161 := kb_ BK161.out hb; replace HB := Aside0.mk (below_step bp_ hb); (try clear hb); (try clear hb2); (try clear hk); (try clear hi)))
         go_roundg k2
         case measure => have := HK1.out; have := HK2.out; omega
         case rel => exact ⟨(x5_2), (wrap64 (x7_2 + 1)), (by first | rfl | (simp; done) | (simp [*]; done)), H', ⟨by have := HK1.out; have := HK2.out; omega⟩, ⟨rp_ HO_5.out⟩, ⟨hp_ BK160.out⟩, ⟨hp_ BK161.out⟩, ⟨bp_⟩⟩
       rw [if_neg c8] at H
       have c8b0 : decide (x7_2 < a0_0) = false := decide_eq_false c8
       clear c8
       have H' := Aside0.mk H
       clear H; have hnb21 := NB160_161.out; have hnc21 := NB161_160.out
       have hcz22_0 : wr.cell? ⟨gb160, 0, none⟩ = some (.int .i64 a0_0) := bc_ BK160.out 0
       have hcz22_1 : wr.cell? ⟨gb160, 1, none⟩ = some (.int .i64 a0_1) := bc_ BK160.out 1
       have hcz22_2 : wr.cell? ⟨gb160, 2, none⟩ = some (.slice A0_2 l0_2.length c0_2) := bc_ BK160.out 2
       have hfz22_0 := blk_frozen BK160.out 0; have hfz22_1 := blk_frozen BK160.out 1; have hfz22_2 := blk_frozen BK160.out 2
       go_wp2
       go_roundg k2
       case measure => have := HK1.out; have := HK2.out; omega
       case rel => exact ⟨(x5_2), (wrap64 (x6_1 + 1)), (by first | rfl | (simp; done) | (simp [*]; done)), H', ⟨by have := HK1.out; have := HK2.out; omega⟩, ⟨rp_ HO_5.out⟩, ⟨hp_ BK160.out⟩, ⟨hp_ BK161.out⟩, ⟨bp_⟩⟩
   rw [if_neg c5] at H
   have c5b0 : decide (x6_1 < a0_1) = false := decide_eq_false c5
   clear c5
   obtain rfl := Option.some.inj H
   have hcz23_0 : wr.cell? ⟨gb160, 0, none⟩ = some (.int .i64 a0_0) := bc_ BK160.out 0
   have hcz23_1 : wr.cell? ⟨gb160, 1, none⟩ = some (.int .i64 a0_1) := bc_ BK160.out 1
   have hcz23_2 : wr.cell? ⟨gb160, 2, none⟩ = some (.slice A0_2 l0_2.length c0_2) := bc_ BK160.out 2
   have hfz23_0 := blk_frozen BK160.out 0; have hfz23_1 := blk_frozen BK160.out 1; have hfz23_2 := blk_frozen BK160.out 2
   go_wp2
   go_ret
   exact ⟨_, by first | rfl | (simp [errW_none, errW_some] <;> rfl) | (simp [*, errW_none, errW_some] <;> rfl), by (with_reducible repeat (first | apply Kd.R_alloc | apply Kd.R_drewN | apply Kd.R_drew)); exact HO_5.out, bp_⟩

/-! ### rect_sized: function 45 -/
def rect_sized.f (a0 : Int) (a1 : Int) : Option (Bool) := if a0 ≥ 1 then (if a0 ≤ 4096 then (if a1 ≥ 1 then (if a1 ≤ 65536 then (some (decide ((wrap64 (a0 * a1)) ≤ 16777216))) else (some false)) else (some false)) else (some false)) else (some false)
set_option maxHeartbeats 8000000 in
set_option maxRecDepth 100000 in
theorem rect_sized.calls (a0 : Int) (a1 : Int) (r : Bool) (w : World) (h : rect_sized.f a0 a1 = some r) :
    Calls Try.prog 45 #[.int .i64 a0, .int .i64 a1] w fun e w' => e = .returned (.bool r) ∧ Drawn0 w w' := by
  have H : (if a0 ≥ 1 then (if a0 ≤ 4096 then (if a1 ≥ 1 then (if a1 ≤ 65536 then (some (decide ((wrap64 (a0 * a1)) ≤ 16777216))) else (some false)) else (some false)) else (some false)) else (some false)) = some r := h
  clear h
  by_cases c3 : a0 ≥ 1
  · rw [if_pos c3] at H
    have c3b0 : decide (1 ≤ a0) = true := decide_eq_true c3
    clear c3
    by_cases c4 : a0 ≤ 4096
    · rw [if_pos c4] at H
      have c4b0 : decide (a0 ≤ 4096) = true := decide_eq_true c4
      clear c4
      by_cases c5 : a1 ≥ 1
      · rw [if_pos c5] at H
        have c5b0 : decide (1 ≤ a1) = true := decide_eq_true c5
        clear c5
        by_cases c6 : a1 ≤ 65536
        · rw [if_pos c6] at H
          have c6b0 : decide (a1 ≤ 65536) = true := decide_eq_true c6
          clear c6
          obtain rfl := Option.some.inj H
          go_enter Try.func45, Try.ntmps45
          go_wp2
          go_ret
          exact ⟨by first | rfl | (simp; done) | (simp [*]; done), by repeat (first | exact Drawn0.refl _ | apply Drawn0.step)⟩
        rw [if_neg c6] at H
        have c6b0 : decide (a1 ≤ 65536) = false := decide_eq_false c6
        clear c6
        obtain rfl := Option.some.inj H
        go_enter Try.func45, Try.ntmps45
        go_wp2
        go_ret
        exact ⟨by first | rfl | (simp; done) | (simp [*]; done), by repeat (first | exact Drawn0.refl _ | apply Drawn0.step)⟩
      rw [if_neg c5] at H
      have c5b0 : decide (1 ≤ a1) = false := decide_eq_false c5
      clear c5
      obtain rfl := Option.some.inj H
      go_enter Try.func45, Try.ntmps45
      go_wp2
      go_ret
      exact ⟨by first | rfl | (simp; done) | (simp [*]; done), by repeat (first | exact Drawn0.refl _ | apply Drawn0.step)⟩
    rw [if_neg c4] at H
    have c4b0 : decide (a0 ≤ 4096) = false := decide_eq_false c4
    clear c4
    obtain rfl := Option.some.inj H
    go_enter Try.func45, Try.ntmps45
    go_wp2
    go_ret
    exact ⟨by first | rfl | (simp; done) | (simp [*]; done), by repeat (first | exact Drawn0.refl _ | apply Drawn0.step)⟩
  rw [if_neg c3] at H
  have c3b0 : decide (1 ≤ a0) = false := decide_eq_false c3
  clear c3
  obtain rfl := Option.some.inj H
  go_enter Try.func45, Try.ntmps45
  go_wp2
  go_ret
  exact ⟨by first | rfl | (simp; done) | (simp [*]; done), by repeat (first | exact Drawn0.refl _ | apply Drawn0.step)⟩

end Go.Proofs.Ytidpaaemfiopkaa.Q
