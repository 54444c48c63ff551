-- written by our own program (wip/tools/myprint.py) out of the translation, by the kit's print; Lean checks it
import Derived.Test.YtidpaaemfiopkaaQ0
import Derived.Test.YtidpaaemfiopkaaQ2
import Derived.Test.YtidpaaemfiopkaaQ9
namespace Go.Proofs.Ytidpaaemfiopkaa.Q
open Go.RowKit Go.Proofs.YtidpaaemfiopkaaW.PrintWords Go.Proofs.YtidpaaemfiopkaaW.PrintLast Go.Proofs.YtidpaaemfiopkaaW.PrintMore
attribute [local go_sem] max2_int min2_int max_two min_two max_three min_three max_four min_four   -- for this text's walks alone
set_option linter.unusedVariables false
set_option linter.unusedSimpArgs false

/-! ### rect_in: function 48 -/
def rect_in.f (a0 : Int) (a1 : Int) : Option (Bool) := if a0 ≥ 0 then (some (decide (a0 < a1))) else (some false)
set_option maxHeartbeats 8000000 in
set_option maxRecDepth 100000 in
theorem rect_in.calls (a0 : Int) (a1 : Int) (r : Bool) (w : World) (h : rect_in.f a0 a1 = some r) :
    Calls Try.prog 48 #[.int .i64 a0, .int .i64 a1] w fun e w' => e = .returned (.bool r) ∧ Drawn0 w w' := by
  have H : (if a0 ≥ 0 then (some (decide (a0 < a1))) else (some false)) = some r := h
  clear h
  by_cases c3 : a0 ≥ 0
  · rw [if_pos c3] at H
    have c3b0 : decide (0 ≤ a0) = true := decide_eq_true c3
    clear c3
    obtain rfl := Option.some.inj H
    go_enter Try.func48, Try.ntmps48
    go_wp2
    go_ret
    exact ⟨by first | rfl | (simp; done) | (simp [*]; done), by repeat (first | exact Drawn0.refl _ | apply Drawn0.step)⟩
  · rw [if_neg c3] at H
    have c3b0 : decide (0 ≤ a0) = false := decide_eq_false c3
    clear c3
    obtain rfl := Option.some.inj H
    go_enter Try.func48, Try.ntmps48
    go_wp2
    go_ret
    exact ⟨by first | rfl | (simp; done) | (simp [*]; done), by repeat (first | exact Drawn0.refl _ | apply Drawn0.step)⟩


/-! ### rect_Matrix_At: function 24 -/
def rect_Matrix_At.f (a0_0 : Int) (a0_1 : Int) (l0_2 : List Int) (a1 : Int) (a2 : Int) : Option (Int × Bool) := (rect_in.f a1 a0_0).bind fun t364 => (if t364 = true then ((rect_in.f a2 a0_1).bind fun t365 => (if t365 = true then (if 0 ≤ (wrap64 ((wrap64 (a2 * a0_0)) + a1)) then (if (wrap64 ((wrap64 (a2 * a0_0)) + a1)) < (l0_2.length : Int) then (some (rd l0_2 (wrap64 ((wrap64 (a2 * a0_0)) + a1)), true)) else (none)) else (none)) else (some (0, false)))) else (some (0, false)))
set_option maxHeartbeats 8000000 in
set_option maxRecDepth 100000 in
theorem rect_Matrix_At.calls (a0_0 : Int) (a0_1 : Int) (A0_2 : Option Addr) (c0_2 : Nat) (l0_2 : List Int) (a1 : Int) (a2 : Int) (r1 : Int) (r2 : Bool) (w : World) (hr0_2 : Kd.C (Kd.int .u64) w A0_2 l0_2.length l0_2) (hc0_2 : l0_2.length ≤ c0_2) (h : rect_Matrix_At.f a0_0 a0_1 l0_2 a1 a2 = some (r1, r2)) :
 Calls Try.prog 24 #[.agg #[.int .i64 a0_0, .int .i64 a0_1, .slice A0_2 l0_2.length c0_2], .int .i64 a1, .int .i64 a2] w fun e w' => e = .returned (.tuple #[.int .u64 r1, .bool r2]) ∧ Below w.heap.size w w' := by
 have hu32 := Try.underlying32
 have HR0_2 := Aside0.mk hr0_2
 have HC0_2 := Aside0.mk hc0_2
 clear hr0_2 hc0_2
 have HB := Aside0.mk (Below.refl w.heap.size w)
 have H : ((rect_in.f a1 a0_0).bind fun t364 => (if t364 = true then ((rect_in.f a2 a0_1).bind fun t365 => (if t365 = true then (if 0 ≤ (wrap64 ((wrap64 (a2 * a0_0)) + a1)) then (if (wrap64 ((wrap64 (a2 * a0_0)) + a1)) < (l0_2.length : Int) then (some (rd l0_2 (wrap64 ((wrap64 (a2 * a0_0)) + a1)), true)) else (none)) else (none)) else (some (0, false)))) else (some (0, false)))) = some (r1, r2) := h
 clear h
 replace H := Option.bind_eq_some_iff.mp H
 obtain ⟨t364, A40, H⟩ := H
 replace H : (if t364 = true then ((rect_in.f a2 a0_1).bind fun t365 => (if t365 = true then (if 0 ≤ (wrap64 ((wrap64 (a2 * a0_0)) + a1)) then (if (wrap64 ((wrap64 (a2 * a0_0)) + a1)) < (l0_2.length : Int) then (some (rd l0_2 (wrap64 ((wrap64 (a2 * a0_0)) + a1)), true)) else (none)) else (none)) else (some (0, false)))) else (some (0, false))) = some (r1, r2) := H
 have A4 := Aside0.mk A40
 clear A40
 by_cases c5 : t364 = true
 · subst c5
   have H1 : ((rect_in.f a2 a0_1).bind fun t365 => (if t365 = true then (if 0 ≤ (wrap64 ((wrap64 (a2 * a0_0)) + a1)) then (if (wrap64 ((wrap64 (a2 * a0_0)) + a1)) < (l0_2.length : Int) then (some (rd l0_2 (wrap64 ((wrap64 (a2 * a0_0)) + a1)), true)) else (none)) else (none)) else (some (0, false)))) = some (r1, r2) := by rw [if_pos rfl] at H; exact H
   clear H
   have H := H1
   clear H1
   replace H := Option.bind_eq_some_iff.mp H
   obtain ⟨t365, A60, H⟩ := H
   replace H : (if t365 = true then (if 0 ≤ (wrap64 ((wrap64 (a2 * a0_0)) + a1)) then (if (wrap64 ((wrap64 (a2 * a0_0)) + a1)) < (l0_2.length : Int) then (some (rd l0_2 (wrap64 ((wrap64 (a2 * a0_0)) + a1)), true)) else (none)) else (none)) else (some (0, false))) = some (r1, r2) := H
   have A6 := Aside0.mk A60
   clear A60
   by_cases c7 : t365 = true
   · subst c7
     have H1 : (if 0 ≤ (wrap64 ((wrap64 (a2 * a0_0)) + a1)) then (if (wrap64 ((wrap64 (a2 * a0_0)) + a1)) < (l0_2.length : Int) then (some (rd l0_2 (wrap64 ((wrap64 (a2 * a0_0)) + a1)), true)) else (none)) else (none)) = some (r1, r2) := by rw [if_pos rfl] at H; exact H
     clear H
     have H := H1
     clear H1
     obtain ⟨ji8, hji8⟩ : ∃ j_ : Int, (wrap64 ((wrap64 (a2 * a0_0)) + a1)) = j_ := ⟨_, rfl⟩
     replace H : (if 0 ≤ (ji8) then (if (ji8) < (l0_2.length : Int) then (some (rd l0_2 (ji8), true)) else (none)) else (none)) = some (r1, r2) := by first | (rw [hji8] at H; exact H) | (simp only [hji8] at H ⊢; exact H)
     (try rw [hji8] at A4)
     (try rw [hji8] at A6)
     have hji8w : (IntKind.i64.wrap ((wrap64 (a2 * a0_0)) + a1)) = ji8 := (i64_w _).trans hji8
     by_cases c9 : 0 ≤ (ji8)
     · rw [if_pos c9] at H
       have c9b0 : decide (0 ≤ (ji8)) = true := decide_eq_true c9
       clear c9
       by_cases c10 : (ji8) < (l0_2.length : Int)
       · rw [if_pos c10] at H
         have c10b0 : decide ((ji8) < (l0_2.length : Int)) = true := decide_eq_true c10
         clear c10
         simp only [Option.some.injEq, Prod.mk.injEq] at H
         obtain ⟨rfl, rfl⟩ := H
         go_enter Try.func24, Try.ntmps24
         go_wp2_with (first | ((with_reducible refine gate_dst (N := 3) rfl ?_); refine box_event ?hg (N := 3) ?hd (cs := #[.int .i64 a0_0, .int .i64 a0_1, .slice A0_2 l0_2.length c0_2]) (t := 32) ?hr ?_; (case hd => rfl); (case hg => rfl); (case hr => first | (go_simp; done) | (go_simp; rfl)); intro gb363 hg w11 hbox hb; have BK363 := Aside0.mk (hbox); have GW363 := Aside0.mk ((by rw [hg]; exact (below_size bp_) : w.heap.size ≤ gb363)); have GE363 := Aside0.mk ((by rw [hg]; exact (below_size bp_) : w.heap.size ≤ gb363)); replace HB := Aside0.mk (below_step bp_ hb); clear hb hbox hg; have hcz12_0 : w11.cell? ⟨gb363, 0, none⟩ = some (.int .i64 a0_0) := (blk_cell BK363.out 0).trans rfl; have hcz12_1 : w11.cell? ⟨gb363, 1, none⟩ = some (.int .i64 a0_1) := (blk_cell BK363.out 1).trans rfl; have hcz12_2 : w11.cell? ⟨gb363, 2, none⟩ = some (.slice A0_2 l0_2.length c0_2) := (blk_cell BK363.out 2).trans rfl; have hfz12_0 := blk_frozen BK363.out 0; have hfz12_1 := blk_frozen BK363.out 1; have hfz12_2 := blk_frozen BK363.out 2) | ((with_reducible refine gate_callee (f := 48) rfl ?_); refine goQ_ (some 11) Try.func48 #[.int .i64 a1, .int .i64 a0_0] ?_; (with_reducible refine (rect_in.calls a1 a0_0 true _ A4.out).mono ?_); rintro e w' ⟨rfl, ⟨nd, rfl⟩⟩; refine ⟨_, rfl, ?_⟩) | (go_at_call 48; (with_reducible refine (rect_in.calls a2 a0_1 true _ A6.out).mono ?_); rintro e w' ⟨rfl, ⟨nd, rfl⟩⟩; have p366 : 0 ≤ ((ji8) : Int) := of_decide_eq_true (by first | (with_reducible assumption) | assumption); have q366 : (ji8) < (l0_2.length : Int) := of_decide_eq_true (by first | (with_reducible assumption) | assumption); obtain ⟨ad366, e366, hx366_0⟩ := Kd.at_int HR0_2.out (ji8) p366 q366; cases e366; replace hx366_0 := (HB.out.cell (World.block_lt_of_cell? w _ hx366_0)).trans hx366_0; replace p366 := eq_true p366; replace q366 := eq_true q366))
         go_ret2
         exact ⟨by first | rfl | (simp [errW_none, errW_some] <;> rfl) | (simp only [← hji8]; first | rfl | (simp [errW_none, errW_some] <;> rfl)) | (simp [*, errW_none, errW_some] <;> rfl), bp_⟩
       · rw [if_neg c10] at H
         exact absurd H (by simp)
     · rw [if_neg c9] at H
       exact absurd H (by simp)
   · replace c7 := Bool.eq_false_iff.mpr c7
     subst c7
     have H1 : (some (0, false)) = some (r1, r2) := by rw [if_neg (show ¬ (false = true) by decide)] at H; exact H
     clear H
     have H := H1
     clear H1
     simp only [Option.some.injEq, Prod.mk.injEq] at H
     obtain ⟨rfl, rfl⟩ := H
     go_enter Try.func24, Try.ntmps24
     go_wp2_with (first | ((with_reducible refine gate_dst (N := 3) rfl ?_); refine box_event ?hg (N := 3) ?hd (cs := #[.int .i64 a0_0, .int .i64 a0_1, .slice A0_2 l0_2.length c0_2]) (t := 32) ?hr ?_; (case hd => rfl); (case hg => rfl); (case hr => first | (go_simp; done) | (go_simp; rfl)); intro gb363 hg w13 hbox hb; have BK363 := Aside0.mk (hbox); have GW363 := Aside0.mk ((by rw [hg]; exact (below_size bp_) : w.heap.size ≤ gb363)); have GE363 := Aside0.mk ((by rw [hg]; exact (below_size bp_) : w.heap.size ≤ gb363)); replace HB := Aside0.mk (below_step bp_ hb); clear hb hbox hg; have hcz14_0 : w13.cell? ⟨gb363, 0, none⟩ = some (.int .i64 a0_0) := (blk_cell BK363.out 0).trans rfl; have hcz14_1 : w13.cell? ⟨gb363, 1, none⟩ = some (.int .i64 a0_1) := (blk_cell BK363.out 1).trans rfl; have hcz14_2 : w13.cell? ⟨gb363, 2, none⟩ = some (.slice A0_2 l0_2.length c0_2) := (blk_cell BK363.out 2).trans rfl; have hfz14_0 := blk_frozen BK363.out 0; have hfz14_1 := blk_frozen BK363.out 1; have hfz14_2 := blk_frozen BK363.out 2) | ((with_reducible refine gate_callee (f := 48) rfl ?_); refine goQ_ (some 11) Try.func48 #[.int .i64 a1, .int .i64 a0_0] ?_; (with_reducible refine (rect_in.calls a1 a0_0 true _ A4.out).mono ?_); rintro e w' ⟨rfl, ⟨nd, rfl⟩⟩; refine ⟨_, rfl, ?_⟩) | (go_at_call 48; (with_reducible refine (rect_in.calls a2 a0_1 false _ A6.out).mono ?_); rintro e w' ⟨rfl, ⟨nd, rfl⟩⟩))
     go_ret2
     exact ⟨by first | rfl | (simp [errW_none, errW_some] <;> rfl) | (simp [*, errW_none, errW_some] <;> rfl), bp_⟩
 · replace c5 := Bool.eq_false_iff.mpr c5
   subst c5
   have H1 : (some (0, false)) = some (r1, r2) := by rw [if_neg (show ¬ (false = true) by decide)] at H; exact H
   clear H
   have H := H1
   clear H1
   simp only [Option.some.injEq, Prod.mk.injEq] at H
   obtain ⟨rfl, rfl⟩ := H
   go_enter Try.func24, Try.ntmps24
   go_wp2_with (first | ((with_reducible refine gate_dst (N := 3) rfl ?_); refine box_event ?hg (N := 3) ?hd (cs := #[.int .i64 a0_0, .int .i64 a0_1, .slice A0_2 l0_2.length c0_2]) (t := 32) ?hr ?_; (case hd => rfl); (case hg => rfl); (case hr => first | (go_simp; done) | (go_simp; rfl)); intro gb363 hg w15 hbox hb; have BK363 := Aside0.mk (hbox); have GW363 := Aside0.mk ((by rw [hg]; exact (below_size bp_) : w.heap.size ≤ gb363)); have GE363 := Aside0.mk ((by rw [hg]; exact (below_size bp_) : w.heap.size ≤ gb363)); replace HB := Aside0.mk (below_step bp_ hb); clear hb hbox hg; have hcz16_0 : w15.cell? ⟨gb363, 0, none⟩ = some (.int .i64 a0_0) := (blk_cell BK363.out 0).trans rfl; have hcz16_1 : w15.cell? ⟨gb363, 1, none⟩ = some (.int .i64 a0_1) := (blk_cell BK363.out 1).trans rfl; have hcz16_2 : w15.cell? ⟨gb363, 2, none⟩ = some (.slice A0_2 l0_2.length c0_2) := (blk_cell BK363.out 2).trans rfl; have hfz16_0 := blk_frozen BK363.out 0; have hfz16_1 := blk_frozen BK363.out 1; have hfz16_2 := blk_frozen BK363.out 2) | ((with_reducible refine gate_callee (f := 48) rfl ?_); refine goQ_ (some 11) Try.func48 #[.int .i64 a1, .int .i64 a0_0] ?_; (with_reducible refine (rect_in.calls a1 a0_0 false _ A4.out).mono ?_); rintro e w' ⟨rfl, ⟨nd, rfl⟩⟩; refine ⟨_, rfl, ?_⟩))
   go_ret2
   exact ⟨by first | rfl | (simp [errW_none, errW_some] <;> rfl) | (simp [*, errW_none, errW_some] <;> rfl), bp_⟩

/-! ### chequerlaw03_as: function 27 -/
def chequerlaw03_as.f (a0_0 : Int) (a0_1 : Int) (l0_2 : List Int) : Option (Int × Int × List Int) := some (a0_0, a0_1, l0_2)
set_option maxHeartbeats 8000000 in
set_option maxRecDepth 100000 in
theorem chequerlaw03_as.calls (a0_0 : Int) (a0_1 : Int) (P0_2_ : Nat → Prop) (A0_2 : Option Addr) (c0_2 : Nat) (l0_2 : List Int) (r1 : Int) (r2 : Int) (r3 : List Int) (w : World) (hs0_2 : Kd.V (Kd.int .u64) 46 w w.heap.size (fun k_ => P0_2_ k_) (.slice A0_2 l0_2.length c0_2) l0_2) (h : chequerlaw03_as.f a0_0 a0_1 l0_2 = some (r1, r2, r3)) :
    Calls Try.prog 27 #[.agg #[.int .i64 a0_0, .int .i64 a0_1, .slice A0_2 l0_2.length c0_2]] w fun e w' => ∃ v2_ : Value, e = .returned (.agg #[.int .i64 r1, .int .i64 r2, v2_]) ∧ Kd.V (Kd.int .u64) 46 w' w.heap.size (fun k_ => (P0_2_ k_ ∨ w.heap.size ≤ k_)) v2_ r3 ∧ Below w.heap.size w w' := by
  have hu32 := Try.underlying32
  have hu24 := Try.underlying24
  have HO0_2 := Aside0.mk (show Kd.V (Kd.int .u64) 46 w w.heap.size (fun k_ => (P0_2_ k_ ∨ w.heap.size ≤ k_)) (.slice A0_2 l0_2.length c0_2) l0_2 from Kd.V_mono hs0_2 (fun k_ hk => .inl hk))
  have HB := Aside0.mk (Below.refl w.heap.size w)
  have H : (some (a0_0, a0_1, l0_2)) = some (r1, r2, r3) := h
  clear h
  simp only [Option.some.injEq, Prod.mk.injEq] at H
  obtain ⟨rfl, rfl, rfl⟩ := H
  go_enter Try.func27, Try.ntmps27
  go_wp2_with (first | ((with_reducible refine gate_dst (N := 1) rfl ?_); refine box_event ?hg (N := 1) ?hd (cs := #[.int .i64 a0_0, .int .i64 a0_1, .slice A0_2 l0_2.length c0_2]) (t := 32) ?hr ?_; (case hd => rfl); (case hg => rfl); (case hr => first | (go_simp; done) | (go_simp; rfl)); intro gb367 hg w2 hbox hb; have n0_ := Aside0.mk (Kd.V_below (Kd.V_elderB (by (with_reducible repeat (first | apply Kd.V_alloc | apply Kd.V_drewN | apply Kd.V_drew)); exact HO0_2.out) gb367 (Nat.le_of_eq hg.symm)) hb); have n1_ := Aside0.mk (below_step (by repeat (first | (with_reducible first | exact HB.out | apply below_alloc | apply pw_below_drewN | apply below_drew1) | exact HB.out)) hb); have n2_ := Aside0.mk (hbox); have n3_ := Aside0.mk ((by rw [hg]; exact (below_size (by repeat (first | (with_reducible first | exact HB.out | apply below_alloc | apply pw_below_drewN | apply below_drew1) | exact HB.out))) : w.heap.size ≤ gb367)); have n4_ := Aside0.mk ((by rw [hg]; exact (below_size (by repeat (first | (with_reducible first | exact HB.out | apply below_alloc | apply pw_below_drewN | apply below_drew1) | exact HB.out))) : w.heap.size ≤ gb367)); clear HO0_2; clear HB; have HO0_2 := n0_; have HB := n1_; have BK367 := n2_; have GW367 := n3_; have GE367 := n4_; clear n0_ n1_ n2_ n3_ n4_; clear hb hbox hg) | ((with_reducible refine gate_dst (N := 2) rfl ?_); refine box_event ?hg (N := 2) ?hd (cs := #[.int .i64 0, .int .i64 0, .slice none 0 0]) (t := 24) ?hr ?_; (case hd => rfl); (case hg => rfl); (case hr => first | (go_simp; done) | (go_simp; rfl)); intro gb368 hg w3 hbox hb; have n0_ := Aside0.mk (Kd.V_below (Kd.V_elderB (by (with_reducible repeat (first | apply Kd.V_alloc | apply Kd.V_drewN | apply Kd.V_drew)); exact HO0_2.out) gb368 (Nat.le_of_eq hg.symm)) hb); have n1_ := Aside0.mk (blk_below (g := gb367) (o := .cells #[.int .i64 a0_0, .int .i64 a0_1, .slice A0_2 l0_2.length c0_2] 32 (0, 0)) (by (with_reducible repeat (first | refine blk_drewN ?_ _ | refine blk_drew ?_ | refine blk_alloc ?_ _)); exact BK367.out) hb); have n2_ := Aside0.mk (below_step (by repeat (first | (with_reducible first | exact HB.out | apply below_alloc | apply pw_below_drewN | apply below_drew1 | refine below_set ?_ GE367.out) | exact HB.out)) hb); have n3_ := Aside0.mk (hbox); have n4_ := Aside0.mk ((by rw [hg]; exact (below_size (by repeat (first | (with_reducible first | exact HB.out | apply below_alloc | apply pw_below_drewN | apply below_drew1 | refine below_set ?_ GE367.out) | exact HB.out))) : w.heap.size ≤ gb368)); have n5_ := Aside0.mk ((by rw [hg]; exact (below_size (by repeat (first | (with_reducible first | exact HB.out | apply below_alloc | apply pw_below_drewN | apply below_drew1 | refine below_set ?_ GE367.out) | exact HB.out))) : w.heap.size ≤ gb368)); have n6_ := Aside0.mk ((by rw [hg]; exact Nat.ne_of_lt (blk_lt (g := gb367) (o := .cells #[.int .i64 a0_0, .int .i64 a0_1, .slice A0_2 l0_2.length c0_2] 32 (0, 0)) (by (with_reducible repeat (first | refine blk_drewN ?_ _ | refine blk_drew ?_ | refine blk_alloc ?_ _)); exact BK367.out)) : gb367 ≠ gb368)); have n7_ := Aside0.mk ((by rw [hg]; exact Nat.ne_of_gt (blk_lt (g := gb367) (o := .cells #[.int .i64 a0_0, .int .i64 a0_1, .slice A0_2 l0_2.length c0_2] 32 (0, 0)) (by (with_reducible repeat (first | refine blk_drewN ?_ _ | refine blk_drew ?_ | refine blk_alloc ?_ _)); exact BK367.out)) : gb368 ≠ gb367)); clear HO0_2; clear BK367; clear HB; have HO0_2 := n0_; have BK367 := n1_; have HB := n2_; have BK368 := n3_; have GW368 := n4_; have GE368 := n5_; have NB367_368 := n6_; have NB368_367 := n7_; clear n0_ n1_ n2_ n3_ n4_ n5_ n6_ n7_; clear hb hbox hg; have hnb4 := NB367_368.out; have hnc4 := NB368_367.out; have hcz5_0 : w3.cell? ⟨gb367, 0, none⟩ = some (.int .i64 a0_0) := (blk_cell BK367.out 0).trans rfl; have hcz5_1 : w3.cell? ⟨gb367, 1, none⟩ = some (.int .i64 a0_1) := (blk_cell BK367.out 1).trans rfl; have hcz5_2 : w3.cell? ⟨gb367, 2, none⟩ = some (.slice A0_2 l0_2.length c0_2) := (blk_cell BK367.out 2).trans rfl; have hfz5_0 := blk_frozen BK367.out 0; have hfz5_1 := blk_frozen BK367.out 1; have hfz5_2 := blk_frozen BK367.out 2; have hcz6_0 : w3.cell? ⟨gb368, 0, none⟩ = some (.int .i64 0) := (blk_cell BK368.out 0).trans rfl; have hcz6_1 : w3.cell? ⟨gb368, 1, none⟩ = some (.int .i64 0) := (blk_cell BK368.out 1).trans rfl; have hcz6_2 : w3.cell? ⟨gb368, 2, none⟩ = some (.slice none 0 0) := (blk_cell BK368.out 2).trans rfl; have hfz6_0 := blk_frozen BK368.out 0; have hfz6_1 := blk_frozen BK368.out 1; have hfz6_2 := blk_frozen BK368.out 2))
  refine bodyPost_ret (results_cell_row rfl _ _ gb368 24 #[.int .i64 a0_0, .int .i64 a0_1, .slice A0_2 l0_2.length c0_2] (0, 0) _ rfl (by (with_reducible repeat (first | refine blk_drewN ?_ _ | refine blk_drew ?_ | refine blk_alloc ?_ _)); refine blk_put (cs := #[.int .i64 a0_0, .int .i64 a0_1, .slice none 0 0]) ?_ 2 _ rfl; (with_reducible repeat (first | refine blk_drewN ?_ _ | refine blk_drew ?_ | refine blk_alloc ?_ _)); refine blk_put (cs := #[.int .i64 a0_0, .int .i64 0, .slice none 0 0]) ?_ 1 _ rfl; (with_reducible repeat (first | refine blk_drewN ?_ _ | refine blk_drew ?_ | refine blk_alloc ?_ _)); refine blk_put (cs := #[.int .i64 0, .int .i64 0, .slice none 0 0]) ?_ 0 _ rfl; (with_reducible repeat (first | refine blk_drewN ?_ _ | refine blk_drew ?_ | refine blk_alloc ?_ _)); exact BK368.out) Try.underlying24 rfl (by kernel_rfl)) rfl ?_
  exact ⟨_, by first | rfl | (simp [errW_none, errW_some] <;> rfl) | (simp [*, errW_none, errW_some] <;> rfl), by (with_reducible repeat (first | apply Kd.V_alloc | apply Kd.V_drewN | apply Kd.V_drew)); exact Kd.V_mono (Kd.V_far (p := ⟨gb368, 2, none⟩) (Kd.V_far (p := ⟨gb368, 1, none⟩) (Kd.V_far (p := ⟨gb368, 0, none⟩) (Kd.V_mono HO0_2.out (fun k_ hk => (⟨hk, hk.2⟩ : _ ∧ k_ ≠ gb368))) (fun _ hk => hk.2) (.int .i64 a0_0)) (fun _ hk => hk.2) (.int .i64 a0_1)) (fun _ hk => hk.2) (.slice A0_2 l0_2.length c0_2)) (fun _ hk => hk.1.1.1), by repeat (first | (with_reducible first | exact HB.out | apply below_alloc | apply pw_below_drewN | apply below_drew1 | refine below_set ?_ GE368.out) | exact HB.out)⟩

-- NOT PRINTED: function 6 (chequerlaw03_RectParts)

abbrev Fl167 : Array Bool := #[false, false, false, false, false, false, false, false, false, false]
abbrev Fl168 : Array Bool := #[true, false, false, false, false, false, false, false, false, false]
abbrev Fl169 : Array Bool := #[true, true, false, false, false, false, false, false, false, false]
abbrev Fl170 : Array Bool := #[true, true, true, false, false, false, false, false, false, false]
abbrev Fl171 : Array Bool := #[true, true, true, false, false, true, false, false, false, false]
abbrev Fl172 : Array Bool := #[true, true, true, false, false, true, true, false, false, false]
abbrev Fl173 : Array Bool := #[true, true, true, true, false, true, true, false, false, false]
abbrev Fl174 : Array Bool := #[true, true, true, true, true, true, true, false, false, false]
abbrev Fl175 : Array Bool := #[true, true, true, true, true, true, true, true, false, false]
abbrev Fl176 : Array Bool := #[true, true, true, true, true, true, true, true, true, false]
abbrev Fl177 : Array Bool := #[true, true, true, true, true, true, true, true, true, true]
/-! ### chequerref03_Of: function 30 -/
def chequerref03_Of.l0 : Nat → List (List Int) → Int → Int → Int → List Int → Option (Int × Int × List Int × Int)
 | 0, _, _, _, _, _ => none
 | k + 1, x0, x5, x454000, x454001, x454002 => if x5 < (x0.length : Int) then (if 0 ≤ x5 then (if 0 < (x0.length : Int) then (if ((rd_L2 x0 x5).length : Int) = ((rd_L2 x0 0).length : Int) then (if x454002.length + (rd_L2 x0 x5).length < 17592186044416 then (chequerref03_Of.l0 k x0 (wrap64 (x5 + 1)) ((rd_L2 x0 x5).length : Int) (wrap64 (x454001 + 1)) (x454002 ++ (rd_L2 x0 x5))) else (none)) else (some (0, 0, ([] : List Int), 1))) else (none)) else (none)) else ((chequerref03_May.f x454000 x454001 x454002).bind fun t461 => (if t461 = true then (some (x454000, x454001, x454002, 0)) else (some (0, 0, ([] : List Int), 1))))
def chequerref03_Of.f (k : Nat) (l0 : List (List Int)) : Option (Int × Int × List Int × Int) := chequerref03_Of.l0 k l0 0 0 0 ([] : List Int)
theorem chequerref03_Of.mono_l : ∀ k, (∀ y0 y1 y2 y3 y4, LeO (chequerref03_Of.l0 k y0 y1 y2 y3 y4) (chequerref03_Of.l0 (k + 1) y0 y1 y2 y3 y4))
 | 0 => fun _ _ _ _ _ r h => by simp [chequerref03_Of.l0] at h
 | k + 1 => by
  have ih0 := chequerref03_Of.mono_l k
  · intro y0 y1 y2 y3 y4
    unfold chequerref03_Of.l0
    repeat' first
    | (with_reducible exact ih0 _ _ _ _ _)
    | (with_reducible exact LeO.refl _)
    | (with_reducible exact LeO.none _)
    | (with_reducible refine LeO.ite ?_ ?_)
    | (with_reducible refine LeO.bind ?_ (fun _ => ?_))
    | exact ih0 _ _ _ _ _
    | exact LeO.none _
    | refine LeO.ite ?_ ?_
    | refine LeO.bind ?_ (fun _ => ?_)
theorem chequerref03_Of.mono : ∀ a0 k, LeO (chequerref03_Of.f k a0) (chequerref03_Of.f (k + 1) a0) := by
 intro a0 k
 have ih0 := chequerref03_Of.mono_l k
 unfold chequerref03_Of.f
 repeat' first
  | (with_reducible exact ih0 _ _ _ _ _)
  | (with_reducible exact LeO.refl _)
  | (with_reducible exact LeO.none _)
  | (with_reducible refine LeO.ite ?_ ?_)
  | (with_reducible refine LeO.bind ?_ (fun _ => ?_))
  | exact ih0 _ _ _ _ _
  | exact LeO.none _
  | refine LeO.ite ?_ ?_
  | refine LeO.bind ?_ (fun _ => ?_)
def chequerref03_Of.T5 : Bool × List (List Nat × List Nat) := (true, [([], []), ([], []), ([0, 1], [0, 1]), ([2], [2]), ([3], [3]), ([], []), ([5], [5]), ([6], [6]), ([7], [7]), ([4, 8], [4, 8])])
def chequerref03_Of.B5 : List Nat := [0, 0, 3, 7, 15, 0, 32, 96, 224, 511]
theorem chequerref03_Of.tab5 : rtab .any (opsOf Try.f30 5) = chequerref03_Of.T5 := by kernel_rfl
theorem chequerref03_Of.bits5 : waitsOk chequerref03_Of.T5.2 chequerref03_Of.B5 = true := by kernel_rfl
def chequerref03_Of.T9 : Bool × List (List Nat × List Nat) := (true, [([], []), ([0], [0]), ([], []), ([], []), ([2, 3], [2, 3]), ([4], [4]), ([1, 5], [1, 5]), ([0, 1, 2, 3, 4, 5, 6], []), ([7, 6, 6, 0, 1, 2, 3, 4, 5, 6], [6, 7])])
def chequerref03_Of.B9 : List Nat := [0, 1, 0, 0, 12, 28, 63, 127, 255]
theorem chequerref03_Of.tab9 : rtab .any (opsOf Try.f30 9) = chequerref03_Of.T9 := by kernel_rfl
theorem chequerref03_Of.bits9 : waitsOk chequerref03_Of.T9.2 chequerref03_Of.B9 = true := by kernel_rfl
set_option maxHeartbeats 8000000 in
set_option maxRecDepth 100000 in
theorem chequerref03_Of.calls (k : Nat) (A0 : Option Addr) (c0 : Nat) (l0 : List (List Int)) (r1 : Int) (r2 : Int) (r3 : List Int) (r4 : Int) (w : World) (hr0 : Kd.C (Kd.slice 46 (Kd.int .u64)) w A0 l0.length l0) (hc0 : l0.length ≤ c0) (h : chequerref03_Of.f k l0 = some (r1, r2, r3, r4)) :
 Calls Try.prog 30 #[.slice A0 l0.length c0] w fun e w' => ∃ v2_ : Value, e = .returned (.tuple #[.agg #[.int .i64 r1, .int .i64 r2, v2_], .int .i64 r4]) ∧ Kd.R (Kd.int .u64) 46 w' w.heap.size (fun _ => True) v2_ r3 ∧ Below w.heap.size w w' := by
 have hu24 := Try.underlying24
 have HR0 := Aside0.mk hr0
 have HC0 := Aside0.mk hc0
 clear hr0 hc0
 have HB := Aside0.mk (Below.refl w.heap.size w)
 have H : (chequerref03_Of.l0 k l0 0 0 0 ([] : List Int)) = some (r1, r2, r3, r4) := h
 clear h
 have H' := Aside0.mk H
 clear H
 go_enter Try.func30, Try.ntmps30
 go_wp2_with (first | ((with_reducible refine gate_dst (N := 2) rfl ?_); refine box_event ?hg (N := 2) ?hd (cs := #[.int .i64 0, .int .i64 0, .slice none 0 0]) (t := 24) ?hr ?_; (case hd => rfl); (case hg => rfl); (case hr => first | (go_simp; done) | (go_simp; rfl)); intro gb452 hg w2 hbox hb; have BK452 := Aside0.mk (hbox); have GW452 := Aside0.mk ((by rw [hg]; exact (below_size bp_) : w.heap.size ≤ gb452)); have GE452 := Aside0.mk ((by rw [hg]; exact (below_size bp_) : w.heap.size ≤ gb452)); replace HB := Aside0.mk (below_step bp_ hb); clear hb hbox hg) | ((with_reducible refine gate_dst (N := 4) rfl ?_); refine box_event ?hg (N := 4) ?hd (cs := #[.int .i64 0, .int .i64 0, .slice none 0 0]) (t := 24) ?hr ?_; (case hd => rfl); (case hg => rfl); (case hr => first | (go_simp; done) | (go_simp; rfl)); intro gb453 hg w3 hbox hb; have BK453 := Aside0.mk (hbox); have GW453 := Aside0.mk ((by rw [hg]; exact (below_size bp_) : w.heap.size ≤ gb453)); have GE453 := Aside0.mk ((by rw [hg]; exact (below_size bp_) : w.heap.size ≤ gb453)); replace HB := Aside0.mk (below_step bp_ hb); have NB452_453 := Aside0.mk ((nlt_ hg (hp_ BK452.out))); have NB453_452 := Aside0.mk ((ngt_ hg (hp_ BK452.out))); replace BK452 := Aside0.mk (blk_below (hp_ BK452.out) hb); clear hb hbox hg))
 go_loopg [5] k (fun kq v5 w' => ∃ (x5_1 : Int) (x453000_1 : Int) (x453001_1 : Int) (x454000_1 : Int) (x454001_1 : Int) (x454002_1 : List Int) (u454002 : Value), v5 = .int .i64 x5_1 ∧ Aside0 (chequerref03_Of.l0 kq l0 x5_1 x454000_1 x454001_1 x454002_1 = some (r1, r2, r3, r4)) ∧ Aside0 (kq ≤ k) ∧ Aside0 (Kd.R (Kd.int .u64) 46 w' w.heap.size (fun _ => True) u454002 x454002_1) ∧ Aside0 (w'.heap[gb452]? = some (.cells #[.int .i64 x453000_1, .int .i64 x453001_1, (.slice none 0 0)] 24 (0, 0))) ∧ Aside0 (w'.heap[gb453]? = some (.cells #[.int .i64 x454000_1, .int .i64 x454001_1, u454002] 24 (0, 0))) ∧ Aside0 (Below w.heap.size w w'))
 case atStart => exact ⟨(0), (0), (0), (0), (0), (([] : List Int)), (.slice none 0 0), (by first | rfl | (simp; done) | (simp [*]; done)), H', ⟨Nat.le_refl _⟩, ⟨by first | exact Kd.R_nil _ _ _ _ _ | exact Kd.N_nil _ _ _ _ _ | exact Kd.V_nil _ _ _ _ _ | exact Kd.Q_nil _ _ _ _ _ | exact Kd.S_nil _ _ _ _ _⟩, ⟨hp_ BK452.out⟩, ⟨hp_ BK453.out⟩, ⟨bp_⟩⟩
 case round =>
  clear H'
  try clear p2
  try clear c3
  obtain ⟨x5_1, x453000_1, x453001_1, x454000_1, x454001_1, x454002_1, u454002, rfl, HA, HK1, HO_454002, BK452, BK453, HB⟩ := hrel
  cases gk with
  | zero => exact absurd HA.out (by simp [chequerref03_Of.l0])
  | succ k1 =>
   have H := HA.out
   clear HA
   simp only [chequerref03_Of.l0] at H
   by_cases c4 : x5_1 < (l0.length : Int)
   · rw [if_pos c4] at H
     have c4b0 : decide (x5_1 < (l0.length : Int)) = true := decide_eq_true c4
     clear c4
     by_cases c5 : 0 ≤ x5_1
     · rw [if_pos c5] at H
       have c5b0 : decide (0 ≤ x5_1) = true := decide_eq_true c5
       clear c5
       by_cases c6 : 0 < (l0.length : Int)
       · rw [if_pos c6] at H
         have c6b0 : decide (0 < (l0.length : Int)) = true := decide_eq_true c6
         have c6b1 : decide (0 < l0.length) = true := decide_eq_true (by omega)
         clear c6
         by_cases c7 : ((rd_L2 l0 x5_1).length : Int) = ((rd_L2 l0 0).length : Int)
         · rw [if_pos c7] at H
           have c7b0 : (((rd_L2 l0 x5_1).length : Int) == ((rd_L2 l0 0).length : Int)) = true := beq_iff_eq.mpr c7
           have c7b1 : (((rd_L2 l0 x5_1).length : Int) != ((rd_L2 l0 0).length : Int)) = false := bne_eq_false_iff_eq.mpr c7
           have c7b2 : ((rd_L2 l0 x5_1).length == (rd_L2 l0 0).length) = true := by first | simpa using c7 | (simp at c7 ⊢; omega)
           clear c7
           by_cases c8 : x454002_1.length + (rd_L2 l0 x5_1).length < 17592186044416
           · rw [if_pos c8] at H
             have LMc8 := Aside0.mk c8
             clear c8
             obtain ⟨y458, hy458⟩ : ∃ y_ : List Int, y_ = (x454002_1 ++ (rd_L2 l0 x5_1)) := ⟨_, rfl⟩
             replace H : (chequerref03_Of.l0 k1 l0 (wrap64 (x5_1 + 1)) ((rd_L2 l0 x5_1).length : Int) (wrap64 (x454001_1 + 1)) y458) = some (r1, r2, r3, r4) := by first | (rw [hy458]; with_reducible exact H) | (have H2_ := (Option.bind_some _ _).symm.trans H; rw [hy458]; with_reducible exact H2_) | (have H2_ := (Option.bind_some _ _).symm.trans H; with_reducible exact H2_) | with_reducible exact H | (rw [hy458]; exact H) | exact H
             have Ny458 := Aside0.mk hy458
             clear hy458
             have H' := Aside0.mk H
             clear H
             try go_wp2
             (try (rw [drewN_self wr]; generalize hq_ : World.drewN wr _ = wr; have n0_ := Aside0.mk (qrp_ hq_ HO_454002.out); have n1_ := Aside0.mk (qhp_ hq_ BK452.out); have n2_ := Aside0.mk (qhp_ hq_ BK453.out); have n3_ : Aside0 (Below w.heap.size w wr) := ⟨qbp_ hq_⟩; clear HO_454002 BK452 BK453 HB hq_; have HO_454002 := n0_; have BK452 := n1_; have BK453 := n2_; have HB := n3_; clear n0_ n1_ n2_ n3_))
             replace HO_454002 := Aside0.mk (Kd.R_drew HO_454002.out)
             replace BK452 := Aside0.mk (blk_drew BK452.out)
             replace BK453 := Aside0.mk (blk_drew BK453.out)
             replace HB := Aside0.mk (below_drew1 HB.out)
             have p454 : 0 ≤ (x5_1 : Int) := of_decide_eq_true (by first | (with_reducible assumption) | assumption)
             have q454 : x5_1 < (l0.length : Int) := of_decide_eq_true (by first | (with_reducible assumption) | assumption)
             obtain ⟨ad454, A454_0, c454_0, e454, hx454_0, hl454_0, hi454_0⟩ := at_L2 HR0.out x5_1 p454 q454
             have hw454_0 := hx454_0
             cases e454
             replace hx454_0 := (HB.out.cell (World.block_lt_of_cell? w _ hx454_0)).trans hx454_0
             have HR454_0 := Aside0.mk hi454_0
             have HC454_0 := Aside0.mk hl454_0
             clear hi454_0 hl454_0
             replace p454 := eq_true p454
             replace q454 := eq_true q454
             have p455 : 0 ≤ (0 : Int) := (by omega)
             have q455 : 0 < (l0.length : Int) := of_decide_eq_true (by first | (with_reducible assumption) | assumption)
             obtain ⟨ad455, A455_0, c455_0, e455, hx455_0, hl455_0, hi455_0⟩ := at_L2 HR0.out 0 p455 q455
             have hw455_0 := hx455_0
             (try rw [show ((0 : Int)).toNat = 0 from rfl] at hw455_0)
             (try rw [show 0 * 1 = 0 from rfl] at hw455_0)
             (try rw [Addr.add_zero'] at hw455_0)
             obtain rfl : ad454 = ad455 := (by injection e455)
             have qi455 : (0 < l0.length) = True := eq_true (by omega)
             (try rw [show ((0 : Int)).toNat = 0 from rfl] at hx455_0)
             (try rw [Addr.add_zero'] at hx455_0)
             replace hx455_0 := (HB.out.cell (World.block_lt_of_cell? w _ hx455_0)).trans hx455_0
             have HR455_0 := Aside0.mk hi455_0
             have HC455_0 := Aside0.mk hl455_0
             clear hi455_0 hl455_0
             replace p455 := eq_true p455
             replace q455 := eq_true q455
             refine start_ (n := 10) (S := fun w' => w'.cell? (ad454.add (x5_1).toNat) = some (.slice A454_0 (rd_L2 l0 x5_1).length c454_0) ∧ w'.cell? ad454 = some (.slice A455_0 (rd_L2 l0 0).length c455_0)) (ds := []) Fl167 (by kernel_rfl) rfl rfl ⟨((HB.out.cell (World.block_lt_of_cell? w _ hw454_0)).trans hw454_0), ((HB.out.cell (World.block_lt_of_cell? w _ hw455_0)).trans hw455_0)⟩ (fun hHeld => ?_); refine with_tabW chequerref03_Of.tab5 chequerref03_Of.bits5 (fun HT_ HW_ => ?_)
             generalize wr.drew = w9 at HO_454002 BK452 BK453 HB HR454_0 HR455_0 hx454_0 hx455_0 hHeld ⊢
             refine pur_ (i := 0) (N := some 13) Fl168 (any_of HT_.out (by kernel_rfl)) ?_
             refine pur_ (i := 1) (N := some 14) Fl169 (any_of HT_.out (by kernel_rfl)) ?_
             refine pur_ (i := 2) (N := some 15) Fl170 (any_of HT_.out (by kernel_rfl)) ?_
             refine pur_ (i := 5) (N := some 18) Fl171 (any_of HT_.out (by kernel_rfl)) ?_
             refine pur_ (i := 6) (N := some 19) Fl172 (any_of HT_.out (by kernel_rfl)) ?_
             refine take_ (i := 3) (N := some 16) (v := ?_) (a' := ?_) Fl173 rfl rfl (take_ofW HT_.out HW_.out (by kernel_rfl)) (fun _ _ _ h => h) (Or.inl ⟨by rfl, ?_⟩) hHeld ?_ ?_
             rotate_left
             · rintro w' ⟨s0, s1⟩
               go_simp
               with_reducible rfl
             rotate_left
             · simp only [Act.put, List.setIfInBounds_toArray, List.set_cons_zero, List.set_cons_succ, i64_w, i32_w]
               rfl
             refine pur_ (i := 4) (N := some 17) Fl174 (any_of HT_.out (by kernel_rfl)) ?_
             refine take_ (i := 7) (N := some 20) (v := ?_) (a' := ?_) Fl175 rfl rfl (take_ofW HT_.out HW_.out (by kernel_rfl)) (fun _ _ _ h => h) (Or.inl ⟨by rfl, ?_⟩) hHeld ?_ ?_
             rotate_left
             · rintro w' ⟨s0, s1⟩
               go_simp
               with_reducible rfl
             rotate_left
             · simp only [Act.put, List.setIfInBounds_toArray, List.set_cons_zero, List.set_cons_succ, i64_w, i32_w]
               rfl
             refine pur_ (i := 8) (N := some 21) Fl176 (any_of HT_.out (by kernel_rfl)) ?_
             refine pur_ (i := 9) (N := some 22) Fl177 (any_of HT_.out (by kernel_rfl)) ?_
             refine done_ (done_of HT_.out (by kernel_rfl)) ?_
             have p456 : 0 ≤ (x5_1 : Int) := of_decide_eq_true (by first | (with_reducible assumption) | assumption)
             have q456 : x5_1 < (l0.length : Int) := of_decide_eq_true (by first | (with_reducible assumption) | assumption)
             obtain ⟨ad456, A456_0, c456_0, e456, hx456_0, hl456_0, hi456_0⟩ := at_L2 HR0.out x5_1 p456 q456
             obtain rfl : ad454 = ad456 := (by injection e456)
             replace hx456_0 := (HB.out.cell (World.block_lt_of_cell? w _ hx456_0)).trans hx456_0
             have HR456_0 := Aside0.mk hi456_0
             have HC456_0 := Aside0.mk hl456_0
             clear hi456_0 hl456_0
             replace p456 := eq_true p456
             replace q456 := eq_true q456
             have ea_ := Option.some.inj (hx454_0.symm.trans hx456_0)
             injection ea_ with ea_ en_ ec_
             subst ea_
             subst ec_
             clear en_
             have hnb10 := NB453_452.out
             have hnc10 := NB452_453.out
             have hcz11_0 : w9.cell? ⟨gb453, 0, none⟩ = some (.int .i64 x454000_1) := (blk_cell BK453.out 0).trans rfl
             have hcz11_1 : w9.cell? ⟨gb453, 1, none⟩ = some (.int .i64 x454001_1) := (blk_cell BK453.out 1).trans rfl
             have hcz11_2 : w9.cell? ⟨gb453, 2, none⟩ = some (u454002) := (blk_cell BK453.out 2).trans rfl
             have hfz11_0 := blk_frozen BK453.out 0
             have hfz11_1 := blk_frozen BK453.out 1
             have hfz11_2 := blk_frozen BK453.out 2
             try go_wp2
             have n0_ : Aside0 (Kd.R (Kd.int .u64) 46 ((w9.setCell ⟨gb453, 0, none⟩ (.int .i64 ((rd_L2 l0 x5_1).length : Int))).setCell ⟨gb453, 1, none⟩ (.int .i64 (wrap64 (x454001_1 + 1)))) w.heap.size (fun _ => True) u454002 x454002_1) := ⟨rf_ HO_454002.out BK453.out (by decide) (fun _ hk => trivial)⟩
             have n1_ : Aside0 (((w9.setCell ⟨gb453, 0, none⟩ (.int .i64 ((rd_L2 l0 x5_1).length : Int))).setCell ⟨gb453, 1, none⟩ (.int .i64 (wrap64 (x454001_1 + 1)))).heap[gb452]? = some (.cells #[.int .i64 x453000_1, .int .i64 x453001_1, .slice none 0 0] 24 (0, 0))) := ⟨hf_ BK452.out NB452_453.out⟩
             have n2_ : Aside0 (((w9.setCell ⟨gb453, 0, none⟩ (.int .i64 ((rd_L2 l0 x5_1).length : Int))).setCell ⟨gb453, 1, none⟩ (.int .i64 (wrap64 (x454001_1 + 1)))).heap[gb453]? = some (.cells #[.int .i64 ((rd_L2 l0 x5_1).length : Int), .int .i64 (wrap64 (x454001_1 + 1)), u454002] 24 (0, 0))) := ⟨by (with_reducible repeat (first | refine blk_drewN ?_ _ | refine blk_drew ?_ | refine blk_alloc ?_ _)); refine blk_put (cs := #[.int .i64 ((rd_L2 l0 x5_1).length : Int), .int .i64 x454001_1, u454002]) ?_ 1 _ rfl; (with_reducible repeat (first | refine blk_drewN ?_ _ | refine blk_drew ?_ | refine blk_alloc ?_ _)); refine blk_put (cs := #[.int .i64 x454000_1, .int .i64 x454001_1, u454002]) ?_ 0 _ rfl; (with_reducible repeat (first | refine blk_drewN ?_ _ | refine blk_drew ?_ | refine blk_alloc ?_ _)); exact BK453.out⟩
             have n3_ : Aside0 (Below w.heap.size w ((w9.setCell ⟨gb453, 0, none⟩ (.int .i64 ((rd_L2 l0 x5_1).length : Int))).setCell ⟨gb453, 1, none⟩ (.int .i64 (wrap64 (x454001_1 + 1))))) := ⟨bp_⟩
             (try clear HO_454002)
             (try clear BK452)
             (try clear BK453)
             (try clear HB)
             generalize ((w9.setCell ⟨gb453, 0, none⟩ (.int .i64 ((rd_L2 l0 x5_1).length : Int))).setCell ⟨gb453, 1, none⟩ (.int .i64 (wrap64 (x454001_1 + 1)))) = w12 at n0_ n1_ n2_ n3_ ⊢
             have HO_454002 := n0_
             have BK452 := n1_
             have BK453 := n2_
             have HB := n3_
             clear n0_ n1_ n2_ n3_
             replace HO_454002 := Aside0.mk (Kd.R_drew HO_454002.out)
             replace BK452 := Aside0.mk (blk_drew BK452.out)
             replace BK453 := Aside0.mk (blk_drew BK453.out)
             replace HB := Aside0.mk (below_drew1 HB.out)
             have p457 : 0 ≤ (x5_1 : Int) := of_decide_eq_true (by first | (with_reducible assumption) | assumption)
             have q457 : x5_1 < (l0.length : Int) := of_decide_eq_true (by first | (with_reducible assumption) | assumption)
             obtain ⟨ad457, A457_0, c457_0, e457, hx457_0, hl457_0, hi457_0⟩ := at_L2 HR0.out x5_1 p457 q457
             have hw457_0 := hx457_0
             obtain rfl : ad454 = ad457 := (by injection e457)
             replace hx457_0 := (HB.out.cell (World.block_lt_of_cell? w _ hx457_0)).trans hx457_0
             have HR457_0 := Aside0.mk hi457_0
             have HC457_0 := Aside0.mk hl457_0
             clear hi457_0 hl457_0
             replace p457 := eq_true p457
             replace q457 := eq_true q457
             refine start_ (n := 9) (S := fun w' => w'.cell? ⟨gb453, 0, none⟩ = some (.int .i64 ((rd_L2 l0 x5_1).length : Int)) ∧ w'.cell? ⟨gb453, 1, none⟩ = some (.int .i64 (wrap64 (x454001_1 + 1))) ∧ w'.cell? ⟨gb453, 2, none⟩ = some (u454002) ∧ w'.cell? (ad454.add (x5_1).toNat) = some (.slice A457_0 (rd_L2 l0 x5_1).length c457_0)) (ds := [8]) #[false, false, false, false, false, false, false, false, false] (by kernel_rfl) rfl rfl ⟨(blk_cell BK453.out 0).trans rfl, (blk_cell BK453.out 1).trans rfl, (blk_cell BK453.out 2).trans rfl, ((HB.out.cell (World.block_lt_of_cell? w _ hw457_0)).trans hw457_0)⟩ (fun hHeld => ?_); refine with_tabW chequerref03_Of.tab9 chequerref03_Of.bits9 (fun HT_ HW_ => ?_)
             generalize w12.drew = w13 at HO_454002 BK452 BK453 HB HR457_0 hx457_0 hHeld ⊢
             refine pur_ (i := 0) (N := some 34) #[true, false, false, false, false, false, false, false, false] (any_of HT_.out (by kernel_rfl)) ?_
             refine pur_ (i := 2) (N := some 36) #[true, false, true, false, false, false, false, false, false] (any_of HT_.out (by kernel_rfl)) ?_
             refine pur_ (i := 3) (N := some 37) #[true, false, true, true, false, false, false, false, false] (any_of HT_.out (by kernel_rfl)) ?_
             refine pur_ (i := 4) (N := some 38) #[true, false, true, true, true, false, false, false, false] (any_of HT_.out (by kernel_rfl)) ?_
             refine take_ (i := 1) (N := some 35) (v := ?_) (a' := ?_) #[true, true, true, true, true, false, false, false, false] rfl rfl (take_ofW HT_.out HW_.out (by kernel_rfl)) (fun _ _ _ h => h) (Or.inl ⟨by rfl, ?_⟩) hHeld ?_ ?_
             rotate_left
             · rintro w' ⟨s0, s1, s2, s3⟩
               go_simp
               with_reducible rfl
             rotate_left
             · simp only [Act.put, List.setIfInBounds_toArray, List.set_cons_zero, List.set_cons_succ, i64_w, i32_w]
               rfl
             refine take_ (i := 5) (N := some 39) (v := ?_) (a' := ?_) #[true, true, true, true, true, true, false, false, false] rfl rfl (take_ofW HT_.out HW_.out (by kernel_rfl)) (fun _ _ _ h => h) (Or.inl ⟨by rfl, ?_⟩) hHeld ?_ ?_
             rotate_left
             · rintro w' ⟨s0, s1, s2, s3⟩
               go_simp
               with_reducible rfl
             rotate_left
             · simp only [Act.put, List.setIfInBounds_toArray, List.set_cons_zero, List.set_cons_succ, i64_w, i32_w]
               rfl
             refine one_ (i := 6) (N := some 40) #[true, true, true, true, true, true, true, false, false] rfl rfl (one_of HT_.out (by kernel_rfl)) (by decide) (fun K hK => ?_)
             refine Kd.R_append_rows_step (Kd.int .u64) (w0 := w) w.heap.size (by rfl) (.tmp 35) (.tmp 39) 22 46 (.int .u64 0) 8 rfl Try.underlying22 info46 rfl (by decide) (by omega) u454002 x454002_1 (rd_L2 l0 x5_1) _ _ _ (fun _ => True) (fun _ => False) rfl rfl ?aO ?aR (fun _ _ h => h) (fun _ h => h.elim) ?aF ?aB ?aS ?aL ?_
             (case aR => repeat (first | exact (Kd.C_below HR457_0.out HB.out) | (with_reducible refine Kd.C_alloc ?_ _) | (with_reducible refine Kd.C_drewN ?_ _) | (with_reducible refine Kd.C_drew ?_)))
             (case aB => exact bp_)
             (case aF => exact (fun _ _ => trivial))
             (case aO => exact (rp_ HO_454002.out))
             (case aS => exact (below_size bp_))
             (case aL => have := LMc8.out; omega)
             intro v459 w14 ho hb hg hat
             rw [← Ny458.out] at ho
             replace BK452 := Aside0.mk (blk_grown (g := gb452) (o := .cells #[.int .i64 x453000_1, .int .i64 x453001_1, .slice none 0 0] 24 (0, 0)) (hp_ BK452.out) hg (Kd.R_ne HO_454002.out BK452.out (by decide)))
             replace BK453 := Aside0.mk (blk_grown (g := gb453) (o := .cells #[.int .i64 ((rd_L2 l0 x5_1).length : Int), .int .i64 (wrap64 (x454001_1 + 1)), u454002] 24 (0, 0)) (hp_ BK453.out) hg (Kd.R_ne HO_454002.out BK453.out (by decide)))
             replace HB := Aside0.mk (hb)
             have HO460 := Aside0.mk (ho)
             clear HO_454002
             clear ho hb hg hat
             obtain ⟨Ao15, co15, eo15⟩ := Kd.R_slice HO460.out
             (first | subst eo15 | (injection eo15 with f1_ f2_ f3_; have f4_ := f1_.symm; have f5_ := f3_.symm; clear f1_ f2_ f3_; subst f4_; subst f5_))
             refine hK.out _ _ ⟨(blk_cell BK453.out 0).trans rfl, (blk_cell BK453.out 1).trans rfl, (blk_cell BK453.out 2).trans rfl, ((HB.out.cell (World.block_lt_of_cell? w _ hw457_0)).trans hw457_0)⟩ (fun hHeld => ?_)
             clear hK K
             refine norm_ (a' := ?_) ?_ ?_
             rotate_left
             · show Act.put _ (some 40) _ = _
               simp only [Act.put, List.setIfInBounds_toArray, List.set_cons_zero, List.set_cons_succ, i64_w, i32_w]
               rfl
             refine pur_ (i := 7) (N := some 41) #[true, true, true, true, true, true, true, true, false] (any_of HT_.out (by kernel_rfl)) ?_
             refine last_ (i := 8) (N := none) #[true, true, true, true, true, true, true, true, true] rfl rfl (one_of HT_.out (by kernel_rfl)) (by decide) (fun K hK => ?_)
             have hs16 : w14.cell? ⟨gb453, 2, none⟩ = some (u454002) := (blk_cell BK453.out 2).trans rfl
             have hfs16 := blk_frozen BK453.out 2
             have hns16_0 := NB452_453.out
             have hms16_0 := NB453_452.out
             refine skip_ (w1 := ?_) (by rfl) rfl ?_ ?_
             rotate_left
             · go_simp
               rfl
             refine hK.out _ _ ?_
             clear hK K
             refine done_ (done_of HT_.out (by kernel_rfl)) ?_
             try go_wp2
             go_roundg k1
             case measure => have := HK1.out; omega
             case rel => exact ⟨(wrap64 (x5_1 + 1)), (x453000_1), (x453001_1), (((rd_L2 l0 x5_1).length : Int)), (wrap64 (x454001_1 + 1)), (y458), (.slice Ao15 y458.length co15), (by first | rfl | (simp; done) | (simp [*]; done)), H', ⟨by have := HK1.out; omega⟩, ⟨rf_ HO460.out BK453.out (by decide) (fun _ hk => trivial)⟩, ⟨hf_ BK452.out NB452_453.out⟩, ⟨by (with_reducible repeat (first | refine blk_drewN ?_ _ | refine blk_drew ?_ | refine blk_alloc ?_ _)); refine blk_put (cs := #[.int .i64 ((rd_L2 l0 x5_1).length : Int), .int .i64 (wrap64 (x454001_1 + 1)), u454002]) ?_ 2 _ rfl; (with_reducible repeat (first | refine blk_drewN ?_ _ | refine blk_drew ?_ | refine blk_alloc ?_ _)); exact BK453.out⟩, ⟨bp_⟩⟩
           · rw [if_neg c8] at H
             exact absurd H (by simp)
         · rw [if_neg c7] at H
           have c7b0 : (((rd_L2 l0 x5_1).length : Int) == ((rd_L2 l0 0).length : Int)) = false := beq_eq_false_iff_ne.mpr c7
           have c7b1 : (((rd_L2 l0 x5_1).length : Int) != ((rd_L2 l0 0).length : Int)) = true := bne_iff_ne.mpr c7
           have c7b2 : ((rd_L2 l0 x5_1).length == (rd_L2 l0 0).length) = false := by first | simpa using c7 | (simp at c7 ⊢; omega)
           simp only [Option.some.injEq, Prod.mk.injEq] at H
           obtain ⟨rfl, rfl, rfl, rfl⟩ := H
           try go_wp2
           (try (rw [drewN_self wr]; generalize hq_ : World.drewN wr _ = wr; have n0_ := Aside0.mk (qrp_ hq_ HO_454002.out); have n1_ := Aside0.mk (qhp_ hq_ BK452.out); have n2_ : Aside0 (Below w.heap.size w wr) := ⟨qbp_ hq_⟩; clear HO_454002 BK452 HB hq_; have HO_454002 := n0_; have BK452 := n1_; have HB := n2_; clear n0_ n1_ n2_))
           replace HO_454002 := Aside0.mk (Kd.R_drew HO_454002.out)
           replace BK452 := Aside0.mk (blk_drew BK452.out)
           replace HB := Aside0.mk (below_drew1 HB.out)
           have p454 : 0 ≤ (x5_1 : Int) := of_decide_eq_true (by first | (with_reducible assumption) | assumption)
           have q454 : x5_1 < (l0.length : Int) := of_decide_eq_true (by first | (with_reducible assumption) | assumption)
           obtain ⟨ad454, A454_0, c454_0, e454, hx454_0, hl454_0, hi454_0⟩ := at_L2 HR0.out x5_1 p454 q454
           have hw454_0 := hx454_0
           cases e454
           replace hx454_0 := (HB.out.cell (World.block_lt_of_cell? w _ hx454_0)).trans hx454_0
           have HR454_0 := Aside0.mk hi454_0
           have HC454_0 := Aside0.mk hl454_0
           clear hi454_0 hl454_0
           replace p454 := eq_true p454
           replace q454 := eq_true q454
           have p455 : 0 ≤ (0 : Int) := (by omega)
           have q455 : 0 < (l0.length : Int) := of_decide_eq_true (by first | (with_reducible assumption) | assumption)
           obtain ⟨ad455, A455_0, c455_0, e455, hx455_0, hl455_0, hi455_0⟩ := at_L2 HR0.out 0 p455 q455
           have hw455_0 := hx455_0
           (try rw [show ((0 : Int)).toNat = 0 from rfl] at hw455_0)
           (try rw [show 0 * 1 = 0 from rfl] at hw455_0)
           (try rw [Addr.add_zero'] at hw455_0)
           obtain rfl : ad454 = ad455 := (by injection e455)
           have qi455 : (0 < l0.length) = True := eq_true (by omega)
           (try rw [show ((0 : Int)).toNat = 0 from rfl] at hx455_0)
           (try rw [Addr.add_zero'] at hx455_0)
           replace hx455_0 := (HB.out.cell (World.block_lt_of_cell? w _ hx455_0)).trans hx455_0
           have HR455_0 := Aside0.mk hi455_0
           have HC455_0 := Aside0.mk hl455_0
           clear hi455_0 hl455_0
           replace p455 := eq_true p455
           replace q455 := eq_true q455
           refine start_ (n := 10) (S := fun w' => w'.cell? (ad454.add (x5_1).toNat) = some (.slice A454_0 (rd_L2 l0 x5_1).length c454_0) ∧ w'.cell? ad454 = some (.slice A455_0 (rd_L2 l0 0).length c455_0)) (ds := []) Fl167 (by kernel_rfl) rfl rfl ⟨((HB.out.cell (World.block_lt_of_cell? w _ hw454_0)).trans hw454_0), ((HB.out.cell (World.block_lt_of_cell? w _ hw455_0)).trans hw455_0)⟩ (fun hHeld => ?_); refine with_tabW chequerref03_Of.tab5 chequerref03_Of.bits5 (fun HT_ HW_ => ?_)
           generalize wr.drew = w17 at HO_454002 BK452 HB HR454_0 HR455_0 hx454_0 hx455_0 hHeld ⊢
           refine pur_ (i := 0) (N := some 13) Fl168 (any_of HT_.out (by kernel_rfl)) ?_
           refine pur_ (i := 1) (N := some 14) Fl169 (any_of HT_.out (by kernel_rfl)) ?_
           refine pur_ (i := 2) (N := some 15) Fl170 (any_of HT_.out (by kernel_rfl)) ?_
           refine pur_ (i := 5) (N := some 18) Fl171 (any_of HT_.out (by kernel_rfl)) ?_
           refine pur_ (i := 6) (N := some 19) Fl172 (any_of HT_.out (by kernel_rfl)) ?_
           refine take_ (i := 3) (N := some 16) (v := ?_) (a' := ?_) Fl173 rfl rfl (take_ofW HT_.out HW_.out (by kernel_rfl)) (fun _ _ _ h => h) (Or.inl ⟨by rfl, ?_⟩) hHeld ?_ ?_
           rotate_left
           · rintro w' ⟨s0, s1⟩
             go_simp
             with_reducible rfl
           rotate_left
           · simp only [Act.put, List.setIfInBounds_toArray, List.set_cons_zero, List.set_cons_succ, i64_w, i32_w]
             rfl
           refine pur_ (i := 4) (N := some 17) Fl174 (any_of HT_.out (by kernel_rfl)) ?_
           refine take_ (i := 7) (N := some 20) (v := ?_) (a' := ?_) Fl175 rfl rfl (take_ofW HT_.out HW_.out (by kernel_rfl)) (fun _ _ _ h => h) (Or.inl ⟨by rfl, ?_⟩) hHeld ?_ ?_
           rotate_left
           · rintro w' ⟨s0, s1⟩
             go_simp
             with_reducible rfl
           rotate_left
           · simp only [Act.put, List.setIfInBounds_toArray, List.set_cons_zero, List.set_cons_succ, i64_w, i32_w]
             rfl
           refine pur_ (i := 8) (N := some 21) Fl176 (any_of HT_.out (by kernel_rfl)) ?_
           refine pur_ (i := 9) (N := some 22) Fl177 (any_of HT_.out (by kernel_rfl)) ?_
           refine done_ (done_of HT_.out (by kernel_rfl)) ?_
           have hcz18_0 : w17.cell? ⟨gb452, 0, none⟩ = some (.int .i64 x453000_1) := (blk_cell BK452.out 0).trans rfl
           have hcz18_1 : w17.cell? ⟨gb452, 1, none⟩ = some (.int .i64 x453001_1) := (blk_cell BK452.out 1).trans rfl
           have hcz18_2 : w17.cell? ⟨gb452, 2, none⟩ = some (.slice none 0 0) := (blk_cell BK452.out 2).trans rfl
           have hfz18_0 := blk_frozen BK452.out 0
           have hfz18_1 := blk_frozen BK452.out 1
           have hfz18_2 := blk_frozen BK452.out 2
           try go_wp2
           refine bodyPost_ret (results_ct rfl _ _ gb452 24 #[.int .i64 0, .int .i64 0, .slice none 0 0] (0, 0) _ rfl (by (with_reducible repeat (first | refine blk_drewN ?_ _ | refine blk_drew ?_ | refine blk_alloc ?_ _)); refine blk_put (cs := #[.int .i64 0, .int .i64 0, .slice none 0 0]) ?_ 2 _ rfl; (with_reducible repeat (first | refine blk_drewN ?_ _ | refine blk_drew ?_ | refine blk_alloc ?_ _)); refine blk_put (cs := #[.int .i64 0, .int .i64 x453001_1, .slice none 0 0]) ?_ 1 _ rfl; (with_reducible repeat (first | refine blk_drewN ?_ _ | refine blk_drew ?_ | refine blk_alloc ?_ _)); refine blk_put (cs := #[.int .i64 x453000_1, .int .i64 x453001_1, .slice none 0 0]) ?_ 0 _ rfl; (with_reducible repeat (first | refine blk_drewN ?_ _ | refine blk_drew ?_ | refine blk_alloc ?_ _)); exact BK452.out) Try.underlying24 rfl (by kernel_rfl)) rfl ?_
           exact ⟨_, by first | rfl | (simp [errW_none, errW_some] <;> rfl) | (simp [*, errW_none, errW_some] <;> rfl), by first | exact Kd.R_nil _ _ _ _ _ | exact Kd.N_nil _ _ _ _ _ | exact Kd.V_nil _ _ _ _ _ | exact Kd.Q_nil _ _ _ _ _ | exact Kd.S_nil _ _ _ _ _, bp_⟩
       · rw [if_neg c6] at H
         exact absurd H (by simp)
     · rw [if_neg c5] at H
       exact absurd H (by simp)
   · rw [if_neg c4] at H
     have c4b0 : decide (x5_1 < (l0.length : Int)) = false := decide_eq_false c4
     clear c4
     replace H := Option.bind_eq_some_iff.mp H
     obtain ⟨t461, A190, H⟩ := H
     replace H : (if t461 = true then (some (x454000_1, x454001_1, x454002_1, 0)) else (some (0, 0, ([] : List Int), 1))) = some (r1, r2, r3, r4) := H
     have A19 := Aside0.mk A190
     clear A190
     by_cases c20 : t461 = true
     · subst c20
       have H1 : (some (x454000_1, x454001_1, x454002_1, 0)) = some (r1, r2, r3, r4) := by rw [if_pos rfl] at H; exact H
       clear H
       have H := H1
       clear H1
       simp only [Option.some.injEq, Prod.mk.injEq] at H
       obtain ⟨rfl, rfl, rfl, rfl⟩ := H
       have hnb21 := NB453_452.out
       have hnc21 := NB452_453.out
       have hcz22_0 : wr.cell? ⟨gb453, 0, none⟩ = some (.int .i64 x454000_1) := (blk_cell BK453.out 0).trans rfl
       have hcz22_1 : wr.cell? ⟨gb453, 1, none⟩ = some (.int .i64 x454001_1) := (blk_cell BK453.out 1).trans rfl
       have hcz22_2 : wr.cell? ⟨gb453, 2, none⟩ = some (u454002) := (blk_cell BK453.out 2).trans rfl
       have hfz22_0 := blk_frozen BK453.out 0
       have hfz22_1 := blk_frozen BK453.out 1
       have hfz22_2 := blk_frozen BK453.out 2
       obtain ⟨Ao23, co23, eo23⟩ := Kd.R_slice HO_454002.out
       subst eo23
       go_wp2_with (first | ((with_reducible refine gate_callee (f := 20) rfl ?_); refine goQ_ (some 43) Try.func20 #[.agg #[.int .i64 x454000_1, .int .i64 x454001_1, .slice Ao23 x454002_1.length co23]] ?_; (with_reducible refine (chequerref03_May.calls x454000_1 x454001_1 _ _ x454002_1 true _ ?side1 ?side2 A19.out).mono ?_); (case side1 => exact cp_ (Kd.R_reads' HO_454002.out).2.2); (case side2 => exact (Kd.R_reads' HO_454002.out).2.1); rintro e w24 ⟨rfl, hb⟩; refine ⟨_, rfl, ?_⟩; replace HO_454002 := Aside0.mk (Kd.R_below (rp_ HO_454002.out) hb); replace BK452 := Aside0.mk (blk_below (hp_ BK452.out) hb); replace BK453 := Aside0.mk (blk_below (hp_ BK453.out) hb); replace HB := Aside0.mk (below_step bp_ hb); (try clear hb); (try clear hb2); (try clear hk); (try clear hi); have hcz25_0 : w24.cell? ⟨gb453, 0, none⟩ = some (.int .i64 x454000_1) := (blk_cell BK453.out 0).trans rfl; have hcz25_1 : w24.cell? ⟨gb453, 1, none⟩ = some (.int .i64 x454001_1) := (blk_cell BK453.out 1).trans rfl; have hcz25_2 : w24.cell? ⟨gb453, 2, none⟩ = some (.slice Ao23 x454002_1.length co23) := (blk_cell BK453.out 2).trans rfl; have hfz25_0 := blk_frozen BK453.out 0; have hfz25_1 := blk_frozen BK453.out 1; have hfz25_2 := blk_frozen BK453.out 2; have hcz26_0 : w24.cell? ⟨gb452, 0, none⟩ = some (.int .i64 x453000_1) := (blk_cell BK452.out 0).trans rfl; have hcz26_1 : w24.cell? ⟨gb452, 1, none⟩ = some (.int .i64 x453001_1) := (blk_cell BK452.out 1).trans rfl; have hcz26_2 : w24.cell? ⟨gb452, 2, none⟩ = some (.slice none 0 0) := (blk_cell BK452.out 2).trans rfl; have hfz26_0 := blk_frozen BK452.out 0; have hfz26_1 := blk_frozen BK452.out 1; have hfz26_2 := blk_frozen BK452.out 2))
       refine bodyPost_ret (results_ct rfl _ _ gb452 24 #[.int .i64 x454000_1, .int .i64 x454001_1, .slice Ao23 x454002_1.length co23] (0, 0) _ rfl (by (with_reducible repeat (first | refine blk_drewN ?_ _ | refine blk_drew ?_ | refine blk_alloc ?_ _)); refine blk_put (cs := #[.int .i64 x454000_1, .int .i64 x454001_1, .slice none 0 0]) ?_ 2 _ rfl; (with_reducible repeat (first | refine blk_drewN ?_ _ | refine blk_drew ?_ | refine blk_alloc ?_ _)); refine blk_put (cs := #[.int .i64 x454000_1, .int .i64 x453001_1, .slice none 0 0]) ?_ 1 _ rfl; (with_reducible repeat (first | refine blk_drewN ?_ _ | refine blk_drew ?_ | refine blk_alloc ?_ _)); refine blk_put (cs := #[.int .i64 x453000_1, .int .i64 x453001_1, .slice none 0 0]) ?_ 0 _ rfl; (with_reducible repeat (first | refine blk_drewN ?_ _ | refine blk_drew ?_ | refine blk_alloc ?_ _)); exact BK452.out) Try.underlying24 rfl (by kernel_rfl)) rfl ?_
       exact ⟨_, by first | rfl | (simp [errW_none, errW_some] <;> rfl) | (simp [*, errW_none, errW_some] <;> rfl), rf_ HO_454002.out BK452.out (by decide) (fun _ hk => trivial), bp_⟩
     · replace c20 := Bool.eq_false_iff.mpr c20
       subst c20
       have H1 : (some (0, 0, ([] : List Int), 1)) = some (r1, r2, r3, r4) := by rw [if_neg (show ¬ (false = true) by decide)] at H; exact H
       clear H
       have H := H1
       clear H1
       simp only [Option.some.injEq, Prod.mk.injEq] at H
       obtain ⟨rfl, rfl, rfl, rfl⟩ := H
       have hnb27 := NB453_452.out
       have hnc27 := NB452_453.out
       have hcz28_0 : wr.cell? ⟨gb453, 0, none⟩ = some (.int .i64 x454000_1) := (blk_cell BK453.out 0).trans rfl
       have hcz28_1 : wr.cell? ⟨gb453, 1, none⟩ = some (.int .i64 x454001_1) := (blk_cell BK453.out 1).trans rfl
       have hcz28_2 : wr.cell? ⟨gb453, 2, none⟩ = some (u454002) := (blk_cell BK453.out 2).trans rfl
       have hfz28_0 := blk_frozen BK453.out 0
       have hfz28_1 := blk_frozen BK453.out 1
       have hfz28_2 := blk_frozen BK453.out 2
       obtain ⟨Ao29, co29, eo29⟩ := Kd.R_slice HO_454002.out
       subst eo29
       go_wp2_with (first | ((with_reducible refine gate_callee (f := 20) rfl ?_); refine goQ_ (some 43) Try.func20 #[.agg #[.int .i64 x454000_1, .int .i64 x454001_1, .slice Ao29 x454002_1.length co29]] ?_; (with_reducible refine (chequerref03_May.calls x454000_1 x454001_1 _ _ x454002_1 false _ ?side1 ?side2 A19.out).mono ?_); (case side1 => exact cp_ (Kd.R_reads' HO_454002.out).2.2); (case side2 => exact (Kd.R_reads' HO_454002.out).2.1); rintro e w30 ⟨rfl, hb⟩; refine ⟨_, rfl, ?_⟩; replace HO_454002 := Aside0.mk (Kd.R_below (rp_ HO_454002.out) hb); replace BK452 := Aside0.mk (blk_below (hp_ BK452.out) hb); replace HB := Aside0.mk (below_step bp_ hb); (try clear hb); (try clear hb2); (try clear hk); (try clear hi); have hcz31_0 : w30.cell? ⟨gb452, 0, none⟩ = some (.int .i64 x453000_1) := (blk_cell BK452.out 0).trans rfl; have hcz31_1 : w30.cell? ⟨gb452, 1, none⟩ = some (.int .i64 x453001_1) := (blk_cell BK452.out 1).trans rfl; have hcz31_2 : w30.cell? ⟨gb452, 2, none⟩ = some (.slice none 0 0) := (blk_cell BK452.out 2).trans rfl; have hfz31_0 := blk_frozen BK452.out 0; have hfz31_1 := blk_frozen BK452.out 1; have hfz31_2 := blk_frozen BK452.out 2))
       refine bodyPost_ret (results_ct rfl _ _ gb452 24 #[.int .i64 0, .int .i64 0, .slice none 0 0] (0, 0) _ rfl (by (with_reducible repeat (first | refine blk_drewN ?_ _ | refine blk_drew ?_ | refine blk_alloc ?_ _)); refine blk_put (cs := #[.int .i64 0, .int .i64 0, .slice none 0 0]) ?_ 2 _ rfl; (with_reducible repeat (first | refine blk_drewN ?_ _ | refine blk_drew ?_ | refine blk_alloc ?_ _)); refine blk_put (cs := #[.int .i64 0, .int .i64 x453001_1, .slice none 0 0]) ?_ 1 _ rfl; (with_reducible repeat (first | refine blk_drewN ?_ _ | refine blk_drew ?_ | refine blk_alloc ?_ _)); refine blk_put (cs := #[.int .i64 x453000_1, .int .i64 x453001_1, .slice none 0 0]) ?_ 0 _ rfl; (with_reducible repeat (first | refine blk_drewN ?_ _ | refine blk_drew ?_ | refine blk_alloc ?_ _)); exact BK452.out) Try.underlying24 rfl (by kernel_rfl)) rfl ?_
       exact ⟨_, by first | rfl | (simp [errW_none, errW_some] <;> rfl) | (simp [*, errW_none, errW_some] <;> rfl), by first | exact Kd.R_nil _ _ _ _ _ | exact Kd.N_nil _ _ _ _ _ | exact Kd.V_nil _ _ _ _ _ | exact Kd.Q_nil _ _ _ _ _ | exact Kd.S_nil _ _ _ _ _, bp_⟩


/-! ### chequerref03_Row: function 31 -/
def chequerref03_Row.l0 : Nat → Int → List Int → Int → Int → Int → List Int → Option (List Int)
 | 0, _, _, _, _, _, _ => none
 | k + 1, x1, x5, x6, x463000, x463001, x463002 => if x6 < x463000 then ((chequerref03_At.f x463000 x463001 x463002 x6 x1).bind fun bt463 => (if bt463.2 = true then (if x5.length < 17592186044416 then (chequerref03_Row.l0 k x1 (x5 ++ [bt463.1]) (wrap64 (x6 + 1)) x463000 x463001 x463002) else (none)) else (chequerref03_Row.l0 k x1 x5 (wrap64 (x6 + 1)) x463000 x463001 x463002))) else (some x5)
def chequerref03_Row.f (k : Nat) (a0_0 : Int) (a0_1 : Int) (l0_2 : List Int) (a1 : Int) : Option (List Int) := chequerref03_Row.l0 k a1 ([] : List Int) 0 a0_0 a0_1 l0_2
theorem chequerref03_Row.mono_l : ∀ k, (∀ y0 y1 y2 y3 y4 y5, LeO (chequerref03_Row.l0 k y0 y1 y2 y3 y4 y5) (chequerref03_Row.l0 (k + 1) y0 y1 y2 y3 y4 y5))
 | 0 => fun _ _ _ _ _ _ r h => by simp [chequerref03_Row.l0] at h
 | k + 1 => by
  have ih0 := chequerref03_Row.mono_l k
  · intro y0 y1 y2 y3 y4 y5
    unfold chequerref03_Row.l0
    repeat' first
    | (with_reducible exact ih0 _ _ _ _ _ _)
    | (with_reducible exact LeO.refl _)
    | (with_reducible exact LeO.none _)
    | (with_reducible refine LeO.ite ?_ ?_)
    | (with_reducible refine LeO.bind ?_ (fun _ => ?_))
    | exact ih0 _ _ _ _ _ _
    | exact LeO.none _
    | refine LeO.ite ?_ ?_
    | refine LeO.bind ?_ (fun _ => ?_)
theorem chequerref03_Row.mono : ∀ a0 a1 a2 a3 k, LeO (chequerref03_Row.f k a0 a1 a2 a3) (chequerref03_Row.f (k + 1) a0 a1 a2 a3) := by
 intro a0 a1 a2 a3 k
 have ih0 := chequerref03_Row.mono_l k
 unfold chequerref03_Row.f
 repeat' first
  | (with_reducible exact ih0 _ _ _ _ _ _)
  | (with_reducible exact LeO.refl _)
  | (with_reducible exact LeO.none _)
  | (with_reducible refine LeO.ite ?_ ?_)
  | (with_reducible refine LeO.bind ?_ (fun _ => ?_))
  | exact ih0 _ _ _ _ _ _
  | exact LeO.none _
  | refine LeO.ite ?_ ?_
  | refine LeO.bind ?_ (fun _ => ?_)
set_option maxHeartbeats 8000000 in
set_option maxRecDepth 100000 in
theorem chequerref03_Row.calls (k : Nat) (a0_0 : Int) (a0_1 : Int) (A0_2 : Option Addr) (c0_2 : Nat) (l0_2 : List Int) (a1 : Int) (r : List Int) (w : World) (hr0_2 : Kd.C (Kd.int .u64) w A0_2 l0_2.length l0_2) (hc0_2 : l0_2.length ≤ c0_2) (h : chequerref03_Row.f k a0_0 a0_1 l0_2 a1 = some r) :
 Calls Try.prog 31 #[.agg #[.int .i64 a0_0, .int .i64 a0_1, .slice A0_2 l0_2.length c0_2], .int .i64 a1] w fun e w' => ∃ v0_ : Value, e = .returned (v0_) ∧ Kd.R (Kd.int .u64) 46 w' w.heap.size (fun _ => True) v0_ r ∧ Below w.heap.size w w' := by
 have hu24 := Try.underlying24
 have HR0_2 := Aside0.mk hr0_2
 have HC0_2 := Aside0.mk hc0_2
 clear hr0_2 hc0_2
 have HB := Aside0.mk (Below.refl w.heap.size w)
 have H : (chequerref03_Row.l0 k a1 ([] : List Int) 0 a0_0 a0_1 l0_2) = some r := h
 clear h
 have H' := Aside0.mk H
 clear H
 go_enter Try.func31, Try.ntmps31
 go_wp2_with (first | ((with_reducible refine gate_dst (N := 2) rfl ?_); refine box_event ?hg (N := 2) ?hd (cs := #[.int .i64 a0_0, .int .i64 a0_1, .slice A0_2 l0_2.length c0_2]) (t := 24) ?hr ?_; (case hd => rfl); (case hg => rfl); (case hr => first | (go_simp; done) | (go_simp; rfl)); intro gb462 hg w3 hbox hb; have BK462 := Aside0.mk (hbox); have GW462 := Aside0.mk ((by rw [hg]; exact (below_size bp_) : w.heap.size ≤ gb462)); have GE462 := Aside0.mk ((by rw [hg]; exact (below_size bp_) : w.heap.size ≤ gb462)); replace HB := Aside0.mk (below_step bp_ hb); clear hb hbox hg))
 go_loopg [5, 6] k (fun kq v5 v6 w' => ∃ (x5_1 : List Int) (x6_1 : Int), v6 = .int .i64 x6_1 ∧ Aside0 (chequerref03_Row.l0 kq a1 x5_1 x6_1 a0_0 a0_1 l0_2 = some r) ∧ Aside0 (kq ≤ k) ∧ Aside0 (Kd.R (Kd.int .u64) 46 w' w.heap.size (fun _ => True) v5 x5_1) ∧ Aside0 (w'.heap[gb462]? = some (.cells #[.int .i64 a0_0, .int .i64 a0_1, (.slice A0_2 l0_2.length c0_2)] 24 (0, 0))) ∧ Aside0 (Below w.heap.size w w'))
 case atStart => exact ⟨(([] : List Int)), (0), (by first | rfl | (simp; done) | (simp [*]; done)), H', ⟨Nat.le_refl _⟩, ⟨by first | exact Kd.R_nil _ _ _ _ _ | exact Kd.N_nil _ _ _ _ _ | exact Kd.V_nil _ _ _ _ _ | exact Kd.Q_nil _ _ _ _ _ | exact Kd.S_nil _ _ _ _ _⟩, ⟨hp_ BK462.out⟩, ⟨bp_⟩⟩
 case round =>
  clear H'
  try clear p2
  try clear c3
  obtain ⟨x5_1, x6_1, rfl, HA, HK1, HO_5, BK462, HB⟩ := hrel
  cases gk with
  | zero => exact absurd HA.out (by simp [chequerref03_Row.l0])
  | succ k1 =>
   have H := HA.out
   clear HA
   simp only [chequerref03_Row.l0] at H
   by_cases c4 : x6_1 < a0_0
   · rw [if_pos c4] at H
     have c4b0 : decide (x6_1 < a0_0) = true := decide_eq_true c4
     clear c4
     replace H := Option.bind_eq_some_iff.mp H
     obtain ⟨⟨t463, t464⟩, A50, H⟩ := H
     replace H : (if t464 = true then (if x5_1.length < 17592186044416 then (chequerref03_Row.l0 k1 a1 (x5_1 ++ [t463]) (wrap64 (x6_1 + 1)) a0_0 a0_1 l0_2) else (none)) else (chequerref03_Row.l0 k1 a1 x5_1 (wrap64 (x6_1 + 1)) a0_0 a0_1 l0_2)) = some r := H
     have A5 := Aside0.mk A50
     clear A50
     by_cases c6 : t464 = true
     · subst c6
       have H1 : (if x5_1.length < 17592186044416 then (chequerref03_Row.l0 k1 a1 (x5_1 ++ [t463]) (wrap64 (x6_1 + 1)) a0_0 a0_1 l0_2) else (none)) = some r := by rw [if_pos rfl] at H; exact H
       clear H
       have H := H1
       clear H1
       by_cases c7 : x5_1.length < 17592186044416
       · rw [if_pos c7] at H
         have LMc7 := Aside0.mk c7
         clear c7
         obtain ⟨y465, hy465⟩ : ∃ y_ : List Int, y_ = (x5_1 ++ [t463]) := ⟨_, rfl⟩
         replace H : (chequerref03_Row.l0 k1 a1 y465 (wrap64 (x6_1 + 1)) a0_0 a0_1 l0_2) = some r := by first | (rw [hy465]; with_reducible exact H) | (have H2_ := (Option.bind_some _ _).symm.trans H; rw [hy465]; with_reducible exact H2_) | (have H2_ := (Option.bind_some _ _).symm.trans H; with_reducible exact H2_) | with_reducible exact H | (rw [hy465]; exact H) | exact H
         have Ny465 := Aside0.mk hy465
         clear hy465
         have H' := Aside0.mk H
         clear H
         have hcz8_0 : wr.cell? ⟨gb462, 0, none⟩ = some (.int .i64 a0_0) := (blk_cell BK462.out 0).trans rfl
         have hcz8_1 : wr.cell? ⟨gb462, 1, none⟩ = some (.int .i64 a0_1) := (blk_cell BK462.out 1).trans rfl
         have hcz8_2 : wr.cell? ⟨gb462, 2, none⟩ = some (.slice A0_2 l0_2.length c0_2) := (blk_cell BK462.out 2).trans rfl
         have hfz8_0 := blk_frozen BK462.out 0
         have hfz8_1 := blk_frozen BK462.out 1
         have hfz8_2 := blk_frozen BK462.out 2
         go_wp2_with (first | ((with_reducible refine gate_callee (f := 25) rfl ?_); refine goQ_ (some 19) Try.func25 #[.agg #[.int .i64 a0_0, .int .i64 a0_1, .slice A0_2 l0_2.length c0_2], .int .i64 x6_1, .int .i64 a1] ?_; (with_reducible refine (chequerref03_At.calls a0_0 a0_1 _ _ l0_2 x6_1 a1 t463 true _ ?side1 ?side2 A5.out).mono ?_); (case side1 => repeat (first | exact (Kd.C_below HR0_2.out HB.out) | (with_reducible refine Kd.C_alloc ?_ _) | (with_reducible refine Kd.C_drewN ?_ _) | (with_reducible refine Kd.C_drew ?_))); (case side2 => exact HC0_2.out); rintro e w9 ⟨rfl, hb⟩; refine ⟨_, rfl, ?_⟩; replace HO_5 := Aside0.mk (Kd.R_below (rp_ HO_5.out) hb); replace BK462 := Aside0.mk (blk_below (hp_ BK462.out) hb); replace HB := Aside0.mk (below_step bp_ hb); (try clear hb); (try clear hb2); (try clear hk); (try clear hi)) | ((with_reducible refine gate_builtin (b := .append) (xs := #[.tmp 23, .tmp 25]) rfl ?_); at_builtin; refine Kd.R_append (Kd.int .u64) (w0 := w) w.heap.size rfl (.tmp 23) (.tmp 25) 22 46 (.int .u64 0) 8 rfl Try.underlying22 info46 rfl (by decide) (by omega) u5 x5_1 t463 [.int .u64 t463] (fun _ => True) (fun _ => False) rfl rfl ?aP (fun _ hk => hk.elim) ?aF ?aO ?aB ?aS ?aL ?_; (case aP => exact rfl); (case aB => exact bp_); (case aF => exact (fun _ _ => trivial)); (case aO => exact (rp_ HO_5.out)); (case aS => exact (below_size bp_)); (case aL => have := LMc7.out; omega); intro v466 w10 ho hb hg hat; rw [← Ny465.out] at ho; replace BK462 := Aside0.mk (blk_grown (g := gb462) (o := .cells #[.int .i64 a0_0, .int .i64 a0_1, .slice A0_2 l0_2.length c0_2] 24 (0, 0)) (hp_ BK462.out) hg (Kd.R_ne HO_5.out BK462.out (by decide))); replace HB := Aside0.mk (hb); have HO467 := Aside0.mk (ho); clear HO_5; clear ho hb hg hat))
         go_roundg k1
         case measure => have := HK1.out; omega
         case rel => exact ⟨(y465), (wrap64 (x6_1 + 1)), (by first | rfl | (simp; done) | (simp [*]; done)), H', ⟨by have := HK1.out; omega⟩, ⟨rp_ HO467.out⟩, ⟨hp_ BK462.out⟩, ⟨bp_⟩⟩
       · rw [if_neg c7] at H
         exact absurd H (by simp)
     · replace c6 := Bool.eq_false_iff.mpr c6
       subst c6
       have H1 : (chequerref03_Row.l0 k1 a1 x5_1 (wrap64 (x6_1 + 1)) a0_0 a0_1 l0_2) = some r := by rw [if_neg (show ¬ (false = true) by decide)] at H; exact H
       clear H
       have H := H1
       clear H1
       have H' := Aside0.mk H
       clear H
       have hcz11_0 : wr.cell? ⟨gb462, 0, none⟩ = some (.int .i64 a0_0) := (blk_cell BK462.out 0).trans rfl
       have hcz11_1 : wr.cell? ⟨gb462, 1, none⟩ = some (.int .i64 a0_1) := (blk_cell BK462.out 1).trans rfl
       have hcz11_2 : wr.cell? ⟨gb462, 2, none⟩ = some (.slice A0_2 l0_2.length c0_2) := (blk_cell BK462.out 2).trans rfl
       have hfz11_0 := blk_frozen BK462.out 0
       have hfz11_1 := blk_frozen BK462.out 1
       have hfz11_2 := blk_frozen BK462.out 2
       go_wp2_with (first | ((with_reducible refine gate_callee (f := 25) rfl ?_); refine goQ_ (some 19) Try.func25 #[.agg #[.int .i64 a0_0, .int .i64 a0_1, .slice A0_2 l0_2.length c0_2], .int .i64 x6_1, .int .i64 a1] ?_; (with_reducible refine (chequerref03_At.calls a0_0 a0_1 _ _ l0_2 x6_1 a1 t463 false _ ?side1 ?side2 A5.out).mono ?_); (case side1 => repeat (first | exact (Kd.C_below HR0_2.out HB.out) | (with_reducible refine Kd.C_alloc ?_ _) | (with_reducible refine Kd.C_drewN ?_ _) | (with_reducible refine Kd.C_drew ?_))); (case side2 => exact HC0_2.out); rintro e w12 ⟨rfl, hb⟩; refine ⟨_, rfl, ?_⟩; replace HO_5 := Aside0.mk (Kd.R_below (rp_ HO_5.out) hb); replace BK462 := Aside0.mk (blk_below (hp_ BK462.out) hb); replace HB := Aside0.mk (below_step bp_ hb); (try clear hb); (try clear hb2); (try clear hk); (try clear hi)))
       go_roundg k1
       case measure => have := HK1.out; omega
       case rel => exact ⟨(x5_1), (wrap64 (x6_1 + 1)), (by first | rfl | (simp; done) | (simp [*]; done)), H', ⟨by have := HK1.out; omega⟩, ⟨rp_ HO_5.out⟩, ⟨hp_ BK462.out⟩, ⟨bp_⟩⟩
   · rw [if_neg c4] at H
     have c4b0 : decide (x6_1 < a0_0) = false := decide_eq_false c4
     clear c4
     obtain rfl := Option.some.inj H
     have hcz13_0 : wr.cell? ⟨gb462, 0, none⟩ = some (.int .i64 a0_0) := (blk_cell BK462.out 0).trans rfl
     have hcz13_1 : wr.cell? ⟨gb462, 1, none⟩ = some (.int .i64 a0_1) := (blk_cell BK462.out 1).trans rfl
     have hcz13_2 : wr.cell? ⟨gb462, 2, none⟩ = some (.slice A0_2 l0_2.length c0_2) := (blk_cell BK462.out 2).trans rfl
     have hfz13_0 := blk_frozen BK462.out 0
     have hfz13_1 := blk_frozen BK462.out 1
     have hfz13_2 := blk_frozen BK462.out 2
     go_wp2
     go_ret
     exact ⟨_, by first | rfl | (simp [errW_none, errW_some] <;> rfl) | (simp [*, errW_none, errW_some] <;> rfl), by (with_reducible repeat (first | apply Kd.R_alloc | apply Kd.R_drewN | apply Kd.R_drew)); exact HO_5.out, bp_⟩

end Go.Proofs.Ytidpaaemfiopkaa.Q
