-- written by our own program (wip/tools/myprint.py) out of the translation, by the kit's print; Lean checks it
import Derived.Test.YtidpaaemfiopkaaQ0
namespace Go.Proofs.Ytidpaaemfiopkaa.Q
open Go.RowKit Go.Proofs.YtidpaaemfiopkaaW.PrintWords Go.Proofs.YtidpaaemfiopkaaW.PrintLast Go.Proofs.YtidpaaemfiopkaaW.PrintMore
attribute [local go_sem] max2_int min2_int max_two min_two max_three min_three max_four min_four   -- for this text's walks alone
set_option linter.unusedVariables false
set_option linter.unusedSimpArgs false

/-! ### rect_in: function 48 -/
def rect_in.f (a0 : Int) (a1 : Int) : Option (Bool) := if a0 ≥ 0 then (some (decide (a0 < a1))) else (some false)
set_option maxHeartbeats 8000000 in
set_option maxRecDepth 100000 in
theorem rect_in.calls (a0 : Int) (a1 : Int) (r : Bool) (w : World) (h : rect_in.f a0 a1 = some r) :
    Calls Try.prog 48 #[.int .i64 a0, .int .i64 a1] w fun e w' => e = .returned (.bool r) ∧ Drawn0 w w' := by
  have H : (if a0 ≥ 0 then (some (decide (a0 < a1))) else (some false)) = some r := h
  clear h
  by_cases c3 : a0 ≥ 0
  · rw [if_pos c3] at H
    have c3b0 : decide (0 ≤ a0) = true := decide_eq_true c3
    clear c3
    obtain rfl := Option.some.inj H
    go_enter Try.func48, Try.ntmps48
    go_wp2
    go_ret
    exact ⟨by first | rfl | (simp; done) | (simp [*]; done), by repeat (first | exact Drawn0.refl _ | apply Drawn0.step)⟩
  rw [if_neg c3] at H
  have c3b0 : decide (0 ≤ a0) = false := decide_eq_false c3
  clear c3
  obtain rfl := Option.some.inj H
  go_enter Try.func48, Try.ntmps48
  go_wp2
  go_ret
  exact ⟨by first | rfl | (simp; done) | (simp [*]; done), by repeat (first | exact Drawn0.refl _ | apply Drawn0.step)⟩


/-! ### rect_Matrix_At: function 24 -/
def rect_Matrix_At.f (a0_0 : Int) (a0_1 : Int) (l0_2 : List Int) (a1 : Int) (a2 : Int) : Option (Int × Bool) := (rect_in.f a1 a0_0).bind fun t364 => (if t364 = true then ((rect_in.f a2 a0_1).bind fun t365 => (if t365 = true then (if 0 ≤ (wrap64 ((wrap64 (a2 * a0_0)) + a1)) then (if (wrap64 ((wrap64 (a2 * a0_0)) + a1)) < (l0_2.length : Int) then (some (rd l0_2 (wrap64 ((wrap64 (a2 * a0_0)) + a1)), true)) else (none)) else (none)) else (some (0, false)))) else (some (0, false)))
set_option maxHeartbeats 8000000 in
set_option maxRecDepth 100000 in
theorem rect_Matrix_At.calls (a0_0 : Int) (a0_1 : Int) (A0_2 : Option Addr) (c0_2 : Nat) (l0_2 : List Int) (a1 : Int) (a2 : Int) (r1 : Int) (r2 : Bool) (w : World) (hr0_2 : Kd.C (Kd.int .u64) w A0_2 l0_2.length l0_2) (hc0_2 : l0_2.length ≤ c0_2) (h : rect_Matrix_At.f a0_0 a0_1 l0_2 a1 a2 = some (r1, r2)) :
 Calls Try.prog 24 #[.agg #[.int .i64 a0_0, .int .i64 a0_1, .slice A0_2 l0_2.length c0_2], .int .i64 a1, .int .i64 a2] w fun e w' => e = .returned (.tuple #[.int .u64 r1, .bool r2]) ∧ Below w.heap.size w w' := by
 have hu32 := Try.underlying32
 have HR0_2 := Aside0.mk hr0_2
 have HC0_2 := Aside0.mk hc0_2
 clear hr0_2 hc0_2
 have HB := Aside0.mk (Below.refl w.heap.size w)
 have H : ((rect_in.f a1 a0_0).bind fun t364 => (if t364 = true then ((rect_in.f a2 a0_1).bind fun t365 => (if t365 = true then (if 0 ≤ (wrap64 ((wrap64 (a2 * a0_0)) + a1)) then (if (wrap64 ((wrap64 (a2 * a0_0)) + a1)) < (l0_2.length : Int) then (some (rd l0_2 (wrap64 ((wrap64 (a2 * a0_0)) + a1)), true)) else (none)) else (none)) else (some (0, false)))) else (some (0, false)))) = some (r1, r2) := h
 clear h
 replace H := Option.bind_eq_some_iff.mp H
 obtain ⟨t364, A40, H⟩ := H
 replace H : (if t364 = true then ((rect_in.f a2 a0_1).bind fun t365 => (if t365 = true then (if 0 ≤ (wrap64 ((wrap64 (a2 * a0_0)) + a1)) then (if (wrap64 ((wrap64 (a2 * a0_0)) + a1)) < (l0_2.length : Int) then (some (rd l0_2 (wrap64 ((wrap64 (a2 * a0_0)) + a1)), true)) else (none)) else (none)) else (some (0, false)))) else (some (0, false))) = some (r1, r2) := H
 have A4 := Aside0.mk A40
 clear A40
 by_cases c5 : t364 = true
 · subst c5
   have H1 : ((rect_in.f a2 a0_1).bind fun t365 => (if t365 = true then (if 0 ≤ (wrap64 ((wrap64 (a2 * a0_0)) + a1)) then (if (wrap64 ((wrap64 (a2 * a0_0)) + a1)) < (l0_2.length : Int) then (some (rd l0_2 (wrap64 ((wrap64 (a2 * a0_0)) + a1)), true)) else (none)) else (none)) else (some (0, false)))) = some (r1, r2) := by rw [if_pos rfl] at H; exact H
   clear H; have H := H1; clear H1; replace H := Option.bind_eq_some_iff.mp H; obtain ⟨t365, A60, H⟩ := H
   replace H : (if t365 = true then (if 0 ≤ (wrap64 ((wrap64 (a2 * a0_0)) + a1)) then (if (wrap64 ((wrap64 (a2 * a0_0)) + a1)) < (l0_2.length : Int) then (some (rd l0_2 (wrap64 ((wrap64 (a2 * a0_0)) + a1)), true)) else (none)) else (none)) else (some (0, false))) = some (r1, r2) := H
   have A6 := Aside0.mk A60; clear A60
   by_cases c7 : t365 = true
   · subst c7
     have H1 : (if 0 ≤ (wrap64 ((wrap64 (a2 * a0_0)) + a1)) then (if (wrap64 ((wrap64 (a2 * a0_0)) + a1)) < (l0_2.length : Int) then (some (rd l0_2 (wrap64 ((wrap64 (a2 * a0_0)) + a1)), true)) else (none)) else (none)) = some (r1, r2) := by rw [if_pos rfl] at H; exact H
     clear H; have H := H1; clear H1
     obtain ⟨ji8, hji8⟩ : ∃ j_ : Int, (wrap64 ((wrap64 (a2 * a0_0)) + a1)) = j_ := ⟨_, rfl⟩
     replace H : (if 0 ≤ (ji8) then (if (ji8) < (l0_2.length : Int) then (some (rd l0_2 (ji8), true)) else (none)) else (none)) = some (r1, r2) := by first | (rw [hji8] at H; exact H) | (simp only [hji8] at H ⊢; exact H)
     (try rw [hji8] at A4)
     (try rw [hji8] at A6)
     have hji8w : (IntKind.i64.wrap ((wrap64 (a2 * a0_0)) + a1)) = ji8 := (i64_w _).trans hji8
     by_cases c9 : 0 ≤ (ji8)
     · rw [if_pos c9] at H
       have c9b0 : decide (0 ≤ (ji8)) = true := decide_eq_true c9
       clear c9
       by_cases c10 : (ji8) < (l0_2.length : Int)
       · rw [if_pos c10] at H
         have c10b0 : decide ((ji8) < (l0_2.length : Int)) = true := decide_eq_true c10
         clear c10; simp only [Option.some.injEq, Prod.mk.injEq] at H; obtain ⟨rfl, rfl⟩ := H
         go_enter Try.func24, Try.ntmps24
         go_wp2_with (first | ((with_reducible refine gate_dst (N := 3) rfl ?_); refine box_event ?hg (N := 3) ?hd (cs := #[.int .i64 a0_0, .int .i64 a0_1, .slice A0_2 l0_2.length c0_2]) (t := 32) ?hr ?_; (case hd => rfl); (case hg => rfl); (case hr => first | (go_simp; done) | (go_simp; rfl)); intro gb363 hg w11 hbox hb; have BK363 := Aside0.mk (hbox); have GW363 := Aside0.mk ((by rw [hg]; exact (below_size bp_) : w.heap.size ≤ gb363)); have GE363 := Aside0.mk ((by rw [hg]; exact (below_size bp_) : w.heap.size ≤ gb363)); replace HB := Aside0.mk (below_step bp_ hb); clear hb hbox hg; have hcz12_0 : w11.cell? ⟨gb363, 0, none⟩ = some (.int .i64 a0_0) := bc_ BK363.out 0; have hcz12_1 : w11.cell? ⟨gb363, 1, none⟩ = some (.int .i64 a0_1) := bc_ BK363.out 1; have hcz12_2 : w11.cell? ⟨gb363, 2, none⟩ = some (.slice A0_2 l0_2.length c0_2) := bc_ BK363.out 2; have hfz12_0 := blk_frozen BK363.out 0; have hfz12_1 := blk_frozen BK363.out 1; have hfz12_2 := blk_frozen BK363.out 2) | ((with_reducible refine gate_callee (f := 48) rfl ?_); refine goQ_ (some 11) Try.func48 #[.int .i64 a1, .int .i64 a0_0] ?_; (with_reducible refine (rect_in.calls a1 a0_0 true _ A4.out).mono ?_); rintro e w' ⟨rfl, ⟨nd, rfl⟩⟩; refine ⟨_, rfl, ?_⟩) | (go_at_call 48; (with_reducible refine (rect_in.calls a2 a0_1 true _ A6.out).mono ?_); rintro e w' ⟨rfl, ⟨nd, rfl⟩⟩; have p366 : 0 ≤ ((ji8) : Int) := of_decide_eq_true (by first | (with_reducible assumption) | assumption); have q366 : (ji8) < (l0_2.length : Int) := of_decide_eq_true (by first | (with_reducible assumption) | assumption); obtain ⟨ad366, e366, hx366_0⟩ := Kd.at_int HR0_2.out (ji8) p366 q366; cases e366; replace hx366_0 := (HB.out.cell (World.block_lt_of_cell? w _ hx366_0)).trans hx366_0; replace p366 := eq_true p366; replace q366 := eq_true q366))
         go_ret2
         exact ⟨by first | rfl | (simp [errW_none, errW_some] <;> rfl) | (simp only [← hji8]; first | rfl | (simp [errW_none, errW_some] <;> rfl)) | (simp [*, errW_none, errW_some] <;> rfl), bp_⟩
       rw [if_neg c10] at H
       exact absurd H (by simp)
     rw [if_neg c9] at H
     exact absurd H (by simp)
   replace c7 := Bool.eq_false_iff.mpr c7; subst c7
   have H1 : (some (0, false)) = some (r1, r2) := by rw [if_neg (show ¬ (false = true) by decide)] at H; exact H
   clear H; have H := H1; clear H1; simp only [Option.some.injEq, Prod.mk.injEq] at H; obtain ⟨rfl, rfl⟩ := H
   go_enter Try.func24, Try.ntmps24
   go_wp2_with (first | ((with_reducible refine gate_dst (N := 3) rfl ?_); refine box_event ?hg (N := 3) ?hd (cs := #[.int .i64 a0_0, .int .i64 a0_1, .slice A0_2 l0_2.length c0_2]) (t := 32) ?hr ?_; (case hd => rfl); (case hg => rfl); (case hr => first | (go_simp; done) | (go_simp; rfl)); intro gb363 hg w13 hbox hb; have BK363 := Aside0.mk (hbox); have GW363 := Aside0.mk ((by rw [hg]; exact (below_size bp_) : w.heap.size ≤ gb363)); have GE363 := Aside0.mk ((by rw [hg]; exact (below_size bp_) : w.heap.size ≤ gb363)); replace HB := Aside0.mk (below_step bp_ hb); clear hb hbox hg; have hcz14_0 : w13.cell? ⟨gb363, 0, none⟩ = some (.int .i64 a0_0) := bc_ BK363.out 0; have hcz14_1 : w13.cell? ⟨gb363, 1, none⟩ = some (.int .i64 a0_1) := bc_ BK363.out 1; have hcz14_2 : w13.cell? ⟨gb363, 2, none⟩ = some (.slice A0_2 l0_2.length c0_2) := bc_ BK363.out 2; have hfz14_0 := blk_frozen BK363.out 0; have hfz14_1 := blk_frozen BK363.out 1; have hfz14_2 := blk_frozen BK363.out 2) | ((with_reducible refine gate_callee (f := 48) rfl ?_); refine goQ_ (some 11) Try.func48 #[.int .i64 a1, .int .i64 a0_0] ?_; (with_reducible refine (rect_in.calls a1 a0_0 true _ A4.out).mono ?_); rintro e w' ⟨rfl, ⟨nd, rfl⟩⟩; refine ⟨_, rfl, ?_⟩) | (go_at_call 48; (with_reducible refine (rect_in.calls a2 a0_1 false _ A6.out).mono ?_); rintro e w' ⟨rfl, ⟨nd, rfl⟩⟩))
   go_ret2
   exact ⟨by first | rfl | (simp [errW_none, errW_some] <;> rfl) | (simp [*, errW_none, errW_some] <;> rfl), bp_⟩
 replace c5 := Bool.eq_false_iff.mpr c5
 subst c5
 have H1 : (some (0, false)) = some (r1, r2) := by rw [if_neg (show ¬ (false = true) by decide)] at H; exact H
 clear H
 have H := H1
 clear H1
 simp only [Option.some.injEq, Prod.mk.injEq] at H
 obtain ⟨rfl, rfl⟩ := H
 go_enter Try.func24, Try.ntmps24
 go_wp2_with (first | ((with_reducible refine gate_dst (N := 3) rfl ?_); refine box_event ?hg (N := 3) ?hd (cs := #[.int .i64 a0_0, .int .i64 a0_1, .slice A0_2 l0_2.length c0_2]) (t := 32) ?hr ?_; (case hd => rfl); (case hg => rfl); (case hr => first | (go_simp; done) | (go_simp; rfl)); intro gb363 hg w15 hbox hb; have BK363 := Aside0.mk (hbox); have GW363 := Aside0.mk ((by rw [hg]; exact (below_size bp_) : w.heap.size ≤ gb363)); have GE363 := Aside0.mk ((by rw [hg]; exact (below_size bp_) : w.heap.size ≤ gb363)); replace HB := Aside0.mk (below_step bp_ hb); clear hb hbox hg; have hcz16_0 : w15.cell? ⟨gb363, 0, none⟩ = some (.int .i64 a0_0) := bc_ BK363.out 0; have hcz16_1 : w15.cell? ⟨gb363, 1, none⟩ = some (.int .i64 a0_1) := bc_ BK363.out 1; have hcz16_2 : w15.cell? ⟨gb363, 2, none⟩ = some (.slice A0_2 l0_2.length c0_2) := bc_ BK363.out 2; have hfz16_0 := blk_frozen BK363.out 0; have hfz16_1 := blk_frozen BK363.out 1; have hfz16_2 := blk_frozen BK363.out 2) | ((with_reducible refine gate_callee (f := 48) rfl ?_); refine goQ_ (some 11) Try.func48 #[.int .i64 a1, .int .i64 a0_0] ?_; (with_reducible refine (rect_in.calls a1 a0_0 false _ A4.out).mono ?_); rintro e w' ⟨rfl, ⟨nd, rfl⟩⟩; refine ⟨_, rfl, ?_⟩))
 go_ret2
 exact ⟨by first | rfl | (simp [errW_none, errW_some] <;> rfl) | (simp [*, errW_none, errW_some] <;> rfl), bp_⟩

/-! ### chequerlaw03_as: function 27 -/
def chequerlaw03_as.f (a0_0 : Int) (a0_1 : Int) (l0_2 : List Int) : Option (Int × Int × List Int) := some (a0_0, a0_1, l0_2)
set_option maxHeartbeats 8000000 in
set_option maxRecDepth 100000 in
theorem chequerlaw03_as.calls (a0_0 : Int) (a0_1 : Int) (P0_2_ : Nat → Prop) (A0_2 : Option Addr) (c0_2 : Nat) (l0_2 : List Int) (r1 : Int) (r2 : Int) (r3 : List Int) (w : World) (hs0_2 : Kd.V (Kd.int .u64) 46 w w.heap.size (fun k_ => P0_2_ k_) (.slice A0_2 l0_2.length c0_2) l0_2) (h : chequerlaw03_as.f a0_0 a0_1 l0_2 = some (r1, r2, r3)) :
    Calls Try.prog 27 #[.agg #[.int .i64 a0_0, .int .i64 a0_1, .slice A0_2 l0_2.length c0_2]] w fun e w' => ∃ v2_ : Value, e = .returned (.agg #[.int .i64 r1, .int .i64 r2, v2_]) ∧ Kd.V (Kd.int .u64) 46 w' w.heap.size (fun k_ => (P0_2_ k_ ∨ w.heap.size ≤ k_)) v2_ r3 ∧ Below w.heap.size w w' := by
  have hu32 := Try.underlying32
  have hu24 := Try.underlying24
  have HO0_2 := Aside0.mk (show Kd.V (Kd.int .u64) 46 w w.heap.size (fun k_ => (P0_2_ k_ ∨ w.heap.size ≤ k_)) (.slice A0_2 l0_2.length c0_2) l0_2 from Kd.V_mono hs0_2 (fun k_ hk => .inl hk))
  have HB := Aside0.mk (Below.refl w.heap.size w)
  have H : (some (a0_0, a0_1, l0_2)) = some (r1, r2, r3) := h
  clear h
  simp only [Option.some.injEq, Prod.mk.injEq] at H
  obtain ⟨rfl, rfl, rfl⟩ := H
  go_enter Try.func27, Try.ntmps27
  go_wp2_with (first | ((with_reducible refine gate_dst (N := 1) rfl ?_); refine box_event ?hg (N := 1) ?hd (cs := #[.int .i64 a0_0, .int .i64 a0_1, .slice A0_2 l0_2.length c0_2]) (t := 32) ?hr ?_; (case hd => rfl); (case hg => rfl); (case hr => first | (go_simp; done) | (go_simp; rfl)); intro gb367 hg w2 hbox hb; have n0_ := Aside0.mk (Kd.V_below (Kd.V_elderB (by (with_reducible repeat (first | apply Kd.V_alloc | apply Kd.V_drewN | apply Kd.V_drew)); exact HO0_2.out) gb367 (Nat.le_of_eq hg.symm)) hb); have n1_ := Aside0.mk (below_step (by repeat (first | (with_reducible first | exact HB.out | apply below_alloc | apply pw_below_drewN | apply below_drew1) | exact HB.out)) hb); have n2_ := Aside0.mk (hbox); have n3_ := Aside0.mk ((by rw [hg]; exact (below_size (by repeat (first | (with_reducible first | exact HB.out | apply below_alloc | apply pw_below_drewN | apply below_drew1) | exact HB.out))) : w.heap.size ≤ gb367)); have n4_ := Aside0.mk ((by rw [hg]; exact (below_size (by repeat (first | (with_reducible first | exact HB.out | apply below_alloc | apply pw_below_drewN | apply below_drew1) | exact HB.out))) : w.heap.size ≤ gb367)); clear HO0_2; clear HB; have HO0_2 := n0_; have HB := n1_; have BK367 := n2_; have GW367 := n3_; have GE367 := n4_; clear n0_ n1_ n2_ n3_ n4_; clear hb hbox hg) | ((with_reducible refine gate_dst (N := 2) rfl ?_); refine box_event ?hg (N := 2) ?hd (cs := #[.int .i64 0, .int .i64 0, .slice none 0 0]) (t := 24) ?hr ?_; (case hd => rfl); (case hg => rfl); (case hr => first | (go_simp; done) | (go_simp; rfl)); intro gb368 hg w3 hbox hb; have n0_ := Aside0.mk (Kd.V_below (Kd.V_elderB (by (with_reducible repeat (first | apply Kd.V_alloc | apply Kd.V_drewN | apply Kd.V_drew)); exact HO0_2.out) gb368 (Nat.le_of_eq hg.symm)) hb); have n1_ := Aside0.mk (blk_below (g := gb367) (o := .cells #[.int .i64 a0_0, .int .i64 a0_1, .slice A0_2 l0_2.length c0_2] 32 (0, 0)) (by (with_reducible repeat (first | refine blk_drewN ?_ _ | refine blk_drew ?_ | refine blk_alloc ?_ _)); exact BK367.out) hb); have n2_ := Aside0.mk (below_step (by repeat (first | (with_reducible first | exact HB.out | apply below_alloc | apply pw_below_drewN | apply below_drew1 | refine below_set ?_ GE367.out) | exact HB.out)) hb); have n3_ := Aside0.mk (hbox); have n4_ := Aside0.mk ((by rw [hg]; exact (below_size (by repeat (first | (with_reducible first | exact HB.out | apply below_alloc | apply pw_below_drewN | apply below_drew1 | refine below_set ?_ GE367.out) | exact HB.out))) : w.heap.size ≤ gb368)); have n5_ := Aside0.mk ((by rw [hg]; exact (below_size (by repeat (first | (with_reducible first | exact HB.out | apply below_alloc | apply pw_below_drewN | apply below_drew1 | refine below_set ?_ GE367.out) | exact HB.out))) : w.heap.size ≤ gb368)); have n6_ := Aside0.mk ((by rw [hg]; exact Nat.ne_of_lt (blk_lt (g := gb367) (o := .cells #[.int .i64 a0_0, .int .i64 a0_1, .slice A0_2 l0_2.length c0_2] 32 (0, 0)) (by (with_reducible repeat (first | refine blk_drewN ?_ _ | refine blk_drew ?_ | refine blk_alloc ?_ _)); exact BK367.out)) : gb367 ≠ gb368)); have n7_ := Aside0.mk ((by rw [hg]; exact Nat.ne_of_gt (blk_lt (g := gb367) (o := .cells #[.int .i64 a0_0, .int .i64 a0_1, .slice A0_2 l0_2.length c0_2] 32 (0, 0)) (by (with_reducible repeat (first | refine blk_drewN ?_ _ | refine blk_drew ?_ | refine blk_alloc ?_ _)); exact BK367.out)) : gb368 ≠ gb367)); clear HO0_2; clear BK367; clear HB; have HO0_2 := n0_; have BK367 := n1_; have HB := n2_; have BK368 := n3_; have GW368 := n4_; have GE368 := n5_; have NB367_368 := n6_; have NB368_367 := n7_; clear n0_ n1_ n2_ n3_ n4_ n5_ n6_ n7_; clear hb hbox hg; have hnb4 := NB367_368.out; have hnc4 := NB368_367.out; have hcz5_0 : w3.cell? ⟨gb367, 0, none⟩ = some (.int .i64 a0_0) := (blk_cell BK367.out 0).trans rfl; have hcz5_1 : w3.cell? ⟨gb367, 1, none⟩ = some (.int .i64 a0_1) := (blk_cell BK367.out 1).trans rfl; have hcz5_2 : w3.cell? ⟨gb367, 2, none⟩ = some (.slice A0_2 l0_2.length c0_2) := (blk_cell BK367.out 2).trans rfl; have hfz5_0 := blk_frozen BK367.out 0; have hfz5_1 := blk_frozen BK367.out 1; have hfz5_2 := blk_frozen BK367.out 2; have hcz6_0 : w3.cell? ⟨gb368, 0, none⟩ = some (.int .i64 0) := (blk_cell BK368.out 0).trans rfl; have hcz6_1 : w3.cell? ⟨gb368, 1, none⟩ = some (.int .i64 0) := (blk_cell BK368.out 1).trans rfl; have hcz6_2 : w3.cell? ⟨gb368, 2, none⟩ = some (.slice none 0 0) := (blk_cell BK368.out 2).trans rfl; have hfz6_0 := blk_frozen BK368.out 0; have hfz6_1 := blk_frozen BK368.out 1; have hfz6_2 := blk_frozen BK368.out 2))
  refine bodyPost_ret (results_cell_row rfl _ _ gb368 24 #[.int .i64 a0_0, .int .i64 a0_1, .slice A0_2 l0_2.length c0_2] (0, 0) _ rfl (by (with_reducible repeat (first | refine blk_drewN ?_ _ | refine blk_drew ?_ | refine blk_alloc ?_ _)); refine blk_put (cs := #[.int .i64 a0_0, .int .i64 a0_1, .slice none 0 0]) ?_ 2 _ rfl; (with_reducible repeat (first | refine blk_drewN ?_ _ | refine blk_drew ?_ | refine blk_alloc ?_ _)); refine blk_put (cs := #[.int .i64 a0_0, .int .i64 0, .slice none 0 0]) ?_ 1 _ rfl; (with_reducible repeat (first | refine blk_drewN ?_ _ | refine blk_drew ?_ | refine blk_alloc ?_ _)); refine blk_put (cs := #[.int .i64 0, .int .i64 0, .slice none 0 0]) ?_ 0 _ rfl; (with_reducible repeat (first | refine blk_drewN ?_ _ | refine blk_drew ?_ | refine blk_alloc ?_ _)); exact BK368.out) Try.underlying24 rfl (by kernel_rfl)) rfl ?_
  exact ⟨_, by first | rfl | (simp [errW_none, errW_some] <;> rfl) | (simp [*, errW_none, errW_some] <;> rfl), by (with_reducible repeat (first | apply Kd.V_alloc | apply Kd.V_drewN | apply Kd.V_drew)); exact Kd.V_mono (Kd.V_far (p := ⟨gb368, 2, none⟩) (Kd.V_far (p := ⟨gb368, 1, none⟩) (Kd.V_far (p := ⟨gb368, 0, none⟩) (Kd.V_mono HO0_2.out (fun k_ hk => (⟨hk, hk.2⟩ : _ ∧ k_ ≠ gb368))) (fun _ hk => hk.2) (.int .i64 a0_0)) (fun _ hk => hk.2) (.int .i64 a0_1)) (fun _ hk => hk.2) (.slice A0_2 l0_2.length c0_2)) (fun _ hk => hk.1.1.1), by repeat (first | (with_reducible first | exact HB.out | apply below_alloc | apply pw_below_drewN | apply below_drew1 | refine below_set ?_ GE368.out) | exact HB.out)⟩

end Go.Proofs.Ytidpaaemfiopkaa.Q
