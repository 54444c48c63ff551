-- written by our own program (wip/tools/myprint.py) out of the translation, by the kit's print; Lean checks it
import Derived.Test.YtmimfljiighbaaaQ0
import Derived.Test.YtmimfljiighbaaaQ8
namespace Go.Proofs.Ytmimfljiighbaaa.Q
open Go.RowKit Go.Proofs.YtmimfljiighbaaaW.PrintWords Go.Proofs.YtmimfljiighbaaaW.PrintLast Go.Proofs.YtmimfljiighbaaaW.PrintMore
attribute [local go_sem] max2_int min2_int max_two min_two max_three min_three max_four min_four   -- for this text's walks alone
set_option linter.unusedVariables false
set_option linter.unusedSimpArgs false

/-! ### chequerlaw06_of: function 23 -/
def chequerlaw06_of.f (a0_0 : Int) (a0_1 : Int) (a0_2 : Int) (a0_3 : Int) : Option (Int × Int × Int × Int) := some (a0_0, a0_1, a0_2, a0_3)
set_option maxHeartbeats 8000000 in
set_option maxRecDepth 100000 in
theorem chequerlaw06_of.calls (a0_0 : Int) (a0_1 : Int) (a0_2 : Int) (a0_3 : Int) (r1 : Int) (r2 : Int) (r3 : Int) (r4 : Int) (w : World) (h : chequerlaw06_of.f a0_0 a0_1 a0_2 a0_3 = some (r1, r2, r3, r4)) :
    Calls Try.prog 23 #[.agg #[.int .i64 a0_0, .int .i64 a0_1, .int .i64 a0_2, .int .i64 a0_3]] w fun e w' => e = .returned (.agg #[.int .i64 r1, .int .i64 r2, .int .i64 r3, .int .i64 r4]) ∧ Below w.heap.size w w' := by
  have hu25 := Try.underlying25
  have hu36 := Try.underlying36
  have HB := Aside0.mk (Below.refl w.heap.size w)
  have H : (some (a0_0, a0_1, a0_2, a0_3)) = some (r1, r2, r3, r4) := h
  clear h
  simp only [Option.some.injEq, Prod.mk.injEq] at H
  obtain ⟨rfl, rfl, rfl, rfl⟩ := H
  go_enter Try.func23, Try.ntmps23
  go_wp2_with (first | ((with_reducible refine gate_dst (N := 1) rfl ?_); refine box_event ?hg (N := 1) ?hd (cs := #[.int .i64 a0_0, .int .i64 a0_1, .int .i64 a0_2, .int .i64 a0_3]) (t := 25) ?hr ?_; (case hd => rfl); (case hg => rfl); (case hr => first | (go_simp; done) | (go_simp; rfl)); intro gb408 hg w2 hbox hb; have n0_ := Aside0.mk (below_step (by repeat (first | (with_reducible first | exact HB.out | apply below_alloc | apply pw_below_drewN | apply below_drew1) | exact HB.out)) hb); have n1_ := Aside0.mk (hbox); have n2_ := Aside0.mk ((by rw [hg]; exact (below_size (by repeat (first | (with_reducible first | exact HB.out | apply below_alloc | apply pw_below_drewN | apply below_drew1) | exact HB.out))) : w.heap.size ≤ gb408)); have n3_ := Aside0.mk ((by rw [hg]; exact (below_size (by repeat (first | (with_reducible first | exact HB.out | apply below_alloc | apply pw_below_drewN | apply below_drew1) | exact HB.out))) : w.heap.size ≤ gb408)); clear HB; have HB := n0_; have BK408 := n1_; have GW408 := n2_; have GE408 := n3_; clear n0_ n1_ n2_ n3_; clear hb hbox hg) | ((with_reducible refine gate_dst (N := 2) rfl ?_); refine box_event ?hg (N := 2) ?hd (cs := #[.int .i64 0, .int .i64 0, .int .i64 0, .int .i64 0]) (t := 36) ?hr ?_; (case hd => rfl); (case hg => rfl); (case hr => first | (go_simp; done) | (go_simp; rfl)); intro gb409 hg w3 hbox hb; have n0_ := Aside0.mk (blk_below (g := gb408) (o := .cells #[.int .i64 a0_0, .int .i64 a0_1, .int .i64 a0_2, .int .i64 a0_3] 25 (0, 0)) (by (with_reducible repeat (first | refine blk_drewN ?_ _ | refine blk_drew ?_ | refine blk_alloc ?_ _)); exact BK408.out) hb); have n1_ := Aside0.mk (below_step (by repeat (first | (with_reducible first | exact HB.out | apply below_alloc | apply pw_below_drewN | apply below_drew1 | refine below_set ?_ GE408.out) | exact HB.out)) hb); have n2_ := Aside0.mk (hbox); have n3_ := Aside0.mk ((by rw [hg]; exact (below_size (by repeat (first | (with_reducible first | exact HB.out | apply below_alloc | apply pw_below_drewN | apply below_drew1 | refine below_set ?_ GE408.out) | exact HB.out))) : w.heap.size ≤ gb409)); have n4_ := Aside0.mk ((by rw [hg]; exact (below_size (by repeat (first | (with_reducible first | exact HB.out | apply below_alloc | apply pw_below_drewN | apply below_drew1 | refine below_set ?_ GE408.out) | exact HB.out))) : w.heap.size ≤ gb409)); have n5_ := Aside0.mk ((by rw [hg]; exact Nat.ne_of_lt (blk_lt (g := gb408) (o := .cells #[.int .i64 a0_0, .int .i64 a0_1, .int .i64 a0_2, .int .i64 a0_3] 25 (0, 0)) (by (with_reducible repeat (first | refine blk_drewN ?_ _ | refine blk_drew ?_ | refine blk_alloc ?_ _)); exact BK408.out)) : gb408 ≠ gb409)); have n6_ := Aside0.mk ((by rw [hg]; exact Nat.ne_of_gt (blk_lt (g := gb408) (o := .cells #[.int .i64 a0_0, .int .i64 a0_1, .int .i64 a0_2, .int .i64 a0_3] 25 (0, 0)) (by (with_reducible repeat (first | refine blk_drewN ?_ _ | refine blk_drew ?_ | refine blk_alloc ?_ _)); exact BK408.out)) : gb409 ≠ gb408)); clear BK408; clear HB; have BK408 := n0_; have HB := n1_; have BK409 := n2_; have GW409 := n3_; have GE409 := n4_; have NB408_409 := n5_; have NB409_408 := n6_; clear n0_ n1_ n2_ n3_ n4_ n5_ n6_; clear hb hbox hg; have hnb4 := NB408_409.out; have hnc4 := NB409_408.out; have hcz5_0 : w3.cell? ⟨gb408, 0, none⟩ = some (.int .i64 a0_0) := (blk_cell BK408.out 0).trans rfl; have hcz5_1 : w3.cell? ⟨gb408, 1, none⟩ = some (.int .i64 a0_1) := (blk_cell BK408.out 1).trans rfl; have hcz5_2 : w3.cell? ⟨gb408, 2, none⟩ = some (.int .i64 a0_2) := (blk_cell BK408.out 2).trans rfl; have hcz5_3 : w3.cell? ⟨gb408, 3, none⟩ = some (.int .i64 a0_3) := (blk_cell BK408.out 3).trans rfl; have hfz5_0 := blk_frozen BK408.out 0; have hfz5_1 := blk_frozen BK408.out 1; have hfz5_2 := blk_frozen BK408.out 2; have hfz5_3 := blk_frozen BK408.out 3; have hcz6_0 : w3.cell? ⟨gb409, 0, none⟩ = some (.int .i64 0) := (blk_cell BK409.out 0).trans rfl; have hcz6_1 : w3.cell? ⟨gb409, 1, none⟩ = some (.int .i64 0) := (blk_cell BK409.out 1).trans rfl; have hcz6_2 : w3.cell? ⟨gb409, 2, none⟩ = some (.int .i64 0) := (blk_cell BK409.out 2).trans rfl; have hcz6_3 : w3.cell? ⟨gb409, 3, none⟩ = some (.int .i64 0) := (blk_cell BK409.out 3).trans rfl; have hfz6_0 := blk_frozen BK409.out 0; have hfz6_1 := blk_frozen BK409.out 1; have hfz6_2 := blk_frozen BK409.out 2; have hfz6_3 := blk_frozen BK409.out 3))
  refine bodyPost_ret (results_cell_row rfl _ _ gb409 36 #[.int .i64 a0_0, .int .i64 a0_1, .int .i64 a0_2, .int .i64 a0_3] (0, 0) _ rfl (by (with_reducible repeat (first | refine blk_drewN ?_ _ | refine blk_drew ?_ | refine blk_alloc ?_ _)); refine blk_put (cs := #[.int .i64 a0_0, .int .i64 a0_1, .int .i64 a0_2, .int .i64 0]) ?_ 3 _ rfl; (with_reducible repeat (first | refine blk_drewN ?_ _ | refine blk_drew ?_ | refine blk_alloc ?_ _)); refine blk_put (cs := #[.int .i64 a0_0, .int .i64 a0_1, .int .i64 0, .int .i64 0]) ?_ 2 _ rfl; (with_reducible repeat (first | refine blk_drewN ?_ _ | refine blk_drew ?_ | refine blk_alloc ?_ _)); refine blk_put (cs := #[.int .i64 a0_0, .int .i64 0, .int .i64 0, .int .i64 0]) ?_ 1 _ rfl; (with_reducible repeat (first | refine blk_drewN ?_ _ | refine blk_drew ?_ | refine blk_alloc ?_ _)); refine blk_put (cs := #[.int .i64 0, .int .i64 0, .int .i64 0, .int .i64 0]) ?_ 0 _ rfl; (with_reducible repeat (first | refine blk_drewN ?_ _ | refine blk_drew ?_ | refine blk_alloc ?_ _)); exact BK409.out) Try.underlying36 rfl (by kernel_rfl)) rfl ?_
  exact ⟨by first | rfl | (simp [errW_none, errW_some] <;> rfl) | (simp [*, errW_none, errW_some] <;> rfl), by repeat (first | (with_reducible first | exact HB.out | apply below_alloc | apply pw_below_drewN | apply below_drew1 | refine below_set ?_ GE409.out) | exact HB.out)⟩


/-! ### chequerref06_Format: function 24 -/
def chequerref06_Format.f (a0_0 : Int) (a0_1 : Int) (a0_2 : Int) (a0_3 : Int) : Option (Int × Int) := if a0_0 = 3 then (some (3, a0_3)) else (if a0_0 = 6 then (some (3, a0_3)) else (some (1, a0_3)))
set_option maxHeartbeats 8000000 in
set_option maxRecDepth 100000 in
theorem chequerref06_Format.calls (a0_0 : Int) (a0_1 : Int) (a0_2 : Int) (a0_3 : Int) (r1 : Int) (r2 : Int) (w : World) (h : chequerref06_Format.f a0_0 a0_1 a0_2 a0_3 = some (r1, r2)) :
 Calls Try.prog 24 #[.agg #[.int .i64 a0_0, .int .i64 a0_1, .int .i64 a0_2, .int .i64 a0_3]] w fun e w' => e = .returned (.agg #[.int .i64 r1, .int .i64 r2]) ∧ Below w.heap.size w w' := by
 have hu25 := Try.underlying25
 have hu52 := Try.underlying52
 have HB := Aside0.mk (Below.refl w.heap.size w)
 have H : (if a0_0 = 3 then (some (3, a0_3)) else (if a0_0 = 6 then (some (3, a0_3)) else (some (1, a0_3)))) = some (r1, r2) := h
 clear h
 by_cases c2 : a0_0 = 3
 · rw [if_pos c2] at H
   have c2b0 : (a0_0 == 3) = true := beq_iff_eq.mpr c2
   have c2b1 : (a0_0 != 3) = false := bne_eq_false_iff_eq.mpr c2
   clear c2
   simp only [Option.some.injEq, Prod.mk.injEq] at H
   obtain ⟨rfl, rfl⟩ := H
   go_enter Try.func24, Try.ntmps24
   go_wp2_with (first | ((with_reducible refine gate_dst (N := 1) rfl ?_); refine box_event ?hg (N := 1) ?hd (cs := #[.int .i64 a0_0, .int .i64 a0_1, .int .i64 a0_2, .int .i64 a0_3]) (t := 25) ?hr ?_; (case hd => rfl); (case hg => rfl); (case hr => first | (go_simp; done) | (go_simp; rfl)); intro gb410 hg w3 hbox hb; have BK410 := Aside0.mk (hbox); have GW410 := Aside0.mk ((by rw [hg]; exact (below_size bp_) : w.heap.size ≤ gb410)); have GE410 := Aside0.mk ((by rw [hg]; exact (below_size bp_) : w.heap.size ≤ gb410)); replace HB := Aside0.mk (below_step bp_ hb); clear hb hbox hg) | ((with_reducible refine gate_dst (N := 2) rfl ?_); refine box_event ?hg (N := 2) ?hd (cs := #[.int .i64 0, .int .i64 0]) (t := 52) ?hr ?_; (case hd => rfl); (case hg => rfl); (case hr => first | (go_simp; done) | (go_simp; rfl)); intro gb411 hg w4 hbox hb; have BK411 := Aside0.mk (hbox); have GW411 := Aside0.mk ((by rw [hg]; exact (below_size bp_) : w.heap.size ≤ gb411)); have GE411 := Aside0.mk ((by rw [hg]; exact (below_size bp_) : w.heap.size ≤ gb411)); replace HB := Aside0.mk (below_step bp_ hb); have NB410_411 := Aside0.mk ((nlt_ hg (hp_ BK410.out))); have NB411_410 := Aside0.mk ((ngt_ hg (hp_ BK410.out))); replace BK410 := Aside0.mk (blk_below (hp_ BK410.out) hb); clear hb hbox hg; have hnb5 := NB410_411.out; have hnc5 := NB411_410.out; have hcz6_0 : w4.cell? ⟨gb410, 0, none⟩ = some (.int .i64 a0_0) := (blk_cell BK410.out 0).trans rfl; have hcz6_1 : w4.cell? ⟨gb410, 1, none⟩ = some (.int .i64 a0_1) := (blk_cell BK410.out 1).trans rfl; have hcz6_2 : w4.cell? ⟨gb410, 2, none⟩ = some (.int .i64 a0_2) := (blk_cell BK410.out 2).trans rfl; have hcz6_3 : w4.cell? ⟨gb410, 3, none⟩ = some (.int .i64 a0_3) := (blk_cell BK410.out 3).trans rfl; have hfz6_0 := blk_frozen BK410.out 0; have hfz6_1 := blk_frozen BK410.out 1; have hfz6_2 := blk_frozen BK410.out 2; have hfz6_3 := blk_frozen BK410.out 3; have hcz7_0 : w4.cell? ⟨gb411, 0, none⟩ = some (.int .i64 0) := (blk_cell BK411.out 0).trans rfl; have hcz7_1 : w4.cell? ⟨gb411, 1, none⟩ = some (.int .i64 0) := (blk_cell BK411.out 1).trans rfl; have hfz7_0 := blk_frozen BK411.out 0; have hfz7_1 := blk_frozen BK411.out 1))
   refine bodyPost_ret (results_cell_row rfl _ _ gb411 52 #[.int .i64 3, .int .i64 a0_3] (0, 0) _ rfl (by (with_reducible repeat (first | refine blk_drewN ?_ _ | refine blk_drew ?_ | refine blk_alloc ?_ _)); refine blk_put (cs := #[.int .i64 3, .int .i64 0]) ?_ 1 _ rfl; (with_reducible repeat (first | refine blk_drewN ?_ _ | refine blk_drew ?_ | refine blk_alloc ?_ _)); refine blk_put (cs := #[.int .i64 0, .int .i64 0]) ?_ 0 _ rfl; (with_reducible repeat (first | refine blk_drewN ?_ _ | refine blk_drew ?_ | refine blk_alloc ?_ _)); exact BK411.out) Try.underlying52 rfl (by kernel_rfl)) rfl ?_
   exact ⟨by first | rfl | (simp [errW_none, errW_some] <;> rfl) | (simp [*, errW_none, errW_some] <;> rfl), bp_⟩
 · rw [if_neg c2] at H
   have c2b0 : (a0_0 == 3) = false := beq_eq_false_iff_ne.mpr c2
   have c2b1 : (a0_0 != 3) = true := bne_iff_ne.mpr c2
   by_cases c8 : a0_0 = 6
   · rw [if_pos c8] at H
     have c8b0 : (a0_0 == 6) = true := beq_iff_eq.mpr c8
     have c8b1 : (a0_0 != 6) = false := bne_eq_false_iff_eq.mpr c8
     clear c8
     simp only [Option.some.injEq, Prod.mk.injEq] at H
     obtain ⟨rfl, rfl⟩ := H
     go_enter Try.func24, Try.ntmps24
     go_wp2_with (first | ((with_reducible refine gate_dst (N := 1) rfl ?_); refine box_event ?hg (N := 1) ?hd (cs := #[.int .i64 a0_0, .int .i64 a0_1, .int .i64 a0_2, .int .i64 a0_3]) (t := 25) ?hr ?_; (case hd => rfl); (case hg => rfl); (case hr => first | (go_simp; done) | (go_simp; rfl)); intro gb410 hg w9 hbox hb; have BK410 := Aside0.mk (hbox); have GW410 := Aside0.mk ((by rw [hg]; exact (below_size bp_) : w.heap.size ≤ gb410)); have GE410 := Aside0.mk ((by rw [hg]; exact (below_size bp_) : w.heap.size ≤ gb410)); replace HB := Aside0.mk (below_step bp_ hb); clear hb hbox hg) | ((with_reducible refine gate_dst (N := 2) rfl ?_); refine box_event ?hg (N := 2) ?hd (cs := #[.int .i64 0, .int .i64 0]) (t := 52) ?hr ?_; (case hd => rfl); (case hg => rfl); (case hr => first | (go_simp; done) | (go_simp; rfl)); intro gb411 hg w10 hbox hb; have BK411 := Aside0.mk (hbox); have GW411 := Aside0.mk ((by rw [hg]; exact (below_size bp_) : w.heap.size ≤ gb411)); have GE411 := Aside0.mk ((by rw [hg]; exact (below_size bp_) : w.heap.size ≤ gb411)); replace HB := Aside0.mk (below_step bp_ hb); have NB410_411 := Aside0.mk ((nlt_ hg (hp_ BK410.out))); have NB411_410 := Aside0.mk ((ngt_ hg (hp_ BK410.out))); replace BK410 := Aside0.mk (blk_below (hp_ BK410.out) hb); clear hb hbox hg; have hnb11 := NB410_411.out; have hnc11 := NB411_410.out; have hcz12_0 : w10.cell? ⟨gb410, 0, none⟩ = some (.int .i64 a0_0) := (blk_cell BK410.out 0).trans rfl; have hcz12_1 : w10.cell? ⟨gb410, 1, none⟩ = some (.int .i64 a0_1) := (blk_cell BK410.out 1).trans rfl; have hcz12_2 : w10.cell? ⟨gb410, 2, none⟩ = some (.int .i64 a0_2) := (blk_cell BK410.out 2).trans rfl; have hcz12_3 : w10.cell? ⟨gb410, 3, none⟩ = some (.int .i64 a0_3) := (blk_cell BK410.out 3).trans rfl; have hfz12_0 := blk_frozen BK410.out 0; have hfz12_1 := blk_frozen BK410.out 1; have hfz12_2 := blk_frozen BK410.out 2; have hfz12_3 := blk_frozen BK410.out 3; have hcz13_0 : w10.cell? ⟨gb411, 0, none⟩ = some (.int .i64 0) := (blk_cell BK411.out 0).trans rfl; have hcz13_1 : w10.cell? ⟨gb411, 1, none⟩ = some (.int .i64 0) := (blk_cell BK411.out 1).trans rfl; have hfz13_0 := blk_frozen BK411.out 0; have hfz13_1 := blk_frozen BK411.out 1))
     refine bodyPost_ret (results_cell_row rfl _ _ gb411 52 #[.int .i64 3, .int .i64 a0_3] (0, 0) _ rfl (by (with_reducible repeat (first | refine blk_drewN ?_ _ | refine blk_drew ?_ | refine blk_alloc ?_ _)); refine blk_put (cs := #[.int .i64 3, .int .i64 0]) ?_ 1 _ rfl; (with_reducible repeat (first | refine blk_drewN ?_ _ | refine blk_drew ?_ | refine blk_alloc ?_ _)); refine blk_put (cs := #[.int .i64 0, .int .i64 0]) ?_ 0 _ rfl; (with_reducible repeat (first | refine blk_drewN ?_ _ | refine blk_drew ?_ | refine blk_alloc ?_ _)); exact BK411.out) Try.underlying52 rfl (by kernel_rfl)) rfl ?_
     exact ⟨by first | rfl | (simp [errW_none, errW_some] <;> rfl) | (simp [*, errW_none, errW_some] <;> rfl), bp_⟩
   · rw [if_neg c8] at H
     have c8b0 : (a0_0 == 6) = false := beq_eq_false_iff_ne.mpr c8
     have c8b1 : (a0_0 != 6) = true := bne_iff_ne.mpr c8
     simp only [Option.some.injEq, Prod.mk.injEq] at H
     obtain ⟨rfl, rfl⟩ := H
     go_enter Try.func24, Try.ntmps24
     go_wp2_with (first | ((with_reducible refine gate_dst (N := 1) rfl ?_); refine box_event ?hg (N := 1) ?hd (cs := #[.int .i64 a0_0, .int .i64 a0_1, .int .i64 a0_2, .int .i64 a0_3]) (t := 25) ?hr ?_; (case hd => rfl); (case hg => rfl); (case hr => first | (go_simp; done) | (go_simp; rfl)); intro gb410 hg w14 hbox hb; have BK410 := Aside0.mk (hbox); have GW410 := Aside0.mk ((by rw [hg]; exact (below_size bp_) : w.heap.size ≤ gb410)); have GE410 := Aside0.mk ((by rw [hg]; exact (below_size bp_) : w.heap.size ≤ gb410)); replace HB := Aside0.mk (below_step bp_ hb); clear hb hbox hg) | ((with_reducible refine gate_dst (N := 2) rfl ?_); refine box_event ?hg (N := 2) ?hd (cs := #[.int .i64 0, .int .i64 0]) (t := 52) ?hr ?_; (case hd => rfl); (case hg => rfl); (case hr => first | (go_simp; done) | (go_simp; rfl)); intro gb411 hg w15 hbox hb; have BK411 := Aside0.mk (hbox); have GW411 := Aside0.mk ((by rw [hg]; exact (below_size bp_) : w.heap.size ≤ gb411)); have GE411 := Aside0.mk ((by rw [hg]; exact (below_size bp_) : w.heap.size ≤ gb411)); replace HB := Aside0.mk (below_step bp_ hb); have NB410_411 := Aside0.mk ((nlt_ hg (hp_ BK410.out))); have NB411_410 := Aside0.mk ((ngt_ hg (hp_ BK410.out))); replace BK410 := Aside0.mk (blk_below (hp_ BK410.out) hb); clear hb hbox hg; have hnb16 := NB410_411.out; have hnc16 := NB411_410.out; have hcz17_0 : w15.cell? ⟨gb410, 0, none⟩ = some (.int .i64 a0_0) := (blk_cell BK410.out 0).trans rfl; have hcz17_1 : w15.cell? ⟨gb410, 1, none⟩ = some (.int .i64 a0_1) := (blk_cell BK410.out 1).trans rfl; have hcz17_2 : w15.cell? ⟨gb410, 2, none⟩ = some (.int .i64 a0_2) := (blk_cell BK410.out 2).trans rfl; have hcz17_3 : w15.cell? ⟨gb410, 3, none⟩ = some (.int .i64 a0_3) := (blk_cell BK410.out 3).trans rfl; have hfz17_0 := blk_frozen BK410.out 0; have hfz17_1 := blk_frozen BK410.out 1; have hfz17_2 := blk_frozen BK410.out 2; have hfz17_3 := blk_frozen BK410.out 3; have hcz18_0 : w15.cell? ⟨gb411, 0, none⟩ = some (.int .i64 0) := (blk_cell BK411.out 0).trans rfl; have hcz18_1 : w15.cell? ⟨gb411, 1, none⟩ = some (.int .i64 0) := (blk_cell BK411.out 1).trans rfl; have hfz18_0 := blk_frozen BK411.out 0; have hfz18_1 := blk_frozen BK411.out 1))
     refine bodyPost_ret (results_cell_row rfl _ _ gb411 52 #[.int .i64 1, .int .i64 a0_3] (0, 0) _ rfl (by (with_reducible repeat (first | refine blk_drewN ?_ _ | refine blk_drew ?_ | refine blk_alloc ?_ _)); refine blk_put (cs := #[.int .i64 1, .int .i64 0]) ?_ 1 _ rfl; (with_reducible repeat (first | refine blk_drewN ?_ _ | refine blk_drew ?_ | refine blk_alloc ?_ _)); refine blk_put (cs := #[.int .i64 0, .int .i64 0]) ?_ 0 _ rfl; (with_reducible repeat (first | refine blk_drewN ?_ _ | refine blk_drew ?_ | refine blk_alloc ?_ _)); exact BK411.out) Try.underlying52 rfl (by kernel_rfl)) rfl ?_
     exact ⟨by first | rfl | (simp [errW_none, errW_some] <;> rfl) | (simp [*, errW_none, errW_some] <;> rfl), bp_⟩


/-! ### chequerref06_Size: function 26 -/
def chequerref06_Size.f (a0_0 : Int) (a0_1 : Int) (a0_2 : Int) (a0_3 : Int) : Option (Int) := if a0_0 < 4 then (some 0) else (if a0_0 = 4 then (if (Int.tmod a0_1 8) > 0 then (some (wrap64 ((wrap64 ((wrap64 (Int.tdiv a0_1 8)) + 1)) * a0_2))) else (some (wrap64 ((wrap64 (Int.tdiv a0_1 8)) * a0_2)))) else (if a0_0 = 6 then (if a0_3 > 255 then (some (wrap64 (2 * (wrap64 (3 * (wrap64 (a0_1 * a0_2))))))) else (some (wrap64 (3 * (wrap64 (a0_1 * a0_2)))))) else (if a0_3 > 255 then (some (wrap64 (2 * (wrap64 (a0_1 * a0_2))))) else (some (wrap64 (a0_1 * a0_2))))))
set_option maxHeartbeats 8000000 in
set_option maxRecDepth 100000 in
theorem chequerref06_Size.calls (a0_0 : Int) (a0_1 : Int) (a0_2 : Int) (a0_3 : Int) (r : Int) (w : World) (h : chequerref06_Size.f a0_0 a0_1 a0_2 a0_3 = some r) :
 Calls Try.prog 26 #[.agg #[.int .i64 a0_0, .int .i64 a0_1, .int .i64 a0_2, .int .i64 a0_3]] w fun e w' => e = .returned (.int .i64 r) ∧ Below w.heap.size w w' := by
 have hu25 := Try.underlying25
 have HB := Aside0.mk (Below.refl w.heap.size w)
 have H : (if a0_0 < 4 then (some 0) else (if a0_0 = 4 then (if (Int.tmod a0_1 8) > 0 then (some (wrap64 ((wrap64 ((wrap64 (Int.tdiv a0_1 8)) + 1)) * a0_2))) else (some (wrap64 ((wrap64 (Int.tdiv a0_1 8)) * a0_2)))) else (if a0_0 = 6 then (if a0_3 > 255 then (some (wrap64 (2 * (wrap64 (3 * (wrap64 (a0_1 * a0_2))))))) else (some (wrap64 (3 * (wrap64 (a0_1 * a0_2)))))) else (if a0_3 > 255 then (some (wrap64 (2 * (wrap64 (a0_1 * a0_2))))) else (some (wrap64 (a0_1 * a0_2))))))) = some r := h
 clear h
 by_cases c2 : a0_0 < 4
 · rw [if_pos c2] at H
   have c2b0 : decide (a0_0 < 4) = true := decide_eq_true c2
   clear c2
   obtain rfl := Option.some.inj H
   go_enter Try.func26, Try.ntmps26
   go_wp2_with (first | ((with_reducible refine gate_dst (N := 1) rfl ?_); refine box_event ?hg (N := 1) ?hd (cs := #[.int .i64 a0_0, .int .i64 a0_1, .int .i64 a0_2, .int .i64 a0_3]) (t := 25) ?hr ?_; (case hd => rfl); (case hg => rfl); (case hr => first | (go_simp; done) | (go_simp; rfl)); intro gb412 hg w3 hbox hb; have BK412 := Aside0.mk (hbox); have GW412 := Aside0.mk ((by rw [hg]; exact (below_size bp_) : w.heap.size ≤ gb412)); have GE412 := Aside0.mk ((by rw [hg]; exact (below_size bp_) : w.heap.size ≤ gb412)); replace HB := Aside0.mk (below_step bp_ hb); clear hb hbox hg; have hcz4_0 : w3.cell? ⟨gb412, 0, none⟩ = some (.int .i64 a0_0) := (blk_cell BK412.out 0).trans rfl; have hcz4_1 : w3.cell? ⟨gb412, 1, none⟩ = some (.int .i64 a0_1) := (blk_cell BK412.out 1).trans rfl; have hcz4_2 : w3.cell? ⟨gb412, 2, none⟩ = some (.int .i64 a0_2) := (blk_cell BK412.out 2).trans rfl; have hcz4_3 : w3.cell? ⟨gb412, 3, none⟩ = some (.int .i64 a0_3) := (blk_cell BK412.out 3).trans rfl; have hfz4_0 := blk_frozen BK412.out 0; have hfz4_1 := blk_frozen BK412.out 1; have hfz4_2 := blk_frozen BK412.out 2; have hfz4_3 := blk_frozen BK412.out 3))
   go_ret
   exact ⟨by first | rfl | (simp [errW_none, errW_some] <;> rfl) | (simp [*, errW_none, errW_some] <;> rfl), bp_⟩
 · rw [if_neg c2] at H
   have c2b0 : decide (a0_0 < 4) = false := decide_eq_false c2
   clear c2
   by_cases c5 : a0_0 = 4
   · rw [if_pos c5] at H
     have c5b0 : (a0_0 == 4) = true := beq_iff_eq.mpr c5
     have c5b1 : (a0_0 != 4) = false := bne_eq_false_iff_eq.mpr c5
     clear c5
     by_cases c6 : (Int.tmod a0_1 8) > 0
     · rw [if_pos c6] at H
       have c6b0 : decide (0 < (Int.tmod a0_1 8)) = true := decide_eq_true c6
       clear c6
       obtain rfl := Option.some.inj H
       go_enter Try.func26, Try.ntmps26
       go_wp2_with (first | ((with_reducible refine gate_dst (N := 1) rfl ?_); refine box_event ?hg (N := 1) ?hd (cs := #[.int .i64 a0_0, .int .i64 a0_1, .int .i64 a0_2, .int .i64 a0_3]) (t := 25) ?hr ?_; (case hd => rfl); (case hg => rfl); (case hr => first | (go_simp; done) | (go_simp; rfl)); intro gb412 hg w7 hbox hb; have BK412 := Aside0.mk (hbox); have GW412 := Aside0.mk ((by rw [hg]; exact (below_size bp_) : w.heap.size ≤ gb412)); have GE412 := Aside0.mk ((by rw [hg]; exact (below_size bp_) : w.heap.size ≤ gb412)); replace HB := Aside0.mk (below_step bp_ hb); clear hb hbox hg; have hcz8_0 : w7.cell? ⟨gb412, 0, none⟩ = some (.int .i64 a0_0) := (blk_cell BK412.out 0).trans rfl; have hcz8_1 : w7.cell? ⟨gb412, 1, none⟩ = some (.int .i64 a0_1) := (blk_cell BK412.out 1).trans rfl; have hcz8_2 : w7.cell? ⟨gb412, 2, none⟩ = some (.int .i64 a0_2) := (blk_cell BK412.out 2).trans rfl; have hcz8_3 : w7.cell? ⟨gb412, 3, none⟩ = some (.int .i64 a0_3) := (blk_cell BK412.out 3).trans rfl; have hfz8_0 := blk_frozen BK412.out 0; have hfz8_1 := blk_frozen BK412.out 1; have hfz8_2 := blk_frozen BK412.out 2; have hfz8_3 := blk_frozen BK412.out 3))
       go_ret
       exact ⟨by first | rfl | (simp [errW_none, errW_some] <;> rfl) | (simp [*, errW_none, errW_some] <;> rfl), bp_⟩
     · rw [if_neg c6] at H
       have c6b0 : decide (0 < (Int.tmod a0_1 8)) = false := decide_eq_false c6
       clear c6
       obtain rfl := Option.some.inj H
       go_enter Try.func26, Try.ntmps26
       go_wp2_with (first | ((with_reducible refine gate_dst (N := 1) rfl ?_); refine box_event ?hg (N := 1) ?hd (cs := #[.int .i64 a0_0, .int .i64 a0_1, .int .i64 a0_2, .int .i64 a0_3]) (t := 25) ?hr ?_; (case hd => rfl); (case hg => rfl); (case hr => first | (go_simp; done) | (go_simp; rfl)); intro gb412 hg w9 hbox hb; have BK412 := Aside0.mk (hbox); have GW412 := Aside0.mk ((by rw [hg]; exact (below_size bp_) : w.heap.size ≤ gb412)); have GE412 := Aside0.mk ((by rw [hg]; exact (below_size bp_) : w.heap.size ≤ gb412)); replace HB := Aside0.mk (below_step bp_ hb); clear hb hbox hg; have hcz10_0 : w9.cell? ⟨gb412, 0, none⟩ = some (.int .i64 a0_0) := (blk_cell BK412.out 0).trans rfl; have hcz10_1 : w9.cell? ⟨gb412, 1, none⟩ = some (.int .i64 a0_1) := (blk_cell BK412.out 1).trans rfl; have hcz10_2 : w9.cell? ⟨gb412, 2, none⟩ = some (.int .i64 a0_2) := (blk_cell BK412.out 2).trans rfl; have hcz10_3 : w9.cell? ⟨gb412, 3, none⟩ = some (.int .i64 a0_3) := (blk_cell BK412.out 3).trans rfl; have hfz10_0 := blk_frozen BK412.out 0; have hfz10_1 := blk_frozen BK412.out 1; have hfz10_2 := blk_frozen BK412.out 2; have hfz10_3 := blk_frozen BK412.out 3))
       go_ret
       exact ⟨by first | rfl | (simp [errW_none, errW_some] <;> rfl) | (simp [*, errW_none, errW_some] <;> rfl), bp_⟩
   · rw [if_neg c5] at H
     have c5b0 : (a0_0 == 4) = false := beq_eq_false_iff_ne.mpr c5
     have c5b1 : (a0_0 != 4) = true := bne_iff_ne.mpr c5
     by_cases c11 : a0_0 = 6
     · rw [if_pos c11] at H
       have c11b0 : (a0_0 == 6) = true := beq_iff_eq.mpr c11
       have c11b1 : (a0_0 != 6) = false := bne_eq_false_iff_eq.mpr c11
       clear c11
       by_cases c12 : a0_3 > 255
       · rw [if_pos c12] at H
         have c12b0 : decide (255 < a0_3) = true := decide_eq_true c12
         clear c12
         obtain rfl := Option.some.inj H
         go_enter Try.func26, Try.ntmps26
         go_wp2_with (first | ((with_reducible refine gate_dst (N := 1) rfl ?_); refine box_event ?hg (N := 1) ?hd (cs := #[.int .i64 a0_0, .int .i64 a0_1, .int .i64 a0_2, .int .i64 a0_3]) (t := 25) ?hr ?_; (case hd => rfl); (case hg => rfl); (case hr => first | (go_simp; done) | (go_simp; rfl)); intro gb412 hg w13 hbox hb; have BK412 := Aside0.mk (hbox); have GW412 := Aside0.mk ((by rw [hg]; exact (below_size bp_) : w.heap.size ≤ gb412)); have GE412 := Aside0.mk ((by rw [hg]; exact (below_size bp_) : w.heap.size ≤ gb412)); replace HB := Aside0.mk (below_step bp_ hb); clear hb hbox hg; have hcz14_0 : w13.cell? ⟨gb412, 0, none⟩ = some (.int .i64 a0_0) := (blk_cell BK412.out 0).trans rfl; have hcz14_1 : w13.cell? ⟨gb412, 1, none⟩ = some (.int .i64 a0_1) := (blk_cell BK412.out 1).trans rfl; have hcz14_2 : w13.cell? ⟨gb412, 2, none⟩ = some (.int .i64 a0_2) := (blk_cell BK412.out 2).trans rfl; have hcz14_3 : w13.cell? ⟨gb412, 3, none⟩ = some (.int .i64 a0_3) := (blk_cell BK412.out 3).trans rfl; have hfz14_0 := blk_frozen BK412.out 0; have hfz14_1 := blk_frozen BK412.out 1; have hfz14_2 := blk_frozen BK412.out 2; have hfz14_3 := blk_frozen BK412.out 3))
         go_ret
         exact ⟨by first | rfl | (simp [errW_none, errW_some] <;> rfl) | (simp [*, errW_none, errW_some] <;> rfl), bp_⟩
       · rw [if_neg c12] at H
         have c12b0 : decide (255 < a0_3) = false := decide_eq_false c12
         clear c12
         obtain rfl := Option.some.inj H
         go_enter Try.func26, Try.ntmps26
         go_wp2_with (first | ((with_reducible refine gate_dst (N := 1) rfl ?_); refine box_event ?hg (N := 1) ?hd (cs := #[.int .i64 a0_0, .int .i64 a0_1, .int .i64 a0_2, .int .i64 a0_3]) (t := 25) ?hr ?_; (case hd => rfl); (case hg => rfl); (case hr => first | (go_simp; done) | (go_simp; rfl)); intro gb412 hg w15 hbox hb; have BK412 := Aside0.mk (hbox); have GW412 := Aside0.mk ((by rw [hg]; exact (below_size bp_) : w.heap.size ≤ gb412)); have GE412 := Aside0.mk ((by rw [hg]; exact (below_size bp_) : w.heap.size ≤ gb412)); replace HB := Aside0.mk (below_step bp_ hb); clear hb hbox hg; have hcz16_0 : w15.cell? ⟨gb412, 0, none⟩ = some (.int .i64 a0_0) := (blk_cell BK412.out 0).trans rfl; have hcz16_1 : w15.cell? ⟨gb412, 1, none⟩ = some (.int .i64 a0_1) := (blk_cell BK412.out 1).trans rfl; have hcz16_2 : w15.cell? ⟨gb412, 2, none⟩ = some (.int .i64 a0_2) := (blk_cell BK412.out 2).trans rfl; have hcz16_3 : w15.cell? ⟨gb412, 3, none⟩ = some (.int .i64 a0_3) := (blk_cell BK412.out 3).trans rfl; have hfz16_0 := blk_frozen BK412.out 0; have hfz16_1 := blk_frozen BK412.out 1; have hfz16_2 := blk_frozen BK412.out 2; have hfz16_3 := blk_frozen BK412.out 3))
         go_ret
         exact ⟨by first | rfl | (simp [errW_none, errW_some] <;> rfl) | (simp [*, errW_none, errW_some] <;> rfl), bp_⟩
     · rw [if_neg c11] at H
       have c11b0 : (a0_0 == 6) = false := beq_eq_false_iff_ne.mpr c11
       have c11b1 : (a0_0 != 6) = true := bne_iff_ne.mpr c11
       by_cases c17 : a0_3 > 255
       · rw [if_pos c17] at H
         have c17b0 : decide (255 < a0_3) = true := decide_eq_true c17
         clear c17
         obtain rfl := Option.some.inj H
         go_enter Try.func26, Try.ntmps26
         go_wp2_with (first | ((with_reducible refine gate_dst (N := 1) rfl ?_); refine box_event ?hg (N := 1) ?hd (cs := #[.int .i64 a0_0, .int .i64 a0_1, .int .i64 a0_2, .int .i64 a0_3]) (t := 25) ?hr ?_; (case hd => rfl); (case hg => rfl); (case hr => first | (go_simp; done) | (go_simp; rfl)); intro gb412 hg w18 hbox hb; have BK412 := Aside0.mk (hbox); have GW412 := Aside0.mk ((by rw [hg]; exact (below_size bp_) : w.heap.size ≤ gb412)); have GE412 := Aside0.mk ((by rw [hg]; exact (below_size bp_) : w.heap.size ≤ gb412)); replace HB := Aside0.mk (below_step bp_ hb); clear hb hbox hg; have hcz19_0 : w18.cell? ⟨gb412, 0, none⟩ = some (.int .i64 a0_0) := (blk_cell BK412.out 0).trans rfl; have hcz19_1 : w18.cell? ⟨gb412, 1, none⟩ = some (.int .i64 a0_1) := (blk_cell BK412.out 1).trans rfl; have hcz19_2 : w18.cell? ⟨gb412, 2, none⟩ = some (.int .i64 a0_2) := (blk_cell BK412.out 2).trans rfl; have hcz19_3 : w18.cell? ⟨gb412, 3, none⟩ = some (.int .i64 a0_3) := (blk_cell BK412.out 3).trans rfl; have hfz19_0 := blk_frozen BK412.out 0; have hfz19_1 := blk_frozen BK412.out 1; have hfz19_2 := blk_frozen BK412.out 2; have hfz19_3 := blk_frozen BK412.out 3))
         go_ret
         exact ⟨by first | rfl | (simp [errW_none, errW_some] <;> rfl) | (simp [*, errW_none, errW_some] <;> rfl), bp_⟩
       · rw [if_neg c17] at H
         have c17b0 : decide (255 < a0_3) = false := decide_eq_false c17
         clear c17
         obtain rfl := Option.some.inj H
         go_enter Try.func26, Try.ntmps26
         go_wp2_with (first | ((with_reducible refine gate_dst (N := 1) rfl ?_); refine box_event ?hg (N := 1) ?hd (cs := #[.int .i64 a0_0, .int .i64 a0_1, .int .i64 a0_2, .int .i64 a0_3]) (t := 25) ?hr ?_; (case hd => rfl); (case hg => rfl); (case hr => first | (go_simp; done) | (go_simp; rfl)); intro gb412 hg w20 hbox hb; have BK412 := Aside0.mk (hbox); have GW412 := Aside0.mk ((by rw [hg]; exact (below_size bp_) : w.heap.size ≤ gb412)); have GE412 := Aside0.mk ((by rw [hg]; exact (below_size bp_) : w.heap.size ≤ gb412)); replace HB := Aside0.mk (below_step bp_ hb); clear hb hbox hg; have hcz21_0 : w20.cell? ⟨gb412, 0, none⟩ = some (.int .i64 a0_0) := (blk_cell BK412.out 0).trans rfl; have hcz21_1 : w20.cell? ⟨gb412, 1, none⟩ = some (.int .i64 a0_1) := (blk_cell BK412.out 1).trans rfl; have hcz21_2 : w20.cell? ⟨gb412, 2, none⟩ = some (.int .i64 a0_2) := (blk_cell BK412.out 2).trans rfl; have hcz21_3 : w20.cell? ⟨gb412, 3, none⟩ = some (.int .i64 a0_3) := (blk_cell BK412.out 3).trans rfl; have hfz21_0 := blk_frozen BK412.out 0; have hfz21_1 := blk_frozen BK412.out 1; have hfz21_2 := blk_frozen BK412.out 2; have hfz21_3 := blk_frozen BK412.out 3))
         go_ret
         exact ⟨by first | rfl | (simp [errW_none, errW_some] <;> rfl) | (simp [*, errW_none, errW_some] <;> rfl), bp_⟩


/-! ### chequerlaw06_greatest: function 28 -/
def chequerlaw06_greatest.f  : Option (Bool) := (head_All.f).bind fun bt413 => (if bt413.1 = 4096 then (if bt413.2.1 = 65536 then (some (bt413.2.2 == 65535)) else (some false)) else (some false))
set_option maxHeartbeats 8000000 in
set_option maxRecDepth 100000 in
theorem chequerlaw06_greatest.calls  (r : Bool) (w : World) (h : chequerlaw06_greatest.f  = some r) :
 Calls Try.prog 28 #[] w fun e w' => e = .returned (.bool r) ∧ Below w.heap.size w w' := by
 have hu23 := Try.underlying23
 have HB := Aside0.mk (Below.refl w.heap.size w)
 have H : ((head_All.f).bind fun bt413 => (if bt413.1 = 4096 then (if bt413.2.1 = 65536 then (some (bt413.2.2 == 65535)) else (some false)) else (some false))) = some r := h
 clear h
 replace H := Option.bind_eq_some_iff.mp H
 obtain ⟨⟨t413, t414, t415⟩, A10, H⟩ := H
 replace H : (if t413 = 4096 then (if t414 = 65536 then (some (t415 == 65535)) else (some false)) else (some false)) = some r := H
 have A1 := Aside0.mk A10
 clear A10
 by_cases c2 : t413 = 4096
 · rw [if_pos c2] at H
   have c2b0 : (t413 == 4096) = true := beq_iff_eq.mpr c2
   have c2b1 : (t413 != 4096) = false := bne_eq_false_iff_eq.mpr c2
   clear c2
   by_cases c3 : t414 = 65536
   · rw [if_pos c3] at H
     have c3b0 : (t414 == 65536) = true := beq_iff_eq.mpr c3
     have c3b1 : (t414 != 65536) = false := bne_eq_false_iff_eq.mpr c3
     clear c3
     obtain rfl := Option.some.inj H
     go_enter Try.func28, Try.ntmps28
     go_wp2_with (first | ((with_reducible refine gate_callee (f := 14) rfl ?_); refine goQ_ (some 2) Try.func14 #[] ?_; (with_reducible refine (head_All.calls  t413 t414 t415 _ A1.out).mono ?_); rintro e w4 ⟨rfl, hb⟩; refine ⟨_, rfl, ?_⟩; replace HB := Aside0.mk (below_step bp_ hb); (try clear hb); (try clear hb2); (try clear hk); (try clear hi)) | ((with_reducible refine gate_dst (N := 1) rfl ?_); refine box_event ?hg (N := 1) ?hd (cs := #[.int .i64 0, .int .i64 0, .int .i64 0]) (t := 23) ?hr ?_; (case hd => rfl); (case hg => rfl); (case hr => first | (go_simp; done) | (go_simp; rfl)); intro gb416 hg w5 hbox hb; have BK416 := Aside0.mk (hbox); have GW416 := Aside0.mk ((by rw [hg]; exact (below_size bp_) : w.heap.size ≤ gb416)); have GE416 := Aside0.mk ((by rw [hg]; exact (below_size bp_) : w.heap.size ≤ gb416)); replace HB := Aside0.mk (below_step bp_ hb); clear hb hbox hg; have hcz6_0 : w5.cell? ⟨gb416, 0, none⟩ = some (.int .i64 0) := (blk_cell BK416.out 0).trans rfl; have hcz6_1 : w5.cell? ⟨gb416, 1, none⟩ = some (.int .i64 0) := (blk_cell BK416.out 1).trans rfl; have hcz6_2 : w5.cell? ⟨gb416, 2, none⟩ = some (.int .i64 0) := (blk_cell BK416.out 2).trans rfl; have hfz6_0 := blk_frozen BK416.out 0; have hfz6_1 := blk_frozen BK416.out 1; have hfz6_2 := blk_frozen BK416.out 2))
     go_ret
     exact ⟨by first | rfl | (simp [errW_none, errW_some] <;> rfl) | (simp [*, errW_none, errW_some] <;> rfl), bp_⟩
   · rw [if_neg c3] at H
     have c3b0 : (t414 == 65536) = false := beq_eq_false_iff_ne.mpr c3
     have c3b1 : (t414 != 65536) = true := bne_iff_ne.mpr c3
     obtain rfl := Option.some.inj H
     go_enter Try.func28, Try.ntmps28
     go_wp2_with (first | ((with_reducible refine gate_callee (f := 14) rfl ?_); refine goQ_ (some 2) Try.func14 #[] ?_; (with_reducible refine (head_All.calls  t413 t414 t415 _ A1.out).mono ?_); rintro e w7 ⟨rfl, hb⟩; refine ⟨_, rfl, ?_⟩; replace HB := Aside0.mk (below_step bp_ hb); (try clear hb); (try clear hb2); (try clear hk); (try clear hi)) | ((with_reducible refine gate_dst (N := 1) rfl ?_); refine box_event ?hg (N := 1) ?hd (cs := #[.int .i64 0, .int .i64 0, .int .i64 0]) (t := 23) ?hr ?_; (case hd => rfl); (case hg => rfl); (case hr => first | (go_simp; done) | (go_simp; rfl)); intro gb416 hg w8 hbox hb; have BK416 := Aside0.mk (hbox); have GW416 := Aside0.mk ((by rw [hg]; exact (below_size bp_) : w.heap.size ≤ gb416)); have GE416 := Aside0.mk ((by rw [hg]; exact (below_size bp_) : w.heap.size ≤ gb416)); replace HB := Aside0.mk (below_step bp_ hb); clear hb hbox hg; have hcz9_0 : w8.cell? ⟨gb416, 0, none⟩ = some (.int .i64 0) := (blk_cell BK416.out 0).trans rfl; have hcz9_1 : w8.cell? ⟨gb416, 1, none⟩ = some (.int .i64 0) := (blk_cell BK416.out 1).trans rfl; have hcz9_2 : w8.cell? ⟨gb416, 2, none⟩ = some (.int .i64 0) := (blk_cell BK416.out 2).trans rfl; have hfz9_0 := blk_frozen BK416.out 0; have hfz9_1 := blk_frozen BK416.out 1; have hfz9_2 := blk_frozen BK416.out 2))
     go_ret
     exact ⟨by first | rfl | (simp [errW_none, errW_some] <;> rfl) | (simp [*, errW_none, errW_some] <;> rfl), bp_⟩
 · rw [if_neg c2] at H
   have c2b0 : (t413 == 4096) = false := beq_eq_false_iff_ne.mpr c2
   have c2b1 : (t413 != 4096) = true := bne_iff_ne.mpr c2
   obtain rfl := Option.some.inj H
   go_enter Try.func28, Try.ntmps28
   go_wp2_with (first | ((with_reducible refine gate_callee (f := 14) rfl ?_); refine goQ_ (some 2) Try.func14 #[] ?_; (with_reducible refine (head_All.calls  t413 t414 t415 _ A1.out).mono ?_); rintro e w10 ⟨rfl, hb⟩; refine ⟨_, rfl, ?_⟩; replace HB := Aside0.mk (below_step bp_ hb); (try clear hb); (try clear hb2); (try clear hk); (try clear hi)) | ((with_reducible refine gate_dst (N := 1) rfl ?_); refine box_event ?hg (N := 1) ?hd (cs := #[.int .i64 0, .int .i64 0, .int .i64 0]) (t := 23) ?hr ?_; (case hd => rfl); (case hg => rfl); (case hr => first | (go_simp; done) | (go_simp; rfl)); intro gb416 hg w11 hbox hb; have BK416 := Aside0.mk (hbox); have GW416 := Aside0.mk ((by rw [hg]; exact (below_size bp_) : w.heap.size ≤ gb416)); have GE416 := Aside0.mk ((by rw [hg]; exact (below_size bp_) : w.heap.size ≤ gb416)); replace HB := Aside0.mk (below_step bp_ hb); clear hb hbox hg; have hcz12_0 : w11.cell? ⟨gb416, 0, none⟩ = some (.int .i64 0) := (blk_cell BK416.out 0).trans rfl; have hcz12_1 : w11.cell? ⟨gb416, 1, none⟩ = some (.int .i64 0) := (blk_cell BK416.out 1).trans rfl; have hcz12_2 : w11.cell? ⟨gb416, 2, none⟩ = some (.int .i64 0) := (blk_cell BK416.out 2).trans rfl; have hfz12_0 := blk_frozen BK416.out 0; have hfz12_1 := blk_frozen BK416.out 1; have hfz12_2 := blk_frozen BK416.out 2))
   go_ret
   exact ⟨by first | rfl | (simp [errW_none, errW_some] <;> rfl) | (simp [*, errW_none, errW_some] <;> rfl), bp_⟩

end Go.Proofs.Ytmimfljiighbaaa.Q
