-- written by our own program (wip/tools/myprint.py) out of the translation, by the kit's print; Lean checks it
import Derived.Test.YtdjonaajfhbfhaaQ0
namespace Go.Proofs.Ytdjonaajfhbfhaa.Q
open Go.RowKit Go.Proofs.YtdjonaajfhbfhaaW.PrintWords Go.Proofs.YtdjonaajfhbfhaaW.PrintLast Go.Proofs.YtdjonaajfhbfhaaW.PrintMore
attribute [local go_sem] max2_int min2_int max_two min_two max_three min_three max_four min_four   -- for this text's walks alone
set_option linter.unusedVariables false
set_option linter.unusedSimpArgs false


/-! ### chequerref06_Size: function 12 -/
def chequerref06_Size.f (a0_0 : Int) (a0_1 : Int) (a0_2 : Int) (a0_3 : Int) : Option (Int) := if a0_0 < 4 then (some 0) else (if a0_0 = 4 then (if (Int.tmod a0_1 8) > 0 then (some (wrap64 ((wrap64 ((wrap64 (Int.tdiv a0_1 8)) + 1)) * a0_2))) else (some (wrap64 ((wrap64 (Int.tdiv a0_1 8)) * a0_2)))) else (if a0_0 = 6 then (if a0_3 > 255 then (some (wrap64 (2 * (wrap64 (3 * (wrap64 (a0_1 * a0_2))))))) else (some (wrap64 (3 * (wrap64 (a0_1 * a0_2)))))) else (if a0_3 > 255 then (some (wrap64 (2 * (wrap64 (a0_1 * a0_2))))) else (some (wrap64 (a0_1 * a0_2))))))
set_option maxHeartbeats 8000000 in
set_option maxRecDepth 100000 in
theorem chequerref06_Size.calls (a0_0 : Int) (a0_1 : Int) (a0_2 : Int) (a0_3 : Int) (r : Int) (w : World) (h : chequerref06_Size.f a0_0 a0_1 a0_2 a0_3 = some r) :
 Calls Try.prog 12 #[.agg #[.int .i64 a0_0, .int .i64 a0_1, .int .i64 a0_2, .int .i64 a0_3]] w fun e w' => e = .returned (.int .i64 r) ∧ Below w.heap.size w w' := by
 have hu23 := Try.underlying23
 have HB := Aside0.mk (Below.refl w.heap.size w)
 have H : (if a0_0 < 4 then (some 0) else (if a0_0 = 4 then (if (Int.tmod a0_1 8) > 0 then (some (wrap64 ((wrap64 ((wrap64 (Int.tdiv a0_1 8)) + 1)) * a0_2))) else (some (wrap64 ((wrap64 (Int.tdiv a0_1 8)) * a0_2)))) else (if a0_0 = 6 then (if a0_3 > 255 then (some (wrap64 (2 * (wrap64 (3 * (wrap64 (a0_1 * a0_2))))))) else (some (wrap64 (3 * (wrap64 (a0_1 * a0_2)))))) else (if a0_3 > 255 then (some (wrap64 (2 * (wrap64 (a0_1 * a0_2))))) else (some (wrap64 (a0_1 * a0_2))))))) = some r := h
 clear h
 by_cases c2 : a0_0 < 4
 · rw [if_pos c2] at H
   have c2b0 : decide (a0_0 < 4) = true := decide_eq_true c2
   clear c2
   obtain rfl := Option.some.inj H
   go_enter Try.func12, Try.ntmps12
   go_wp2_with (first | ((with_reducible refine gate_dst (N := 1) rfl ?_); refine box_event ?hg (N := 1) ?hd (cs := #[.int .i64 a0_0, .int .i64 a0_1, .int .i64 a0_2, .int .i64 a0_3]) (t := 23) ?hr ?_; (case hd => rfl); (case hg => rfl); (case hr => first | (go_simp; done) | (go_simp; rfl)); intro gb242 hg w3 hbox hb; have BK242 := Aside0.mk (hbox); have GW242 := Aside0.mk ((by rw [hg]; exact (below_size bp_) : w.heap.size ≤ gb242)); have GE242 := Aside0.mk ((by rw [hg]; exact (below_size bp_) : w.heap.size ≤ gb242)); replace HB := Aside0.mk (below_step bp_ hb); clear hb hbox hg; have hcz4_0 : w3.cell? ⟨gb242, 0, none⟩ = some (.int .i64 a0_0) := (blk_cell BK242.out 0).trans rfl; have hcz4_1 : w3.cell? ⟨gb242, 1, none⟩ = some (.int .i64 a0_1) := (blk_cell BK242.out 1).trans rfl; have hcz4_2 : w3.cell? ⟨gb242, 2, none⟩ = some (.int .i64 a0_2) := (blk_cell BK242.out 2).trans rfl; have hcz4_3 : w3.cell? ⟨gb242, 3, none⟩ = some (.int .i64 a0_3) := (blk_cell BK242.out 3).trans rfl; have hfz4_0 := blk_frozen BK242.out 0; have hfz4_1 := blk_frozen BK242.out 1; have hfz4_2 := blk_frozen BK242.out 2; have hfz4_3 := blk_frozen BK242.out 3))
   go_ret
   exact ⟨by first | rfl | (simp [errW_none, errW_some] <;> rfl) | (simp [*, errW_none, errW_some] <;> rfl), bp_⟩
 · rw [if_neg c2] at H
   have c2b0 : decide (a0_0 < 4) = false := decide_eq_false c2
   clear c2
   by_cases c5 : a0_0 = 4
   · rw [if_pos c5] at H
     have c5b0 : (a0_0 == 4) = true := beq_iff_eq.mpr c5
     have c5b1 : (a0_0 != 4) = false := bne_eq_false_iff_eq.mpr c5
     clear c5
     by_cases c6 : (Int.tmod a0_1 8) > 0
     · rw [if_pos c6] at H
       have c6b0 : decide (0 < (Int.tmod a0_1 8)) = true := decide_eq_true c6
       clear c6
       obtain rfl := Option.some.inj H
       go_enter Try.func12, Try.ntmps12
       go_wp2_with (first | ((with_reducible refine gate_dst (N := 1) rfl ?_); refine box_event ?hg (N := 1) ?hd (cs := #[.int .i64 a0_0, .int .i64 a0_1, .int .i64 a0_2, .int .i64 a0_3]) (t := 23) ?hr ?_; (case hd => rfl); (case hg => rfl); (case hr => first | (go_simp; done) | (go_simp; rfl)); intro gb242 hg w7 hbox hb; have BK242 := Aside0.mk (hbox); have GW242 := Aside0.mk ((by rw [hg]; exact (below_size bp_) : w.heap.size ≤ gb242)); have GE242 := Aside0.mk ((by rw [hg]; exact (below_size bp_) : w.heap.size ≤ gb242)); replace HB := Aside0.mk (below_step bp_ hb); clear hb hbox hg; have hcz8_0 : w7.cell? ⟨gb242, 0, none⟩ = some (.int .i64 a0_0) := (blk_cell BK242.out 0).trans rfl; have hcz8_1 : w7.cell? ⟨gb242, 1, none⟩ = some (.int .i64 a0_1) := (blk_cell BK242.out 1).trans rfl; have hcz8_2 : w7.cell? ⟨gb242, 2, none⟩ = some (.int .i64 a0_2) := (blk_cell BK242.out 2).trans rfl; have hcz8_3 : w7.cell? ⟨gb242, 3, none⟩ = some (.int .i64 a0_3) := (blk_cell BK242.out 3).trans rfl; have hfz8_0 := blk_frozen BK242.out 0; have hfz8_1 := blk_frozen BK242.out 1; have hfz8_2 := blk_frozen BK242.out 2; have hfz8_3 := blk_frozen BK242.out 3))
       go_ret
       exact ⟨by first | rfl | (simp [errW_none, errW_some] <;> rfl) | (simp [*, errW_none, errW_some] <;> rfl), bp_⟩
     · rw [if_neg c6] at H
       have c6b0 : decide (0 < (Int.tmod a0_1 8)) = false := decide_eq_false c6
       clear c6
       obtain rfl := Option.some.inj H
       go_enter Try.func12, Try.ntmps12
       go_wp2_with (first | ((with_reducible refine gate_dst (N := 1) rfl ?_); refine box_event ?hg (N := 1) ?hd (cs := #[.int .i64 a0_0, .int .i64 a0_1, .int .i64 a0_2, .int .i64 a0_3]) (t := 23) ?hr ?_; (case hd => rfl); (case hg => rfl); (case hr => first | (go_simp; done) | (go_simp; rfl)); intro gb242 hg w9 hbox hb; have BK242 := Aside0.mk (hbox); have GW242 := Aside0.mk ((by rw [hg]; exact (below_size bp_) : w.heap.size ≤ gb242)); have GE242 := Aside0.mk ((by rw [hg]; exact (below_size bp_) : w.heap.size ≤ gb242)); replace HB := Aside0.mk (below_step bp_ hb); clear hb hbox hg; have hcz10_0 : w9.cell? ⟨gb242, 0, none⟩ = some (.int .i64 a0_0) := (blk_cell BK242.out 0).trans rfl; have hcz10_1 : w9.cell? ⟨gb242, 1, none⟩ = some (.int .i64 a0_1) := (blk_cell BK242.out 1).trans rfl; have hcz10_2 : w9.cell? ⟨gb242, 2, none⟩ = some (.int .i64 a0_2) := (blk_cell BK242.out 2).trans rfl; have hcz10_3 : w9.cell? ⟨gb242, 3, none⟩ = some (.int .i64 a0_3) := (blk_cell BK242.out 3).trans rfl; have hfz10_0 := blk_frozen BK242.out 0; have hfz10_1 := blk_frozen BK242.out 1; have hfz10_2 := blk_frozen BK242.out 2; have hfz10_3 := blk_frozen BK242.out 3))
       go_ret
       exact ⟨by first | rfl | (simp [errW_none, errW_some] <;> rfl) | (simp [*, errW_none, errW_some] <;> rfl), bp_⟩
   · rw [if_neg c5] at H
     have c5b0 : (a0_0 == 4) = false := beq_eq_false_iff_ne.mpr c5
     have c5b1 : (a0_0 != 4) = true := bne_iff_ne.mpr c5
     by_cases c11 : a0_0 = 6
     · rw [if_pos c11] at H
       have c11b0 : (a0_0 == 6) = true := beq_iff_eq.mpr c11
       have c11b1 : (a0_0 != 6) = false := bne_eq_false_iff_eq.mpr c11
       clear c11
       by_cases c12 : a0_3 > 255
       · rw [if_pos c12] at H
         have c12b0 : decide (255 < a0_3) = true := decide_eq_true c12
         clear c12
         obtain rfl := Option.some.inj H
         go_enter Try.func12, Try.ntmps12
         go_wp2_with (first | ((with_reducible refine gate_dst (N := 1) rfl ?_); refine box_event ?hg (N := 1) ?hd (cs := #[.int .i64 a0_0, .int .i64 a0_1, .int .i64 a0_2, .int .i64 a0_3]) (t := 23) ?hr ?_; (case hd => rfl); (case hg => rfl); (case hr => first | (go_simp; done) | (go_simp; rfl)); intro gb242 hg w13 hbox hb; have BK242 := Aside0.mk (hbox); have GW242 := Aside0.mk ((by rw [hg]; exact (below_size bp_) : w.heap.size ≤ gb242)); have GE242 := Aside0.mk ((by rw [hg]; exact (below_size bp_) : w.heap.size ≤ gb242)); replace HB := Aside0.mk (below_step bp_ hb); clear hb hbox hg; have hcz14_0 : w13.cell? ⟨gb242, 0, none⟩ = some (.int .i64 a0_0) := (blk_cell BK242.out 0).trans rfl; have hcz14_1 : w13.cell? ⟨gb242, 1, none⟩ = some (.int .i64 a0_1) := (blk_cell BK242.out 1).trans rfl; have hcz14_2 : w13.cell? ⟨gb242, 2, none⟩ = some (.int .i64 a0_2) := (blk_cell BK242.out 2).trans rfl; have hcz14_3 : w13.cell? ⟨gb242, 3, none⟩ = some (.int .i64 a0_3) := (blk_cell BK242.out 3).trans rfl; have hfz14_0 := blk_frozen BK242.out 0; have hfz14_1 := blk_frozen BK242.out 1; have hfz14_2 := blk_frozen BK242.out 2; have hfz14_3 := blk_frozen BK242.out 3))
         go_ret
         exact ⟨by first | rfl | (simp [errW_none, errW_some] <;> rfl) | (simp [*, errW_none, errW_some] <;> rfl), bp_⟩
       · rw [if_neg c12] at H
         have c12b0 : decide (255 < a0_3) = false := decide_eq_false c12
         clear c12
         obtain rfl := Option.some.inj H
         go_enter Try.func12, Try.ntmps12
         go_wp2_with (first | ((with_reducible refine gate_dst (N := 1) rfl ?_); refine box_event ?hg (N := 1) ?hd (cs := #[.int .i64 a0_0, .int .i64 a0_1, .int .i64 a0_2, .int .i64 a0_3]) (t := 23) ?hr ?_; (case hd => rfl); (case hg => rfl); (case hr => first | (go_simp; done) | (go_simp; rfl)); intro gb242 hg w15 hbox hb; have BK242 := Aside0.mk (hbox); have GW242 := Aside0.mk ((by rw [hg]; exact (below_size bp_) : w.heap.size ≤ gb242)); have GE242 := Aside0.mk ((by rw [hg]; exact (below_size bp_) : w.heap.size ≤ gb242)); replace HB := Aside0.mk (below_step bp_ hb); clear hb hbox hg; have hcz16_0 : w15.cell? ⟨gb242, 0, none⟩ = some (.int .i64 a0_0) := (blk_cell BK242.out 0).trans rfl; have hcz16_1 : w15.cell? ⟨gb242, 1, none⟩ = some (.int .i64 a0_1) := (blk_cell BK242.out 1).trans rfl; have hcz16_2 : w15.cell? ⟨gb242, 2, none⟩ = some (.int .i64 a0_2) := (blk_cell BK242.out 2).trans rfl; have hcz16_3 : w15.cell? ⟨gb242, 3, none⟩ = some (.int .i64 a0_3) := (blk_cell BK242.out 3).trans rfl; have hfz16_0 := blk_frozen BK242.out 0; have hfz16_1 := blk_frozen BK242.out 1; have hfz16_2 := blk_frozen BK242.out 2; have hfz16_3 := blk_frozen BK242.out 3))
         go_ret
         exact ⟨by first | rfl | (simp [errW_none, errW_some] <;> rfl) | (simp [*, errW_none, errW_some] <;> rfl), bp_⟩
     · rw [if_neg c11] at H
       have c11b0 : (a0_0 == 6) = false := beq_eq_false_iff_ne.mpr c11
       have c11b1 : (a0_0 != 6) = true := bne_iff_ne.mpr c11
       by_cases c17 : a0_3 > 255
       · rw [if_pos c17] at H
         have c17b0 : decide (255 < a0_3) = true := decide_eq_true c17
         clear c17
         obtain rfl := Option.some.inj H
         go_enter Try.func12, Try.ntmps12
         go_wp2_with (first | ((with_reducible refine gate_dst (N := 1) rfl ?_); refine box_event ?hg (N := 1) ?hd (cs := #[.int .i64 a0_0, .int .i64 a0_1, .int .i64 a0_2, .int .i64 a0_3]) (t := 23) ?hr ?_; (case hd => rfl); (case hg => rfl); (case hr => first | (go_simp; done) | (go_simp; rfl)); intro gb242 hg w18 hbox hb; have BK242 := Aside0.mk (hbox); have GW242 := Aside0.mk ((by rw [hg]; exact (below_size bp_) : w.heap.size ≤ gb242)); have GE242 := Aside0.mk ((by rw [hg]; exact (below_size bp_) : w.heap.size ≤ gb242)); replace HB := Aside0.mk (below_step bp_ hb); clear hb hbox hg; have hcz19_0 : w18.cell? ⟨gb242, 0, none⟩ = some (.int .i64 a0_0) := (blk_cell BK242.out 0).trans rfl; have hcz19_1 : w18.cell? ⟨gb242, 1, none⟩ = some (.int .i64 a0_1) := (blk_cell BK242.out 1).trans rfl; have hcz19_2 : w18.cell? ⟨gb242, 2, none⟩ = some (.int .i64 a0_2) := (blk_cell BK242.out 2).trans rfl; have hcz19_3 : w18.cell? ⟨gb242, 3, none⟩ = some (.int .i64 a0_3) := (blk_cell BK242.out 3).trans rfl; have hfz19_0 := blk_frozen BK242.out 0; have hfz19_1 := blk_frozen BK242.out 1; have hfz19_2 := blk_frozen BK242.out 2; have hfz19_3 := blk_frozen BK242.out 3))
         go_ret
         exact ⟨by first | rfl | (simp [errW_none, errW_some] <;> rfl) | (simp [*, errW_none, errW_some] <;> rfl), bp_⟩
       · rw [if_neg c17] at H
         have c17b0 : decide (255 < a0_3) = false := decide_eq_false c17
         clear c17
         obtain rfl := Option.some.inj H
         go_enter Try.func12, Try.ntmps12
         go_wp2_with (first | ((with_reducible refine gate_dst (N := 1) rfl ?_); refine box_event ?hg (N := 1) ?hd (cs := #[.int .i64 a0_0, .int .i64 a0_1, .int .i64 a0_2, .int .i64 a0_3]) (t := 23) ?hr ?_; (case hd => rfl); (case hg => rfl); (case hr => first | (go_simp; done) | (go_simp; rfl)); intro gb242 hg w20 hbox hb; have BK242 := Aside0.mk (hbox); have GW242 := Aside0.mk ((by rw [hg]; exact (below_size bp_) : w.heap.size ≤ gb242)); have GE242 := Aside0.mk ((by rw [hg]; exact (below_size bp_) : w.heap.size ≤ gb242)); replace HB := Aside0.mk (below_step bp_ hb); clear hb hbox hg; have hcz21_0 : w20.cell? ⟨gb242, 0, none⟩ = some (.int .i64 a0_0) := (blk_cell BK242.out 0).trans rfl; have hcz21_1 : w20.cell? ⟨gb242, 1, none⟩ = some (.int .i64 a0_1) := (blk_cell BK242.out 1).trans rfl; have hcz21_2 : w20.cell? ⟨gb242, 2, none⟩ = some (.int .i64 a0_2) := (blk_cell BK242.out 2).trans rfl; have hcz21_3 : w20.cell? ⟨gb242, 3, none⟩ = some (.int .i64 a0_3) := (blk_cell BK242.out 3).trans rfl; have hfz21_0 := blk_frozen BK242.out 0; have hfz21_1 := blk_frozen BK242.out 1; have hfz21_2 := blk_frozen BK242.out 2; have hfz21_3 := blk_frozen BK242.out 3))
         go_ret
         exact ⟨by first | rfl | (simp [errW_none, errW_some] <;> rfl) | (simp [*, errW_none, errW_some] <;> rfl), bp_⟩

end Go.Proofs.Ytdjonaajfhbfhaa.Q
