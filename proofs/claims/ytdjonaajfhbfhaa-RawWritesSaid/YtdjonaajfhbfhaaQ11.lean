-- written by our own program (wip/tools/myprint.py) out of the translation, by the kit's print; Lean checks it
import Derived.Test.YtdjonaajfhbfhaaWRepsOne
import Derived.Test.YtdjonaajfhbfhaaQ0
import Derived.Test.YtdjonaajfhbfhaaQ1
namespace Go.Proofs.Ytdjonaajfhbfhaa.Q
open Go.RowKit Go.Proofs.YtdjonaajfhbfhaaW.PrintWords Go.Proofs.YtdjonaajfhbfhaaW.PrintLast Go.Proofs.YtdjonaajfhbfhaaW.PrintMore
attribute [local go_sem] max2_int min2_int max_two min_two max_three min_three max_four min_four   -- for this text's walks alone
set_option linter.unusedVariables false
set_option linter.unusedSimpArgs false


/-! ### chequerref06_May: function 52 -/
def chequerref06_May.f (a0_0 : Int) (a0_1 : Int) (a0_2 : Int) (a0_3 : Int) : Option (Bool) := if a0_0 < 1 then (some false) else (if a0_0 > 6 then (some false) else (if a0_1 < 1 then (some false) else (if a0_1 > 4096 then (some false) else (if a0_2 < 1 then (some false) else (if a0_2 > 65536 then (some false) else (if a0_3 < 1 then (some false) else (if a0_3 > 65535 then (some false) else (if a0_3 = 1 then (some true) else ((chequerref06_bits.f a0_0).bind fun t184 => (some (!t184)))))))))))
set_option maxHeartbeats 8000000 in
set_option maxRecDepth 100000 in
theorem chequerref06_May.calls (a0_0 : Int) (a0_1 : Int) (a0_2 : Int) (a0_3 : Int) (r : Bool) (w : World) (h : chequerref06_May.f a0_0 a0_1 a0_2 a0_3 = some r) :
 Calls Try.prog 52 #[.agg #[.int .i64 a0_0, .int .i64 a0_1, .int .i64 a0_2, .int .i64 a0_3]] w fun e w' => e = .returned (.bool r) ∧ Below w.heap.size w w' := by
 have hu23 := Try.underlying23
 have HB := Aside0.mk (Below.refl w.heap.size w)
 have H : (if a0_0 < 1 then (some false) else (if a0_0 > 6 then (some false) else (if a0_1 < 1 then (some false) else (if a0_1 > 4096 then (some false) else (if a0_2 < 1 then (some false) else (if a0_2 > 65536 then (some false) else (if a0_3 < 1 then (some false) else (if a0_3 > 65535 then (some false) else (if a0_3 = 1 then (some true) else ((chequerref06_bits.f a0_0).bind fun t184 => (some (!t184)))))))))))) = some r := h
 clear h
 have HP2 := Aside0.mk H
 clear H
 go_enter Try.func52, Try.ntmps52
 go_upto_region 1 with (first | ((with_reducible refine gate_dst (N := 1) rfl ?_); refine box_event ?hg (N := 1) ?hd (cs := #[.int .i64 a0_0, .int .i64 a0_1, .int .i64 a0_2, .int .i64 a0_3]) (t := 23) ?hr ?_; (case hd => rfl); (case hg => rfl); (case hr => first | (go_simp; done) | (go_simp; rfl)); intro gb183 hg w3 hbox hb; have BK183 := Aside0.mk (hbox); have GW183 := Aside0.mk ((by rw [hg]; exact (below_size bp_) : w.heap.size ≤ gb183)); have GE183 := Aside0.mk ((by rw [hg]; exact (below_size bp_) : w.heap.size ≤ gb183)); replace HB := Aside0.mk (below_step bp_ hb); clear hb hbox hg))
 (try simp only [Act.put, List.setIfInBounds_toArray, List.set_cons_zero, List.set_cons_succ])
 have H := HP2.out
 clear HP2
 by_cases c4 : a0_0 < 1
 · rw [if_pos c4] at H
   have c4b0 : decide (a0_0 < 1) = true := decide_eq_true c4
   clear c4
   (first | rw [c4b0] | (simp only [i64_w, i32_w]; rw [c4b0]) | skip)
   obtain rfl := Option.some.inj H
   have hcz5_0 : w3.cell? ⟨gb183, 0, none⟩ = some (.int .i64 a0_0) := (blk_cell BK183.out 0).trans rfl
   have hcz5_1 : w3.cell? ⟨gb183, 1, none⟩ = some (.int .i64 a0_1) := (blk_cell BK183.out 1).trans rfl
   have hcz5_2 : w3.cell? ⟨gb183, 2, none⟩ = some (.int .i64 a0_2) := (blk_cell BK183.out 2).trans rfl
   have hcz5_3 : w3.cell? ⟨gb183, 3, none⟩ = some (.int .i64 a0_3) := (blk_cell BK183.out 3).trans rfl
   have hfz5_0 := blk_frozen BK183.out 0
   have hfz5_1 := blk_frozen BK183.out 1
   have hfz5_2 := blk_frozen BK183.out 2
   have hfz5_3 := blk_frozen BK183.out 3
   go_wp2
   go_ret
   exact ⟨by first | rfl | (simp [errW_none, errW_some] <;> rfl) | (simp [*, errW_none, errW_some] <;> rfl), bp_⟩
 · rw [if_neg c4] at H
   have c4b0 : decide (a0_0 < 1) = false := decide_eq_false c4
   clear c4
   (first | rw [c4b0] | (simp only [i64_w, i32_w]; rw [c4b0]) | skip)
   by_cases c6 : a0_0 > 6
   · rw [if_pos c6] at H
     have c6b0 : decide (6 < a0_0) = true := decide_eq_true c6
     clear c6
     obtain rfl := Option.some.inj H
     have hcz7_0 : w3.cell? ⟨gb183, 0, none⟩ = some (.int .i64 a0_0) := (blk_cell BK183.out 0).trans rfl
     have hcz7_1 : w3.cell? ⟨gb183, 1, none⟩ = some (.int .i64 a0_1) := (blk_cell BK183.out 1).trans rfl
     have hcz7_2 : w3.cell? ⟨gb183, 2, none⟩ = some (.int .i64 a0_2) := (blk_cell BK183.out 2).trans rfl
     have hcz7_3 : w3.cell? ⟨gb183, 3, none⟩ = some (.int .i64 a0_3) := (blk_cell BK183.out 3).trans rfl
     have hfz7_0 := blk_frozen BK183.out 0
     have hfz7_1 := blk_frozen BK183.out 1
     have hfz7_2 := blk_frozen BK183.out 2
     have hfz7_3 := blk_frozen BK183.out 3
     go_wp2
     go_ret
     exact ⟨by first | rfl | (simp [errW_none, errW_some] <;> rfl) | (simp [*, errW_none, errW_some] <;> rfl), bp_⟩
   · rw [if_neg c6] at H
     have c6b0 : decide (6 < a0_0) = false := decide_eq_false c6
     clear c6
     by_cases c8 : a0_1 < 1
     · rw [if_pos c8] at H
       have c8b0 : decide (a0_1 < 1) = true := decide_eq_true c8
       clear c8
       obtain rfl := Option.some.inj H
       have hcz9_0 : w3.cell? ⟨gb183, 0, none⟩ = some (.int .i64 a0_0) := (blk_cell BK183.out 0).trans rfl
       have hcz9_1 : w3.cell? ⟨gb183, 1, none⟩ = some (.int .i64 a0_1) := (blk_cell BK183.out 1).trans rfl
       have hcz9_2 : w3.cell? ⟨gb183, 2, none⟩ = some (.int .i64 a0_2) := (blk_cell BK183.out 2).trans rfl
       have hcz9_3 : w3.cell? ⟨gb183, 3, none⟩ = some (.int .i64 a0_3) := (blk_cell BK183.out 3).trans rfl
       have hfz9_0 := blk_frozen BK183.out 0
       have hfz9_1 := blk_frozen BK183.out 1
       have hfz9_2 := blk_frozen BK183.out 2
       have hfz9_3 := blk_frozen BK183.out 3
       go_wp2
       go_ret
       exact ⟨by first | rfl | (simp [errW_none, errW_some] <;> rfl) | (simp [*, errW_none, errW_some] <;> rfl), bp_⟩
     · rw [if_neg c8] at H
       have c8b0 : decide (a0_1 < 1) = false := decide_eq_false c8
       clear c8
       by_cases c10 : a0_1 > 4096
       · rw [if_pos c10] at H
         have c10b0 : decide (4096 < a0_1) = true := decide_eq_true c10
         clear c10
         obtain rfl := Option.some.inj H
         have hcz11_0 : w3.cell? ⟨gb183, 0, none⟩ = some (.int .i64 a0_0) := (blk_cell BK183.out 0).trans rfl
         have hcz11_1 : w3.cell? ⟨gb183, 1, none⟩ = some (.int .i64 a0_1) := (blk_cell BK183.out 1).trans rfl
         have hcz11_2 : w3.cell? ⟨gb183, 2, none⟩ = some (.int .i64 a0_2) := (blk_cell BK183.out 2).trans rfl
         have hcz11_3 : w3.cell? ⟨gb183, 3, none⟩ = some (.int .i64 a0_3) := (blk_cell BK183.out 3).trans rfl
         have hfz11_0 := blk_frozen BK183.out 0
         have hfz11_1 := blk_frozen BK183.out 1
         have hfz11_2 := blk_frozen BK183.out 2
         have hfz11_3 := blk_frozen BK183.out 3
         go_wp2
         go_ret
         exact ⟨by first | rfl | (simp [errW_none, errW_some] <;> rfl) | (simp [*, errW_none, errW_some] <;> rfl), bp_⟩
       · rw [if_neg c10] at H
         have c10b0 : decide (4096 < a0_1) = false := decide_eq_false c10
         clear c10
         by_cases c12 : a0_2 < 1
         · rw [if_pos c12] at H
           have c12b0 : decide (a0_2 < 1) = true := decide_eq_true c12
           clear c12
           obtain rfl := Option.some.inj H
           have hcz13_0 : w3.cell? ⟨gb183, 0, none⟩ = some (.int .i64 a0_0) := (blk_cell BK183.out 0).trans rfl
           have hcz13_1 : w3.cell? ⟨gb183, 1, none⟩ = some (.int .i64 a0_1) := (blk_cell BK183.out 1).trans rfl
           have hcz13_2 : w3.cell? ⟨gb183, 2, none⟩ = some (.int .i64 a0_2) := (blk_cell BK183.out 2).trans rfl
           have hcz13_3 : w3.cell? ⟨gb183, 3, none⟩ = some (.int .i64 a0_3) := (blk_cell BK183.out 3).trans rfl
           have hfz13_0 := blk_frozen BK183.out 0
           have hfz13_1 := blk_frozen BK183.out 1
           have hfz13_2 := blk_frozen BK183.out 2
           have hfz13_3 := blk_frozen BK183.out 3
           go_wp2
           go_ret
           exact ⟨by first | rfl | (simp [errW_none, errW_some] <;> rfl) | (simp [*, errW_none, errW_some] <;> rfl), bp_⟩
         · rw [if_neg c12] at H
           have c12b0 : decide (a0_2 < 1) = false := decide_eq_false c12
           clear c12
           by_cases c14 : a0_2 > 65536
           · rw [if_pos c14] at H
             have c14b0 : decide (65536 < a0_2) = true := decide_eq_true c14
             clear c14
             obtain rfl := Option.some.inj H
             have hcz15_0 : w3.cell? ⟨gb183, 0, none⟩ = some (.int .i64 a0_0) := (blk_cell BK183.out 0).trans rfl
             have hcz15_1 : w3.cell? ⟨gb183, 1, none⟩ = some (.int .i64 a0_1) := (blk_cell BK183.out 1).trans rfl
             have hcz15_2 : w3.cell? ⟨gb183, 2, none⟩ = some (.int .i64 a0_2) := (blk_cell BK183.out 2).trans rfl
             have hcz15_3 : w3.cell? ⟨gb183, 3, none⟩ = some (.int .i64 a0_3) := (blk_cell BK183.out 3).trans rfl
             have hfz15_0 := blk_frozen BK183.out 0
             have hfz15_1 := blk_frozen BK183.out 1
             have hfz15_2 := blk_frozen BK183.out 2
             have hfz15_3 := blk_frozen BK183.out 3
             go_wp2
             go_ret
             exact ⟨by first | rfl | (simp [errW_none, errW_some] <;> rfl) | (simp [*, errW_none, errW_some] <;> rfl), bp_⟩
           · rw [if_neg c14] at H
             have c14b0 : decide (65536 < a0_2) = false := decide_eq_false c14
             clear c14
             by_cases c16 : a0_3 < 1
             · rw [if_pos c16] at H
               have c16b0 : decide (a0_3 < 1) = true := decide_eq_true c16
               clear c16
               obtain rfl := Option.some.inj H
               have hcz17_0 : w3.cell? ⟨gb183, 0, none⟩ = some (.int .i64 a0_0) := (blk_cell BK183.out 0).trans rfl
               have hcz17_1 : w3.cell? ⟨gb183, 1, none⟩ = some (.int .i64 a0_1) := (blk_cell BK183.out 1).trans rfl
               have hcz17_2 : w3.cell? ⟨gb183, 2, none⟩ = some (.int .i64 a0_2) := (blk_cell BK183.out 2).trans rfl
               have hcz17_3 : w3.cell? ⟨gb183, 3, none⟩ = some (.int .i64 a0_3) := (blk_cell BK183.out 3).trans rfl
               have hfz17_0 := blk_frozen BK183.out 0
               have hfz17_1 := blk_frozen BK183.out 1
               have hfz17_2 := blk_frozen BK183.out 2
               have hfz17_3 := blk_frozen BK183.out 3
               go_wp2
               go_ret
               exact ⟨by first | rfl | (simp [errW_none, errW_some] <;> rfl) | (simp [*, errW_none, errW_some] <;> rfl), bp_⟩
             · rw [if_neg c16] at H
               have c16b0 : decide (a0_3 < 1) = false := decide_eq_false c16
               clear c16
               by_cases c18 : a0_3 > 65535
               · rw [if_pos c18] at H
                 have c18b0 : decide (65535 < a0_3) = true := decide_eq_true c18
                 clear c18
                 obtain rfl := Option.some.inj H
                 have hcz19_0 : w3.cell? ⟨gb183, 0, none⟩ = some (.int .i64 a0_0) := (blk_cell BK183.out 0).trans rfl
                 have hcz19_1 : w3.cell? ⟨gb183, 1, none⟩ = some (.int .i64 a0_1) := (blk_cell BK183.out 1).trans rfl
                 have hcz19_2 : w3.cell? ⟨gb183, 2, none⟩ = some (.int .i64 a0_2) := (blk_cell BK183.out 2).trans rfl
                 have hcz19_3 : w3.cell? ⟨gb183, 3, none⟩ = some (.int .i64 a0_3) := (blk_cell BK183.out 3).trans rfl
                 have hfz19_0 := blk_frozen BK183.out 0
                 have hfz19_1 := blk_frozen BK183.out 1
                 have hfz19_2 := blk_frozen BK183.out 2
                 have hfz19_3 := blk_frozen BK183.out 3
                 go_wp2
                 go_ret
                 exact ⟨by first | rfl | (simp [errW_none, errW_some] <;> rfl) | (simp [*, errW_none, errW_some] <;> rfl), bp_⟩
               · rw [if_neg c18] at H
                 have c18b0 : decide (65535 < a0_3) = false := decide_eq_false c18
                 clear c18
                 have HP20 := Aside0.mk H
                 clear H
                 have hcz21_0 : w3.cell? ⟨gb183, 0, none⟩ = some (.int .i64 a0_0) := (blk_cell BK183.out 0).trans rfl
                 have hcz21_1 : w3.cell? ⟨gb183, 1, none⟩ = some (.int .i64 a0_1) := (blk_cell BK183.out 1).trans rfl
                 have hcz21_2 : w3.cell? ⟨gb183, 2, none⟩ = some (.int .i64 a0_2) := (blk_cell BK183.out 2).trans rfl
                 have hcz21_3 : w3.cell? ⟨gb183, 3, none⟩ = some (.int .i64 a0_3) := (blk_cell BK183.out 3).trans rfl
                 have hfz21_0 := blk_frozen BK183.out 0
                 have hfz21_1 := blk_frozen BK183.out 1
                 have hfz21_2 := blk_frozen BK183.out 2
                 have hfz21_3 := blk_frozen BK183.out 3
                 go_upto_region 3 with (fail)
                 have H := HP20.out
                 clear HP20
                 by_cases c22 : a0_3 = 1
                 · rw [if_pos c22] at H
                   have c22b0 : (a0_3 == 1) = true := beq_iff_eq.mpr c22
                   have c22b1 : (a0_3 != 1) = false := bne_eq_false_iff_eq.mpr c22
                   clear c22
                   (first | rw [c22b0] | (simp only [i64_w, i32_w]; rw [c22b0]) | skip)
                   obtain rfl := Option.some.inj H
                   have hcz23_0 : w3.cell? ⟨gb183, 0, none⟩ = some (.int .i64 a0_0) := (blk_cell BK183.out 0).trans rfl
                   have hcz23_1 : w3.cell? ⟨gb183, 1, none⟩ = some (.int .i64 a0_1) := (blk_cell BK183.out 1).trans rfl
                   have hcz23_2 : w3.cell? ⟨gb183, 2, none⟩ = some (.int .i64 a0_2) := (blk_cell BK183.out 2).trans rfl
                   have hcz23_3 : w3.cell? ⟨gb183, 3, none⟩ = some (.int .i64 a0_3) := (blk_cell BK183.out 3).trans rfl
                   have hfz23_0 := blk_frozen BK183.out 0
                   have hfz23_1 := blk_frozen BK183.out 1
                   have hfz23_2 := blk_frozen BK183.out 2
                   have hfz23_3 := blk_frozen BK183.out 3
                   go_wp2
                   go_ret
                   exact ⟨by first | rfl | (simp [errW_none, errW_some] <;> rfl) | (simp [*, errW_none, errW_some] <;> rfl), bp_⟩
                 · rw [if_neg c22] at H
                   have c22b0 : (a0_3 == 1) = false := beq_eq_false_iff_ne.mpr c22
                   have c22b1 : (a0_3 != 1) = true := bne_iff_ne.mpr c22
                   (first | rw [c22b0] | (simp only [i64_w, i32_w]; rw [c22b0]) | skip)
                   replace H := Option.bind_eq_some_iff.mp H
                   obtain ⟨t184, A240, H⟩ := H
                   replace H : (some (!t184)) = some r := H
                   have A24 := Aside0.mk A240
                   clear A240
                   obtain rfl := Option.some.inj H
                   have hcz25_0 : w3.cell? ⟨gb183, 0, none⟩ = some (.int .i64 a0_0) := (blk_cell BK183.out 0).trans rfl
                   have hcz25_1 : w3.cell? ⟨gb183, 1, none⟩ = some (.int .i64 a0_1) := (blk_cell BK183.out 1).trans rfl
                   have hcz25_2 : w3.cell? ⟨gb183, 2, none⟩ = some (.int .i64 a0_2) := (blk_cell BK183.out 2).trans rfl
                   have hcz25_3 : w3.cell? ⟨gb183, 3, none⟩ = some (.int .i64 a0_3) := (blk_cell BK183.out 3).trans rfl
                   have hfz25_0 := blk_frozen BK183.out 0
                   have hfz25_1 := blk_frozen BK183.out 1
                   have hfz25_2 := blk_frozen BK183.out 2
                   have hfz25_3 := blk_frozen BK183.out 3
                   go_wp2_with (first | (go_at_call 51; (with_reducible refine (chequerref06_bits.calls a0_0 t184 _ A24.out).mono ?_); rintro e w' ⟨rfl, ⟨nd, rfl⟩⟩))
                   go_ret
                   exact ⟨by first | rfl | (simp [errW_none, errW_some] <;> rfl) | (simp [*, errW_none, errW_some] <;> rfl), bp_⟩


/-! ### chequerref09_May: function 28 -/
def chequerref09_May.f (a0_0 : Int) (a0_1 : Int) (a0_2 : Int) (a0_3 : Int) : Option (Bool) := (chequerref06_May.f a0_0 a0_1 a0_2 a0_3).bind fun t186 => (if t186 = true then (some (decide (a0_0 > 3))) else (some false))
set_option maxHeartbeats 8000000 in
set_option maxRecDepth 100000 in
theorem chequerref09_May.calls (a0_0 : Int) (a0_1 : Int) (a0_2 : Int) (a0_3 : Int) (r : Bool) (w : World) (h : chequerref09_May.f a0_0 a0_1 a0_2 a0_3 = some r) :
    Calls Try.prog 28 #[.agg #[.int .i64 a0_0, .int .i64 a0_1, .int .i64 a0_2, .int .i64 a0_3]] w fun e w' => e = .returned (.bool r) ∧ Below w.heap.size w w' := by
  have hu23 := Try.underlying23
  have HB := Aside0.mk (Below.refl w.heap.size w)
  have H : ((chequerref06_May.f a0_0 a0_1 a0_2 a0_3).bind fun t186 => (if t186 = true then (some (decide (a0_0 > 3))) else (some false))) = some r := h
  clear h
  replace H := Option.bind_eq_some_iff.mp H
  obtain ⟨t186, A20, H⟩ := H
  replace H : (if t186 = true then (some (decide (a0_0 > 3))) else (some false)) = some r := H
  have A2 := Aside0.mk A20
  clear A20
  by_cases c3 : t186 = true
  · subst c3
    have H1 : (some (decide (a0_0 > 3))) = some r := by rw [if_pos rfl] at H; exact H
    clear H
    have H := H1
    clear H1
    obtain rfl := Option.some.inj H
    go_enter Try.func28, Try.ntmps28
    go_wp2_with (first | ((with_reducible refine gate_dst (N := 1) rfl ?_); refine box_event ?hg (N := 1) ?hd (cs := #[.int .i64 a0_0, .int .i64 a0_1, .int .i64 a0_2, .int .i64 a0_3]) (t := 23) ?hr ?_; (case hd => rfl); (case hg => rfl); (case hr => first | (go_simp; done) | (go_simp; rfl)); intro gb185 hg w4 hbox hb; have n0_ := Aside0.mk (below_step (by repeat (first | (with_reducible first | exact HB.out | apply below_alloc | apply pw_below_drewN | apply below_drew1) | exact HB.out)) hb); have n1_ := Aside0.mk (hbox); have n2_ := Aside0.mk ((by rw [hg]; exact (below_size (by repeat (first | (with_reducible first | exact HB.out | apply below_alloc | apply pw_below_drewN | apply below_drew1) | exact HB.out))) : w.heap.size ≤ gb185)); have n3_ := Aside0.mk ((by rw [hg]; exact (below_size (by repeat (first | (with_reducible first | exact HB.out | apply below_alloc | apply pw_below_drewN | apply below_drew1) | exact HB.out))) : w.heap.size ≤ gb185)); clear HB; have HB := n0_; have BK185 := n1_; have GW185 := n2_; have GE185 := n3_; clear n0_ n1_ n2_ n3_; clear hb hbox hg; have hcz5_0 : w4.cell? ⟨gb185, 0, none⟩ = some (.int .i64 a0_0) := (blk_cell BK185.out 0).trans rfl; have hcz5_1 : w4.cell? ⟨gb185, 1, none⟩ = some (.int .i64 a0_1) := (blk_cell BK185.out 1).trans rfl; have hcz5_2 : w4.cell? ⟨gb185, 2, none⟩ = some (.int .i64 a0_2) := (blk_cell BK185.out 2).trans rfl; have hcz5_3 : w4.cell? ⟨gb185, 3, none⟩ = some (.int .i64 a0_3) := (blk_cell BK185.out 3).trans rfl; have hfz5_0 := blk_frozen BK185.out 0; have hfz5_1 := blk_frozen BK185.out 1; have hfz5_2 := blk_frozen BK185.out 2; have hfz5_3 := blk_frozen BK185.out 3) | ((with_reducible refine gate_callee (f := 52) rfl ?_); refine goesL_ (some 5) rfl rfl Try.func52 (by kernel_rfl) rfl #[.agg #[.int .i64 a0_0, .int .i64 a0_1, .int .i64 a0_2, .int .i64 a0_3]] rfl (by (try simp only [List.map_toArray, List.map_cons, List.map_nil]); first | done | rfl | (simp only [List.length_drop, List.length_take]; rfl)) ?_; (with_reducible refine (chequerref06_May.calls a0_0 a0_1 a0_2 a0_3 true _ A2.out).mono ?_); rintro e w6 ⟨rfl, hb⟩; refine ⟨_, rfl, ?_⟩; have n0_ := Aside0.mk (blk_below (g := gb185) (o := .cells #[.int .i64 a0_0, .int .i64 a0_1, .int .i64 a0_2, .int .i64 a0_3] 23 (0, 0)) (by (with_reducible repeat (first | refine blk_drewN ?_ _ | refine blk_drew ?_ | refine blk_alloc ?_ _)); exact BK185.out) hb); have n1_ := Aside0.mk (below_step (by repeat (first | (with_reducible first | exact HB.out | apply below_alloc | apply pw_below_drewN | apply below_drew1 | refine below_set ?_ GE185.out) | exact HB.out)) hb); clear BK185; clear HB; have BK185 := n0_; have HB := n1_; clear n0_ n1_; (try clear hb); (try clear hb2); (try clear hk); (try clear hi); have hcz7_0 : w6.cell? ⟨gb185, 0, none⟩ = some (.int .i64 a0_0) := (blk_cell BK185.out 0).trans rfl; have hcz7_1 : w6.cell? ⟨gb185, 1, none⟩ = some (.int .i64 a0_1) := (blk_cell BK185.out 1).trans rfl; have hcz7_2 : w6.cell? ⟨gb185, 2, none⟩ = some (.int .i64 a0_2) := (blk_cell BK185.out 2).trans rfl; have hcz7_3 : w6.cell? ⟨gb185, 3, none⟩ = some (.int .i64 a0_3) := (blk_cell BK185.out 3).trans rfl; have hfz7_0 := blk_frozen BK185.out 0; have hfz7_1 := blk_frozen BK185.out 1; have hfz7_2 := blk_frozen BK185.out 2; have hfz7_3 := blk_frozen BK185.out 3))
    go_ret
    exact ⟨by first | rfl | (simp [errW_none, errW_some] <;> rfl) | (simp [*, errW_none, errW_some] <;> rfl), by repeat (first | (with_reducible first | exact HB.out | apply below_alloc | apply pw_below_drewN | apply below_drew1 | refine below_set ?_ GE185.out) | exact HB.out)⟩
  · replace c3 := Bool.eq_false_iff.mpr c3
    subst c3
    have H1 : (some false) = some r := by rw [if_neg (show ¬ (false = true) by decide)] at H; exact H
    clear H
    have H := H1
    clear H1
    obtain rfl := Option.some.inj H
    go_enter Try.func28, Try.ntmps28
    go_wp2_with (first | ((with_reducible refine gate_dst (N := 1) rfl ?_); refine box_event ?hg (N := 1) ?hd (cs := #[.int .i64 a0_0, .int .i64 a0_1, .int .i64 a0_2, .int .i64 a0_3]) (t := 23) ?hr ?_; (case hd => rfl); (case hg => rfl); (case hr => first | (go_simp; done) | (go_simp; rfl)); intro gb185 hg w8 hbox hb; have n0_ := Aside0.mk (below_step (by repeat (first | (with_reducible first | exact HB.out | apply below_alloc | apply pw_below_drewN | apply below_drew1) | exact HB.out)) hb); have n1_ := Aside0.mk (hbox); have n2_ := Aside0.mk ((by rw [hg]; exact (below_size (by repeat (first | (with_reducible first | exact HB.out | apply below_alloc | apply pw_below_drewN | apply below_drew1) | exact HB.out))) : w.heap.size ≤ gb185)); have n3_ := Aside0.mk ((by rw [hg]; exact (below_size (by repeat (first | (with_reducible first | exact HB.out | apply below_alloc | apply pw_below_drewN | apply below_drew1) | exact HB.out))) : w.heap.size ≤ gb185)); clear HB; have HB := n0_; have BK185 := n1_; have GW185 := n2_; have GE185 := n3_; clear n0_ n1_ n2_ n3_; clear hb hbox hg; have hcz9_0 : w8.cell? ⟨gb185, 0, none⟩ = some (.int .i64 a0_0) := (blk_cell BK185.out 0).trans rfl; have hcz9_1 : w8.cell? ⟨gb185, 1, none⟩ = some (.int .i64 a0_1) := (blk_cell BK185.out 1).trans rfl; have hcz9_2 : w8.cell? ⟨gb185, 2, none⟩ = some (.int .i64 a0_2) := (blk_cell BK185.out 2).trans rfl; have hcz9_3 : w8.cell? ⟨gb185, 3, none⟩ = some (.int .i64 a0_3) := (blk_cell BK185.out 3).trans rfl; have hfz9_0 := blk_frozen BK185.out 0; have hfz9_1 := blk_frozen BK185.out 1; have hfz9_2 := blk_frozen BK185.out 2; have hfz9_3 := blk_frozen BK185.out 3) | ((with_reducible refine gate_callee (f := 52) rfl ?_); refine goesL_ (some 5) rfl rfl Try.func52 (by kernel_rfl) rfl #[.agg #[.int .i64 a0_0, .int .i64 a0_1, .int .i64 a0_2, .int .i64 a0_3]] rfl (by (try simp only [List.map_toArray, List.map_cons, List.map_nil]); first | done | rfl | (simp only [List.length_drop, List.length_take]; rfl)) ?_; (with_reducible refine (chequerref06_May.calls a0_0 a0_1 a0_2 a0_3 false _ A2.out).mono ?_); rintro e w10 ⟨rfl, hb⟩; refine ⟨_, rfl, ?_⟩; have n0_ := Aside0.mk (below_step (by repeat (first | (with_reducible first | exact HB.out | apply below_alloc | apply pw_below_drewN | apply below_drew1) | exact HB.out)) hb); clear HB; have HB := n0_; clear n0_; (try clear hb); (try clear hb2); (try clear hk); (try clear hi)))
    go_ret
    exact ⟨by first | rfl | (simp [errW_none, errW_some] <;> rfl) | (simp [*, errW_none, errW_some] <;> rfl), by repeat (first | (with_reducible first | exact HB.out | apply below_alloc | apply pw_below_drewN | apply below_drew1) | exact HB.out)⟩


/-! ### chequerref01_Unpack: function 40 -/
def chequerref01_Unpack.f (a0 : Int) : Option (List Int) := if (IntKind.u64.wrap (Int.tdiv a0 281474976710656)) = 3 then (some (([wrap64 (Int.tdiv (wrap64 (Int.tmod a0 281474976710656)) 4294967296), Int.tmod (wrap64 (Int.tdiv (wrap64 (Int.tmod a0 281474976710656)) 65536)) 65536, Int.tmod (wrap64 (Int.tmod a0 281474976710656)) 65536] : List Int))) else (if (IntKind.u64.wrap (Int.tdiv a0 281474976710656)) = 1 then (if (wrap64 (Int.tmod a0 281474976710656)) < 65536 then (some (([wrap64 (Int.tmod a0 281474976710656)] : List Int))) else (some ([] : List Int))) else (some ([] : List Int)))
set_option maxHeartbeats 8000000 in
set_option maxRecDepth 100000 in
theorem chequerref01_Unpack.calls (a0 : Int) (r : List Int) (w : World) (h : chequerref01_Unpack.f a0 = some r) :
 Calls Try.prog 40 #[.int .u64 a0] w fun e w' => ∃ v0_ : Value, e = .returned (v0_) ∧ Kd.R (Kd.int .i64) 3 w' w.heap.size (fun _ => True) v0_ r ∧ Below w.heap.size w w' := by
 have HB := Aside0.mk (Below.refl w.heap.size w)
 have H : (if (IntKind.u64.wrap (Int.tdiv a0 281474976710656)) = 3 then (some (([wrap64 (Int.tdiv (wrap64 (Int.tmod a0 281474976710656)) 4294967296), Int.tmod (wrap64 (Int.tdiv (wrap64 (Int.tmod a0 281474976710656)) 65536)) 65536, Int.tmod (wrap64 (Int.tmod a0 281474976710656)) 65536] : List Int))) else (if (IntKind.u64.wrap (Int.tdiv a0 281474976710656)) = 1 then (if (wrap64 (Int.tmod a0 281474976710656)) < 65536 then (some (([wrap64 (Int.tmod a0 281474976710656)] : List Int))) else (some ([] : List Int))) else (some ([] : List Int)))) = some r := h
 clear h
 by_cases c2 : (IntKind.u64.wrap (Int.tdiv a0 281474976710656)) = 3
 · rw [if_pos c2] at H
   have c2b0 : ((IntKind.u64.wrap (Int.tdiv a0 281474976710656)) == 3) = true := beq_iff_eq.mpr c2
   have c2b1 : ((IntKind.u64.wrap (Int.tdiv a0 281474976710656)) != 3) = false := bne_eq_false_iff_eq.mpr c2
   clear c2
   obtain ⟨y187, hy187⟩ : ∃ y_ : List Int, y_ = (([wrap64 (Int.tdiv (wrap64 (Int.tmod a0 281474976710656)) 4294967296), Int.tmod (wrap64 (Int.tdiv (wrap64 (Int.tmod a0 281474976710656)) 65536)) 65536, Int.tmod (wrap64 (Int.tmod a0 281474976710656)) 65536] : List Int)) := ⟨_, rfl⟩
   replace H : (some y187) = some r := by first | (rw [hy187]; with_reducible exact H) | (have H2_ := (Option.bind_some _ _).symm.trans H; rw [hy187]; with_reducible exact H2_) | (have H2_ := (Option.bind_some _ _).symm.trans H; with_reducible exact H2_) | with_reducible exact H | (rw [hy187]; exact H) | exact H
   have Ny187 := Aside0.mk hy187
   clear hy187
   obtain rfl := Option.some.inj H
   go_enter Try.func40, Try.ntmps40
   go_wp2_with (first | ((with_reducible refine gate_dst (N := 19) rfl ?_); refine Kd.R_lit (Kd.int .i64) _ 3 ?hg (N := 19) ?hd (xs := ([wrap64 (Int.tdiv (wrap64 (Int.tmod a0 281474976710656)) 4294967296), Int.tmod (wrap64 (Int.tdiv (wrap64 (Int.tmod a0 281474976710656)) 65536)) 65536, Int.tmod (wrap64 (Int.tmod a0 281474976710656)) 65536] : List Int)) (inner := [.int .i64 (wrap64 (Int.tdiv (wrap64 (Int.tmod a0 281474976710656)) 4294967296)), .int .i64 (Int.tmod (wrap64 (Int.tdiv (wrap64 (Int.tmod a0 281474976710656)) 65536)) 65536), .int .i64 (Int.tmod (wrap64 (Int.tmod a0 281474976710656)) 65536)]) (ok := fun _ => True) (okp := fun _ => True) ?hr ?hp (fun _ hk => hk) trivial (Below.refl _ _) (Nat.le_refl _) (by simp) ?_; (case hd => rfl); (case hg => rfl); (case hr => first | (go_simp; done) | (go_simp; rfl)); (case hp => exact (Reps.one (show Kd.M (Kd.int .i64) _ _ _ (wrap64 (Int.tdiv (wrap64 (Int.tmod a0 281474976710656)) 4294967296)) [.int .i64 (wrap64 (Int.tdiv (wrap64 (Int.tmod a0 281474976710656)) 4294967296))] from rfl) (Reps.one (show Kd.M (Kd.int .i64) _ _ _ (Int.tmod (wrap64 (Int.tdiv (wrap64 (Int.tmod a0 281474976710656)) 65536)) 65536) [.int .i64 (Int.tmod (wrap64 (Int.tdiv (wrap64 (Int.tmod a0 281474976710656)) 65536)) 65536)] from rfl) (Reps.one (show Kd.M (Kd.int .i64) _ _ _ (Int.tmod (wrap64 (Int.tmod a0 281474976710656)) 65536) [.int .i64 (Int.tmod (wrap64 (Int.tmod a0 281474976710656)) 65536)] from rfl) (Reps.none _ _))))); intro v188 w3 ho4 hb hg_ hnew_; clear hg_ hnew_; (first | rw [← Ny187.out] at ho4 | (simp only [Int.reduceToNat] at ho4; rw [← Ny187.out] at ho4)); have HO189 := Aside0.mk (Kd.R_lower ho4 (below_size bp_)); replace HB := Aside0.mk (below_step bp_ hb); clear hb ho4))
   go_ret
   exact ⟨_, by first | rfl | (simp [errW_none, errW_some] <;> rfl) | (simp [*, errW_none, errW_some] <;> rfl), by (with_reducible repeat (first | apply Kd.R_alloc | apply Kd.R_drewN | apply Kd.R_drew)); exact HO189.out, bp_⟩
 · rw [if_neg c2] at H
   have c2b0 : ((IntKind.u64.wrap (Int.tdiv a0 281474976710656)) == 3) = false := beq_eq_false_iff_ne.mpr c2
   have c2b1 : ((IntKind.u64.wrap (Int.tdiv a0 281474976710656)) != 3) = true := bne_iff_ne.mpr c2
   by_cases c5 : (IntKind.u64.wrap (Int.tdiv a0 281474976710656)) = 1
   · rw [if_pos c5] at H
     have c5b0 : ((IntKind.u64.wrap (Int.tdiv a0 281474976710656)) == 1) = true := beq_iff_eq.mpr c5
     have c5b1 : ((IntKind.u64.wrap (Int.tdiv a0 281474976710656)) != 1) = false := bne_eq_false_iff_eq.mpr c5
     clear c5
     by_cases c6 : (wrap64 (Int.tmod a0 281474976710656)) < 65536
     · rw [if_pos c6] at H
       have c6b0 : decide ((wrap64 (Int.tmod a0 281474976710656)) < 65536) = true := decide_eq_true c6
       clear c6
       obtain ⟨y190, hy190⟩ : ∃ y_ : List Int, y_ = (([wrap64 (Int.tmod a0 281474976710656)] : List Int)) := ⟨_, rfl⟩
       replace H : (some y190) = some r := by first | (rw [hy190]; with_reducible exact H) | (have H2_ := (Option.bind_some _ _).symm.trans H; rw [hy190]; with_reducible exact H2_) | (have H2_ := (Option.bind_some _ _).symm.trans H; with_reducible exact H2_) | with_reducible exact H | (rw [hy190]; exact H) | exact H
       have Ny190 := Aside0.mk hy190
       clear hy190
       obtain rfl := Option.some.inj H
       go_enter Try.func40, Try.ntmps40
       go_wp2_with (first | ((with_reducible refine gate_dst (N := 27) rfl ?_); refine Kd.R_lit (Kd.int .i64) _ 3 ?hg (N := 27) ?hd (xs := ([wrap64 (Int.tmod a0 281474976710656)] : List Int)) (inner := [.int .i64 (wrap64 (Int.tmod a0 281474976710656))]) (ok := fun _ => True) (okp := fun _ => True) ?hr ?hp (fun _ hk => hk) trivial (Below.refl _ _) (Nat.le_refl _) (by simp) ?_; (case hd => rfl); (case hg => rfl); (case hr => first | (go_simp; done) | (go_simp; rfl)); (case hp => exact (Reps.one (show Kd.M (Kd.int .i64) _ _ _ (wrap64 (Int.tmod a0 281474976710656)) [.int .i64 (wrap64 (Int.tmod a0 281474976710656))] from rfl) (Reps.none _ _))); intro v191 w7 ho8 hb hg_ hnew_; clear hg_ hnew_; (first | rw [← Ny190.out] at ho8 | (simp only [Int.reduceToNat] at ho8; rw [← Ny190.out] at ho8)); have HO192 := Aside0.mk (Kd.R_lower ho8 (below_size bp_)); replace HB := Aside0.mk (below_step bp_ hb); clear hb ho8))
       go_ret
       exact ⟨_, by first | rfl | (simp [errW_none, errW_some] <;> rfl) | (simp [*, errW_none, errW_some] <;> rfl), by (with_reducible repeat (first | apply Kd.R_alloc | apply Kd.R_drewN | apply Kd.R_drew)); exact HO192.out, bp_⟩
     · rw [if_neg c6] at H
       have c6b0 : decide ((wrap64 (Int.tmod a0 281474976710656)) < 65536) = false := decide_eq_false c6
       clear c6
       obtain rfl := Option.some.inj H
       go_enter Try.func40, Try.ntmps40
       go_wp2
       go_ret
       exact ⟨_, by first | rfl | (simp [errW_none, errW_some] <;> rfl) | (simp [*, errW_none, errW_some] <;> rfl), by first | exact Kd.R_nil _ _ _ _ _ | exact Kd.N_nil _ _ _ _ _ | exact Kd.V_nil _ _ _ _ _ | exact Kd.Q_nil _ _ _ _ _ | exact Kd.S_nil _ _ _ _ _, bp_⟩
   · rw [if_neg c5] at H
     have c5b0 : ((IntKind.u64.wrap (Int.tdiv a0 281474976710656)) == 1) = false := beq_eq_false_iff_ne.mpr c5
     have c5b1 : ((IntKind.u64.wrap (Int.tdiv a0 281474976710656)) != 1) = true := bne_iff_ne.mpr c5
     obtain rfl := Option.some.inj H
     go_enter Try.func40, Try.ntmps40
     go_wp2
     go_ret
     exact ⟨_, by first | rfl | (simp [errW_none, errW_some] <;> rfl) | (simp [*, errW_none, errW_some] <;> rfl), by first | exact Kd.R_nil _ _ _ _ _ | exact Kd.N_nil _ _ _ _ _ | exact Kd.V_nil _ _ _ _ _ | exact Kd.Q_nil _ _ _ _ _ | exact Kd.S_nil _ _ _ _ _, bp_⟩


/-! ### chequerref01_Format: function 57 -/
def chequerref01_Format.f (a0_0 : Int) (a0_1 : Int) : Option (Bool) := if a0_0 = 1 then (if a0_1 > 0 then (some (decide (a0_1 < 65536))) else (some false)) else (if a0_0 = 3 then (if a0_1 > 0 then (some (decide (a0_1 < 65536))) else (some false)) else (some false))
set_option maxHeartbeats 8000000 in
set_option maxRecDepth 100000 in
theorem chequerref01_Format.calls (a0_0 : Int) (a0_1 : Int) (r : Bool) (w : World) (h : chequerref01_Format.f a0_0 a0_1 = some r) :
 Calls Try.prog 57 #[.agg #[.int .i64 a0_0, .int .i64 a0_1]] w fun e w' => e = .returned (.bool r) ∧ Below w.heap.size w w' := by
 have hu60 := Try.underlying60
 have HB := Aside0.mk (Below.refl w.heap.size w)
 have H : (if a0_0 = 1 then (if a0_1 > 0 then (some (decide (a0_1 < 65536))) else (some false)) else (if a0_0 = 3 then (if a0_1 > 0 then (some (decide (a0_1 < 65536))) else (some false)) else (some false))) = some r := h
 clear h
 by_cases c2 : a0_0 = 1
 · rw [if_pos c2] at H
   have c2b0 : (a0_0 == 1) = true := beq_iff_eq.mpr c2
   have c2b1 : (a0_0 != 1) = false := bne_eq_false_iff_eq.mpr c2
   clear c2
   by_cases c3 : a0_1 > 0
   · rw [if_pos c3] at H
     have c3b0 : decide (0 < a0_1) = true := decide_eq_true c3
     clear c3
     obtain rfl := Option.some.inj H
     go_enter Try.func57, Try.ntmps57
     go_wp2_with (first | ((with_reducible refine gate_dst (N := 1) rfl ?_); refine box_event ?hg (N := 1) ?hd (cs := #[.int .i64 a0_0, .int .i64 a0_1]) (t := 60) ?hr ?_; (case hd => rfl); (case hg => rfl); (case hr => first | (go_simp; done) | (go_simp; rfl)); intro gb193 hg w4 hbox hb; have BK193 := Aside0.mk (hbox); have GW193 := Aside0.mk ((by rw [hg]; exact (below_size bp_) : w.heap.size ≤ gb193)); have GE193 := Aside0.mk ((by rw [hg]; exact (below_size bp_) : w.heap.size ≤ gb193)); replace HB := Aside0.mk (below_step bp_ hb); clear hb hbox hg; have hcz5_0 : w4.cell? ⟨gb193, 0, none⟩ = some (.int .i64 a0_0) := (blk_cell BK193.out 0).trans rfl; have hcz5_1 : w4.cell? ⟨gb193, 1, none⟩ = some (.int .i64 a0_1) := (blk_cell BK193.out 1).trans rfl; have hfz5_0 := blk_frozen BK193.out 0; have hfz5_1 := blk_frozen BK193.out 1))
     go_ret
     exact ⟨by first | rfl | (simp [errW_none, errW_some] <;> rfl) | (simp [*, errW_none, errW_some] <;> rfl), bp_⟩
   · rw [if_neg c3] at H
     have c3b0 : decide (0 < a0_1) = false := decide_eq_false c3
     clear c3
     obtain rfl := Option.some.inj H
     go_enter Try.func57, Try.ntmps57
     go_wp2_with (first | ((with_reducible refine gate_dst (N := 1) rfl ?_); refine box_event ?hg (N := 1) ?hd (cs := #[.int .i64 a0_0, .int .i64 a0_1]) (t := 60) ?hr ?_; (case hd => rfl); (case hg => rfl); (case hr => first | (go_simp; done) | (go_simp; rfl)); intro gb193 hg w6 hbox hb; have BK193 := Aside0.mk (hbox); have GW193 := Aside0.mk ((by rw [hg]; exact (below_size bp_) : w.heap.size ≤ gb193)); have GE193 := Aside0.mk ((by rw [hg]; exact (below_size bp_) : w.heap.size ≤ gb193)); replace HB := Aside0.mk (below_step bp_ hb); clear hb hbox hg; have hcz7_0 : w6.cell? ⟨gb193, 0, none⟩ = some (.int .i64 a0_0) := (blk_cell BK193.out 0).trans rfl; have hcz7_1 : w6.cell? ⟨gb193, 1, none⟩ = some (.int .i64 a0_1) := (blk_cell BK193.out 1).trans rfl; have hfz7_0 := blk_frozen BK193.out 0; have hfz7_1 := blk_frozen BK193.out 1))
     go_ret
     exact ⟨by first | rfl | (simp [errW_none, errW_some] <;> rfl) | (simp [*, errW_none, errW_some] <;> rfl), bp_⟩
 · rw [if_neg c2] at H
   have c2b0 : (a0_0 == 1) = false := beq_eq_false_iff_ne.mpr c2
   have c2b1 : (a0_0 != 1) = true := bne_iff_ne.mpr c2
   by_cases c8 : a0_0 = 3
   · rw [if_pos c8] at H
     have c8b0 : (a0_0 == 3) = true := beq_iff_eq.mpr c8
     have c8b1 : (a0_0 != 3) = false := bne_eq_false_iff_eq.mpr c8
     clear c8
     by_cases c9 : a0_1 > 0
     · rw [if_pos c9] at H
       have c9b0 : decide (0 < a0_1) = true := decide_eq_true c9
       clear c9
       obtain rfl := Option.some.inj H
       go_enter Try.func57, Try.ntmps57
       go_wp2_with (first | ((with_reducible refine gate_dst (N := 1) rfl ?_); refine box_event ?hg (N := 1) ?hd (cs := #[.int .i64 a0_0, .int .i64 a0_1]) (t := 60) ?hr ?_; (case hd => rfl); (case hg => rfl); (case hr => first | (go_simp; done) | (go_simp; rfl)); intro gb193 hg w10 hbox hb; have BK193 := Aside0.mk (hbox); have GW193 := Aside0.mk ((by rw [hg]; exact (below_size bp_) : w.heap.size ≤ gb193)); have GE193 := Aside0.mk ((by rw [hg]; exact (below_size bp_) : w.heap.size ≤ gb193)); replace HB := Aside0.mk (below_step bp_ hb); clear hb hbox hg; have hcz11_0 : w10.cell? ⟨gb193, 0, none⟩ = some (.int .i64 a0_0) := (blk_cell BK193.out 0).trans rfl; have hcz11_1 : w10.cell? ⟨gb193, 1, none⟩ = some (.int .i64 a0_1) := (blk_cell BK193.out 1).trans rfl; have hfz11_0 := blk_frozen BK193.out 0; have hfz11_1 := blk_frozen BK193.out 1))
       go_ret
       exact ⟨by first | rfl | (simp [errW_none, errW_some] <;> rfl) | (simp [*, errW_none, errW_some] <;> rfl), bp_⟩
     · rw [if_neg c9] at H
       have c9b0 : decide (0 < a0_1) = false := decide_eq_false c9
       clear c9
       obtain rfl := Option.some.inj H
       go_enter Try.func57, Try.ntmps57
       go_wp2_with (first | ((with_reducible refine gate_dst (N := 1) rfl ?_); refine box_event ?hg (N := 1) ?hd (cs := #[.int .i64 a0_0, .int .i64 a0_1]) (t := 60) ?hr ?_; (case hd => rfl); (case hg => rfl); (case hr => first | (go_simp; done) | (go_simp; rfl)); intro gb193 hg w12 hbox hb; have BK193 := Aside0.mk (hbox); have GW193 := Aside0.mk ((by rw [hg]; exact (below_size bp_) : w.heap.size ≤ gb193)); have GE193 := Aside0.mk ((by rw [hg]; exact (below_size bp_) : w.heap.size ≤ gb193)); replace HB := Aside0.mk (below_step bp_ hb); clear hb hbox hg; have hcz13_0 : w12.cell? ⟨gb193, 0, none⟩ = some (.int .i64 a0_0) := (blk_cell BK193.out 0).trans rfl; have hcz13_1 : w12.cell? ⟨gb193, 1, none⟩ = some (.int .i64 a0_1) := (blk_cell BK193.out 1).trans rfl; have hfz13_0 := blk_frozen BK193.out 0; have hfz13_1 := blk_frozen BK193.out 1))
       go_ret
       exact ⟨by first | rfl | (simp [errW_none, errW_some] <;> rfl) | (simp [*, errW_none, errW_some] <;> rfl), bp_⟩
   · rw [if_neg c8] at H
     have c8b0 : (a0_0 == 3) = false := beq_eq_false_iff_ne.mpr c8
     have c8b1 : (a0_0 != 3) = true := bne_iff_ne.mpr c8
     obtain rfl := Option.some.inj H
     go_enter Try.func57, Try.ntmps57
     go_wp2_with (first | ((with_reducible refine gate_dst (N := 1) rfl ?_); refine box_event ?hg (N := 1) ?hd (cs := #[.int .i64 a0_0, .int .i64 a0_1]) (t := 60) ?hr ?_; (case hd => rfl); (case hg => rfl); (case hr => first | (go_simp; done) | (go_simp; rfl)); intro gb193 hg w14 hbox hb; have BK193 := Aside0.mk (hbox); have GW193 := Aside0.mk ((by rw [hg]; exact (below_size bp_) : w.heap.size ≤ gb193)); have GE193 := Aside0.mk ((by rw [hg]; exact (below_size bp_) : w.heap.size ≤ gb193)); replace HB := Aside0.mk (below_step bp_ hb); clear hb hbox hg; have hcz15_0 : w14.cell? ⟨gb193, 0, none⟩ = some (.int .i64 a0_0) := (blk_cell BK193.out 0).trans rfl; have hcz15_1 : w14.cell? ⟨gb193, 1, none⟩ = some (.int .i64 a0_1) := (blk_cell BK193.out 1).trans rfl; have hfz15_0 := blk_frozen BK193.out 0; have hfz15_1 := blk_frozen BK193.out 1))
     go_ret
     exact ⟨by first | rfl | (simp [errW_none, errW_some] <;> rfl) | (simp [*, errW_none, errW_some] <;> rfl), bp_⟩


/-! ### chequerref01_Fits: function 39 -/
def chequerref01_Fits.l0 : Nat → List Int → Int → Int → Int → Option (Bool)
 | 0, _, _, _, _ => none
 | k + 1, x5, x6, x195000, x195001 => if x6 < (x5.length : Int) then (if 0 ≤ x6 then (if (rd x5 x6) > x195001 then (some false) else (chequerref01_Fits.l0 k x5 (wrap64 (x6 + 1)) x195000 x195001)) else (none)) else ((chequerref01_Format.f x195000 x195001).bind fun t199 => (if t199 = true then (some ((x5.length : Int) == x195000)) else (some false)))
def chequerref01_Fits.f (k : Nat) (a0 : Int) (a1_0 : Int) (a1_1 : Int) : Option (Bool) := (chequerref01_Unpack.f a0).bind fun t195 => (chequerref01_Fits.l0 k t195 0 a1_0 a1_1)
theorem chequerref01_Fits.mono_l : ∀ k, (∀ y0 y1 y2 y3, LeO (chequerref01_Fits.l0 k y0 y1 y2 y3) (chequerref01_Fits.l0 (k + 1) y0 y1 y2 y3))
 | 0 => fun _ _ _ _ r h => by simp [chequerref01_Fits.l0] at h
 | k + 1 => by
  have ih0 := chequerref01_Fits.mono_l k
  · intro y0 y1 y2 y3
    unfold chequerref01_Fits.l0
    repeat' first
    | (with_reducible exact ih0 _ _ _ _)
    | (with_reducible exact LeO.refl _)
    | (with_reducible exact LeO.none _)
    | (with_reducible refine LeO.ite ?_ ?_)
    | (with_reducible refine LeO.bind ?_ (fun _ => ?_))
    | exact ih0 _ _ _ _
    | exact LeO.none _
    | refine LeO.ite ?_ ?_
    | refine LeO.bind ?_ (fun _ => ?_)
theorem chequerref01_Fits.mono : ∀ a0 a1 a2 k, LeO (chequerref01_Fits.f k a0 a1 a2) (chequerref01_Fits.f (k + 1) a0 a1 a2) := by
 intro a0 a1 a2 k
 have ih0 := chequerref01_Fits.mono_l k
 unfold chequerref01_Fits.f
 repeat' first
  | (with_reducible exact ih0 _ _ _ _)
  | (with_reducible exact LeO.refl _)
  | (with_reducible exact LeO.none _)
  | (with_reducible refine LeO.ite ?_ ?_)
  | (with_reducible refine LeO.bind ?_ (fun _ => ?_))
  | exact ih0 _ _ _ _
  | exact LeO.none _
  | refine LeO.ite ?_ ?_
  | refine LeO.bind ?_ (fun _ => ?_)
set_option maxHeartbeats 8000000 in
set_option maxRecDepth 100000 in
theorem chequerref01_Fits.calls (k : Nat) (a0 : Int) (a1_0 : Int) (a1_1 : Int) (r : Bool) (w : World) (h : chequerref01_Fits.f k a0 a1_0 a1_1 = some r) :
 Calls Try.prog 39 #[.int .u64 a0, .agg #[.int .i64 a1_0, .int .i64 a1_1]] w fun e w' => e = .returned (.bool r) ∧ Below w.heap.size w w' := by
 have hu60 := Try.underlying60
 have HB := Aside0.mk (Below.refl w.heap.size w)
 have H : ((chequerref01_Unpack.f a0).bind fun t195 => (chequerref01_Fits.l0 k t195 0 a1_0 a1_1)) = some r := h
 clear h
 replace H := Option.bind_eq_some_iff.mp H
 obtain ⟨t195, A30, H⟩ := H
 replace H : (chequerref01_Fits.l0 k t195 0 a1_0 a1_1) = some r := H
 have A3 := Aside0.mk A30
 clear A30
 have H' := Aside0.mk H
 clear H
 go_enter Try.func39, Try.ntmps39
 go_wp2_with (first | ((with_reducible refine gate_dst (N := 3) rfl ?_); (try (refine gate_guard (by rfl) ?_; dsimp only)); refine box_event ?hg (N := 3) ?hd (cs := #[.int .i64 a1_0, .int .i64 a1_1]) (t := 60) ?hr ?_; (case hd => rfl); (case hg => rfl); (case hr => first | (go_simp; done) | (go_simp; rfl)); intro gb194 hg w4 hbox hb; have BK194 := Aside0.mk (hbox); have GW194 := Aside0.mk ((by rw [hg]; exact (below_size bp_) : w.heap.size ≤ gb194)); have GE194 := Aside0.mk ((by rw [hg]; exact (below_size bp_) : w.heap.size ≤ gb194)); replace HB := Aside0.mk (below_step bp_ hb); clear hb hbox hg) | (go_at_call 40; (with_reducible refine (chequerref01_Unpack.calls a0 t195 _ A3.out).mono ?_); rintro e w5 ⟨v196, rfl, ho0, hb⟩; have HO197 := Aside0.mk (Kd.R_lower ho0 (below_size bp_)); replace BK194 := Aside0.mk (blk_below (hp_ BK194.out) hb); replace HB := Aside0.mk (below_step bp_ hb); (try clear hb); (try clear hb2); (try clear hk); (try clear hi); (try clear ho0)))
 repeat (go_quiet (first | ((with_reducible refine gate_dst (N := 3) rfl ?_); (try (refine gate_guard (by rfl) ?_; dsimp only)); refine box_event ?hg (N := 3) ?hd (cs := #[.int .i64 a1_0, .int .i64 a1_1]) (t := 60) ?hr ?_; (case hd => rfl); (case hg => rfl); (case hr => first | (go_simp; done) | (go_simp; rfl)); intro gb194 hg w4 hbox hb; have n0_ := Aside0.mk (below_step bp_ hb); have n1_ := Aside0.mk (hbox); have n2_ := Aside0.mk ((by rw [hg]; exact (below_size bp_) : w.heap.size ≤ gb194)); have n3_ := Aside0.mk ((by rw [hg]; exact (below_size bp_) : w.heap.size ≤ gb194)); clear HB; have HB := n0_; have BK194 := n1_; have GW194 := n2_; have GE194 := n3_; clear n0_ n1_ n2_ n3_; clear hb hbox hg) | (go_at_call 40; (with_reducible refine (chequerref01_Unpack.calls a0 t195 _ A3.out).mono ?_); rintro e w5 ⟨v196, rfl, ho0, hb⟩; have n0_ := Aside0.mk (Kd.R_lower ho0 (below_size bp_)); have n1_ := Aside0.mk (blk_below (hp_ BK194.out) hb); have n2_ := Aside0.mk (below_step bp_ hb); clear BK194; clear HB; have HO197 := n0_; have BK194 := n1_; have HB := n2_; clear n0_ n1_ n2_; (try clear hb); (try clear hb2); (try clear hk); (try clear hi); (try clear ho0))); try go_wp2_with (first | ((with_reducible refine gate_dst (N := 3) rfl ?_); (try (refine gate_guard (by rfl) ?_; dsimp only)); refine box_event ?hg (N := 3) ?hd (cs := #[.int .i64 a1_0, .int .i64 a1_1]) (t := 60) ?hr ?_; (case hd => rfl); (case hg => rfl); (case hr => first | (go_simp; done) | (go_simp; rfl)); intro gb194 hg w4 hbox hb; have n0_ := Aside0.mk (below_step bp_ hb); have n1_ := Aside0.mk (hbox); have n2_ := Aside0.mk ((by rw [hg]; exact (below_size bp_) : w.heap.size ≤ gb194)); have n3_ := Aside0.mk ((by rw [hg]; exact (below_size bp_) : w.heap.size ≤ gb194)); clear HB; have HB := n0_; have BK194 := n1_; have GW194 := n2_; have GE194 := n3_; clear n0_ n1_ n2_ n3_; clear hb hbox hg) | (go_at_call 40; (with_reducible refine (chequerref01_Unpack.calls a0 t195 _ A3.out).mono ?_); rintro e w5 ⟨v196, rfl, ho0, hb⟩; have n0_ := Aside0.mk (Kd.R_lower ho0 (below_size bp_)); have n1_ := Aside0.mk (blk_below (hp_ BK194.out) hb); have n2_ := Aside0.mk (below_step bp_ hb); clear BK194; clear HB; have HO197 := n0_; have BK194 := n1_; have HB := n2_; clear n0_ n1_ n2_; (try clear hb); (try clear hb2); (try clear hk); (try clear hi); (try clear ho0))))
 go_loopg [6] k (fun kq v6 w' => ∃ (x6_1 : Int), v6 = .int .i64 x6_1 ∧ Aside0 (chequerref01_Fits.l0 kq t195 x6_1 a1_0 a1_1 = some r) ∧ Aside0 (kq ≤ k) ∧ Aside0 (Kd.R (Kd.int .i64) 3 w' w.heap.size (fun _ => True) v196 t195) ∧ Aside0 (w'.heap[gb194]? = some (.cells #[.int .i64 a1_0, .int .i64 a1_1] 60 (0, 0))) ∧ Aside0 (Below w.heap.size w w'))
 case atStart => exact ⟨(0), (by first | rfl | (simp; done) | (simp [*]; done)), H', ⟨Nat.le_refl _⟩, ⟨rp_ HO197.out⟩, ⟨hp_ BK194.out⟩, ⟨bp_⟩⟩
 case round =>
  clear H'
  try clear p2
  try clear c3
  obtain ⟨x6_1, rfl, HA, HK1, HO_5, BK194, HB⟩ := hrel
  cases gk with
  | zero => exact absurd HA.out (by simp [chequerref01_Fits.l0])
  | succ k1 =>
   have H := HA.out
   clear HA
   simp only [chequerref01_Fits.l0] at H
   by_cases c6 : x6_1 < (t195.length : Int)
   · rw [if_pos c6] at H
     have c6b0 : decide (x6_1 < (t195.length : Int)) = true := decide_eq_true c6
     clear c6
     by_cases c7 : 0 ≤ x6_1
     · rw [if_pos c7] at H
       have c7b0 : decide (0 ≤ x6_1) = true := decide_eq_true c7
       clear c7
       by_cases c8 : (rd t195 x6_1) > a1_1
       · rw [if_pos c8] at H
         have c8b0 : decide (a1_1 < (rd t195 x6_1)) = true := decide_eq_true c8
         clear c8
         obtain rfl := Option.some.inj H
         obtain ⟨Ao9, co9, eo9⟩ := Kd.R_slice HO_5.out
         subst eo9
         have p198 : 0 ≤ (x6_1 : Int) := of_decide_eq_true (by first | (with_reducible assumption) | assumption)
         have q198 : x6_1 < (t195.length : Int) := of_decide_eq_true (by first | (with_reducible assumption) | assumption)
         obtain ⟨ad198, e198, hx198_0⟩ := Kd.at_int (Kd.R_reads' HO_5.out).2.2 x6_1 p198 q198
         cases e198
         replace p198 := eq_true p198
         replace q198 := eq_true q198
         have hcz10_0 : wr.cell? ⟨gb194, 0, none⟩ = some (.int .i64 a1_0) := (blk_cell BK194.out 0).trans rfl
         have hcz10_1 : wr.cell? ⟨gb194, 1, none⟩ = some (.int .i64 a1_1) := (blk_cell BK194.out 1).trans rfl
         have hfz10_0 := blk_frozen BK194.out 0
         have hfz10_1 := blk_frozen BK194.out 1
         go_wp2
         repeat (go_quiet (fail); try go_wp2)
         go_ret
         exact ⟨by first | rfl | (simp [errW_none, errW_some] <;> rfl) | (simp [*, errW_none, errW_some] <;> rfl), bp_⟩
       · rw [if_neg c8] at H
         have c8b0 : decide (a1_1 < (rd t195 x6_1)) = false := decide_eq_false c8
         clear c8
         have H' := Aside0.mk H
         clear H
         obtain ⟨Ao11, co11, eo11⟩ := Kd.R_slice HO_5.out
         subst eo11
         have p198 : 0 ≤ (x6_1 : Int) := of_decide_eq_true (by first | (with_reducible assumption) | assumption)
         have q198 : x6_1 < (t195.length : Int) := of_decide_eq_true (by first | (with_reducible assumption) | assumption)
         obtain ⟨ad198, e198, hx198_0⟩ := Kd.at_int (Kd.R_reads' HO_5.out).2.2 x6_1 p198 q198
         cases e198
         replace p198 := eq_true p198
         replace q198 := eq_true q198
         have hcz12_0 : wr.cell? ⟨gb194, 0, none⟩ = some (.int .i64 a1_0) := (blk_cell BK194.out 0).trans rfl
         have hcz12_1 : wr.cell? ⟨gb194, 1, none⟩ = some (.int .i64 a1_1) := (blk_cell BK194.out 1).trans rfl
         have hfz12_0 := blk_frozen BK194.out 0
         have hfz12_1 := blk_frozen BK194.out 1
         go_wp2
         repeat (go_quiet (fail); try go_wp2)
         go_roundg k1
         case measure => have := HK1.out; omega
         case rel => exact ⟨(wrap64 (x6_1 + 1)), (by first | rfl | (simp; done) | (simp [*]; done)), H', ⟨by have := HK1.out; omega⟩, ⟨rp_ HO_5.out⟩, ⟨hp_ BK194.out⟩, ⟨bp_⟩⟩
     · rw [if_neg c7] at H
       exact absurd H (by simp)
   · rw [if_neg c6] at H
     have c6b0 : decide (x6_1 < (t195.length : Int)) = false := decide_eq_false c6
     clear c6
     replace H := Option.bind_eq_some_iff.mp H
     obtain ⟨t199, A130, H⟩ := H
     replace H : (if t199 = true then (some ((t195.length : Int) == a1_0)) else (some false)) = some r := H
     have A13 := Aside0.mk A130
     clear A130
     by_cases c14 : t199 = true
     · subst c14
       have H1 : (some ((t195.length : Int) == a1_0)) = some r := by rw [if_pos rfl] at H; exact H
       clear H
       have H := H1
       clear H1
       obtain rfl := Option.some.inj H
       obtain ⟨Ao15, co15, eo15⟩ := Kd.R_slice HO_5.out
       subst eo15
       have hcz16_0 : wr.cell? ⟨gb194, 0, none⟩ = some (.int .i64 a1_0) := (blk_cell BK194.out 0).trans rfl
       have hcz16_1 : wr.cell? ⟨gb194, 1, none⟩ = some (.int .i64 a1_1) := (blk_cell BK194.out 1).trans rfl
       have hfz16_0 := blk_frozen BK194.out 0
       have hfz16_1 := blk_frozen BK194.out 1
       go_wp2_with (first | (go_at_call 57; (with_reducible refine (chequerref01_Format.calls a1_0 a1_1 true _ A13.out).mono ?_); rintro e w17 ⟨rfl, hb⟩; replace HO_5 := Aside0.mk (Kd.R_below (rp_ HO_5.out) hb); replace BK194 := Aside0.mk (blk_below (hp_ BK194.out) hb); replace HB := Aside0.mk (below_step bp_ hb); (try clear hb); (try clear hb2); (try clear hk); (try clear hi); have hcz18_0 : w17.cell? ⟨gb194, 0, none⟩ = some (.int .i64 a1_0) := (blk_cell BK194.out 0).trans rfl; have hcz18_1 : w17.cell? ⟨gb194, 1, none⟩ = some (.int .i64 a1_1) := (blk_cell BK194.out 1).trans rfl; have hfz18_0 := blk_frozen BK194.out 0; have hfz18_1 := blk_frozen BK194.out 1))
       repeat (go_quiet (first | (go_at_call 57; (with_reducible refine (chequerref01_Format.calls a1_0 a1_1 true _ A13.out).mono ?_); rintro e w17 ⟨rfl, hb⟩; have n0_ := Aside0.mk (Kd.R_below (rp_ HO_5.out) hb); have n1_ := Aside0.mk (blk_below (hp_ BK194.out) hb); have n2_ := Aside0.mk (below_step bp_ hb); clear HO_5; clear BK194; clear HB; have HO_5 := n0_; have BK194 := n1_; have HB := n2_; clear n0_ n1_ n2_; (try clear hb); (try clear hb2); (try clear hk); (try clear hi); have hcz18_0 : w17.cell? ⟨gb194, 0, none⟩ = some (.int .i64 a1_0) := (blk_cell BK194.out 0).trans rfl; have hcz18_1 : w17.cell? ⟨gb194, 1, none⟩ = some (.int .i64 a1_1) := (blk_cell BK194.out 1).trans rfl; have hfz18_0 := blk_frozen BK194.out 0; have hfz18_1 := blk_frozen BK194.out 1)); try go_wp2_with (first | (go_at_call 57; (with_reducible refine (chequerref01_Format.calls a1_0 a1_1 true _ A13.out).mono ?_); rintro e w17 ⟨rfl, hb⟩; have n0_ := Aside0.mk (Kd.R_below (rp_ HO_5.out) hb); have n1_ := Aside0.mk (blk_below (hp_ BK194.out) hb); have n2_ := Aside0.mk (below_step bp_ hb); clear HO_5; clear BK194; clear HB; have HO_5 := n0_; have BK194 := n1_; have HB := n2_; clear n0_ n1_ n2_; (try clear hb); (try clear hb2); (try clear hk); (try clear hi); have hcz18_0 : w17.cell? ⟨gb194, 0, none⟩ = some (.int .i64 a1_0) := (blk_cell BK194.out 0).trans rfl; have hcz18_1 : w17.cell? ⟨gb194, 1, none⟩ = some (.int .i64 a1_1) := (blk_cell BK194.out 1).trans rfl; have hfz18_0 := blk_frozen BK194.out 0; have hfz18_1 := blk_frozen BK194.out 1)))
       go_ret
       exact ⟨by first | rfl | (simp [errW_none, errW_some] <;> rfl) | (simp [*, errW_none, errW_some] <;> rfl), bp_⟩
     · replace c14 := Bool.eq_false_iff.mpr c14
       subst c14
       have H1 : (some false) = some r := by rw [if_neg (show ¬ (false = true) by decide)] at H; exact H
       clear H
       have H := H1
       clear H1
       obtain rfl := Option.some.inj H
       obtain ⟨Ao19, co19, eo19⟩ := Kd.R_slice HO_5.out
       subst eo19
       have hcz20_0 : wr.cell? ⟨gb194, 0, none⟩ = some (.int .i64 a1_0) := (blk_cell BK194.out 0).trans rfl
       have hcz20_1 : wr.cell? ⟨gb194, 1, none⟩ = some (.int .i64 a1_1) := (blk_cell BK194.out 1).trans rfl
       have hfz20_0 := blk_frozen BK194.out 0
       have hfz20_1 := blk_frozen BK194.out 1
       go_wp2_with (first | (go_at_call 57; (with_reducible refine (chequerref01_Format.calls a1_0 a1_1 false _ A13.out).mono ?_); rintro e w21 ⟨rfl, hb⟩; replace HO_5 := Aside0.mk (Kd.R_below (rp_ HO_5.out) hb); replace HB := Aside0.mk (below_step bp_ hb); (try clear hb); (try clear hb2); (try clear hk); (try clear hi)))
       repeat (go_quiet (first | (go_at_call 57; (with_reducible refine (chequerref01_Format.calls a1_0 a1_1 false _ A13.out).mono ?_); rintro e w21 ⟨rfl, hb⟩; have n0_ := Aside0.mk (Kd.R_below (rp_ HO_5.out) hb); have n1_ := Aside0.mk (below_step bp_ hb); clear HO_5; clear HB; have HO_5 := n0_; have HB := n1_; clear n0_ n1_; (try clear hb); (try clear hb2); (try clear hk); (try clear hi))); try go_wp2_with (first | (go_at_call 57; (with_reducible refine (chequerref01_Format.calls a1_0 a1_1 false _ A13.out).mono ?_); rintro e w21 ⟨rfl, hb⟩; have n0_ := Aside0.mk (Kd.R_below (rp_ HO_5.out) hb); have n1_ := Aside0.mk (below_step bp_ hb); clear HO_5; clear HB; have HO_5 := n0_; have HB := n1_; clear n0_ n1_; (try clear hb); (try clear hb2); (try clear hk); (try clear hi))))
       go_ret
       exact ⟨by first | rfl | (simp [errW_none, errW_some] <;> rfl) | (simp [*, errW_none, errW_some] <;> rfl), bp_⟩


/-! ### chequerref07_Pack: function 41 -/
mutual
def chequerref07_Pack.j0 : Nat → List Int → Bool → Option (List Int × Int)
 | 0, _, _ => none
 | k + 1, x0, x15 => if x15 = true then (some (([] : List Int), 1)) else (chequerref07_Pack.l0 k x0 ([] : List Int) 0)
def chequerref07_Pack.l0 : Nat → List Int → List Int → Int → Option (List Int × Int)
 | 0, _, _, _ => none
 | k + 1, x0, x4, x5 => if x5 < (x0.length : Int) then (chequerref07_Pack.l1 k x0 x4 x5 0 x5) else (some (x4, 0))
def chequerref07_Pack.l1 : Nat → List Int → List Int → Int → Int → Int → Option (List Int × Int)
 | 0, _, _, _, _, _ => none
 | k + 1, x0, x4, x5, x6, x7 => if x7 < (wrap64 (x5 + 8)) then (if x7 < (x0.length : Int) then (if 0 ≤ x7 then (if (rd x0 x7) = 0 then (chequerref07_Pack.l1 k x0 x4 x5 (wrap64 ((wrap64 (x6 * 2)) + (rd x0 x7))) (wrap64 (x7 + 1))) else (if (rd x0 x7) = 1 then (chequerref07_Pack.l1 k x0 x4 x5 (wrap64 ((wrap64 (x6 * 2)) + (rd x0 x7))) (wrap64 (x7 + 1))) else (some (([] : List Int), 1)))) else (none)) else (chequerref07_Pack.l1 k x0 x4 x5 (wrap64 (x6 * 2)) (wrap64 (x7 + 1)))) else (if x4.length < 140737488355328 then (chequerref07_Pack.l0 k x0 (x4 ++ [(x6) % 256]) (wrap64 (x5 + 8))) else (none))
end
def chequerref07_Pack.f (k : Nat) (l0 : List Int) : Option (List Int × Int) := if (l0.length : Int) < 1 then (chequerref07_Pack.j0 k l0 true) else (chequerref07_Pack.j0 k l0 (decide ((l0.length : Int) > 4096)))
theorem chequerref07_Pack.mono_l : ∀ k, (∀ y0 y1, LeO (chequerref07_Pack.j0 k y0 y1) (chequerref07_Pack.j0 (k + 1) y0 y1)) ∧ (∀ y0 y1 y2, LeO (chequerref07_Pack.l0 k y0 y1 y2) (chequerref07_Pack.l0 (k + 1) y0 y1 y2)) ∧ (∀ y0 y1 y2 y3 y4, LeO (chequerref07_Pack.l1 k y0 y1 y2 y3 y4) (chequerref07_Pack.l1 (k + 1) y0 y1 y2 y3 y4))
 | 0 => ⟨fun _ _ r h => by simp [chequerref07_Pack.j0] at h, fun _ _ _ r h => by simp [chequerref07_Pack.l0] at h, fun _ _ _ _ _ r h => by simp [chequerref07_Pack.l1] at h⟩
 | k + 1 => by
  obtain ⟨ih0, ih1, ih2⟩ := chequerref07_Pack.mono_l k
  refine ⟨?_, ?_, ?_⟩
  · intro y0 y1
    unfold chequerref07_Pack.j0
    repeat' first
    | (with_reducible exact ih0 _ _)
    | (with_reducible exact ih1 _ _ _)
    | (with_reducible exact ih2 _ _ _ _ _)
    | (with_reducible exact LeO.refl _)
    | (with_reducible exact LeO.none _)
    | (with_reducible refine LeO.ite ?_ ?_)
    | (with_reducible refine LeO.bind ?_ (fun _ => ?_))
    | exact ih0 _ _
    | exact ih1 _ _ _
    | exact ih2 _ _ _ _ _
    | exact LeO.none _
    | refine LeO.ite ?_ ?_
    | refine LeO.bind ?_ (fun _ => ?_)
  · intro y0 y1 y2
    unfold chequerref07_Pack.l0
    repeat' first
    | (with_reducible exact ih0 _ _)
    | (with_reducible exact ih1 _ _ _)
    | (with_reducible exact ih2 _ _ _ _ _)
    | (with_reducible exact LeO.refl _)
    | (with_reducible exact LeO.none _)
    | (with_reducible refine LeO.ite ?_ ?_)
    | (with_reducible refine LeO.bind ?_ (fun _ => ?_))
    | exact ih0 _ _
    | exact ih1 _ _ _
    | exact ih2 _ _ _ _ _
    | exact LeO.none _
    | refine LeO.ite ?_ ?_
    | refine LeO.bind ?_ (fun _ => ?_)
  · intro y0 y1 y2 y3 y4
    unfold chequerref07_Pack.l1
    repeat' first
    | (with_reducible exact ih0 _ _)
    | (with_reducible exact ih1 _ _ _)
    | (with_reducible exact ih2 _ _ _ _ _)
    | (with_reducible exact LeO.refl _)
    | (with_reducible exact LeO.none _)
    | (with_reducible refine LeO.ite ?_ ?_)
    | (with_reducible refine LeO.bind ?_ (fun _ => ?_))
    | exact ih0 _ _
    | exact ih1 _ _ _
    | exact ih2 _ _ _ _ _
    | exact LeO.none _
    | refine LeO.ite ?_ ?_
    | refine LeO.bind ?_ (fun _ => ?_)
theorem chequerref07_Pack.mono : ∀ a0 k, LeO (chequerref07_Pack.f k a0) (chequerref07_Pack.f (k + 1) a0) := by
 intro a0 k
 obtain ⟨ih0, ih1, ih2⟩ := chequerref07_Pack.mono_l k
 unfold chequerref07_Pack.f
 repeat' first
  | (with_reducible exact ih0 _ _)
  | (with_reducible exact ih1 _ _ _)
  | (with_reducible exact ih2 _ _ _ _ _)
  | (with_reducible exact LeO.refl _)
  | (with_reducible exact LeO.none _)
  | (with_reducible refine LeO.ite ?_ ?_)
  | (with_reducible refine LeO.bind ?_ (fun _ => ?_))
  | exact ih0 _ _
  | exact ih1 _ _ _
  | exact ih2 _ _ _ _ _
  | exact LeO.none _
  | refine LeO.ite ?_ ?_
  | refine LeO.bind ?_ (fun _ => ?_)
set_option maxHeartbeats 8000000 in
set_option maxRecDepth 100000 in
theorem chequerref07_Pack.calls (k : Nat) (A0 : Option Addr) (c0 : Nat) (l0 : List Int) (r1 : List Int) (r2 : Int) (w : World) (hr0 : Kd.C (Kd.int .i64) w A0 l0.length l0) (hc0 : l0.length ≤ c0) (h : chequerref07_Pack.f k l0 = some (r1, r2)) :
 Calls Try.prog 41 #[.slice A0 l0.length c0] w fun e w' => ∃ v0_ : Value, e = .returned (.tuple #[v0_, .int .i64 r2]) ∧ Kd.R (Kd.int .u8) 5 w' w.heap.size (fun _ => True) v0_ r1 ∧ Below w.heap.size w w' := by
 have HR0 := Aside0.mk hr0
 have HC0 := Aside0.mk hc0
 clear hr0 hc0
 have HB := Aside0.mk (Below.refl w.heap.size w)
 have H : (if (l0.length : Int) < 1 then (chequerref07_Pack.j0 k l0 true) else (chequerref07_Pack.j0 k l0 (decide ((l0.length : Int) > 4096)))) = some (r1, r2) := h
 clear h
 have HC2 := Aside0.mk H
 clear H
 go_enter Try.func41, Try.ntmps41
 go_upto_region 1 with (fail)
 go_cut [15] (fun v15 wc => ∃ (kq : Nat) (x15_1 : Bool), v15 = .bool x15_1 ∧ Aside0 (chequerref07_Pack.j0 kq l0 x15_1 = some (r1, r2)) ∧ Aside0 (kq ≤ k) ∧ Aside0 (Below w.heap.size w wc))
 case first =>
  have H := HC2.out
  clear HC2
  by_cases c3 : (l0.length : Int) < 1
  · rw [if_pos c3] at H
    have c3b0 : decide ((l0.length : Int) < 1) = true := decide_eq_true c3
    have c3b1 : decide (l0.length < 1) = true := decide_eq_true (by omega)
    clear c3
    (first | rw [c3b0] | (simp only [i64_w, i32_w]; rw [c3b0]) | skip)
    have H' := Aside0.mk H
    clear H
    go_wp2
    go_meet
    case rel => exact ⟨_, (true), (by first | rfl | (simp; done) | (simp [*]; done)), H', ⟨by first | omega | exact Nat.le_refl _⟩, ⟨bp_⟩⟩
  · rw [if_neg c3] at H
    have c3b0 : decide ((l0.length : Int) < 1) = false := decide_eq_false c3
    have c3b1 : decide (l0.length < 1) = false := decide_eq_false (by omega)
    clear c3
    (first | rw [c3b0] | (simp only [i64_w, i32_w]; rw [c3b0]) | skip)
    have H' := Aside0.mk H
    clear H
    go_wp2
    go_meet
    case rel => exact ⟨_, (decide ((l0.length : Int) > 4096)), (by first | rfl | (simp; done) | (simp [*]; done)), H', ⟨by first | omega | exact Nat.le_refl _⟩, ⟨bp_⟩⟩
 case rest =>
  clear HC2
  try clear p2
  try clear c3
  try clear c3b0
  try clear c3b1
  obtain ⟨kq, x15_1, rfl, HA, HJ1, HB⟩ := hcut
  cases kq with
  | zero => exact absurd HA.out (by simp [chequerref07_Pack.j0])
  | succ kj1 =>
   have H := HA.out
   clear HA
   simp only [chequerref07_Pack.j0] at H
   by_cases c4 : x15_1 = true
   · subst c4
     have H1 : (some (([] : List Int), 1)) = some (r1, r2) := by rw [if_pos rfl] at H; exact H
     clear H
     have H := H1
     clear H1
     simp only [Option.some.injEq, Prod.mk.injEq] at H
     obtain ⟨rfl, rfl⟩ := H
     go_wp2
     go_ret2
     exact ⟨_, by first | rfl | (simp [errW_none, errW_some] <;> rfl) | (simp [*, errW_none, errW_some] <;> rfl), by first | exact Kd.R_nil _ _ _ _ _ | exact Kd.N_nil _ _ _ _ _ | exact Kd.V_nil _ _ _ _ _ | exact Kd.Q_nil _ _ _ _ _ | exact Kd.S_nil _ _ _ _ _, bp_⟩
   · replace c4 := Bool.eq_false_iff.mpr c4
     subst c4
     have H1 : (chequerref07_Pack.l0 kj1 l0 ([] : List Int) 0) = some (r1, r2) := by rw [if_neg (show ¬ (false = true) by decide)] at H; exact H
     clear H
     have H := H1
     clear H1
     have H' := Aside0.mk H
     clear H
     go_wp2
     go_loopg [4, 5] kj1 (fun kq v4 v5 w' => ∃ (x4_2 : List Int) (x5_2 : Int), v5 = .int .i64 x5_2 ∧ Aside0 (chequerref07_Pack.l0 kq l0 x4_2 x5_2 = some (r1, r2)) ∧ Aside0 (kq ≤ kj1) ∧ Aside0 (Kd.R (Kd.int .u8) 5 w' w.heap.size (fun _ => True) v4 x4_2) ∧ Aside0 (Below w.heap.size w w'))
     case atStart => exact ⟨(([] : List Int)), (0), (by first | rfl | (simp; done) | (simp [*]; done)), H', ⟨Nat.le_refl _⟩, ⟨by first | exact Kd.R_nil _ _ _ _ _ | exact Kd.N_nil _ _ _ _ _ | exact Kd.V_nil _ _ _ _ _ | exact Kd.Q_nil _ _ _ _ _ | exact Kd.S_nil _ _ _ _ _⟩, ⟨bp_⟩⟩
     case round =>
      clear H'
      try clear p2
      try clear c3
      try clear c3b0
      try clear c3b1
      try clear c4
      try clear p2
      obtain ⟨x4_2, x5_2, rfl, HA, HK2, HO_4, HB⟩ := hrel
      cases gk with
      | zero => exact absurd HA.out (by simp [chequerref07_Pack.l0])
      | succ k2 =>
       have H := HA.out
       clear HA
       simp only [chequerref07_Pack.l0] at H
       by_cases c5 : x5_2 < (l0.length : Int)
       · rw [if_pos c5] at H
         have c5b0 : decide (x5_2 < (l0.length : Int)) = true := decide_eq_true c5
         clear c5
         have H' := Aside0.mk H
         clear H
         go_wp2
         go_loopg [6, 7] k2 (fun kq v6 v7 w' => ∃ (x6_3 : Int) (x7_3 : Int), v6 = .int .i64 x6_3 ∧ v7 = .int .i64 x7_3 ∧ Aside0 (chequerref07_Pack.l1 kq l0 x4_2 x5_2 x6_3 x7_3 = some (r1, r2)) ∧ Aside0 (kq ≤ k2) ∧ Aside0 (Kd.R (Kd.int .u8) 5 w' w.heap.size (fun _ => True) u4 x4_2) ∧ Aside0 (Below w.heap.size w w'))
         case atStart => exact ⟨(0), (x5_2), (by first | rfl | (simp; done) | (simp [*]; done)), (by first | rfl | (simp; done) | (simp [*]; done)), H', ⟨Nat.le_refl _⟩, ⟨rp_ HO_4.out⟩, ⟨bp_⟩⟩
         case round =>
          clear H'
          try clear p2
          try clear c3
          try clear c3b0
          try clear c3b1
          try clear c4
          try clear c5
          try clear c5b0
          try clear p2
          obtain ⟨x6_3, x7_3, rfl, rfl, HA, HK3, HO_4, HB⟩ := hrel
          cases gk with
          | zero => exact absurd HA.out (by simp [chequerref07_Pack.l1])
          | succ k3 =>
           have H := HA.out
           clear HA
           simp only [chequerref07_Pack.l1] at H
           by_cases c6 : x7_3 < (wrap64 (x5_2 + 8))
           · rw [if_pos c6] at H
             have c6b0 : decide (x7_3 < (wrap64 (x5_2 + 8))) = true := decide_eq_true c6
             clear c6
             by_cases c7 : x7_3 < (l0.length : Int)
             · rw [if_pos c7] at H
               have c7b0 : decide (x7_3 < (l0.length : Int)) = true := decide_eq_true c7
               clear c7
               by_cases c8 : 0 ≤ x7_3
               · rw [if_pos c8] at H
                 have c8b0 : decide (0 ≤ x7_3) = true := decide_eq_true c8
                 clear c8
                 by_cases c9 : (rd l0 x7_3) = 0
                 · rw [if_pos c9] at H
                   have c9b0 : ((rd l0 x7_3) == 0) = true := beq_iff_eq.mpr c9
                   have c9b1 : ((rd l0 x7_3) != 0) = false := bne_eq_false_iff_eq.mpr c9
                   clear c9
                   have H' := Aside0.mk H
                   clear H
                   have p203 : 0 ≤ (x7_3 : Int) := of_decide_eq_true (by first | (with_reducible assumption) | assumption)
                   have q203 : x7_3 < (l0.length : Int) := of_decide_eq_true (by first | (with_reducible assumption) | assumption)
                   obtain ⟨ad203, e203, hx203_0⟩ := Kd.at_int HR0.out x7_3 p203 q203
                   cases e203
                   replace hx203_0 := (HB.out.cell (World.block_lt_of_cell? w _ hx203_0)).trans hx203_0
                   replace p203 := eq_true p203
                   replace q203 := eq_true q203
                   have p204 : 0 ≤ (x7_3 : Int) := of_decide_eq_true (by first | (with_reducible assumption) | assumption)
                   have q204 : x7_3 < (l0.length : Int) := of_decide_eq_true (by first | (with_reducible assumption) | assumption)
                   obtain ⟨ad204, e204, hx204_0⟩ := Kd.at_int HR0.out x7_3 p204 q204
                   obtain rfl : ad203 = ad204 := (by injection e204)
                   replace hx204_0 := (HB.out.cell (World.block_lt_of_cell? w _ hx204_0)).trans hx204_0
                   replace p204 := eq_true p204
                   replace q204 := eq_true q204
                   go_wp2
                   go_roundg k3
                   case measure => have := HJ1.out; have := HK2.out; have := HK3.out; omega
                   case rel => exact ⟨(wrap64 ((wrap64 (x6_3 * 2)) + (rd l0 x7_3))), (wrap64 (x7_3 + 1)), (by first | rfl | (simp; done) | (simp [*]; done)), (by first | rfl | (simp; done) | (simp [*]; done)), H', ⟨by have := HJ1.out; have := HK2.out; have := HK3.out; omega⟩, ⟨rp_ HO_4.out⟩, ⟨bp_⟩⟩
                 · rw [if_neg c9] at H
                   have c9b0 : ((rd l0 x7_3) == 0) = false := beq_eq_false_iff_ne.mpr c9
                   have c9b1 : ((rd l0 x7_3) != 0) = true := bne_iff_ne.mpr c9
                   by_cases c10 : (rd l0 x7_3) = 1
                   · rw [if_pos c10] at H
                     have c10b0 : ((rd l0 x7_3) == 1) = true := beq_iff_eq.mpr c10
                     have c10b1 : ((rd l0 x7_3) != 1) = false := bne_eq_false_iff_eq.mpr c10
                     clear c10
                     have H' := Aside0.mk H
                     clear H
                     have p203 : 0 ≤ (x7_3 : Int) := of_decide_eq_true (by first | (with_reducible assumption) | assumption)
                     have q203 : x7_3 < (l0.length : Int) := of_decide_eq_true (by first | (with_reducible assumption) | assumption)
                     obtain ⟨ad203, e203, hx203_0⟩ := Kd.at_int HR0.out x7_3 p203 q203
                     cases e203
                     replace hx203_0 := (HB.out.cell (World.block_lt_of_cell? w _ hx203_0)).trans hx203_0
                     replace p203 := eq_true p203
                     replace q203 := eq_true q203
                     have p205 : 0 ≤ (x7_3 : Int) := of_decide_eq_true (by first | (with_reducible assumption) | assumption)
                     have q205 : x7_3 < (l0.length : Int) := of_decide_eq_true (by first | (with_reducible assumption) | assumption)
                     obtain ⟨ad205, e205, hx205_0⟩ := Kd.at_int HR0.out x7_3 p205 q205
                     obtain rfl : ad203 = ad205 := (by injection e205)
                     replace hx205_0 := (HB.out.cell (World.block_lt_of_cell? w _ hx205_0)).trans hx205_0
                     replace p205 := eq_true p205
                     replace q205 := eq_true q205
                     have p206 : 0 ≤ (x7_3 : Int) := of_decide_eq_true (by first | (with_reducible assumption) | assumption)
                     have q206 : x7_3 < (l0.length : Int) := of_decide_eq_true (by first | (with_reducible assumption) | assumption)
                     obtain ⟨ad206, e206, hx206_0⟩ := Kd.at_int HR0.out x7_3 p206 q206
                     obtain rfl : ad203 = ad206 := (by injection e206)
                     replace hx206_0 := (HB.out.cell (World.block_lt_of_cell? w _ hx206_0)).trans hx206_0
                     replace p206 := eq_true p206
                     replace q206 := eq_true q206
                     go_wp2
                     go_roundg k3
                     case measure => have := HJ1.out; have := HK2.out; have := HK3.out; omega
                     case rel => exact ⟨(wrap64 ((wrap64 (x6_3 * 2)) + (rd l0 x7_3))), (wrap64 (x7_3 + 1)), (by first | rfl | (simp; done) | (simp [*]; done)), (by first | rfl | (simp; done) | (simp [*]; done)), H', ⟨by have := HJ1.out; have := HK2.out; have := HK3.out; omega⟩, ⟨rp_ HO_4.out⟩, ⟨bp_⟩⟩
                   · rw [if_neg c10] at H
                     have c10b0 : ((rd l0 x7_3) == 1) = false := beq_eq_false_iff_ne.mpr c10
                     have c10b1 : ((rd l0 x7_3) != 1) = true := bne_iff_ne.mpr c10
                     simp only [Option.some.injEq, Prod.mk.injEq] at H
                     obtain ⟨rfl, rfl⟩ := H
                     have p203 : 0 ≤ (x7_3 : Int) := of_decide_eq_true (by first | (with_reducible assumption) | assumption)
                     have q203 : x7_3 < (l0.length : Int) := of_decide_eq_true (by first | (with_reducible assumption) | assumption)
                     obtain ⟨ad203, e203, hx203_0⟩ := Kd.at_int HR0.out x7_3 p203 q203
                     cases e203
                     replace hx203_0 := (HB.out.cell (World.block_lt_of_cell? w _ hx203_0)).trans hx203_0
                     replace p203 := eq_true p203
                     replace q203 := eq_true q203
                     have p205 : 0 ≤ (x7_3 : Int) := of_decide_eq_true (by first | (with_reducible assumption) | assumption)
                     have q205 : x7_3 < (l0.length : Int) := of_decide_eq_true (by first | (with_reducible assumption) | assumption)
                     obtain ⟨ad205, e205, hx205_0⟩ := Kd.at_int HR0.out x7_3 p205 q205
                     obtain rfl : ad203 = ad205 := (by injection e205)
                     replace hx205_0 := (HB.out.cell (World.block_lt_of_cell? w _ hx205_0)).trans hx205_0
                     replace p205 := eq_true p205
                     replace q205 := eq_true q205
                     go_wp2
                     go_ret2
                     exact ⟨_, by first | rfl | (simp [errW_none, errW_some] <;> rfl) | (simp [*, errW_none, errW_some] <;> rfl), by first | exact Kd.R_nil _ _ _ _ _ | exact Kd.N_nil _ _ _ _ _ | exact Kd.V_nil _ _ _ _ _ | exact Kd.Q_nil _ _ _ _ _ | exact Kd.S_nil _ _ _ _ _, bp_⟩
               · rw [if_neg c8] at H
                 exact absurd H (by simp)
             · rw [if_neg c7] at H
               have c7b0 : decide (x7_3 < (l0.length : Int)) = false := decide_eq_false c7
               clear c7
               have H' := Aside0.mk H
               clear H
               go_wp2
               go_roundg k3
               case measure => have := HJ1.out; have := HK2.out; have := HK3.out; omega
               case rel => exact ⟨(wrap64 (x6_3 * 2)), (wrap64 (x7_3 + 1)), (by first | rfl | (simp; done) | (simp [*]; done)), (by first | rfl | (simp; done) | (simp [*]; done)), H', ⟨by have := HJ1.out; have := HK2.out; have := HK3.out; omega⟩, ⟨rp_ HO_4.out⟩, ⟨bp_⟩⟩
           · rw [if_neg c6] at H
             have c6b0 : decide (x7_3 < (wrap64 (x5_2 + 8))) = false := decide_eq_false c6
             clear c6
             by_cases c11 : x4_2.length < 140737488355328
             · rw [if_pos c11] at H
               have LMc11 := Aside0.mk c11
               clear c11
               obtain ⟨y200, hy200⟩ : ∃ y_ : List Int, y_ = (x4_2 ++ [(x6_3) % 256]) := ⟨_, rfl⟩
               replace H : (chequerref07_Pack.l0 k3 l0 y200 (wrap64 (x5_2 + 8))) = some (r1, r2) := by first | (rw [hy200]; with_reducible exact H) | (have H2_ := (Option.bind_some _ _).symm.trans H; rw [hy200]; with_reducible exact H2_) | (have H2_ := (Option.bind_some _ _).symm.trans H; with_reducible exact H2_) | with_reducible exact H | (rw [hy200]; exact H) | exact H
               have Ny200 := Aside0.mk hy200
               clear hy200
               have H' := Aside0.mk H
               clear H
               go_wp2_with (first | ((with_reducible refine gate_builtin (b := .append) (xs := #[.tmp 53, .tmp 56]) rfl ?_); (try (refine gate_guard (by rfl) ?_; dsimp only)); at_builtin; refine Kd.R_append (Kd.int .u8) (w0 := w) w.heap.size rfl (.tmp 53) (.tmp 56) 27 5 (.int .u8 0) 1 rfl Try.underlying27 info5 rfl (by decide) (by omega) u4 x4_2 ((x6_3) % 256) [.int .u8 ((x6_3) % 256)] (fun _ => True) (fun _ => False) rfl rfl ?aP (fun _ hk => hk.elim) ?aF ?aO ?aB ?aS ?aL ?_; (case aP => exact rfl); (case aB => exact bp_); (case aF => exact (fun _ _ => trivial)); (case aO => exact (rp_ HO_4.out)); (case aS => exact (below_size bp_)); (case aL => have := LMc11.out; omega); intro v201 w12 ho hb hg hat; rw [← Ny200.out] at ho; replace HB := Aside0.mk (hb); have HO202 := Aside0.mk (ho); clear HO_4; clear ho hb hg hat))
               go_roundg k3
               case measure => have := HJ1.out; have := HK2.out; have := HK3.out; omega
               case rel => exact ⟨(y200), (wrap64 (x5_2 + 8)), (by first | rfl | (simp; done) | (simp [*]; done)), H', ⟨by have := HJ1.out; have := HK2.out; have := HK3.out; omega⟩, ⟨rp_ HO202.out⟩, ⟨bp_⟩⟩
             · rw [if_neg c11] at H
               exact absurd H (by simp)
       · rw [if_neg c5] at H
         have c5b0 : decide (x5_2 < (l0.length : Int)) = false := decide_eq_false c5
         clear c5
         simp only [Option.some.injEq, Prod.mk.injEq] at H
         obtain ⟨rfl, rfl⟩ := H
         go_wp2
         go_ret2
         exact ⟨_, by first | rfl | (simp [errW_none, errW_some] <;> rfl) | (simp [*, errW_none, errW_some] <;> rfl), by (with_reducible repeat (first | apply Kd.R_alloc | apply Kd.R_drewN | apply Kd.R_drew)); exact HO_4.out, bp_⟩

end Go.Proofs.Ytdjonaajfhbfhaa.Q
