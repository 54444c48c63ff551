-- written by our own program (wip/tools/myprint.py) out of the translation, by the kit's print; Lean checks it
import Derived.Test.YtbbgichpbjgifaaQ0
import Derived.Test.YtbbgichpbjgifaaQ13
namespace Go.Proofs.Ytbbgichpbjgifaa.Q
open Go.RowKit Go.Proofs.YtbbgichpbjgifaaW.PrintWords Go.Proofs.YtbbgichpbjgifaaW.PrintLast Go.Proofs.YtbbgichpbjgifaaW.PrintMore
attribute [local go_sem] max2_int min2_int max_two min_two max_three min_three max_four min_four   -- for this text's walks alone
set_option linter.unusedVariables false
set_option linter.unusedSimpArgs false

/-! ### chequerref05_All: function 25 -/
def chequerref05_All.l0 : Nat → ByteArray → Int → List Int → Int → Int → Int → Int → Int → Int → Option (List Int × Int × Int)
  | 0, _, _, _, _, _, _, _, _, _ => none
  | k + 1, x0, x1, x7, x8, x10, x352000, x352001, x352002, x352003 => if x10 < (x0.size : Int) then (if 0 ≤ x10 then ((chequerref05_Put.f k x352000 x352001 x352002 x352003 (bt x0 x10)).bind fun bt352 => (if bt352.2.2.2.2 = 2 then (some (x7, x8, bt352.2.2.2.1)) else (if bt352.2.2.2.2 = 1 then (if x7.length < 17592186044416 then ((chequerref05_New.f x1).bind fun bt361 => (chequerref05_All.l0 k x0 x1 (x7 ++ [bt352.2.1]) (wrap64 (x10 + 1)) (wrap64 (x10 + 1)) bt361.1 bt361.2.1 bt361.2.2.1 bt361.2.2.2)) else (none)) else (chequerref05_All.l0 k x0 x1 x7 x8 (wrap64 (x10 + 1)) bt352.1 bt352.2.1 bt352.2.2.1 bt352.2.2.2.1)))) else (none)) else (if x352000 > 1 then (some (x7, x8, 6)) else (some (x7, x8, 0)))
def chequerref05_All.f (k : Nat) (a0 : ByteArray) (a1 : Int) : Option (List Int × Int × Int) := (chequerref05_New.f a1).bind fun bt347 => (chequerref05_All.l0 k a0 a1 ([] : List Int) 0 0 bt347.1 bt347.2.1 bt347.2.2.1 bt347.2.2.2)
theorem chequerref05_All.mono_l : ∀ k, (∀ y0 y1 y2 y3 y4 y5 y6 y7 y8, LeO (chequerref05_All.l0 k y0 y1 y2 y3 y4 y5 y6 y7 y8) (chequerref05_All.l0 (k + 1) y0 y1 y2 y3 y4 y5 y6 y7 y8))
  | 0 => fun _ _ _ _ _ _ _ _ _ r h => by simp [chequerref05_All.l0] at h
  | k + 1 => by
    have ih0 := chequerref05_All.mono_l k
    · intro y0 y1 y2 y3 y4 y5 y6 y7 y8
      unfold chequerref05_All.l0
      repeat' first
      | (with_reducible exact ih0 _ _ _ _ _ _ _ _ _)
      | (with_reducible exact chequerref05_Put.mono _ _ _ _ _ _)
      | (with_reducible exact LeO.refl _)
      | (with_reducible exact LeO.none _)
      | (with_reducible refine LeO.ite ?_ ?_)
      | (with_reducible refine LeO.bind ?_ (fun _ => ?_))
      | exact ih0 _ _ _ _ _ _ _ _ _
      | exact chequerref05_Put.mono _ _ _ _ _ _
      | exact LeO.none _
      | refine LeO.ite ?_ ?_
      | refine LeO.bind ?_ (fun _ => ?_)
theorem chequerref05_All.mono : ∀ a0 a1 k, LeO (chequerref05_All.f k a0 a1) (chequerref05_All.f (k + 1) a0 a1) := by
  intro a0 a1 k
  have ih0 := chequerref05_All.mono_l k
  unfold chequerref05_All.f
  repeat' first
      | (with_reducible exact ih0 _ _ _ _ _ _ _ _ _)
      | (with_reducible exact chequerref05_Put.mono _ _ _ _ _ _)
      | (with_reducible exact LeO.refl _)
      | (with_reducible exact LeO.none _)
      | (with_reducible refine LeO.ite ?_ ?_)
      | (with_reducible refine LeO.bind ?_ (fun _ => ?_))
      | exact ih0 _ _ _ _ _ _ _ _ _
      | exact chequerref05_Put.mono _ _ _ _ _ _
      | exact LeO.none _
      | refine LeO.ite ?_ ?_
      | refine LeO.bind ?_ (fun _ => ?_)
def chequerref05_All.T7 : Bool × List (List Nat × List Nat) := (true, [([], []), ([], []), ([], []), ([1, 2], [1, 2]), ([0, 3], [0, 3]), ([4], [4]), ([5], [5]), ([5], [5]), ([], []), ([8, 6, 4, 0, 1, 2, 3, 4, 5, 6, 8], [6, 8]), ([7, 9, 0, 1, 2, 3, 4, 5, 6, 7, 8, 9], [7])])
def chequerref05_All.B7 : List Nat := [0, 0, 0, 6, 15, 31, 63, 63, 0, 383, 1023]
theorem chequerref05_All.tab7 : rtab .any (opsOf Try.f25 7) = chequerref05_All.T7 := by kernel_rfl
theorem chequerref05_All.bits7 : waitsOk chequerref05_All.T7.2 chequerref05_All.B7 = true := by kernel_rfl
set_option maxHeartbeats 8000000 in
set_option maxRecDepth 100000 in
theorem chequerref05_All.calls (k : Nat) (a0 : ByteArray) (a1 : Int) (r1 : List Int) (r2 : Int) (r3 : Int) (w : World) (h : chequerref05_All.f k a0 a1 = some (r1, r2, r3)) :
    Calls Try.prog 25 #[.string a0, .int .i64 a1] w fun e w' => ∃ v0_ : Value, e = .returned (.tuple #[v0_, .int .i64 r2, .int .i64 r3]) ∧ Kd.R (Kd.int .i64) 3 w' w.heap.size (fun _ => True) v0_ r1 ∧ Below w.heap.size w w' := by
  have hu38 := Try.underlying38
  have HB := Aside0.mk (Below.refl w.heap.size w)
  have H : ((chequerref05_New.f a1).bind fun bt347 => (chequerref05_All.l0 k a0 a1 ([] : List Int) 0 0 bt347.1 bt347.2.1 bt347.2.2.1 bt347.2.2.2)) = some (r1, r2, r3) := h
  clear h
  replace H := Option.bind_eq_some_iff.mp H
  obtain ⟨⟨t347, t348, t349, t350⟩, A30, H⟩ := H
  replace H : (chequerref05_All.l0 k a0 a1 ([] : List Int) 0 0 t347 t348 t349 t350) = some (r1, r2, r3) := H
  have A3 := Aside0.mk A30
  clear A30
  have H' := Aside0.mk H
  clear H
  go_enter Try.func25, Try.ntmps25
  go_wp2_with (first | ((with_reducible refine gate_callee (f := 17) rfl ?_); refine goesL_ (some 14) rfl rfl Try.func17 (by kernel_rfl) rfl #[.int .i64 a1] rfl (by (try simp only [List.map_toArray, List.map_cons, List.map_nil]); first | done | rfl | (simp only [List.length_drop, List.length_take]; rfl)) ?_; (with_reducible refine (chequerref05_New.calls a1 t347 t348 t349 t350 _ A3.out).mono ?_); rintro e w4 ⟨rfl, hb⟩; refine ⟨_, rfl, ?_⟩; have n0_ := Aside0.mk (below_step (by repeat (first | (with_reducible first | exact HB.out | apply below_alloc | apply pw_below_drewN | apply below_drew1) | exact HB.out)) hb); clear HB; have HB := n0_; clear n0_; (try clear hb); (try clear hb2); (try clear hk); (try clear hi)) | ((with_reducible refine gate_dst (N := 9) rfl ?_); refine box_event ?hg (N := 9) ?hd (cs := #[.int .i64 0, .int .i64 0, .int .i64 0, .int .i64 0]) (t := 38) ?hr ?_; (case hd => rfl); (case hg => rfl); (case hr => first | (go_simp; done) | (go_simp; rfl)); intro gb351 hg w5 hbox hb; have n0_ := Aside0.mk (below_step (by repeat (first | (with_reducible first | exact HB.out | apply below_alloc | apply pw_below_drewN | apply below_drew1) | exact HB.out)) hb); have n1_ := Aside0.mk (hbox); have n2_ := Aside0.mk ((by rw [hg]; exact (below_size (by repeat (first | (with_reducible first | exact HB.out | apply below_alloc | apply pw_below_drewN | apply below_drew1) | exact HB.out))) : w.heap.size ≤ gb351)); have n3_ := Aside0.mk ((by rw [hg]; exact (below_size (by repeat (first | (with_reducible first | exact HB.out | apply below_alloc | apply pw_below_drewN | apply below_drew1) | exact HB.out))) : w.heap.size ≤ gb351)); clear HB; have HB := n0_; have BK351 := n1_; have GW351 := n2_; have GE351 := n3_; clear n0_ n1_ n2_ n3_; clear hb hbox hg; have hcz6_0 : w5.cell? ⟨gb351, 0, none⟩ = some (.int .i64 0) := (blk_cell BK351.out 0).trans rfl; have hcz6_1 : w5.cell? ⟨gb351, 1, none⟩ = some (.int .i64 0) := (blk_cell BK351.out 1).trans rfl; have hcz6_2 : w5.cell? ⟨gb351, 2, none⟩ = some (.int .i64 0) := (blk_cell BK351.out 2).trans rfl; have hcz6_3 : w5.cell? ⟨gb351, 3, none⟩ = some (.int .i64 0) := (blk_cell BK351.out 3).trans rfl; have hfz6_0 := blk_frozen BK351.out 0; have hfz6_1 := blk_frozen BK351.out 1; have hfz6_2 := blk_frozen BK351.out 2; have hfz6_3 := blk_frozen BK351.out 3))
  go_loopg [7, 8, 10] k (fun kq v7 v8 v10 w' => ∃ (x7_1 : List Int) (x8_1 : Int) (x10_1 : Int) (x352000_1 : Int) (x352001_1 : Int) (x352002_1 : Int) (x352003_1 : Int), v8 = .int .i64 x8_1 ∧ v10 = .int .i64 x10_1 ∧ Aside0 (chequerref05_All.l0 kq a0 a1 x7_1 x8_1 x10_1 x352000_1 x352001_1 x352002_1 x352003_1 = some (r1, r2, r3)) ∧ Aside0 (kq ≤ k) ∧ Aside0 (Kd.R (Kd.int .i64) 3 w' w.heap.size (fun _ => True) v7 x7_1) ∧ Aside0 (w'.heap[gb351]? = some (.cells #[.int .i64 x352000_1, .int .i64 x352001_1, .int .i64 x352002_1, .int .i64 x352003_1] 38 (0, 0))) ∧ Aside0 (Below w.heap.size w w'))
  case atStart => exact ⟨(([] : List Int)), (0), (0), (t347), (t348), (t349), (t350), (by first | rfl | (simp; done) | (simp [*]; done)), (by first | rfl | (simp; done) | (simp [*]; done)), H', ⟨Nat.le_refl _⟩, ⟨by first | exact Kd.R_nil _ _ _ _ _ | exact Kd.N_nil _ _ _ _ _ | exact Kd.V_nil _ _ _ _ _ | exact Kd.Q_nil _ _ _ _ _ | exact Kd.S_nil _ _ _ _ _⟩, ⟨by (with_reducible repeat (first | refine blk_drewN ?_ _ | refine blk_drew ?_ | refine blk_alloc ?_ _)); refine blk_put (cs := #[.int .i64 t347, .int .i64 t348, .int .i64 t349, .int .i64 0]) ?_ 3 _ rfl; (with_reducible repeat (first | refine blk_drewN ?_ _ | refine blk_drew ?_ | refine blk_alloc ?_ _)); refine blk_put (cs := #[.int .i64 t347, .int .i64 t348, .int .i64 0, .int .i64 0]) ?_ 2 _ rfl; (with_reducible repeat (first | refine blk_drewN ?_ _ | refine blk_drew ?_ | refine blk_alloc ?_ _)); refine blk_put (cs := #[.int .i64 t347, .int .i64 0, .int .i64 0, .int .i64 0]) ?_ 1 _ rfl; (with_reducible repeat (first | refine blk_drewN ?_ _ | refine blk_drew ?_ | refine blk_alloc ?_ _)); refine blk_put (cs := #[.int .i64 0, .int .i64 0, .int .i64 0, .int .i64 0]) ?_ 0 _ rfl; (with_reducible repeat (first | refine blk_drewN ?_ _ | refine blk_drew ?_ | refine blk_alloc ?_ _)); exact BK351.out⟩, ⟨by repeat (first | (with_reducible first | exact HB.out | apply below_alloc | apply pw_below_drewN | apply below_drew1 | refine below_set ?_ GE351.out) | exact HB.out)⟩⟩
  case round =>
    clear H'
    try clear c1
    try clear c2
    try clear p2
    try clear hcz6_0
    try clear hcz6_1
    try clear hcz6_2
    try clear hcz6_3
    try clear hfz6_0
    try clear hfz6_1
    try clear hfz6_2
    try clear hfz6_3
    obtain ⟨x7_1, x8_1, x10_1, x352000_1, x352001_1, x352002_1, x352003_1, rfl, rfl, HA, HK1, HO_7, BK351, HB⟩ := hrel
    cases gk with
    | zero => exact absurd HA.out (by simp [chequerref05_All.l0])
    | succ k1 =>
      have H := HA.out
      clear HA
      simp only [chequerref05_All.l0] at H
      by_cases c7 : x10_1 < (a0.size : Int)
      · rw [if_pos c7] at H
        have c7b0 : decide (x10_1 < (a0.size : Int)) = true := decide_eq_true c7
        clear c7
        by_cases c8 : 0 ≤ x10_1
        · rw [if_pos c8] at H
          have c8b0 : decide (0 ≤ x10_1) = true := decide_eq_true c8
          clear c8
          replace H := Option.bind_eq_some_iff.mp H
          obtain ⟨⟨t352, t353, t354, t355, t356⟩, A100, H⟩ := H
          replace H : (if t356 = 2 then (some (x7_1, x8_1, t355)) else (if t356 = 1 then (if x7_1.length < 17592186044416 then ((chequerref05_New.f a1).bind fun bt361 => (chequerref05_All.l0 k1 a0 a1 (x7_1 ++ [t353]) (wrap64 (x10_1 + 1)) (wrap64 (x10_1 + 1)) bt361.1 bt361.2.1 bt361.2.2.1 bt361.2.2.2)) else (none)) else (chequerref05_All.l0 k1 a0 a1 x7_1 x8_1 (wrap64 (x10_1 + 1)) t352 t353 t354 t355))) = some (r1, r2, r3) := H
          have A10 := Aside0.mk A100
          clear A100
          by_cases c11 : t356 = 2
          · rw [if_pos c11] at H
            have c11b0 : (t356 == 2) = true := beq_iff_eq.mpr c11
            have c11b1 : (t356 != 2) = false := bne_eq_false_iff_eq.mpr c11
            clear c11
            simp only [Option.some.injEq, Prod.mk.injEq] at H
            obtain ⟨rfl, rfl, rfl⟩ := H
            try go_wp2
            (try (rw [drewN_self wr]; generalize hq_ : World.drewN wr _ = wr; have n0_ : Aside0 (Kd.R (Kd.int .i64) 3 wr w.heap.size (fun _ => True) u7 x7_1) := ⟨by rw [← hq_]; exact (by (with_reducible repeat (first | apply Kd.R_alloc | apply Kd.R_drewN | apply Kd.R_drew)); exact HO_7.out)⟩; have n1_ : Aside0 (wr.heap[gb351]? = some (.cells #[.int .i64 x352000_1, .int .i64 x352001_1, .int .i64 x352002_1, .int .i64 x352003_1] 38 (0, 0))) := ⟨by rw [← hq_]; exact (by (with_reducible repeat (first | refine blk_drewN ?_ _ | refine blk_drew ?_ | refine blk_alloc ?_ _)); exact BK351.out)⟩; have n2_ : Aside0 (Below w.heap.size w wr) := ⟨by rw [← hq_]; exact (by repeat (first | (with_reducible first | exact HB.out | apply below_alloc | apply pw_below_drewN | apply below_drew1 | refine below_set ?_ GE351.out) | exact HB.out))⟩; clear HO_7 BK351 HB hq_; have HO_7 := n0_; have BK351 := n1_; have HB := n2_; clear n0_ n1_ n2_))
            have n0_ := Aside0.mk (Kd.R_drew HO_7.out)
            have n1_ := Aside0.mk (blk_drew BK351.out)
            have n2_ := Aside0.mk (below_drew1 HB.out)
            clear HO_7
            clear BK351
            clear HB
            have HO_7 := n0_
            have BK351 := n1_
            have HB := n2_
            clear n0_ n1_ n2_
            have p9 : 0 ≤ (x10_1 : Int) := of_decide_eq_true (by first | (with_reducible assumption) | assumption)
            have q9 : x10_1 < (a0.size : Int) := of_decide_eq_true (by first | (with_reducible assumption) | assumption)
            have hx9 := bt_at a0 x10_1
            replace p9 := eq_true p9
            replace q9 := eq_true q9
            refine start_ (n := 11) (S := fun w' => w'.cell? ⟨gb351, 0, none⟩ = some (.int .i64 x352000_1) ∧ w'.cell? ⟨gb351, 1, none⟩ = some (.int .i64 x352001_1) ∧ w'.cell? ⟨gb351, 2, none⟩ = some (.int .i64 x352002_1) ∧ w'.cell? ⟨gb351, 3, none⟩ = some (.int .i64 x352003_1)) (ds := []) #[false, false, false, false, false, false, false, false, false, false, false] (by kernel_rfl) rfl rfl ⟨(blk_cell BK351.out 0).trans rfl, (blk_cell BK351.out 1).trans rfl, (blk_cell BK351.out 2).trans rfl, (blk_cell BK351.out 3).trans rfl⟩ (fun hHeld => ?_); refine with_tabW chequerref05_All.tab7 chequerref05_All.bits7 (fun HT_ HW_ => ?_)
            generalize wr.drew = w12 at HO_7 BK351 HB hHeld ⊢
            refine pure_ (i := 1) (N := some 23) (v := ?_) (a' := ?_) #[false, true, false, false, false, false, false, false, false, false, false] rfl rfl (any_of HT_.out (by kernel_rfl)) (fun _ _ _ h => h) (Or.inl ⟨by rfl, ?_⟩) ?_ ?_
            rotate_left
            · intro w'
              go_simp
              with_reducible rfl
            rotate_left
            · simp only [Act.put, List.setIfInBounds_toArray, List.set_cons_zero, List.set_cons_succ, i64_w, i32_w]
              rfl
            refine pure_ (i := 2) (N := some 24) (v := ?_) (a' := ?_) #[false, true, true, false, false, false, false, false, false, false, false] rfl rfl (any_of HT_.out (by kernel_rfl)) (fun _ _ _ h => h) (Or.inl ⟨by rfl, ?_⟩) ?_ ?_
            rotate_left
            · intro w'
              go_simp
              with_reducible rfl
            rotate_left
            · simp only [Act.put, List.setIfInBounds_toArray, List.set_cons_zero, List.set_cons_succ, i64_w, i32_w]
              rfl
            refine take_ (i := 0) (N := some 22) (v := ?_) (a' := ?_) #[true, true, true, false, false, false, false, false, false, false, false] rfl rfl (take_ofW HT_.out HW_.out (by kernel_rfl)) (fun _ _ _ h => h) (Or.inl ⟨by rfl, ?_⟩) hHeld ?_ ?_
            rotate_left
            · rintro w' ⟨s0, s1, s2, s3⟩
              go_simp
              with_reducible rfl
            rotate_left
            · simp only [Act.put, List.setIfInBounds_toArray, List.set_cons_zero, List.set_cons_succ, i64_w, i32_w]
              rfl
            refine take_ (i := 3) (N := some 25) (v := ?_) (a' := ?_) #[true, true, true, true, false, false, false, false, false, false, false] rfl rfl (take_ofW HT_.out HW_.out (by kernel_rfl)) (fun _ _ _ h => h) (Or.inl ⟨by rfl, ?_⟩) hHeld ?_ ?_
            rotate_left
            · rintro w' ⟨s0, s1, s2, s3⟩
              go_simp
              with_reducible rfl
            rotate_left
            · simp only [Act.put, List.setIfInBounds_toArray, List.set_cons_zero, List.set_cons_succ, i64_w, i32_w]
              rfl
            refine join_ (σ := Nat) 2 #[true, true, true, true, true, true, true, true, true, false, false] (fun s_ => [(26, .tuple #[.agg #[.int .i64 t352, .int .i64 t353, .int .i64 t354, .int .i64 t355], .int .i64 t356]), (11, .pointer (some ⟨s_, 0, none⟩)), (21, .tuple #[.agg #[.int .i64 t352, .int .i64 t353, .int .i64 t354, .int .i64 t355], .int .i64 t356]), (27, .agg #[.int .i64 t352, .int .i64 t353, .int .i64 t354, .int .i64 t355]), (28, .int .i64 t356)]) (fun s_ w' => (w'.cell? ⟨gb351, 0, none⟩ = some (.int .i64 x352000_1) ∧ w'.cell? ⟨gb351, 1, none⟩ = some (.int .i64 x352001_1) ∧ w'.cell? ⟨gb351, 2, none⟩ = some (.int .i64 x352002_1) ∧ w'.cell? ⟨gb351, 3, none⟩ = some (.int .i64 x352003_1)) ∧ (Kd.R (Kd.int .i64) 3 w' w.heap.size (fun _ => True) u7 x7_1) ∧ (w'.heap[gb351]? = some (.cells #[.int .i64 x352000_1, .int .i64 x352001_1, .int .i64 x352002_1, .int .i64 x352003_1] 38 (0, 0))) ∧ (w'.heap[s_]? = some (.cells #[.int .i64 0, .int .i64 0, .int .i64 0, .int .i64 0] 38 (0, 0))) ∧ (w.heap.size ≤ s_) ∧ (w.heap.size ≤ s_) ∧ (gb351 ≠ s_) ∧ (s_ ≠ gb351) ∧ (Below w.heap.size w w')) ?_ ?_
            rotate_left
            · intro hCont
              refine two_ (i := 4) (j := 8) (Ni := some 26) (Nj := some 11) #[true, true, true, true, true, false, false, false, false, false, false] #[true, true, true, true, false, false, false, false, true, false, false] rfl rfl rfl rfl (two_of HT_.out (by kernel_rfl)) (by decide) (by decide) (fun K hK => ?_) (fun K hK => ?_)
              · skip
                refine goes_ Try.func18 (by kernel_rfl) rfl #[.agg #[.int .i64 x352000_1, .int .i64 x352001_1, .int .i64 x352002_1, .int .i64 x352003_1], .int .u8 (bt a0 x10_1)] (by rfl) rfl rfl (by (try simp only [List.map_toArray, List.map_cons, List.map_nil]); first | done | rfl | (simp only [List.length_drop, List.length_take]; rfl)) ?_
                with_reducible refine (chequerref05_Put.calls k1 x352000_1 x352001_1 x352002_1 x352003_1 (bt a0 x10_1) t352 t353 t354 t355 t356 _ A10.out).mono ?_
                rintro e w13 ⟨rfl, hb⟩
                refine ⟨_, rfl, ?_⟩
                have n0_ := Aside0.mk (Kd.R_below (by (with_reducible repeat (first | apply Kd.R_alloc | apply Kd.R_drewN | apply Kd.R_drew)); exact HO_7.out) hb)
                have n1_ := Aside0.mk (blk_below (g := gb351) (o := .cells #[.int .i64 x352000_1, .int .i64 x352001_1, .int .i64 x352002_1, .int .i64 x352003_1] 38 (0, 0)) (by (with_reducible repeat (first | refine blk_drewN ?_ _ | refine blk_drew ?_ | refine blk_alloc ?_ _)); exact BK351.out) hb)
                have n2_ := Aside0.mk (below_step (by repeat (first | (with_reducible first | exact HB.out | apply below_alloc | apply pw_below_drewN | apply below_drew1 | refine below_set ?_ GE351.out) | exact HB.out)) hb)
                clear HO_7
                clear BK351
                clear HB
                have HO_7 := n0_
                have BK351 := n1_
                have HB := n2_
                clear n0_ n1_ n2_
                (try clear hb)
                (try clear hb2)
                (try clear hk)
                (try clear hi)
                refine hK.out _ _ ⟨(blk_cell BK351.out 0).trans rfl, (blk_cell BK351.out 1).trans rfl, (blk_cell BK351.out 2).trans rfl, (blk_cell BK351.out 3).trans rfl⟩ (fun hHeld => ?_)
                clear hK K
                refine norm_ (a' := ?_) ?_ ?_
                rotate_left
                · show Act.put _ (some 26) _ = _
                  simp only [Act.put, List.setIfInBounds_toArray, List.set_cons_zero, List.set_cons_succ, i64_w, i32_w]
                  rfl
                refine pure_ (i := 5) (N := some 21) (v := ?_) (a' := ?_) #[true, true, true, true, true, true, false, false, false, false, false] rfl rfl (any_of HT_.out (by kernel_rfl)) (fun _ _ _ h => h) (Or.inl ⟨by rfl, ?_⟩) ?_ ?_
                rotate_left
                · intro w'
                  go_simp
                  with_reducible rfl
                rotate_left
                · simp only [Act.put, List.setIfInBounds_toArray, List.set_cons_zero, List.set_cons_succ, i64_w, i32_w]
                  rfl
                refine pure_ (i := 6) (N := some 27) (v := ?_) (a' := ?_) #[true, true, true, true, true, true, true, false, false, false, false] rfl rfl (any_of HT_.out (by kernel_rfl)) (fun _ _ _ h => h) (Or.inl ⟨by rfl, ?_⟩) ?_ ?_
                rotate_left
                · intro w'
                  go_simp
                  with_reducible rfl
                rotate_left
                · simp only [Act.put, List.setIfInBounds_toArray, List.set_cons_zero, List.set_cons_succ, i64_w, i32_w]
                  rfl
                refine pure_ (i := 7) (N := some 28) (v := ?_) (a' := ?_) #[true, true, true, true, true, true, true, true, false, false, false] rfl rfl (any_of HT_.out (by kernel_rfl)) (fun _ _ _ h => h) (Or.inl ⟨by rfl, ?_⟩) ?_ ?_
                rotate_left
                · intro w'
                  go_simp
                  with_reducible rfl
                rotate_left
                · simp only [Act.put, List.setIfInBounds_toArray, List.set_cons_zero, List.set_cons_succ, i64_w, i32_w]
                  rfl
                refine one_ (i := 8) (N := some 11) #[true, true, true, true, true, true, true, true, true, false, false] rfl rfl (one_of HT_.out (by kernel_rfl)) (by decide) (fun K hK => ?_)
                refine box_step ?hg (N := 11) ?hd (cs := #[.int .i64 0, .int .i64 0, .int .i64 0, .int .i64 0]) (t := 38) ?hr ?_; (case hd => rfl); (case hg => rfl); (case hr => first | (go_simp; done) | (go_simp; rfl))
                intro gb357 hg w14 hbox hb
                have n0_ := Aside0.mk (Kd.R_below (by (with_reducible repeat (first | apply Kd.R_alloc | apply Kd.R_drewN | apply Kd.R_drew)); exact HO_7.out) hb)
                have n1_ := Aside0.mk (blk_below (g := gb351) (o := .cells #[.int .i64 x352000_1, .int .i64 x352001_1, .int .i64 x352002_1, .int .i64 x352003_1] 38 (0, 0)) (by (with_reducible repeat (first | refine blk_drewN ?_ _ | refine blk_drew ?_ | refine blk_alloc ?_ _)); exact BK351.out) hb)
                have n2_ := Aside0.mk (below_step (by repeat (first | (with_reducible first | exact HB.out | apply below_alloc | apply pw_below_drewN | apply below_drew1 | refine below_set ?_ GE351.out) | exact HB.out)) hb)
                have n3_ := Aside0.mk (hbox)
                have n4_ := Aside0.mk ((by rw [hg]; exact (below_size (by repeat (first | (with_reducible first | exact HB.out | apply below_alloc | apply pw_below_drewN | apply below_drew1 | refine below_set ?_ GE351.out) | exact HB.out))) : w.heap.size ≤ gb357))
                have n5_ := Aside0.mk ((by rw [hg]; exact (below_size (by repeat (first | (with_reducible first | exact HB.out | apply below_alloc | apply pw_below_drewN | apply below_drew1 | refine below_set ?_ GE351.out) | exact HB.out))) : w.heap.size ≤ gb357))
                have n6_ := Aside0.mk ((by rw [hg]; exact Nat.ne_of_lt (blk_lt (g := gb351) (o := .cells #[.int .i64 x352000_1, .int .i64 x352001_1, .int .i64 x352002_1, .int .i64 x352003_1] 38 (0, 0)) (by (with_reducible repeat (first | refine blk_drewN ?_ _ | refine blk_drew ?_ | refine blk_alloc ?_ _)); exact BK351.out)) : gb351 ≠ gb357))
                have n7_ := Aside0.mk ((by rw [hg]; exact Nat.ne_of_gt (blk_lt (g := gb351) (o := .cells #[.int .i64 x352000_1, .int .i64 x352001_1, .int .i64 x352002_1, .int .i64 x352003_1] 38 (0, 0)) (by (with_reducible repeat (first | refine blk_drewN ?_ _ | refine blk_drew ?_ | refine blk_alloc ?_ _)); exact BK351.out)) : gb357 ≠ gb351))
                clear HO_7
                clear BK351
                clear HB
                have HO_7 := n0_
                have BK351 := n1_
                have HB := n2_
                have BK357 := n3_
                have GW357 := n4_
                have GE357 := n5_
                have NB351_357 := n6_
                have NB357_351 := n7_
                clear n0_ n1_ n2_ n3_ n4_ n5_ n6_ n7_
                clear hb hbox hg
                refine hK.out _ _ ⟨(blk_cell BK351.out 0).trans rfl, (blk_cell BK351.out 1).trans rfl, (blk_cell BK351.out 2).trans rfl, (blk_cell BK351.out 3).trans rfl⟩ (fun hHeld => ?_)
                clear hK K
                refine norm_ (a' := ?_) ?_ ?_
                rotate_left
                · show Act.put _ (some 11) _ = _
                  simp only [Act.put, List.setIfInBounds_toArray, List.set_cons_zero, List.set_cons_succ, i64_w, i32_w]
                  rfl
                exact norm_ (by simp only [putAll, Act.put, List.setIfInBounds_toArray, List.set_cons_zero, List.set_cons_succ]) (hCont (gb357) _ ⟨hHeld, (by (with_reducible repeat (first | apply Kd.R_alloc | apply Kd.R_drewN | apply Kd.R_drew)); exact HO_7.out), (by (with_reducible repeat (first | refine blk_drewN ?_ _ | refine blk_drew ?_ | refine blk_alloc ?_ _)); exact BK351.out), (by (with_reducible repeat (first | refine blk_drewN ?_ _ | refine blk_drew ?_ | refine blk_alloc ?_ _)); exact BK357.out), GW357.out, GE357.out, NB351_357.out, NB357_351.out, (by repeat (first | (with_reducible first | exact HB.out | apply below_alloc | apply pw_below_drewN | apply below_drew1 | refine below_set ?_ GE351.out | refine below_set ?_ GE357.out) | exact HB.out))⟩)
              · skip
                refine box_step ?hg (N := 11) ?hd (cs := #[.int .i64 0, .int .i64 0, .int .i64 0, .int .i64 0]) (t := 38) ?hr ?_; (case hd => rfl); (case hg => rfl); (case hr => first | (go_simp; done) | (go_simp; rfl))
                intro gb357 hg w13 hbox hb
                have n0_ := Aside0.mk (Kd.R_below (by (with_reducible repeat (first | apply Kd.R_alloc | apply Kd.R_drewN | apply Kd.R_drew)); exact HO_7.out) hb)
                have n1_ := Aside0.mk (blk_below (g := gb351) (o := .cells #[.int .i64 x352000_1, .int .i64 x352001_1, .int .i64 x352002_1, .int .i64 x352003_1] 38 (0, 0)) (by (with_reducible repeat (first | refine blk_drewN ?_ _ | refine blk_drew ?_ | refine blk_alloc ?_ _)); exact BK351.out) hb)
                have n2_ := Aside0.mk (below_step (by repeat (first | (with_reducible first | exact HB.out | apply below_alloc | apply pw_below_drewN | apply below_drew1 | refine below_set ?_ GE351.out) | exact HB.out)) hb)
                have n3_ := Aside0.mk (hbox)
                have n4_ := Aside0.mk ((by rw [hg]; exact (below_size (by repeat (first | (with_reducible first | exact HB.out | apply below_alloc | apply pw_below_drewN | apply below_drew1 | refine below_set ?_ GE351.out) | exact HB.out))) : w.heap.size ≤ gb357))
                have n5_ := Aside0.mk ((by rw [hg]; exact (below_size (by repeat (first | (with_reducible first | exact HB.out | apply below_alloc | apply pw_below_drewN | apply below_drew1 | refine below_set ?_ GE351.out) | exact HB.out))) : w.heap.size ≤ gb357))
                have n6_ := Aside0.mk ((by rw [hg]; exact Nat.ne_of_lt (blk_lt (g := gb351) (o := .cells #[.int .i64 x352000_1, .int .i64 x352001_1, .int .i64 x352002_1, .int .i64 x352003_1] 38 (0, 0)) (by (with_reducible repeat (first | refine blk_drewN ?_ _ | refine blk_drew ?_ | refine blk_alloc ?_ _)); exact BK351.out)) : gb351 ≠ gb357))
                have n7_ := Aside0.mk ((by rw [hg]; exact Nat.ne_of_gt (blk_lt (g := gb351) (o := .cells #[.int .i64 x352000_1, .int .i64 x352001_1, .int .i64 x352002_1, .int .i64 x352003_1] 38 (0, 0)) (by (with_reducible repeat (first | refine blk_drewN ?_ _ | refine blk_drew ?_ | refine blk_alloc ?_ _)); exact BK351.out)) : gb357 ≠ gb351))
                clear HO_7
                clear BK351
                clear HB
                have HO_7 := n0_
                have BK351 := n1_
                have HB := n2_
                have BK357 := n3_
                have GW357 := n4_
                have GE357 := n5_
                have NB351_357 := n6_
                have NB357_351 := n7_
                clear n0_ n1_ n2_ n3_ n4_ n5_ n6_ n7_
                clear hb hbox hg
                refine hK.out _ _ ⟨(blk_cell BK351.out 0).trans rfl, (blk_cell BK351.out 1).trans rfl, (blk_cell BK351.out 2).trans rfl, (blk_cell BK351.out 3).trans rfl⟩ (fun hHeld => ?_)
                clear hK K
                refine norm_ (a' := ?_) ?_ ?_
                rotate_left
                · show Act.put _ (some 11) _ = _
                  simp only [Act.put, List.setIfInBounds_toArray, List.set_cons_zero, List.set_cons_succ, i64_w, i32_w]
                  rfl
                refine one_ (i := 4) (N := some 26) #[true, true, true, true, true, false, false, false, true, false, false] rfl rfl (one_of HT_.out (by kernel_rfl)) (by decide) (fun K hK => ?_)
                refine goes_ Try.func18 (by kernel_rfl) rfl #[.agg #[.int .i64 x352000_1, .int .i64 x352001_1, .int .i64 x352002_1, .int .i64 x352003_1], .int .u8 (bt a0 x10_1)] (by rfl) rfl rfl (by (try simp only [List.map_toArray, List.map_cons, List.map_nil]); first | done | rfl | (simp only [List.length_drop, List.length_take]; rfl)) ?_
                with_reducible refine (chequerref05_Put.calls k1 x352000_1 x352001_1 x352002_1 x352003_1 (bt a0 x10_1) t352 t353 t354 t355 t356 _ A10.out).mono ?_
                rintro e w14 ⟨rfl, hb⟩
                refine ⟨_, rfl, ?_⟩
                have n0_ := Aside0.mk (Kd.R_below (by (with_reducible repeat (first | apply Kd.R_alloc | apply Kd.R_drewN | apply Kd.R_drew)); exact HO_7.out) hb)
                have n1_ := Aside0.mk (blk_below (g := gb351) (o := .cells #[.int .i64 x352000_1, .int .i64 x352001_1, .int .i64 x352002_1, .int .i64 x352003_1] 38 (0, 0)) (by (with_reducible repeat (first | refine blk_drewN ?_ _ | refine blk_drew ?_ | refine blk_alloc ?_ _)); exact BK351.out) hb)
                have n2_ := Aside0.mk (blk_below (g := gb357) (o := .cells #[.int .i64 0, .int .i64 0, .int .i64 0, .int .i64 0] 38 (0, 0)) (by (with_reducible repeat (first | refine blk_drewN ?_ _ | refine blk_drew ?_ | refine blk_alloc ?_ _)); exact BK357.out) hb)
                have n3_ := Aside0.mk (below_step (by repeat (first | (with_reducible first | exact HB.out | apply below_alloc | apply pw_below_drewN | apply below_drew1 | refine below_set ?_ GE351.out | refine below_set ?_ GE357.out) | exact HB.out)) hb)
                clear HO_7
                clear BK351
                clear BK357
                clear HB
                have HO_7 := n0_
                have BK351 := n1_
                have BK357 := n2_
                have HB := n3_
                clear n0_ n1_ n2_ n3_
                (try clear hb)
                (try clear hb2)
                (try clear hk)
                (try clear hi)
                refine hK.out _ _ ⟨(blk_cell BK351.out 0).trans rfl, (blk_cell BK351.out 1).trans rfl, (blk_cell BK351.out 2).trans rfl, (blk_cell BK351.out 3).trans rfl⟩ (fun hHeld => ?_)
                clear hK K
                refine norm_ (a' := ?_) ?_ ?_
                rotate_left
                · show Act.put _ (some 26) _ = _
                  simp only [Act.put, List.setIfInBounds_toArray, List.set_cons_zero, List.set_cons_succ, i64_w, i32_w]
                  rfl
                refine pure_ (i := 5) (N := some 21) (v := ?_) (a' := ?_) #[true, true, true, true, true, true, false, false, true, false, false] rfl rfl (any_of HT_.out (by kernel_rfl)) (fun _ _ _ h => h) (Or.inl ⟨by rfl, ?_⟩) ?_ ?_
                rotate_left
                · intro w'
                  go_simp
                  with_reducible rfl
                rotate_left
                · simp only [Act.put, List.setIfInBounds_toArray, List.set_cons_zero, List.set_cons_succ, i64_w, i32_w]
                  rfl
                refine pure_ (i := 6) (N := some 27) (v := ?_) (a' := ?_) #[true, true, true, true, true, true, true, false, true, false, false] rfl rfl (any_of HT_.out (by kernel_rfl)) (fun _ _ _ h => h) (Or.inl ⟨by rfl, ?_⟩) ?_ ?_
                rotate_left
                · intro w'
                  go_simp
                  with_reducible rfl
                rotate_left
                · simp only [Act.put, List.setIfInBounds_toArray, List.set_cons_zero, List.set_cons_succ, i64_w, i32_w]
                  rfl
                refine pure_ (i := 7) (N := some 28) (v := ?_) (a' := ?_) #[true, true, true, true, true, true, true, true, true, false, false] rfl rfl (any_of HT_.out (by kernel_rfl)) (fun _ _ _ h => h) (Or.inl ⟨by rfl, ?_⟩) ?_ ?_
                rotate_left
                · intro w'
                  go_simp
                  with_reducible rfl
                rotate_left
                · simp only [Act.put, List.setIfInBounds_toArray, List.set_cons_zero, List.set_cons_succ, i64_w, i32_w]
                  rfl
                exact norm_ (by simp only [putAll, Act.put, List.setIfInBounds_toArray, List.set_cons_zero, List.set_cons_succ]) (hCont (gb357) _ ⟨hHeld, (by (with_reducible repeat (first | apply Kd.R_alloc | apply Kd.R_drewN | apply Kd.R_drew)); exact HO_7.out), (by (with_reducible repeat (first | refine blk_drewN ?_ _ | refine blk_drew ?_ | refine blk_alloc ?_ _)); exact BK351.out), (by (with_reducible repeat (first | refine blk_drewN ?_ _ | refine blk_drew ?_ | refine blk_alloc ?_ _)); exact BK357.out), GW357.out, GE357.out, NB351_357.out, NB357_351.out, (by repeat (first | (with_reducible first | exact HB.out | apply below_alloc | apply pw_below_drewN | apply below_drew1 | refine below_set ?_ GE351.out | refine below_set ?_ GE357.out) | exact HB.out))⟩)
            rintro gb357 w15 ⟨hS_, h0_, h1_, h2_, h3_, h4_, h5_, h6_, h7_⟩
            have n0_ : Aside0 (Kd.R (Kd.int .i64) 3 w15 w.heap.size (fun _ => True) u7 x7_1) := ⟨h0_⟩
            have n1_ : Aside0 (w15.heap[gb351]? = some (.cells #[.int .i64 x352000_1, .int .i64 x352001_1, .int .i64 x352002_1, .int .i64 x352003_1] 38 (0, 0))) := ⟨h1_⟩
            have n2_ : Aside0 (w15.heap[gb357]? = some (.cells #[.int .i64 0, .int .i64 0, .int .i64 0, .int .i64 0] 38 (0, 0))) := ⟨h2_⟩
            have n3_ : Aside0 (w.heap.size ≤ gb357) := ⟨h3_⟩
            have n4_ : Aside0 (w.heap.size ≤ gb357) := ⟨h4_⟩
            have n5_ : Aside0 (gb351 ≠ gb357) := ⟨h5_⟩
            have n6_ : Aside0 (gb357 ≠ gb351) := ⟨h6_⟩
            have n7_ : Aside0 (Below w.heap.size w w15) := ⟨h7_⟩
            clear HO_7
            clear BK351
            clear HB
            clear h0_ h1_ h2_ h3_ h4_ h5_ h6_ h7_
            have HO_7 := n0_
            have BK351 := n1_
            have BK357 := n2_
            have GW357 := n3_
            have GE357 := n4_
            have NB351_357 := n5_
            have NB357_351 := n6_
            have HB := n7_
            clear n0_ n1_ n2_ n3_ n4_ n5_ n6_ n7_
            have hHeld : w15.cell? ⟨gb351, 0, none⟩ = some (.int .i64 x352000_1) ∧ w15.cell? ⟨gb351, 1, none⟩ = some (.int .i64 x352001_1) ∧ w15.cell? ⟨gb351, 2, none⟩ = some (.int .i64 x352002_1) ∧ w15.cell? ⟨gb351, 3, none⟩ = some (.int .i64 x352003_1) := hS_
            refine norm_ (a' := ?_) ?_ ?_
            rotate_left
            · simp only [putAll, Act.put, List.setIfInBounds_toArray, List.set_cons_zero, List.set_cons_succ]
              rfl
            refine one_ (i := 9) (N := none) #[true, true, true, true, true, true, true, true, true, true, false] rfl rfl (one_of HT_.out (by kernel_rfl)) (by decide) (fun K hK => ?_)
            have hs16 : w15.cell? ⟨gb357, 0, none⟩ = some (.int .i64 0) := (blk_cell BK357.out 0).trans rfl
            have hfs16 := blk_frozen BK357.out 0
            have hns16_0 := NB351_357.out
            have hms16_0 := NB357_351.out
            have hs17 : w15.cell? ⟨gb357, 1, none⟩ = some (.int .i64 0) := (blk_cell BK357.out 1).trans rfl
            have hfs17 := blk_frozen BK357.out 1
            have hns17_0 := NB351_357.out
            have hms17_0 := NB357_351.out
            have hs18 : w15.cell? ⟨gb357, 2, none⟩ = some (.int .i64 0) := (blk_cell BK357.out 2).trans rfl
            have hfs18 := blk_frozen BK357.out 2
            have hns18_0 := NB351_357.out
            have hms18_0 := NB357_351.out
            have hs19 : w15.cell? ⟨gb357, 3, none⟩ = some (.int .i64 0) := (blk_cell BK357.out 3).trans rfl
            have hfs19 := blk_frozen BK357.out 3
            have hns19_0 := NB351_357.out
            have hms19_0 := NB357_351.out
            refine skip_ (w1 := ?_) (by rfl) rfl ?_ ?_
            rotate_left
            · go_simp
              rfl
            refine hK.out _ _ ⟨((cell_far (p := ⟨gb357, _, none⟩) NB351_357.out _).trans (((cell_far (p := ⟨gb357, _, none⟩) NB351_357.out _).trans (((cell_far (p := ⟨gb357, _, none⟩) NB351_357.out _).trans (((cell_far (p := ⟨gb357, _, none⟩) NB351_357.out _).trans (hHeld.1)))))))), ((cell_far (p := ⟨gb357, _, none⟩) NB351_357.out _).trans (((cell_far (p := ⟨gb357, _, none⟩) NB351_357.out _).trans (((cell_far (p := ⟨gb357, _, none⟩) NB351_357.out _).trans (((cell_far (p := ⟨gb357, _, none⟩) NB351_357.out _).trans (hHeld.2.1)))))))), ((cell_far (p := ⟨gb357, _, none⟩) NB351_357.out _).trans (((cell_far (p := ⟨gb357, _, none⟩) NB351_357.out _).trans (((cell_far (p := ⟨gb357, _, none⟩) NB351_357.out _).trans (((cell_far (p := ⟨gb357, _, none⟩) NB351_357.out _).trans (hHeld.2.2.1)))))))), ((cell_far (p := ⟨gb357, _, none⟩) NB351_357.out _).trans (((cell_far (p := ⟨gb357, _, none⟩) NB351_357.out _).trans (((cell_far (p := ⟨gb357, _, none⟩) NB351_357.out _).trans (((cell_far (p := ⟨gb357, _, none⟩) NB351_357.out _).trans (hHeld.2.2.2))))))))⟩ (fun hHeld => ?_)
            clear hK K
            refine pure_ (i := 10) (N := some 12) (v := ?_) (a' := ?_) #[true, true, true, true, true, true, true, true, true, true, true] rfl rfl (any_of HT_.out (by kernel_rfl)) (fun _ _ _ h => h) (Or.inl ⟨by rfl, ?_⟩) ?_ ?_
            rotate_left
            · intro w'
              go_simp
              with_reducible rfl
            rotate_left
            · simp only [Act.put, List.setIfInBounds_toArray, List.set_cons_zero, List.set_cons_succ, i64_w, i32_w]
              rfl
            refine done_ (done_of HT_.out (by kernel_rfl)) ?_
            have hnb20 := NB357_351.out
            have hnc20 := NB351_357.out
            have hcz21_0 : w15.cell? ⟨gb357, 0, none⟩ = some (.int .i64 0) := (blk_cell BK357.out 0).trans rfl
            have hcz21_1 : w15.cell? ⟨gb357, 1, none⟩ = some (.int .i64 0) := (blk_cell BK357.out 1).trans rfl
            have hcz21_2 : w15.cell? ⟨gb357, 2, none⟩ = some (.int .i64 0) := (blk_cell BK357.out 2).trans rfl
            have hcz21_3 : w15.cell? ⟨gb357, 3, none⟩ = some (.int .i64 0) := (blk_cell BK357.out 3).trans rfl
            have hfz21_0 := blk_frozen BK357.out 0
            have hfz21_1 := blk_frozen BK357.out 1
            have hfz21_2 := blk_frozen BK357.out 2
            have hfz21_3 := blk_frozen BK357.out 3
            have hcz22_0 : w15.cell? ⟨gb351, 0, none⟩ = some (.int .i64 x352000_1) := (blk_cell BK351.out 0).trans rfl
            have hcz22_1 : w15.cell? ⟨gb351, 1, none⟩ = some (.int .i64 x352001_1) := (blk_cell BK351.out 1).trans rfl
            have hcz22_2 : w15.cell? ⟨gb351, 2, none⟩ = some (.int .i64 x352002_1) := (blk_cell BK351.out 2).trans rfl
            have hcz22_3 : w15.cell? ⟨gb351, 3, none⟩ = some (.int .i64 x352003_1) := (blk_cell BK351.out 3).trans rfl
            have hfz22_0 := blk_frozen BK351.out 0
            have hfz22_1 := blk_frozen BK351.out 1
            have hfz22_2 := blk_frozen BK351.out 2
            have hfz22_3 := blk_frozen BK351.out 3
            try go_wp2
            have n0_ : Aside0 (Kd.R (Kd.int .i64) 3 ((((((((w15.setCell ⟨gb357, 0, none⟩ (.int .i64 t352)).setCell ⟨gb357, 1, none⟩ (.int .i64 t353)).setCell ⟨gb357, 2, none⟩ (.int .i64 t354)).setCell ⟨gb357, 3, none⟩ (.int .i64 t355)).setCell ⟨gb351, 0, none⟩ (.int .i64 t352)).setCell ⟨gb351, 1, none⟩ (.int .i64 t353)).setCell ⟨gb351, 2, none⟩ (.int .i64 t354)).setCell ⟨gb351, 3, none⟩ (.int .i64 t355)) w.heap.size (fun _ => True) u7 x7_1) := ⟨by (with_reducible repeat (first | apply Kd.R_alloc | apply Kd.R_drewN | apply Kd.R_drew)); exact Kd.R_mono (Kd.R_far (p := ⟨gb351, 3, none⟩) (Kd.R_far (p := ⟨gb351, 2, none⟩) (Kd.R_far (p := ⟨gb351, 1, none⟩) (Kd.R_far (p := ⟨gb351, 0, none⟩) (Kd.R_far (p := ⟨gb357, 3, none⟩) (Kd.R_far (p := ⟨gb357, 2, none⟩) (Kd.R_far (p := ⟨gb357, 1, none⟩) (Kd.R_far (p := ⟨gb357, 0, none⟩) (Kd.R_types (Kd.R_types HO_7.out BK357.out (by decide)) BK351.out (by decide)) (fun _ hk => hk.1.2) (.int .i64 t352)) (fun _ hk => hk.1.2) (.int .i64 t353)) (fun _ hk => hk.1.2) (.int .i64 t354)) (fun _ hk => hk.1.2) (.int .i64 t355)) (fun _ hk => hk.2) (.int .i64 t352)) (fun _ hk => hk.2) (.int .i64 t353)) (fun _ hk => hk.2) (.int .i64 t354)) (fun _ hk => hk.2) (.int .i64 t355)) (fun _ hk => trivial)⟩
            have n1_ : Aside0 (((((((((w15.setCell ⟨gb357, 0, none⟩ (.int .i64 t352)).setCell ⟨gb357, 1, none⟩ (.int .i64 t353)).setCell ⟨gb357, 2, none⟩ (.int .i64 t354)).setCell ⟨gb357, 3, none⟩ (.int .i64 t355)).setCell ⟨gb351, 0, none⟩ (.int .i64 t352)).setCell ⟨gb351, 1, none⟩ (.int .i64 t353)).setCell ⟨gb351, 2, none⟩ (.int .i64 t354)).setCell ⟨gb351, 3, none⟩ (.int .i64 t355)).heap[gb351]? = some (.cells #[.int .i64 t352, .int .i64 t353, .int .i64 t354, .int .i64 t355] 38 (0, 0))) := ⟨by (with_reducible repeat (first | refine blk_drewN ?_ _ | refine blk_drew ?_ | refine blk_alloc ?_ _)); refine blk_put (cs := #[.int .i64 t352, .int .i64 t353, .int .i64 t354, .int .i64 x352003_1]) ?_ 3 _ rfl; (with_reducible repeat (first | refine blk_drewN ?_ _ | refine blk_drew ?_ | refine blk_alloc ?_ _)); refine blk_put (cs := #[.int .i64 t352, .int .i64 t353, .int .i64 x352002_1, .int .i64 x352003_1]) ?_ 2 _ rfl; (with_reducible repeat (first | refine blk_drewN ?_ _ | refine blk_drew ?_ | refine blk_alloc ?_ _)); refine blk_put (cs := #[.int .i64 t352, .int .i64 x352001_1, .int .i64 x352002_1, .int .i64 x352003_1]) ?_ 1 _ rfl; (with_reducible repeat (first | refine blk_drewN ?_ _ | refine blk_drew ?_ | refine blk_alloc ?_ _)); refine blk_put (cs := #[.int .i64 x352000_1, .int .i64 x352001_1, .int .i64 x352002_1, .int .i64 x352003_1]) ?_ 0 _ rfl; (with_reducible repeat (first | refine blk_drewN ?_ _ | refine blk_drew ?_ | refine blk_alloc ?_ _)); refine blk_far ?_ NB351_357.out _; (with_reducible repeat (first | refine blk_drewN ?_ _ | refine blk_drew ?_ | refine blk_alloc ?_ _)); refine blk_far ?_ NB351_357.out _; (with_reducible repeat (first | refine blk_drewN ?_ _ | refine blk_drew ?_ | refine blk_alloc ?_ _)); refine blk_far ?_ NB351_357.out _; (with_reducible repeat (first | refine blk_drewN ?_ _ | refine blk_drew ?_ | refine blk_alloc ?_ _)); refine blk_far ?_ NB351_357.out _; (with_reducible repeat (first | refine blk_drewN ?_ _ | refine blk_drew ?_ | refine blk_alloc ?_ _)); exact BK351.out⟩
            have n2_ : Aside0 (((((((((w15.setCell ⟨gb357, 0, none⟩ (.int .i64 t352)).setCell ⟨gb357, 1, none⟩ (.int .i64 t353)).setCell ⟨gb357, 2, none⟩ (.int .i64 t354)).setCell ⟨gb357, 3, none⟩ (.int .i64 t355)).setCell ⟨gb351, 0, none⟩ (.int .i64 t352)).setCell ⟨gb351, 1, none⟩ (.int .i64 t353)).setCell ⟨gb351, 2, none⟩ (.int .i64 t354)).setCell ⟨gb351, 3, none⟩ (.int .i64 t355)).heap[gb357]? = some (.cells #[.int .i64 t352, .int .i64 t353, .int .i64 t354, .int .i64 t355] 38 (0, 0))) := ⟨by (with_reducible repeat (first | refine blk_drewN ?_ _ | refine blk_drew ?_ | refine blk_alloc ?_ _)); refine blk_far ?_ NB357_351.out _; (with_reducible repeat (first | refine blk_drewN ?_ _ | refine blk_drew ?_ | refine blk_alloc ?_ _)); refine blk_far ?_ NB357_351.out _; (with_reducible repeat (first | refine blk_drewN ?_ _ | refine blk_drew ?_ | refine blk_alloc ?_ _)); refine blk_far ?_ NB357_351.out _; (with_reducible repeat (first | refine blk_drewN ?_ _ | refine blk_drew ?_ | refine blk_alloc ?_ _)); refine blk_far ?_ NB357_351.out _; (with_reducible repeat (first | refine blk_drewN ?_ _ | refine blk_drew ?_ | refine blk_alloc ?_ _)); refine blk_put (cs := #[.int .i64 t352, .int .i64 t353, .int .i64 t354, .int .i64 0]) ?_ 3 _ rfl; (with_reducible repeat (first | refine blk_drewN ?_ _ | refine blk_drew ?_ | refine blk_alloc ?_ _)); refine blk_put (cs := #[.int .i64 t352, .int .i64 t353, .int .i64 0, .int .i64 0]) ?_ 2 _ rfl; (with_reducible repeat (first | refine blk_drewN ?_ _ | refine blk_drew ?_ | refine blk_alloc ?_ _)); refine blk_put (cs := #[.int .i64 t352, .int .i64 0, .int .i64 0, .int .i64 0]) ?_ 1 _ rfl; (with_reducible repeat (first | refine blk_drewN ?_ _ | refine blk_drew ?_ | refine blk_alloc ?_ _)); refine blk_put (cs := #[.int .i64 0, .int .i64 0, .int .i64 0, .int .i64 0]) ?_ 0 _ rfl; (with_reducible repeat (first | refine blk_drewN ?_ _ | refine blk_drew ?_ | refine blk_alloc ?_ _)); exact BK357.out⟩
            have n3_ : Aside0 (Below w.heap.size w ((((((((w15.setCell ⟨gb357, 0, none⟩ (.int .i64 t352)).setCell ⟨gb357, 1, none⟩ (.int .i64 t353)).setCell ⟨gb357, 2, none⟩ (.int .i64 t354)).setCell ⟨gb357, 3, none⟩ (.int .i64 t355)).setCell ⟨gb351, 0, none⟩ (.int .i64 t352)).setCell ⟨gb351, 1, none⟩ (.int .i64 t353)).setCell ⟨gb351, 2, none⟩ (.int .i64 t354)).setCell ⟨gb351, 3, none⟩ (.int .i64 t355))) := ⟨by repeat (first | (with_reducible first | exact HB.out | apply below_alloc | apply pw_below_drewN | apply below_drew1 | refine below_set ?_ GE351.out | refine below_set ?_ GE357.out) | exact HB.out)⟩
            (try clear HO_7)
            (try clear BK351)
            (try clear BK357)
            (try clear HB)
            generalize ((((((((w15.setCell ⟨gb357, 0, none⟩ (.int .i64 t352)).setCell ⟨gb357, 1, none⟩ (.int .i64 t353)).setCell ⟨gb357, 2, none⟩ (.int .i64 t354)).setCell ⟨gb357, 3, none⟩ (.int .i64 t355)).setCell ⟨gb351, 0, none⟩ (.int .i64 t352)).setCell ⟨gb351, 1, none⟩ (.int .i64 t353)).setCell ⟨gb351, 2, none⟩ (.int .i64 t354)).setCell ⟨gb351, 3, none⟩ (.int .i64 t355)) = w23 at n0_ n1_ n2_ n3_ ⊢
            have HO_7 := n0_
            have BK351 := n1_
            have BK357 := n2_
            have HB := n3_
            clear n0_ n1_ n2_ n3_
            have n0_ := Aside0.mk (Kd.R_drew HO_7.out)
            have n1_ := Aside0.mk (blk_drew BK351.out)
            have n2_ := Aside0.mk (blk_drew BK357.out)
            have n3_ := Aside0.mk (below_drew1 HB.out)
            clear HO_7
            clear BK351
            clear BK357
            clear HB
            have HO_7 := n0_
            have BK351 := n1_
            have BK357 := n2_
            have HB := n3_
            clear n0_ n1_ n2_ n3_
            refine start_ (n := 7) (S := fun w' => w'.cell? ⟨gb351, 0, none⟩ = some (.int .i64 t352) ∧ w'.cell? ⟨gb351, 1, none⟩ = some (.int .i64 t353) ∧ w'.cell? ⟨gb351, 2, none⟩ = some (.int .i64 t354) ∧ w'.cell? ⟨gb351, 3, none⟩ = some (.int .i64 t355)) (ds := []) #[false, false, false, false, false, false, false] (by kernel_rfl) rfl rfl ⟨(blk_cell BK351.out 0).trans rfl, (blk_cell BK351.out 1).trans rfl, (blk_cell BK351.out 2).trans rfl, (blk_cell BK351.out 3).trans rfl⟩ (fun hHeld => ?_)
            generalize w23.drew = w24 at HO_7 BK351 BK357 HB hHeld ⊢
            refine pure_ (i := 0) (N := some 32) (v := ?_) (a' := ?_) #[true, false, false, false, false, false, false] rfl rfl (by kernel_rfl) (fun _ _ _ h => h) (Or.inl ⟨by rfl, ?_⟩) ?_ ?_
            rotate_left
            · intro w'
              go_simp
              with_reducible rfl
            rotate_left
            · simp only [Act.put, List.setIfInBounds_toArray, List.set_cons_zero, List.set_cons_succ, i64_w, i32_w]
              rfl
            refine pure_ (i := 1) (N := some 33) (v := ?_) (a' := ?_) #[true, true, false, false, false, false, false] rfl rfl (by kernel_rfl) (fun _ _ _ h => h) (Or.inl ⟨by rfl, ?_⟩) ?_ ?_
            rotate_left
            · intro w'
              go_simp
              with_reducible rfl
            rotate_left
            · simp only [Act.put, List.setIfInBounds_toArray, List.set_cons_zero, List.set_cons_succ, i64_w, i32_w]
              rfl
            refine pure_ (i := 2) (N := some 34) (v := ?_) (a' := ?_) #[true, true, true, false, false, false, false] rfl rfl (by kernel_rfl) (fun _ _ _ h => h) (Or.inl ⟨by rfl, ?_⟩) ?_ ?_
            rotate_left
            · intro w'
              go_simp
              with_reducible rfl
            rotate_left
            · simp only [Act.put, List.setIfInBounds_toArray, List.set_cons_zero, List.set_cons_succ, i64_w, i32_w]
              rfl
            refine pure_ (i := 4) (N := some 4) (v := ?_) (a' := ?_) #[true, true, true, false, true, false, false] rfl rfl (by kernel_rfl) (fun _ _ _ h => h) (Or.inl ⟨by rfl, ?_⟩) ?_ ?_
            rotate_left
            · intro w'
              go_simp
              with_reducible rfl
            rotate_left
            · simp only [Act.put, List.setIfInBounds_toArray, List.set_cons_zero, List.set_cons_succ, i64_w, i32_w]
              rfl
            refine pure_ (i := 5) (N := some 5) (v := ?_) (a' := ?_) #[true, true, true, false, true, true, false] rfl rfl (by kernel_rfl) (fun _ _ _ h => h) (Or.inl ⟨by rfl, ?_⟩) ?_ ?_
            rotate_left
            · intro w'
              go_simp
              with_reducible rfl
            rotate_left
            · simp only [Act.put, List.setIfInBounds_toArray, List.set_cons_zero, List.set_cons_succ, i64_w, i32_w]
              rfl
            refine take_ (i := 3) (N := some 35) (v := ?_) (a' := ?_) #[true, true, true, true, true, true, false] rfl rfl (by kernel_rfl) (fun _ _ _ h => h) (Or.inl ⟨by rfl, ?_⟩) hHeld ?_ ?_
            rotate_left
            · rintro w' ⟨s0, s1, s2, s3⟩
              go_simp
              with_reducible rfl
            rotate_left
            · simp only [Act.put, List.setIfInBounds_toArray, List.set_cons_zero, List.set_cons_succ, i64_w, i32_w]
              rfl
            refine pure_ (i := 6) (N := some 6) (v := ?_) (a' := ?_) #[true, true, true, true, true, true, true] rfl rfl (by kernel_rfl) (fun _ _ _ h => h) (Or.inl ⟨by rfl, ?_⟩) ?_ ?_
            rotate_left
            · intro w'
              go_simp
              with_reducible rfl
            rotate_left
            · simp only [Act.put, List.setIfInBounds_toArray, List.set_cons_zero, List.set_cons_succ, i64_w, i32_w]
              rfl
            refine done_ (by kernel_rfl) ?_
            try go_wp2
            go_ret3
            exact ⟨_, by first | rfl | (simp [errW_none, errW_some] <;> rfl) | (simp [*, errW_none, errW_some] <;> rfl), by (with_reducible repeat (first | apply Kd.R_alloc | apply Kd.R_drewN | apply Kd.R_drew)); exact HO_7.out, by repeat (first | (with_reducible first | exact HB.out | apply below_alloc | apply pw_below_drewN | apply below_drew1 | refine below_set ?_ GE351.out | refine below_set ?_ GE357.out) | exact HB.out)⟩
          · rw [if_neg c11] at H
            have c11b0 : (t356 == 2) = false := beq_eq_false_iff_ne.mpr c11
            have c11b1 : (t356 != 2) = true := bne_iff_ne.mpr c11
            by_cases c25 : t356 = 1
            · rw [if_pos c25] at H
              have c25b0 : (t356 == 1) = true := beq_iff_eq.mpr c25
              have c25b1 : (t356 != 1) = false := bne_eq_false_iff_eq.mpr c25
              clear c25
              by_cases c26 : x7_1.length < 17592186044416
              · rw [if_pos c26] at H
                have LMc26 := Aside0.mk c26
                clear c26
                obtain ⟨y358, hy358⟩ : ∃ y_ : List Int, y_ = (x7_1 ++ [t353]) := ⟨_, rfl⟩
                replace H : ((chequerref05_New.f a1).bind fun bt361 => (chequerref05_All.l0 k1 a0 a1 y358 (wrap64 (x10_1 + 1)) (wrap64 (x10_1 + 1)) bt361.1 bt361.2.1 bt361.2.2.1 bt361.2.2.2)) = some (r1, r2, r3) := by first | (rw [hy358]; with_reducible exact H) | (have H2_ := (Option.bind_some _ _).symm.trans H; rw [hy358]; with_reducible exact H2_) | (have H2_ := (Option.bind_some _ _).symm.trans H; with_reducible exact H2_) | with_reducible exact H | (rw [hy358]; exact H) | exact H
                have Ny358 := Aside0.mk hy358
                clear hy358
                replace H := Option.bind_eq_some_iff.mp H
                obtain ⟨⟨t361, t362, t363, t364⟩, A270, H⟩ := H
                replace H : (chequerref05_All.l0 k1 a0 a1 y358 (wrap64 (x10_1 + 1)) (wrap64 (x10_1 + 1)) t361 t362 t363 t364) = some (r1, r2, r3) := H
                have A27 := Aside0.mk A270
                clear A270
                have H' := Aside0.mk H
                clear H
                try go_wp2
                (try (rw [drewN_self wr]; generalize hq_ : World.drewN wr _ = wr; have n0_ : Aside0 (Kd.R (Kd.int .i64) 3 wr w.heap.size (fun _ => True) u7 x7_1) := ⟨by rw [← hq_]; exact (by (with_reducible repeat (first | apply Kd.R_alloc | apply Kd.R_drewN | apply Kd.R_drew)); exact HO_7.out)⟩; have n1_ : Aside0 (wr.heap[gb351]? = some (.cells #[.int .i64 x352000_1, .int .i64 x352001_1, .int .i64 x352002_1, .int .i64 x352003_1] 38 (0, 0))) := ⟨by rw [← hq_]; exact (by (with_reducible repeat (first | refine blk_drewN ?_ _ | refine blk_drew ?_ | refine blk_alloc ?_ _)); exact BK351.out)⟩; have n2_ : Aside0 (Below w.heap.size w wr) := ⟨by rw [← hq_]; exact (by repeat (first | (with_reducible first | exact HB.out | apply below_alloc | apply pw_below_drewN | apply below_drew1 | refine below_set ?_ GE351.out) | exact HB.out))⟩; clear HO_7 BK351 HB hq_; have HO_7 := n0_; have BK351 := n1_; have HB := n2_; clear n0_ n1_ n2_))
                have n0_ := Aside0.mk (Kd.R_drew HO_7.out)
                have n1_ := Aside0.mk (blk_drew BK351.out)
                have n2_ := Aside0.mk (below_drew1 HB.out)
                clear HO_7
                clear BK351
                clear HB
                have HO_7 := n0_
                have BK351 := n1_
                have HB := n2_
                clear n0_ n1_ n2_
                have p9 : 0 ≤ (x10_1 : Int) := of_decide_eq_true (by first | (with_reducible assumption) | assumption)
                have q9 : x10_1 < (a0.size : Int) := of_decide_eq_true (by first | (with_reducible assumption) | assumption)
                have hx9 := bt_at a0 x10_1
                replace p9 := eq_true p9
                replace q9 := eq_true q9
                refine start_ (n := 11) (S := fun w' => w'.cell? ⟨gb351, 0, none⟩ = some (.int .i64 x352000_1) ∧ w'.cell? ⟨gb351, 1, none⟩ = some (.int .i64 x352001_1) ∧ w'.cell? ⟨gb351, 2, none⟩ = some (.int .i64 x352002_1) ∧ w'.cell? ⟨gb351, 3, none⟩ = some (.int .i64 x352003_1)) (ds := []) #[false, false, false, false, false, false, false, false, false, false, false] (by kernel_rfl) rfl rfl ⟨(blk_cell BK351.out 0).trans rfl, (blk_cell BK351.out 1).trans rfl, (blk_cell BK351.out 2).trans rfl, (blk_cell BK351.out 3).trans rfl⟩ (fun hHeld => ?_); refine with_tabW chequerref05_All.tab7 chequerref05_All.bits7 (fun HT_ HW_ => ?_)
                generalize wr.drew = w28 at HO_7 BK351 HB hHeld ⊢
                refine pure_ (i := 1) (N := some 23) (v := ?_) (a' := ?_) #[false, true, false, false, false, false, false, false, false, false, false] rfl rfl (any_of HT_.out (by kernel_rfl)) (fun _ _ _ h => h) (Or.inl ⟨by rfl, ?_⟩) ?_ ?_
                rotate_left
                · intro w'
                  go_simp
                  with_reducible rfl
                rotate_left
                · simp only [Act.put, List.setIfInBounds_toArray, List.set_cons_zero, List.set_cons_succ, i64_w, i32_w]
                  rfl
                refine pure_ (i := 2) (N := some 24) (v := ?_) (a' := ?_) #[false, true, true, false, false, false, false, false, false, false, false] rfl rfl (any_of HT_.out (by kernel_rfl)) (fun _ _ _ h => h) (Or.inl ⟨by rfl, ?_⟩) ?_ ?_
                rotate_left
                · intro w'
                  go_simp
                  with_reducible rfl
                rotate_left
                · simp only [Act.put, List.setIfInBounds_toArray, List.set_cons_zero, List.set_cons_succ, i64_w, i32_w]
                  rfl
                refine take_ (i := 0) (N := some 22) (v := ?_) (a' := ?_) #[true, true, true, false, false, false, false, false, false, false, false] rfl rfl (take_ofW HT_.out HW_.out (by kernel_rfl)) (fun _ _ _ h => h) (Or.inl ⟨by rfl, ?_⟩) hHeld ?_ ?_
                rotate_left
                · rintro w' ⟨s0, s1, s2, s3⟩
                  go_simp
                  with_reducible rfl
                rotate_left
                · simp only [Act.put, List.setIfInBounds_toArray, List.set_cons_zero, List.set_cons_succ, i64_w, i32_w]
                  rfl
                refine take_ (i := 3) (N := some 25) (v := ?_) (a' := ?_) #[true, true, true, true, false, false, false, false, false, false, false] rfl rfl (take_ofW HT_.out HW_.out (by kernel_rfl)) (fun _ _ _ h => h) (Or.inl ⟨by rfl, ?_⟩) hHeld ?_ ?_
                rotate_left
                · rintro w' ⟨s0, s1, s2, s3⟩
                  go_simp
                  with_reducible rfl
                rotate_left
                · simp only [Act.put, List.setIfInBounds_toArray, List.set_cons_zero, List.set_cons_succ, i64_w, i32_w]
                  rfl
                refine join_ (σ := Nat) 2 #[true, true, true, true, true, true, true, true, true, false, false] (fun s_ => [(26, .tuple #[.agg #[.int .i64 t352, .int .i64 t353, .int .i64 t354, .int .i64 t355], .int .i64 t356]), (11, .pointer (some ⟨s_, 0, none⟩)), (21, .tuple #[.agg #[.int .i64 t352, .int .i64 t353, .int .i64 t354, .int .i64 t355], .int .i64 t356]), (27, .agg #[.int .i64 t352, .int .i64 t353, .int .i64 t354, .int .i64 t355]), (28, .int .i64 t356)]) (fun s_ w' => (w'.cell? ⟨gb351, 0, none⟩ = some (.int .i64 x352000_1) ∧ w'.cell? ⟨gb351, 1, none⟩ = some (.int .i64 x352001_1) ∧ w'.cell? ⟨gb351, 2, none⟩ = some (.int .i64 x352002_1) ∧ w'.cell? ⟨gb351, 3, none⟩ = some (.int .i64 x352003_1)) ∧ (Kd.R (Kd.int .i64) 3 w' w.heap.size (fun _ => True) u7 x7_1) ∧ (w'.heap[gb351]? = some (.cells #[.int .i64 x352000_1, .int .i64 x352001_1, .int .i64 x352002_1, .int .i64 x352003_1] 38 (0, 0))) ∧ (w'.heap[s_]? = some (.cells #[.int .i64 0, .int .i64 0, .int .i64 0, .int .i64 0] 38 (0, 0))) ∧ (w.heap.size ≤ s_) ∧ (w.heap.size ≤ s_) ∧ (gb351 ≠ s_) ∧ (s_ ≠ gb351) ∧ (Below w.heap.size w w')) ?_ ?_
                rotate_left
                · intro hCont
                  refine two_ (i := 4) (j := 8) (Ni := some 26) (Nj := some 11) #[true, true, true, true, true, false, false, false, false, false, false] #[true, true, true, true, false, false, false, false, true, false, false] rfl rfl rfl rfl (two_of HT_.out (by kernel_rfl)) (by decide) (by decide) (fun K hK => ?_) (fun K hK => ?_)
                  · skip
                    refine goes_ Try.func18 (by kernel_rfl) rfl #[.agg #[.int .i64 x352000_1, .int .i64 x352001_1, .int .i64 x352002_1, .int .i64 x352003_1], .int .u8 (bt a0 x10_1)] (by rfl) rfl rfl (by (try simp only [List.map_toArray, List.map_cons, List.map_nil]); first | done | rfl | (simp only [List.length_drop, List.length_take]; rfl)) ?_
                    with_reducible refine (chequerref05_Put.calls k1 x352000_1 x352001_1 x352002_1 x352003_1 (bt a0 x10_1) t352 t353 t354 t355 t356 _ A10.out).mono ?_
                    rintro e w29 ⟨rfl, hb⟩
                    refine ⟨_, rfl, ?_⟩
                    have n0_ := Aside0.mk (Kd.R_below (by (with_reducible repeat (first | apply Kd.R_alloc | apply Kd.R_drewN | apply Kd.R_drew)); exact HO_7.out) hb)
                    have n1_ := Aside0.mk (blk_below (g := gb351) (o := .cells #[.int .i64 x352000_1, .int .i64 x352001_1, .int .i64 x352002_1, .int .i64 x352003_1] 38 (0, 0)) (by (with_reducible repeat (first | refine blk_drewN ?_ _ | refine blk_drew ?_ | refine blk_alloc ?_ _)); exact BK351.out) hb)
                    have n2_ := Aside0.mk (below_step (by repeat (first | (with_reducible first | exact HB.out | apply below_alloc | apply pw_below_drewN | apply below_drew1 | refine below_set ?_ GE351.out) | exact HB.out)) hb)
                    clear HO_7
                    clear BK351
                    clear HB
                    have HO_7 := n0_
                    have BK351 := n1_
                    have HB := n2_
                    clear n0_ n1_ n2_
                    (try clear hb)
                    (try clear hb2)
                    (try clear hk)
                    (try clear hi)
                    refine hK.out _ _ ⟨(blk_cell BK351.out 0).trans rfl, (blk_cell BK351.out 1).trans rfl, (blk_cell BK351.out 2).trans rfl, (blk_cell BK351.out 3).trans rfl⟩ (fun hHeld => ?_)
                    clear hK K
                    refine norm_ (a' := ?_) ?_ ?_
                    rotate_left
                    · show Act.put _ (some 26) _ = _
                      simp only [Act.put, List.setIfInBounds_toArray, List.set_cons_zero, List.set_cons_succ, i64_w, i32_w]
                      rfl
                    refine pure_ (i := 5) (N := some 21) (v := ?_) (a' := ?_) #[true, true, true, true, true, true, false, false, false, false, false] rfl rfl (any_of HT_.out (by kernel_rfl)) (fun _ _ _ h => h) (Or.inl ⟨by rfl, ?_⟩) ?_ ?_
                    rotate_left
                    · intro w'
                      go_simp
                      with_reducible rfl
                    rotate_left
                    · simp only [Act.put, List.setIfInBounds_toArray, List.set_cons_zero, List.set_cons_succ, i64_w, i32_w]
                      rfl
                    refine pure_ (i := 6) (N := some 27) (v := ?_) (a' := ?_) #[true, true, true, true, true, true, true, false, false, false, false] rfl rfl (any_of HT_.out (by kernel_rfl)) (fun _ _ _ h => h) (Or.inl ⟨by rfl, ?_⟩) ?_ ?_
                    rotate_left
                    · intro w'
                      go_simp
                      with_reducible rfl
                    rotate_left
                    · simp only [Act.put, List.setIfInBounds_toArray, List.set_cons_zero, List.set_cons_succ, i64_w, i32_w]
                      rfl
                    refine pure_ (i := 7) (N := some 28) (v := ?_) (a' := ?_) #[true, true, true, true, true, true, true, true, false, false, false] rfl rfl (any_of HT_.out (by kernel_rfl)) (fun _ _ _ h => h) (Or.inl ⟨by rfl, ?_⟩) ?_ ?_
                    rotate_left
                    · intro w'
                      go_simp
                      with_reducible rfl
                    rotate_left
                    · simp only [Act.put, List.setIfInBounds_toArray, List.set_cons_zero, List.set_cons_succ, i64_w, i32_w]
                      rfl
                    refine one_ (i := 8) (N := some 11) #[true, true, true, true, true, true, true, true, true, false, false] rfl rfl (one_of HT_.out (by kernel_rfl)) (by decide) (fun K hK => ?_)
                    refine box_step ?hg (N := 11) ?hd (cs := #[.int .i64 0, .int .i64 0, .int .i64 0, .int .i64 0]) (t := 38) ?hr ?_; (case hd => rfl); (case hg => rfl); (case hr => first | (go_simp; done) | (go_simp; rfl))
                    intro gb357 hg w30 hbox hb
                    have n0_ := Aside0.mk (Kd.R_below (by (with_reducible repeat (first | apply Kd.R_alloc | apply Kd.R_drewN | apply Kd.R_drew)); exact HO_7.out) hb)
                    have n1_ := Aside0.mk (blk_below (g := gb351) (o := .cells #[.int .i64 x352000_1, .int .i64 x352001_1, .int .i64 x352002_1, .int .i64 x352003_1] 38 (0, 0)) (by (with_reducible repeat (first | refine blk_drewN ?_ _ | refine blk_drew ?_ | refine blk_alloc ?_ _)); exact BK351.out) hb)
                    have n2_ := Aside0.mk (below_step (by repeat (first | (with_reducible first | exact HB.out | apply below_alloc | apply pw_below_drewN | apply below_drew1 | refine below_set ?_ GE351.out) | exact HB.out)) hb)
                    have n3_ := Aside0.mk (hbox)
                    have n4_ := Aside0.mk ((by rw [hg]; exact (below_size (by repeat (first | (with_reducible first | exact HB.out | apply below_alloc | apply pw_below_drewN | apply below_drew1 | refine below_set ?_ GE351.out) | exact HB.out))) : w.heap.size ≤ gb357))
                    have n5_ := Aside0.mk ((by rw [hg]; exact (below_size (by repeat (first | (with_reducible first | exact HB.out | apply below_alloc | apply pw_below_drewN | apply below_drew1 | refine below_set ?_ GE351.out) | exact HB.out))) : w.heap.size ≤ gb357))
                    have n6_ := Aside0.mk ((by rw [hg]; exact Nat.ne_of_lt (blk_lt (g := gb351) (o := .cells #[.int .i64 x352000_1, .int .i64 x352001_1, .int .i64 x352002_1, .int .i64 x352003_1] 38 (0, 0)) (by (with_reducible repeat (first | refine blk_drewN ?_ _ | refine blk_drew ?_ | refine blk_alloc ?_ _)); exact BK351.out)) : gb351 ≠ gb357))
                    have n7_ := Aside0.mk ((by rw [hg]; exact Nat.ne_of_gt (blk_lt (g := gb351) (o := .cells #[.int .i64 x352000_1, .int .i64 x352001_1, .int .i64 x352002_1, .int .i64 x352003_1] 38 (0, 0)) (by (with_reducible repeat (first | refine blk_drewN ?_ _ | refine blk_drew ?_ | refine blk_alloc ?_ _)); exact BK351.out)) : gb357 ≠ gb351))
                    clear HO_7
                    clear BK351
                    clear HB
                    have HO_7 := n0_
                    have BK351 := n1_
                    have HB := n2_
                    have BK357 := n3_
                    have GW357 := n4_
                    have GE357 := n5_
                    have NB351_357 := n6_
                    have NB357_351 := n7_
                    clear n0_ n1_ n2_ n3_ n4_ n5_ n6_ n7_
                    clear hb hbox hg
                    refine hK.out _ _ ⟨(blk_cell BK351.out 0).trans rfl, (blk_cell BK351.out 1).trans rfl, (blk_cell BK351.out 2).trans rfl, (blk_cell BK351.out 3).trans rfl⟩ (fun hHeld => ?_)
                    clear hK K
                    refine norm_ (a' := ?_) ?_ ?_
                    rotate_left
                    · show Act.put _ (some 11) _ = _
                      simp only [Act.put, List.setIfInBounds_toArray, List.set_cons_zero, List.set_cons_succ, i64_w, i32_w]
                      rfl
                    exact norm_ (by simp only [putAll, Act.put, List.setIfInBounds_toArray, List.set_cons_zero, List.set_cons_succ]) (hCont (gb357) _ ⟨hHeld, (by (with_reducible repeat (first | apply Kd.R_alloc | apply Kd.R_drewN | apply Kd.R_drew)); exact HO_7.out), (by (with_reducible repeat (first | refine blk_drewN ?_ _ | refine blk_drew ?_ | refine blk_alloc ?_ _)); exact BK351.out), (by (with_reducible repeat (first | refine blk_drewN ?_ _ | refine blk_drew ?_ | refine blk_alloc ?_ _)); exact BK357.out), GW357.out, GE357.out, NB351_357.out, NB357_351.out, (by repeat (first | (with_reducible first | exact HB.out | apply below_alloc | apply pw_below_drewN | apply below_drew1 | refine below_set ?_ GE351.out | refine below_set ?_ GE357.out) | exact HB.out))⟩)
                  · skip
                    refine box_step ?hg (N := 11) ?hd (cs := #[.int .i64 0, .int .i64 0, .int .i64 0, .int .i64 0]) (t := 38) ?hr ?_; (case hd => rfl); (case hg => rfl); (case hr => first | (go_simp; done) | (go_simp; rfl))
                    intro gb357 hg w29 hbox hb
                    have n0_ := Aside0.mk (Kd.R_below (by (with_reducible repeat (first | apply Kd.R_alloc | apply Kd.R_drewN | apply Kd.R_drew)); exact HO_7.out) hb)
                    have n1_ := Aside0.mk (blk_below (g := gb351) (o := .cells #[.int .i64 x352000_1, .int .i64 x352001_1, .int .i64 x352002_1, .int .i64 x352003_1] 38 (0, 0)) (by (with_reducible repeat (first | refine blk_drewN ?_ _ | refine blk_drew ?_ | refine blk_alloc ?_ _)); exact BK351.out) hb)
                    have n2_ := Aside0.mk (below_step (by repeat (first | (with_reducible first | exact HB.out | apply below_alloc | apply pw_below_drewN | apply below_drew1 | refine below_set ?_ GE351.out) | exact HB.out)) hb)
                    have n3_ := Aside0.mk (hbox)
                    have n4_ := Aside0.mk ((by rw [hg]; exact (below_size (by repeat (first | (with_reducible first | exact HB.out | apply below_alloc | apply pw_below_drewN | apply below_drew1 | refine below_set ?_ GE351.out) | exact HB.out))) : w.heap.size ≤ gb357))
                    have n5_ := Aside0.mk ((by rw [hg]; exact (below_size (by repeat (first | (with_reducible first | exact HB.out | apply below_alloc | apply pw_below_drewN | apply below_drew1 | refine below_set ?_ GE351.out) | exact HB.out))) : w.heap.size ≤ gb357))
                    have n6_ := Aside0.mk ((by rw [hg]; exact Nat.ne_of_lt (blk_lt (g := gb351) (o := .cells #[.int .i64 x352000_1, .int .i64 x352001_1, .int .i64 x352002_1, .int .i64 x352003_1] 38 (0, 0)) (by (with_reducible repeat (first | refine blk_drewN ?_ _ | refine blk_drew ?_ | refine blk_alloc ?_ _)); exact BK351.out)) : gb351 ≠ gb357))
                    have n7_ := Aside0.mk ((by rw [hg]; exact Nat.ne_of_gt (blk_lt (g := gb351) (o := .cells #[.int .i64 x352000_1, .int .i64 x352001_1, .int .i64 x352002_1, .int .i64 x352003_1] 38 (0, 0)) (by (with_reducible repeat (first | refine blk_drewN ?_ _ | refine blk_drew ?_ | refine blk_alloc ?_ _)); exact BK351.out)) : gb357 ≠ gb351))
                    clear HO_7
                    clear BK351
                    clear HB
                    have HO_7 := n0_
                    have BK351 := n1_
                    have HB := n2_
                    have BK357 := n3_
                    have GW357 := n4_
                    have GE357 := n5_
                    have NB351_357 := n6_
                    have NB357_351 := n7_
                    clear n0_ n1_ n2_ n3_ n4_ n5_ n6_ n7_
                    clear hb hbox hg
                    refine hK.out _ _ ⟨(blk_cell BK351.out 0).trans rfl, (blk_cell BK351.out 1).trans rfl, (blk_cell BK351.out 2).trans rfl, (blk_cell BK351.out 3).trans rfl⟩ (fun hHeld => ?_)
                    clear hK K
                    refine norm_ (a' := ?_) ?_ ?_
                    rotate_left
                    · show Act.put _ (some 11) _ = _
                      simp only [Act.put, List.setIfInBounds_toArray, List.set_cons_zero, List.set_cons_succ, i64_w, i32_w]
                      rfl
                    refine one_ (i := 4) (N := some 26) #[true, true, true, true, true, false, false, false, true, false, false] rfl rfl (one_of HT_.out (by kernel_rfl)) (by decide) (fun K hK => ?_)
                    refine goes_ Try.func18 (by kernel_rfl) rfl #[.agg #[.int .i64 x352000_1, .int .i64 x352001_1, .int .i64 x352002_1, .int .i64 x352003_1], .int .u8 (bt a0 x10_1)] (by rfl) rfl rfl (by (try simp only [List.map_toArray, List.map_cons, List.map_nil]); first | done | rfl | (simp only [List.length_drop, List.length_take]; rfl)) ?_
                    with_reducible refine (chequerref05_Put.calls k1 x352000_1 x352001_1 x352002_1 x352003_1 (bt a0 x10_1) t352 t353 t354 t355 t356 _ A10.out).mono ?_
                    rintro e w30 ⟨rfl, hb⟩
                    refine ⟨_, rfl, ?_⟩
                    have n0_ := Aside0.mk (Kd.R_below (by (with_reducible repeat (first | apply Kd.R_alloc | apply Kd.R_drewN | apply Kd.R_drew)); exact HO_7.out) hb)
                    have n1_ := Aside0.mk (blk_below (g := gb351) (o := .cells #[.int .i64 x352000_1, .int .i64 x352001_1, .int .i64 x352002_1, .int .i64 x352003_1] 38 (0, 0)) (by (with_reducible repeat (first | refine blk_drewN ?_ _ | refine blk_drew ?_ | refine blk_alloc ?_ _)); exact BK351.out) hb)
                    have n2_ := Aside0.mk (blk_below (g := gb357) (o := .cells #[.int .i64 0, .int .i64 0, .int .i64 0, .int .i64 0] 38 (0, 0)) (by (with_reducible repeat (first | refine blk_drewN ?_ _ | refine blk_drew ?_ | refine blk_alloc ?_ _)); exact BK357.out) hb)
                    have n3_ := Aside0.mk (below_step (by repeat (first | (with_reducible first | exact HB.out | apply below_alloc | apply pw_below_drewN | apply below_drew1 | refine below_set ?_ GE351.out | refine below_set ?_ GE357.out) | exact HB.out)) hb)
                    clear HO_7
                    clear BK351
                    clear BK357
                    clear HB
                    have HO_7 := n0_
                    have BK351 := n1_
                    have BK357 := n2_
                    have HB := n3_
                    clear n0_ n1_ n2_ n3_
                    (try clear hb)
                    (try clear hb2)
                    (try clear hk)
                    (try clear hi)
                    refine hK.out _ _ ⟨(blk_cell BK351.out 0).trans rfl, (blk_cell BK351.out 1).trans rfl, (blk_cell BK351.out 2).trans rfl, (blk_cell BK351.out 3).trans rfl⟩ (fun hHeld => ?_)
                    clear hK K
                    refine norm_ (a' := ?_) ?_ ?_
                    rotate_left
                    · show Act.put _ (some 26) _ = _
                      simp only [Act.put, List.setIfInBounds_toArray, List.set_cons_zero, List.set_cons_succ, i64_w, i32_w]
                      rfl
                    refine pure_ (i := 5) (N := some 21) (v := ?_) (a' := ?_) #[true, true, true, true, true, true, false, false, true, false, false] rfl rfl (any_of HT_.out (by kernel_rfl)) (fun _ _ _ h => h) (Or.inl ⟨by rfl, ?_⟩) ?_ ?_
                    rotate_left
                    · intro w'
                      go_simp
                      with_reducible rfl
                    rotate_left
                    · simp only [Act.put, List.setIfInBounds_toArray, List.set_cons_zero, List.set_cons_succ, i64_w, i32_w]
                      rfl
                    refine pure_ (i := 6) (N := some 27) (v := ?_) (a' := ?_) #[true, true, true, true, true, true, true, false, true, false, false] rfl rfl (any_of HT_.out (by kernel_rfl)) (fun _ _ _ h => h) (Or.inl ⟨by rfl, ?_⟩) ?_ ?_
                    rotate_left
                    · intro w'
                      go_simp
                      with_reducible rfl
                    rotate_left
                    · simp only [Act.put, List.setIfInBounds_toArray, List.set_cons_zero, List.set_cons_succ, i64_w, i32_w]
                      rfl
                    refine pure_ (i := 7) (N := some 28) (v := ?_) (a' := ?_) #[true, true, true, true, true, true, true, true, true, false, false] rfl rfl (any_of HT_.out (by kernel_rfl)) (fun _ _ _ h => h) (Or.inl ⟨by rfl, ?_⟩) ?_ ?_
                    rotate_left
                    · intro w'
                      go_simp
                      with_reducible rfl
                    rotate_left
                    · simp only [Act.put, List.setIfInBounds_toArray, List.set_cons_zero, List.set_cons_succ, i64_w, i32_w]
                      rfl
                    exact norm_ (by simp only [putAll, Act.put, List.setIfInBounds_toArray, List.set_cons_zero, List.set_cons_succ]) (hCont (gb357) _ ⟨hHeld, (by (with_reducible repeat (first | apply Kd.R_alloc | apply Kd.R_drewN | apply Kd.R_drew)); exact HO_7.out), (by (with_reducible repeat (first | refine blk_drewN ?_ _ | refine blk_drew ?_ | refine blk_alloc ?_ _)); exact BK351.out), (by (with_reducible repeat (first | refine blk_drewN ?_ _ | refine blk_drew ?_ | refine blk_alloc ?_ _)); exact BK357.out), GW357.out, GE357.out, NB351_357.out, NB357_351.out, (by repeat (first | (with_reducible first | exact HB.out | apply below_alloc | apply pw_below_drewN | apply below_drew1 | refine below_set ?_ GE351.out | refine below_set ?_ GE357.out) | exact HB.out))⟩)
                rintro gb357 w31 ⟨hS_, h0_, h1_, h2_, h3_, h4_, h5_, h6_, h7_⟩
                have n0_ : Aside0 (Kd.R (Kd.int .i64) 3 w31 w.heap.size (fun _ => True) u7 x7_1) := ⟨h0_⟩
                have n1_ : Aside0 (w31.heap[gb351]? = some (.cells #[.int .i64 x352000_1, .int .i64 x352001_1, .int .i64 x352002_1, .int .i64 x352003_1] 38 (0, 0))) := ⟨h1_⟩
                have n2_ : Aside0 (w31.heap[gb357]? = some (.cells #[.int .i64 0, .int .i64 0, .int .i64 0, .int .i64 0] 38 (0, 0))) := ⟨h2_⟩
                have n3_ : Aside0 (w.heap.size ≤ gb357) := ⟨h3_⟩
                have n4_ : Aside0 (w.heap.size ≤ gb357) := ⟨h4_⟩
                have n5_ : Aside0 (gb351 ≠ gb357) := ⟨h5_⟩
                have n6_ : Aside0 (gb357 ≠ gb351) := ⟨h6_⟩
                have n7_ : Aside0 (Below w.heap.size w w31) := ⟨h7_⟩
                clear HO_7
                clear BK351
                clear HB
                clear h0_ h1_ h2_ h3_ h4_ h5_ h6_ h7_
                have HO_7 := n0_
                have BK351 := n1_
                have BK357 := n2_
                have GW357 := n3_
                have GE357 := n4_
                have NB351_357 := n5_
                have NB357_351 := n6_
                have HB := n7_
                clear n0_ n1_ n2_ n3_ n4_ n5_ n6_ n7_
                have hHeld : w31.cell? ⟨gb351, 0, none⟩ = some (.int .i64 x352000_1) ∧ w31.cell? ⟨gb351, 1, none⟩ = some (.int .i64 x352001_1) ∧ w31.cell? ⟨gb351, 2, none⟩ = some (.int .i64 x352002_1) ∧ w31.cell? ⟨gb351, 3, none⟩ = some (.int .i64 x352003_1) := hS_
                refine norm_ (a' := ?_) ?_ ?_
                rotate_left
                · simp only [putAll, Act.put, List.setIfInBounds_toArray, List.set_cons_zero, List.set_cons_succ]
                  rfl
                refine one_ (i := 9) (N := none) #[true, true, true, true, true, true, true, true, true, true, false] rfl rfl (one_of HT_.out (by kernel_rfl)) (by decide) (fun K hK => ?_)
                have hs32 : w31.cell? ⟨gb357, 0, none⟩ = some (.int .i64 0) := (blk_cell BK357.out 0).trans rfl
                have hfs32 := blk_frozen BK357.out 0
                have hns32_0 := NB351_357.out
                have hms32_0 := NB357_351.out
                have hs33 : w31.cell? ⟨gb357, 1, none⟩ = some (.int .i64 0) := (blk_cell BK357.out 1).trans rfl
                have hfs33 := blk_frozen BK357.out 1
                have hns33_0 := NB351_357.out
                have hms33_0 := NB357_351.out
                have hs34 : w31.cell? ⟨gb357, 2, none⟩ = some (.int .i64 0) := (blk_cell BK357.out 2).trans rfl
                have hfs34 := blk_frozen BK357.out 2
                have hns34_0 := NB351_357.out
                have hms34_0 := NB357_351.out
                have hs35 : w31.cell? ⟨gb357, 3, none⟩ = some (.int .i64 0) := (blk_cell BK357.out 3).trans rfl
                have hfs35 := blk_frozen BK357.out 3
                have hns35_0 := NB351_357.out
                have hms35_0 := NB357_351.out
                refine skip_ (w1 := ?_) (by rfl) rfl ?_ ?_
                rotate_left
                · go_simp
                  rfl
                refine hK.out _ _ ⟨((cell_far (p := ⟨gb357, _, none⟩) NB351_357.out _).trans (((cell_far (p := ⟨gb357, _, none⟩) NB351_357.out _).trans (((cell_far (p := ⟨gb357, _, none⟩) NB351_357.out _).trans (((cell_far (p := ⟨gb357, _, none⟩) NB351_357.out _).trans (hHeld.1)))))))), ((cell_far (p := ⟨gb357, _, none⟩) NB351_357.out _).trans (((cell_far (p := ⟨gb357, _, none⟩) NB351_357.out _).trans (((cell_far (p := ⟨gb357, _, none⟩) NB351_357.out _).trans (((cell_far (p := ⟨gb357, _, none⟩) NB351_357.out _).trans (hHeld.2.1)))))))), ((cell_far (p := ⟨gb357, _, none⟩) NB351_357.out _).trans (((cell_far (p := ⟨gb357, _, none⟩) NB351_357.out _).trans (((cell_far (p := ⟨gb357, _, none⟩) NB351_357.out _).trans (((cell_far (p := ⟨gb357, _, none⟩) NB351_357.out _).trans (hHeld.2.2.1)))))))), ((cell_far (p := ⟨gb357, _, none⟩) NB351_357.out _).trans (((cell_far (p := ⟨gb357, _, none⟩) NB351_357.out _).trans (((cell_far (p := ⟨gb357, _, none⟩) NB351_357.out _).trans (((cell_far (p := ⟨gb357, _, none⟩) NB351_357.out _).trans (hHeld.2.2.2))))))))⟩ (fun hHeld => ?_)
                clear hK K
                refine pure_ (i := 10) (N := some 12) (v := ?_) (a' := ?_) #[true, true, true, true, true, true, true, true, true, true, true] rfl rfl (any_of HT_.out (by kernel_rfl)) (fun _ _ _ h => h) (Or.inl ⟨by rfl, ?_⟩) ?_ ?_
                rotate_left
                · intro w'
                  go_simp
                  with_reducible rfl
                rotate_left
                · simp only [Act.put, List.setIfInBounds_toArray, List.set_cons_zero, List.set_cons_succ, i64_w, i32_w]
                  rfl
                refine done_ (done_of HT_.out (by kernel_rfl)) ?_
                have hnb36 := NB357_351.out
                have hnc36 := NB351_357.out
                have hcz37_0 : w31.cell? ⟨gb357, 0, none⟩ = some (.int .i64 0) := (blk_cell BK357.out 0).trans rfl
                have hcz37_1 : w31.cell? ⟨gb357, 1, none⟩ = some (.int .i64 0) := (blk_cell BK357.out 1).trans rfl
                have hcz37_2 : w31.cell? ⟨gb357, 2, none⟩ = some (.int .i64 0) := (blk_cell BK357.out 2).trans rfl
                have hcz37_3 : w31.cell? ⟨gb357, 3, none⟩ = some (.int .i64 0) := (blk_cell BK357.out 3).trans rfl
                have hfz37_0 := blk_frozen BK357.out 0
                have hfz37_1 := blk_frozen BK357.out 1
                have hfz37_2 := blk_frozen BK357.out 2
                have hfz37_3 := blk_frozen BK357.out 3
                have hcz38_0 : w31.cell? ⟨gb351, 0, none⟩ = some (.int .i64 x352000_1) := (blk_cell BK351.out 0).trans rfl
                have hcz38_1 : w31.cell? ⟨gb351, 1, none⟩ = some (.int .i64 x352001_1) := (blk_cell BK351.out 1).trans rfl
                have hcz38_2 : w31.cell? ⟨gb351, 2, none⟩ = some (.int .i64 x352002_1) := (blk_cell BK351.out 2).trans rfl
                have hcz38_3 : w31.cell? ⟨gb351, 3, none⟩ = some (.int .i64 x352003_1) := (blk_cell BK351.out 3).trans rfl
                have hfz38_0 := blk_frozen BK351.out 0
                have hfz38_1 := blk_frozen BK351.out 1
                have hfz38_2 := blk_frozen BK351.out 2
                have hfz38_3 := blk_frozen BK351.out 3
                try go_wp2_with (first | ((with_reducible refine gate_builtin (b := .append) (xs := #[.tmp 38, .tmp 41]) rfl ?_); at_builtin; refine Kd.R_append (Kd.int .i64) (w0 := w) w.heap.size rfl (.tmp 38) (.tmp 41) 27 3 (.int .i64 0) 8 rfl Try.underlying27 info3 rfl (by decide) (by omega) u7 x7_1 t353 [.int .i64 t353] (fun _ => True) (fun _ => False) rfl (by first | (go_simp; done) | (go_simp; rfl)) ?aP (fun _ hk => hk.elim) ?aF ?aO ?aB ?aS ?aL ?_; (case aP => exact rfl); (case aB => exact (by repeat (first | (with_reducible first | exact HB.out | apply below_alloc | apply pw_below_drewN | apply below_drew1 | refine below_set ?_ GE351.out | refine below_set ?_ GE357.out) | exact HB.out))); (case aF => exact (fun _ _ => trivial)); (case aO => exact (by (with_reducible repeat (first | apply Kd.R_alloc | apply Kd.R_drewN | apply Kd.R_drew)); exact Kd.R_mono (Kd.R_far (p := ⟨gb351, 3, none⟩) (Kd.R_far (p := ⟨gb351, 2, none⟩) (Kd.R_far (p := ⟨gb351, 1, none⟩) (Kd.R_far (p := ⟨gb351, 0, none⟩) (Kd.R_far (p := ⟨gb357, 3, none⟩) (Kd.R_far (p := ⟨gb357, 2, none⟩) (Kd.R_far (p := ⟨gb357, 1, none⟩) (Kd.R_far (p := ⟨gb357, 0, none⟩) (Kd.R_types (Kd.R_types HO_7.out BK357.out (by decide)) BK351.out (by decide)) (fun _ hk => hk.1.2) (.int .i64 t352)) (fun _ hk => hk.1.2) (.int .i64 t353)) (fun _ hk => hk.1.2) (.int .i64 t354)) (fun _ hk => hk.1.2) (.int .i64 t355)) (fun _ hk => hk.2) (.int .i64 t352)) (fun _ hk => hk.2) (.int .i64 t353)) (fun _ hk => hk.2) (.int .i64 t354)) (fun _ hk => hk.2) (.int .i64 t355)) (fun _ hk => trivial))); (case aS => exact (below_size (by repeat (first | (with_reducible first | exact HB.out | apply below_alloc | apply pw_below_drewN | apply below_drew1 | refine below_set ?_ GE351.out | refine below_set ?_ GE357.out) | exact HB.out)))); (case aL => have := LMc26.out; omega); intro v359 w39 ho hb hg hat; rw [← Ny358.out] at ho; have n0_ := Aside0.mk (blk_grown (g := gb351) (o := .cells #[.int .i64 t352, .int .i64 t353, .int .i64 t354, .int .i64 t355] 38 (0, 0)) (by (with_reducible repeat (first | refine blk_drewN ?_ _ | refine blk_drew ?_ | refine blk_alloc ?_ _)); refine blk_put (cs := #[.int .i64 t352, .int .i64 t353, .int .i64 t354, .int .i64 x352003_1]) ?_ 3 _ rfl; (with_reducible repeat (first | refine blk_drewN ?_ _ | refine blk_drew ?_ | refine blk_alloc ?_ _)); refine blk_put (cs := #[.int .i64 t352, .int .i64 t353, .int .i64 x352002_1, .int .i64 x352003_1]) ?_ 2 _ rfl; (with_reducible repeat (first | refine blk_drewN ?_ _ | refine blk_drew ?_ | refine blk_alloc ?_ _)); refine blk_put (cs := #[.int .i64 t352, .int .i64 x352001_1, .int .i64 x352002_1, .int .i64 x352003_1]) ?_ 1 _ rfl; (with_reducible repeat (first | refine blk_drewN ?_ _ | refine blk_drew ?_ | refine blk_alloc ?_ _)); refine blk_put (cs := #[.int .i64 x352000_1, .int .i64 x352001_1, .int .i64 x352002_1, .int .i64 x352003_1]) ?_ 0 _ rfl; (with_reducible repeat (first | refine blk_drewN ?_ _ | refine blk_drew ?_ | refine blk_alloc ?_ _)); refine blk_far ?_ NB351_357.out _; (with_reducible repeat (first | refine blk_drewN ?_ _ | refine blk_drew ?_ | refine blk_alloc ?_ _)); refine blk_far ?_ NB351_357.out _; (with_reducible repeat (first | refine blk_drewN ?_ _ | refine blk_drew ?_ | refine blk_alloc ?_ _)); refine blk_far ?_ NB351_357.out _; (with_reducible repeat (first | refine blk_drewN ?_ _ | refine blk_drew ?_ | refine blk_alloc ?_ _)); refine blk_far ?_ NB351_357.out _; (with_reducible repeat (first | refine blk_drewN ?_ _ | refine blk_drew ?_ | refine blk_alloc ?_ _)); exact BK351.out) hg (Kd.R_ne HO_7.out BK351.out (by decide))); have n1_ := Aside0.mk (blk_grown (g := gb357) (o := .cells #[.int .i64 t352, .int .i64 t353, .int .i64 t354, .int .i64 t355] 38 (0, 0)) (by (with_reducible repeat (first | refine blk_drewN ?_ _ | refine blk_drew ?_ | refine blk_alloc ?_ _)); refine blk_far ?_ NB357_351.out _; (with_reducible repeat (first | refine blk_drewN ?_ _ | refine blk_drew ?_ | refine blk_alloc ?_ _)); refine blk_far ?_ NB357_351.out _; (with_reducible repeat (first | refine blk_drewN ?_ _ | refine blk_drew ?_ | refine blk_alloc ?_ _)); refine blk_far ?_ NB357_351.out _; (with_reducible repeat (first | refine blk_drewN ?_ _ | refine blk_drew ?_ | refine blk_alloc ?_ _)); refine blk_far ?_ NB357_351.out _; (with_reducible repeat (first | refine blk_drewN ?_ _ | refine blk_drew ?_ | refine blk_alloc ?_ _)); refine blk_put (cs := #[.int .i64 t352, .int .i64 t353, .int .i64 t354, .int .i64 0]) ?_ 3 _ rfl; (with_reducible repeat (first | refine blk_drewN ?_ _ | refine blk_drew ?_ | refine blk_alloc ?_ _)); refine blk_put (cs := #[.int .i64 t352, .int .i64 t353, .int .i64 0, .int .i64 0]) ?_ 2 _ rfl; (with_reducible repeat (first | refine blk_drewN ?_ _ | refine blk_drew ?_ | refine blk_alloc ?_ _)); refine blk_put (cs := #[.int .i64 t352, .int .i64 0, .int .i64 0, .int .i64 0]) ?_ 1 _ rfl; (with_reducible repeat (first | refine blk_drewN ?_ _ | refine blk_drew ?_ | refine blk_alloc ?_ _)); refine blk_put (cs := #[.int .i64 0, .int .i64 0, .int .i64 0, .int .i64 0]) ?_ 0 _ rfl; (with_reducible repeat (first | refine blk_drewN ?_ _ | refine blk_drew ?_ | refine blk_alloc ?_ _)); exact BK357.out) hg (Kd.R_ne HO_7.out BK357.out (by decide))); have n2_ := Aside0.mk (hb); have n3_ := Aside0.mk (ho); clear BK351; clear BK357; clear HB; clear HO_7; have BK351 := n0_; have BK357 := n1_; have HB := n2_; have HO360 := n3_; clear n0_ n1_ n2_ n3_; clear ho hb hg hat) | ((with_reducible refine gate_callee (f := 17) rfl ?_); refine goesL_ (some 46) rfl rfl Try.func17 (by kernel_rfl) rfl #[.int .i64 a1] rfl (by (try simp only [List.map_toArray, List.map_cons, List.map_nil]); first | done | rfl | (simp only [List.length_drop, List.length_take]; rfl)) ?_; (with_reducible refine (chequerref05_New.calls a1 t361 t362 t363 t364 _ A27.out).mono ?_); rintro e w40 ⟨rfl, hb⟩; refine ⟨_, rfl, ?_⟩; have n0_ := Aside0.mk (Kd.R_below (by (with_reducible repeat (first | apply Kd.R_alloc | apply Kd.R_drewN | apply Kd.R_drew)); exact HO360.out) hb); have n1_ := Aside0.mk (blk_below (g := gb351) (o := .cells #[.int .i64 t352, .int .i64 t353, .int .i64 t354, .int .i64 t355] 38 (0, 0)) (by (with_reducible repeat (first | refine blk_drewN ?_ _ | refine blk_drew ?_ | refine blk_alloc ?_ _)); exact BK351.out) hb); have n2_ := Aside0.mk (blk_below (g := gb357) (o := .cells #[.int .i64 t352, .int .i64 t353, .int .i64 t354, .int .i64 t355] 38 (0, 0)) (by (with_reducible repeat (first | refine blk_drewN ?_ _ | refine blk_drew ?_ | refine blk_alloc ?_ _)); exact BK357.out) hb); have n3_ := Aside0.mk (below_step (by repeat (first | (with_reducible first | exact HB.out | apply below_alloc | apply pw_below_drewN | apply below_drew1 | refine below_set ?_ GE351.out | refine below_set ?_ GE357.out) | exact HB.out)) hb); clear HO360; clear BK351; clear BK357; clear HB; have HO360 := n0_; have BK351 := n1_; have BK357 := n2_; have HB := n3_; clear n0_ n1_ n2_ n3_; (try clear hb); (try clear hb2); (try clear hk); (try clear hi); have hcz41_0 : w40.cell? ⟨gb351, 0, none⟩ = some (.int .i64 t352) := (blk_cell BK351.out 0).trans rfl; have hcz41_1 : w40.cell? ⟨gb351, 1, none⟩ = some (.int .i64 t353) := (blk_cell BK351.out 1).trans rfl; have hcz41_2 : w40.cell? ⟨gb351, 2, none⟩ = some (.int .i64 t354) := (blk_cell BK351.out 2).trans rfl; have hcz41_3 : w40.cell? ⟨gb351, 3, none⟩ = some (.int .i64 t355) := (blk_cell BK351.out 3).trans rfl; have hfz41_0 := blk_frozen BK351.out 0; have hfz41_1 := blk_frozen BK351.out 1; have hfz41_2 := blk_frozen BK351.out 2; have hfz41_3 := blk_frozen BK351.out 3))
                go_roundg k1
                case measure => have := HK1.out; omega
                case rel => exact ⟨(y358), (wrap64 (x10_1 + 1)), (wrap64 (x10_1 + 1)), (t361), (t362), (t363), (t364), (by first | rfl | (simp; done) | (simp [*]; done)), (by first | rfl | (simp; done) | (simp [*]; done)), H', ⟨by have := HK1.out; omega⟩, ⟨by (with_reducible repeat (first | apply Kd.R_alloc | apply Kd.R_drewN | apply Kd.R_drew)); exact Kd.R_mono (Kd.R_far (p := ⟨gb351, 3, none⟩) (Kd.R_far (p := ⟨gb351, 2, none⟩) (Kd.R_far (p := ⟨gb351, 1, none⟩) (Kd.R_far (p := ⟨gb351, 0, none⟩) (Kd.R_types HO360.out BK351.out (by decide)) (fun _ hk => hk.2) (.int .i64 t361)) (fun _ hk => hk.2) (.int .i64 t362)) (fun _ hk => hk.2) (.int .i64 t363)) (fun _ hk => hk.2) (.int .i64 t364)) (fun _ hk => trivial)⟩, ⟨by (with_reducible repeat (first | refine blk_drewN ?_ _ | refine blk_drew ?_ | refine blk_alloc ?_ _)); refine blk_put (cs := #[.int .i64 t361, .int .i64 t362, .int .i64 t363, .int .i64 t355]) ?_ 3 _ rfl; (with_reducible repeat (first | refine blk_drewN ?_ _ | refine blk_drew ?_ | refine blk_alloc ?_ _)); refine blk_put (cs := #[.int .i64 t361, .int .i64 t362, .int .i64 t354, .int .i64 t355]) ?_ 2 _ rfl; (with_reducible repeat (first | refine blk_drewN ?_ _ | refine blk_drew ?_ | refine blk_alloc ?_ _)); refine blk_put (cs := #[.int .i64 t361, .int .i64 t353, .int .i64 t354, .int .i64 t355]) ?_ 1 _ rfl; (with_reducible repeat (first | refine blk_drewN ?_ _ | refine blk_drew ?_ | refine blk_alloc ?_ _)); refine blk_put (cs := #[.int .i64 t352, .int .i64 t353, .int .i64 t354, .int .i64 t355]) ?_ 0 _ rfl; (with_reducible repeat (first | refine blk_drewN ?_ _ | refine blk_drew ?_ | refine blk_alloc ?_ _)); exact BK351.out⟩, ⟨by repeat (first | (with_reducible first | exact HB.out | apply below_alloc | apply pw_below_drewN | apply below_drew1 | refine below_set ?_ GE351.out | refine below_set ?_ GE357.out) | exact HB.out)⟩⟩
              · rw [if_neg c26] at H
                exact absurd H (by simp)
            · rw [if_neg c25] at H
              have c25b0 : (t356 == 1) = false := beq_eq_false_iff_ne.mpr c25
              have c25b1 : (t356 != 1) = true := bne_iff_ne.mpr c25
              have H' := Aside0.mk H
              clear H
              try go_wp2
              (try (rw [drewN_self wr]; generalize hq_ : World.drewN wr _ = wr; have n0_ : Aside0 (Kd.R (Kd.int .i64) 3 wr w.heap.size (fun _ => True) u7 x7_1) := ⟨by rw [← hq_]; exact (by (with_reducible repeat (first | apply Kd.R_alloc | apply Kd.R_drewN | apply Kd.R_drew)); exact HO_7.out)⟩; have n1_ : Aside0 (wr.heap[gb351]? = some (.cells #[.int .i64 x352000_1, .int .i64 x352001_1, .int .i64 x352002_1, .int .i64 x352003_1] 38 (0, 0))) := ⟨by rw [← hq_]; exact (by (with_reducible repeat (first | refine blk_drewN ?_ _ | refine blk_drew ?_ | refine blk_alloc ?_ _)); exact BK351.out)⟩; have n2_ : Aside0 (Below w.heap.size w wr) := ⟨by rw [← hq_]; exact (by repeat (first | (with_reducible first | exact HB.out | apply below_alloc | apply pw_below_drewN | apply below_drew1 | refine below_set ?_ GE351.out) | exact HB.out))⟩; clear HO_7 BK351 HB hq_; have HO_7 := n0_; have BK351 := n1_; have HB := n2_; clear n0_ n1_ n2_))
              have n0_ := Aside0.mk (Kd.R_drew HO_7.out)
              have n1_ := Aside0.mk (blk_drew BK351.out)
              have n2_ := Aside0.mk (below_drew1 HB.out)
              clear HO_7
              clear BK351
              clear HB
              have HO_7 := n0_
              have BK351 := n1_
              have HB := n2_
              clear n0_ n1_ n2_
              have p9 : 0 ≤ (x10_1 : Int) := of_decide_eq_true (by first | (with_reducible assumption) | assumption)
              have q9 : x10_1 < (a0.size : Int) := of_decide_eq_true (by first | (with_reducible assumption) | assumption)
              have hx9 := bt_at a0 x10_1
              replace p9 := eq_true p9
              replace q9 := eq_true q9
              refine start_ (n := 11) (S := fun w' => w'.cell? ⟨gb351, 0, none⟩ = some (.int .i64 x352000_1) ∧ w'.cell? ⟨gb351, 1, none⟩ = some (.int .i64 x352001_1) ∧ w'.cell? ⟨gb351, 2, none⟩ = some (.int .i64 x352002_1) ∧ w'.cell? ⟨gb351, 3, none⟩ = some (.int .i64 x352003_1)) (ds := []) #[false, false, false, false, false, false, false, false, false, false, false] (by kernel_rfl) rfl rfl ⟨(blk_cell BK351.out 0).trans rfl, (blk_cell BK351.out 1).trans rfl, (blk_cell BK351.out 2).trans rfl, (blk_cell BK351.out 3).trans rfl⟩ (fun hHeld => ?_); refine with_tabW chequerref05_All.tab7 chequerref05_All.bits7 (fun HT_ HW_ => ?_)
              generalize wr.drew = w42 at HO_7 BK351 HB hHeld ⊢
              refine pure_ (i := 1) (N := some 23) (v := ?_) (a' := ?_) #[false, true, false, false, false, false, false, false, false, false, false] rfl rfl (any_of HT_.out (by kernel_rfl)) (fun _ _ _ h => h) (Or.inl ⟨by rfl, ?_⟩) ?_ ?_
              rotate_left
              · intro w'
                go_simp
                with_reducible rfl
              rotate_left
              · simp only [Act.put, List.setIfInBounds_toArray, List.set_cons_zero, List.set_cons_succ, i64_w, i32_w]
                rfl
              refine pure_ (i := 2) (N := some 24) (v := ?_) (a' := ?_) #[false, true, true, false, false, false, false, false, false, false, false] rfl rfl (any_of HT_.out (by kernel_rfl)) (fun _ _ _ h => h) (Or.inl ⟨by rfl, ?_⟩) ?_ ?_
              rotate_left
              · intro w'
                go_simp
                with_reducible rfl
              rotate_left
              · simp only [Act.put, List.setIfInBounds_toArray, List.set_cons_zero, List.set_cons_succ, i64_w, i32_w]
                rfl
              refine take_ (i := 0) (N := some 22) (v := ?_) (a' := ?_) #[true, true, true, false, false, false, false, false, false, false, false] rfl rfl (take_ofW HT_.out HW_.out (by kernel_rfl)) (fun _ _ _ h => h) (Or.inl ⟨by rfl, ?_⟩) hHeld ?_ ?_
              rotate_left
              · rintro w' ⟨s0, s1, s2, s3⟩
                go_simp
                with_reducible rfl
              rotate_left
              · simp only [Act.put, List.setIfInBounds_toArray, List.set_cons_zero, List.set_cons_succ, i64_w, i32_w]
                rfl
              refine take_ (i := 3) (N := some 25) (v := ?_) (a' := ?_) #[true, true, true, true, false, false, false, false, false, false, false] rfl rfl (take_ofW HT_.out HW_.out (by kernel_rfl)) (fun _ _ _ h => h) (Or.inl ⟨by rfl, ?_⟩) hHeld ?_ ?_
              rotate_left
              · rintro w' ⟨s0, s1, s2, s3⟩
                go_simp
                with_reducible rfl
              rotate_left
              · simp only [Act.put, List.setIfInBounds_toArray, List.set_cons_zero, List.set_cons_succ, i64_w, i32_w]
                rfl
              refine join_ (σ := Nat) 2 #[true, true, true, true, true, true, true, true, true, false, false] (fun s_ => [(26, .tuple #[.agg #[.int .i64 t352, .int .i64 t353, .int .i64 t354, .int .i64 t355], .int .i64 t356]), (11, .pointer (some ⟨s_, 0, none⟩)), (21, .tuple #[.agg #[.int .i64 t352, .int .i64 t353, .int .i64 t354, .int .i64 t355], .int .i64 t356]), (27, .agg #[.int .i64 t352, .int .i64 t353, .int .i64 t354, .int .i64 t355]), (28, .int .i64 t356)]) (fun s_ w' => (w'.cell? ⟨gb351, 0, none⟩ = some (.int .i64 x352000_1) ∧ w'.cell? ⟨gb351, 1, none⟩ = some (.int .i64 x352001_1) ∧ w'.cell? ⟨gb351, 2, none⟩ = some (.int .i64 x352002_1) ∧ w'.cell? ⟨gb351, 3, none⟩ = some (.int .i64 x352003_1)) ∧ (Kd.R (Kd.int .i64) 3 w' w.heap.size (fun _ => True) u7 x7_1) ∧ (w'.heap[gb351]? = some (.cells #[.int .i64 x352000_1, .int .i64 x352001_1, .int .i64 x352002_1, .int .i64 x352003_1] 38 (0, 0))) ∧ (w'.heap[s_]? = some (.cells #[.int .i64 0, .int .i64 0, .int .i64 0, .int .i64 0] 38 (0, 0))) ∧ (w.heap.size ≤ s_) ∧ (w.heap.size ≤ s_) ∧ (gb351 ≠ s_) ∧ (s_ ≠ gb351) ∧ (Below w.heap.size w w')) ?_ ?_
              rotate_left
              · intro hCont
                refine two_ (i := 4) (j := 8) (Ni := some 26) (Nj := some 11) #[true, true, true, true, true, false, false, false, false, false, false] #[true, true, true, true, false, false, false, false, true, false, false] rfl rfl rfl rfl (two_of HT_.out (by kernel_rfl)) (by decide) (by decide) (fun K hK => ?_) (fun K hK => ?_)
                · skip
                  refine goes_ Try.func18 (by kernel_rfl) rfl #[.agg #[.int .i64 x352000_1, .int .i64 x352001_1, .int .i64 x352002_1, .int .i64 x352003_1], .int .u8 (bt a0 x10_1)] (by rfl) rfl rfl (by (try simp only [List.map_toArray, List.map_cons, List.map_nil]); first | done | rfl | (simp only [List.length_drop, List.length_take]; rfl)) ?_
                  with_reducible refine (chequerref05_Put.calls k1 x352000_1 x352001_1 x352002_1 x352003_1 (bt a0 x10_1) t352 t353 t354 t355 t356 _ A10.out).mono ?_
                  rintro e w43 ⟨rfl, hb⟩
                  refine ⟨_, rfl, ?_⟩
                  have n0_ := Aside0.mk (Kd.R_below (by (with_reducible repeat (first | apply Kd.R_alloc | apply Kd.R_drewN | apply Kd.R_drew)); exact HO_7.out) hb)
                  have n1_ := Aside0.mk (blk_below (g := gb351) (o := .cells #[.int .i64 x352000_1, .int .i64 x352001_1, .int .i64 x352002_1, .int .i64 x352003_1] 38 (0, 0)) (by (with_reducible repeat (first | refine blk_drewN ?_ _ | refine blk_drew ?_ | refine blk_alloc ?_ _)); exact BK351.out) hb)
                  have n2_ := Aside0.mk (below_step (by repeat (first | (with_reducible first | exact HB.out | apply below_alloc | apply pw_below_drewN | apply below_drew1 | refine below_set ?_ GE351.out) | exact HB.out)) hb)
                  clear HO_7
                  clear BK351
                  clear HB
                  have HO_7 := n0_
                  have BK351 := n1_
                  have HB := n2_
                  clear n0_ n1_ n2_
                  (try clear hb)
                  (try clear hb2)
                  (try clear hk)
                  (try clear hi)
                  refine hK.out _ _ ⟨(blk_cell BK351.out 0).trans rfl, (blk_cell BK351.out 1).trans rfl, (blk_cell BK351.out 2).trans rfl, (blk_cell BK351.out 3).trans rfl⟩ (fun hHeld => ?_)
                  clear hK K
                  refine norm_ (a' := ?_) ?_ ?_
                  rotate_left
                  · show Act.put _ (some 26) _ = _
                    simp only [Act.put, List.setIfInBounds_toArray, List.set_cons_zero, List.set_cons_succ, i64_w, i32_w]
                    rfl
                  refine pure_ (i := 5) (N := some 21) (v := ?_) (a' := ?_) #[true, true, true, true, true, true, false, false, false, false, false] rfl rfl (any_of HT_.out (by kernel_rfl)) (fun _ _ _ h => h) (Or.inl ⟨by rfl, ?_⟩) ?_ ?_
                  rotate_left
                  · intro w'
                    go_simp
                    with_reducible rfl
                  rotate_left
                  · simp only [Act.put, List.setIfInBounds_toArray, List.set_cons_zero, List.set_cons_succ, i64_w, i32_w]
                    rfl
                  refine pure_ (i := 6) (N := some 27) (v := ?_) (a' := ?_) #[true, true, true, true, true, true, true, false, false, false, false] rfl rfl (any_of HT_.out (by kernel_rfl)) (fun _ _ _ h => h) (Or.inl ⟨by rfl, ?_⟩) ?_ ?_
                  rotate_left
                  · intro w'
                    go_simp
                    with_reducible rfl
                  rotate_left
                  · simp only [Act.put, List.setIfInBounds_toArray, List.set_cons_zero, List.set_cons_succ, i64_w, i32_w]
                    rfl
                  refine pure_ (i := 7) (N := some 28) (v := ?_) (a' := ?_) #[true, true, true, true, true, true, true, true, false, false, false] rfl rfl (any_of HT_.out (by kernel_rfl)) (fun _ _ _ h => h) (Or.inl ⟨by rfl, ?_⟩) ?_ ?_
                  rotate_left
                  · intro w'
                    go_simp
                    with_reducible rfl
                  rotate_left
                  · simp only [Act.put, List.setIfInBounds_toArray, List.set_cons_zero, List.set_cons_succ, i64_w, i32_w]
                    rfl
                  refine one_ (i := 8) (N := some 11) #[true, true, true, true, true, true, true, true, true, false, false] rfl rfl (one_of HT_.out (by kernel_rfl)) (by decide) (fun K hK => ?_)
                  refine box_step ?hg (N := 11) ?hd (cs := #[.int .i64 0, .int .i64 0, .int .i64 0, .int .i64 0]) (t := 38) ?hr ?_; (case hd => rfl); (case hg => rfl); (case hr => first | (go_simp; done) | (go_simp; rfl))
                  intro gb357 hg w44 hbox hb
                  have n0_ := Aside0.mk (Kd.R_below (by (with_reducible repeat (first | apply Kd.R_alloc | apply Kd.R_drewN | apply Kd.R_drew)); exact HO_7.out) hb)
                  have n1_ := Aside0.mk (blk_below (g := gb351) (o := .cells #[.int .i64 x352000_1, .int .i64 x352001_1, .int .i64 x352002_1, .int .i64 x352003_1] 38 (0, 0)) (by (with_reducible repeat (first | refine blk_drewN ?_ _ | refine blk_drew ?_ | refine blk_alloc ?_ _)); exact BK351.out) hb)
                  have n2_ := Aside0.mk (below_step (by repeat (first | (with_reducible first | exact HB.out | apply below_alloc | apply pw_below_drewN | apply below_drew1 | refine below_set ?_ GE351.out) | exact HB.out)) hb)
                  have n3_ := Aside0.mk (hbox)
                  have n4_ := Aside0.mk ((by rw [hg]; exact (below_size (by repeat (first | (with_reducible first | exact HB.out | apply below_alloc | apply pw_below_drewN | apply below_drew1 | refine below_set ?_ GE351.out) | exact HB.out))) : w.heap.size ≤ gb357))
                  have n5_ := Aside0.mk ((by rw [hg]; exact (below_size (by repeat (first | (with_reducible first | exact HB.out | apply below_alloc | apply pw_below_drewN | apply below_drew1 | refine below_set ?_ GE351.out) | exact HB.out))) : w.heap.size ≤ gb357))
                  have n6_ := Aside0.mk ((by rw [hg]; exact Nat.ne_of_lt (blk_lt (g := gb351) (o := .cells #[.int .i64 x352000_1, .int .i64 x352001_1, .int .i64 x352002_1, .int .i64 x352003_1] 38 (0, 0)) (by (with_reducible repeat (first | refine blk_drewN ?_ _ | refine blk_drew ?_ | refine blk_alloc ?_ _)); exact BK351.out)) : gb351 ≠ gb357))
                  have n7_ := Aside0.mk ((by rw [hg]; exact Nat.ne_of_gt (blk_lt (g := gb351) (o := .cells #[.int .i64 x352000_1, .int .i64 x352001_1, .int .i64 x352002_1, .int .i64 x352003_1] 38 (0, 0)) (by (with_reducible repeat (first | refine blk_drewN ?_ _ | refine blk_drew ?_ | refine blk_alloc ?_ _)); exact BK351.out)) : gb357 ≠ gb351))
                  clear HO_7
                  clear BK351
                  clear HB
                  have HO_7 := n0_
                  have BK351 := n1_
                  have HB := n2_
                  have BK357 := n3_
                  have GW357 := n4_
                  have GE357 := n5_
                  have NB351_357 := n6_
                  have NB357_351 := n7_
                  clear n0_ n1_ n2_ n3_ n4_ n5_ n6_ n7_
                  clear hb hbox hg
                  refine hK.out _ _ ⟨(blk_cell BK351.out 0).trans rfl, (blk_cell BK351.out 1).trans rfl, (blk_cell BK351.out 2).trans rfl, (blk_cell BK351.out 3).trans rfl⟩ (fun hHeld => ?_)
                  clear hK K
                  refine norm_ (a' := ?_) ?_ ?_
                  rotate_left
                  · show Act.put _ (some 11) _ = _
                    simp only [Act.put, List.setIfInBounds_toArray, List.set_cons_zero, List.set_cons_succ, i64_w, i32_w]
                    rfl
                  exact norm_ (by simp only [putAll, Act.put, List.setIfInBounds_toArray, List.set_cons_zero, List.set_cons_succ]) (hCont (gb357) _ ⟨hHeld, (by (with_reducible repeat (first | apply Kd.R_alloc | apply Kd.R_drewN | apply Kd.R_drew)); exact HO_7.out), (by (with_reducible repeat (first | refine blk_drewN ?_ _ | refine blk_drew ?_ | refine blk_alloc ?_ _)); exact BK351.out), (by (with_reducible repeat (first | refine blk_drewN ?_ _ | refine blk_drew ?_ | refine blk_alloc ?_ _)); exact BK357.out), GW357.out, GE357.out, NB351_357.out, NB357_351.out, (by repeat (first | (with_reducible first | exact HB.out | apply below_alloc | apply pw_below_drewN | apply below_drew1 | refine below_set ?_ GE351.out | refine below_set ?_ GE357.out) | exact HB.out))⟩)
                · skip
                  refine box_step ?hg (N := 11) ?hd (cs := #[.int .i64 0, .int .i64 0, .int .i64 0, .int .i64 0]) (t := 38) ?hr ?_; (case hd => rfl); (case hg => rfl); (case hr => first | (go_simp; done) | (go_simp; rfl))
                  intro gb357 hg w43 hbox hb
                  have n0_ := Aside0.mk (Kd.R_below (by (with_reducible repeat (first | apply Kd.R_alloc | apply Kd.R_drewN | apply Kd.R_drew)); exact HO_7.out) hb)
                  have n1_ := Aside0.mk (blk_below (g := gb351) (o := .cells #[.int .i64 x352000_1, .int .i64 x352001_1, .int .i64 x352002_1, .int .i64 x352003_1] 38 (0, 0)) (by (with_reducible repeat (first | refine blk_drewN ?_ _ | refine blk_drew ?_ | refine blk_alloc ?_ _)); exact BK351.out) hb)
                  have n2_ := Aside0.mk (below_step (by repeat (first | (with_reducible first | exact HB.out | apply below_alloc | apply pw_below_drewN | apply below_drew1 | refine below_set ?_ GE351.out) | exact HB.out)) hb)
                  have n3_ := Aside0.mk (hbox)
                  have n4_ := Aside0.mk ((by rw [hg]; exact (below_size (by repeat (first | (with_reducible first | exact HB.out | apply below_alloc | apply pw_below_drewN | apply below_drew1 | refine below_set ?_ GE351.out) | exact HB.out))) : w.heap.size ≤ gb357))
                  have n5_ := Aside0.mk ((by rw [hg]; exact (below_size (by repeat (first | (with_reducible first | exact HB.out | apply below_alloc | apply pw_below_drewN | apply below_drew1 | refine below_set ?_ GE351.out) | exact HB.out))) : w.heap.size ≤ gb357))
                  have n6_ := Aside0.mk ((by rw [hg]; exact Nat.ne_of_lt (blk_lt (g := gb351) (o := .cells #[.int .i64 x352000_1, .int .i64 x352001_1, .int .i64 x352002_1, .int .i64 x352003_1] 38 (0, 0)) (by (with_reducible repeat (first | refine blk_drewN ?_ _ | refine blk_drew ?_ | refine blk_alloc ?_ _)); exact BK351.out)) : gb351 ≠ gb357))
                  have n7_ := Aside0.mk ((by rw [hg]; exact Nat.ne_of_gt (blk_lt (g := gb351) (o := .cells #[.int .i64 x352000_1, .int .i64 x352001_1, .int .i64 x352002_1, .int .i64 x352003_1] 38 (0, 0)) (by (with_reducible repeat (first | refine blk_drewN ?_ _ | refine blk_drew ?_ | refine blk_alloc ?_ _)); exact BK351.out)) : gb357 ≠ gb351))
                  clear HO_7
                  clear BK351
                  clear HB
                  have HO_7 := n0_
                  have BK351 := n1_
                  have HB := n2_
                  have BK357 := n3_
                  have GW357 := n4_
                  have GE357 := n5_
                  have NB351_357 := n6_
                  have NB357_351 := n7_
                  clear n0_ n1_ n2_ n3_ n4_ n5_ n6_ n7_
                  clear hb hbox hg
                  refine hK.out _ _ ⟨(blk_cell BK351.out 0).trans rfl, (blk_cell BK351.out 1).trans rfl, (blk_cell BK351.out 2).trans rfl, (blk_cell BK351.out 3).trans rfl⟩ (fun hHeld => ?_)
                  clear hK K
                  refine norm_ (a' := ?_) ?_ ?_
                  rotate_left
                  · show Act.put _ (some 11) _ = _
                    simp only [Act.put, List.setIfInBounds_toArray, List.set_cons_zero, List.set_cons_succ, i64_w, i32_w]
                    rfl
                  refine one_ (i := 4) (N := some 26) #[true, true, true, true, true, false, false, false, true, false, false] rfl rfl (one_of HT_.out (by kernel_rfl)) (by decide) (fun K hK => ?_)
                  refine goes_ Try.func18 (by kernel_rfl) rfl #[.agg #[.int .i64 x352000_1, .int .i64 x352001_1, .int .i64 x352002_1, .int .i64 x352003_1], .int .u8 (bt a0 x10_1)] (by rfl) rfl rfl (by (try simp only [List.map_toArray, List.map_cons, List.map_nil]); first | done | rfl | (simp only [List.length_drop, List.length_take]; rfl)) ?_
                  with_reducible refine (chequerref05_Put.calls k1 x352000_1 x352001_1 x352002_1 x352003_1 (bt a0 x10_1) t352 t353 t354 t355 t356 _ A10.out).mono ?_
                  rintro e w44 ⟨rfl, hb⟩
                  refine ⟨_, rfl, ?_⟩
                  have n0_ := Aside0.mk (Kd.R_below (by (with_reducible repeat (first | apply Kd.R_alloc | apply Kd.R_drewN | apply Kd.R_drew)); exact HO_7.out) hb)
                  have n1_ := Aside0.mk (blk_below (g := gb351) (o := .cells #[.int .i64 x352000_1, .int .i64 x352001_1, .int .i64 x352002_1, .int .i64 x352003_1] 38 (0, 0)) (by (with_reducible repeat (first | refine blk_drewN ?_ _ | refine blk_drew ?_ | refine blk_alloc ?_ _)); exact BK351.out) hb)
                  have n2_ := Aside0.mk (blk_below (g := gb357) (o := .cells #[.int .i64 0, .int .i64 0, .int .i64 0, .int .i64 0] 38 (0, 0)) (by (with_reducible repeat (first | refine blk_drewN ?_ _ | refine blk_drew ?_ | refine blk_alloc ?_ _)); exact BK357.out) hb)
                  have n3_ := Aside0.mk (below_step (by repeat (first | (with_reducible first | exact HB.out | apply below_alloc | apply pw_below_drewN | apply below_drew1 | refine below_set ?_ GE351.out | refine below_set ?_ GE357.out) | exact HB.out)) hb)
                  clear HO_7
                  clear BK351
                  clear BK357
                  clear HB
                  have HO_7 := n0_
                  have BK351 := n1_
                  have BK357 := n2_
                  have HB := n3_
                  clear n0_ n1_ n2_ n3_
                  (try clear hb)
                  (try clear hb2)
                  (try clear hk)
                  (try clear hi)
                  refine hK.out _ _ ⟨(blk_cell BK351.out 0).trans rfl, (blk_cell BK351.out 1).trans rfl, (blk_cell BK351.out 2).trans rfl, (blk_cell BK351.out 3).trans rfl⟩ (fun hHeld => ?_)
                  clear hK K
                  refine norm_ (a' := ?_) ?_ ?_
                  rotate_left
                  · show Act.put _ (some 26) _ = _
                    simp only [Act.put, List.setIfInBounds_toArray, List.set_cons_zero, List.set_cons_succ, i64_w, i32_w]
                    rfl
                  refine pure_ (i := 5) (N := some 21) (v := ?_) (a' := ?_) #[true, true, true, true, true, true, false, false, true, false, false] rfl rfl (any_of HT_.out (by kernel_rfl)) (fun _ _ _ h => h) (Or.inl ⟨by rfl, ?_⟩) ?_ ?_
                  rotate_left
                  · intro w'
                    go_simp
                    with_reducible rfl
                  rotate_left
                  · simp only [Act.put, List.setIfInBounds_toArray, List.set_cons_zero, List.set_cons_succ, i64_w, i32_w]
                    rfl
                  refine pure_ (i := 6) (N := some 27) (v := ?_) (a' := ?_) #[true, true, true, true, true, true, true, false, true, false, false] rfl rfl (any_of HT_.out (by kernel_rfl)) (fun _ _ _ h => h) (Or.inl ⟨by rfl, ?_⟩) ?_ ?_
                  rotate_left
                  · intro w'
                    go_simp
                    with_reducible rfl
                  rotate_left
                  · simp only [Act.put, List.setIfInBounds_toArray, List.set_cons_zero, List.set_cons_succ, i64_w, i32_w]
                    rfl
                  refine pure_ (i := 7) (N := some 28) (v := ?_) (a' := ?_) #[true, true, true, true, true, true, true, true, true, false, false] rfl rfl (any_of HT_.out (by kernel_rfl)) (fun _ _ _ h => h) (Or.inl ⟨by rfl, ?_⟩) ?_ ?_
                  rotate_left
                  · intro w'
                    go_simp
                    with_reducible rfl
                  rotate_left
                  · simp only [Act.put, List.setIfInBounds_toArray, List.set_cons_zero, List.set_cons_succ, i64_w, i32_w]
                    rfl
                  exact norm_ (by simp only [putAll, Act.put, List.setIfInBounds_toArray, List.set_cons_zero, List.set_cons_succ]) (hCont (gb357) _ ⟨hHeld, (by (with_reducible repeat (first | apply Kd.R_alloc | apply Kd.R_drewN | apply Kd.R_drew)); exact HO_7.out), (by (with_reducible repeat (first | refine blk_drewN ?_ _ | refine blk_drew ?_ | refine blk_alloc ?_ _)); exact BK351.out), (by (with_reducible repeat (first | refine blk_drewN ?_ _ | refine blk_drew ?_ | refine blk_alloc ?_ _)); exact BK357.out), GW357.out, GE357.out, NB351_357.out, NB357_351.out, (by repeat (first | (with_reducible first | exact HB.out | apply below_alloc | apply pw_below_drewN | apply below_drew1 | refine below_set ?_ GE351.out | refine below_set ?_ GE357.out) | exact HB.out))⟩)
              rintro gb357 w45 ⟨hS_, h0_, h1_, h2_, h3_, h4_, h5_, h6_, h7_⟩
              have n0_ : Aside0 (Kd.R (Kd.int .i64) 3 w45 w.heap.size (fun _ => True) u7 x7_1) := ⟨h0_⟩
              have n1_ : Aside0 (w45.heap[gb351]? = some (.cells #[.int .i64 x352000_1, .int .i64 x352001_1, .int .i64 x352002_1, .int .i64 x352003_1] 38 (0, 0))) := ⟨h1_⟩
              have n2_ : Aside0 (w45.heap[gb357]? = some (.cells #[.int .i64 0, .int .i64 0, .int .i64 0, .int .i64 0] 38 (0, 0))) := ⟨h2_⟩
              have n3_ : Aside0 (w.heap.size ≤ gb357) := ⟨h3_⟩
              have n4_ : Aside0 (w.heap.size ≤ gb357) := ⟨h4_⟩
              have n5_ : Aside0 (gb351 ≠ gb357) := ⟨h5_⟩
              have n6_ : Aside0 (gb357 ≠ gb351) := ⟨h6_⟩
              have n7_ : Aside0 (Below w.heap.size w w45) := ⟨h7_⟩
              clear HO_7
              clear BK351
              clear HB
              clear h0_ h1_ h2_ h3_ h4_ h5_ h6_ h7_
              have HO_7 := n0_
              have BK351 := n1_
              have BK357 := n2_
              have GW357 := n3_
              have GE357 := n4_
              have NB351_357 := n5_
              have NB357_351 := n6_
              have HB := n7_
              clear n0_ n1_ n2_ n3_ n4_ n5_ n6_ n7_
              have hHeld : w45.cell? ⟨gb351, 0, none⟩ = some (.int .i64 x352000_1) ∧ w45.cell? ⟨gb351, 1, none⟩ = some (.int .i64 x352001_1) ∧ w45.cell? ⟨gb351, 2, none⟩ = some (.int .i64 x352002_1) ∧ w45.cell? ⟨gb351, 3, none⟩ = some (.int .i64 x352003_1) := hS_
              refine norm_ (a' := ?_) ?_ ?_
              rotate_left
              · simp only [putAll, Act.put, List.setIfInBounds_toArray, List.set_cons_zero, List.set_cons_succ]
                rfl
              refine one_ (i := 9) (N := none) #[true, true, true, true, true, true, true, true, true, true, false] rfl rfl (one_of HT_.out (by kernel_rfl)) (by decide) (fun K hK => ?_)
              have hs46 : w45.cell? ⟨gb357, 0, none⟩ = some (.int .i64 0) := (blk_cell BK357.out 0).trans rfl
              have hfs46 := blk_frozen BK357.out 0
              have hns46_0 := NB351_357.out
              have hms46_0 := NB357_351.out
              have hs47 : w45.cell? ⟨gb357, 1, none⟩ = some (.int .i64 0) := (blk_cell BK357.out 1).trans rfl
              have hfs47 := blk_frozen BK357.out 1
              have hns47_0 := NB351_357.out
              have hms47_0 := NB357_351.out
              have hs48 : w45.cell? ⟨gb357, 2, none⟩ = some (.int .i64 0) := (blk_cell BK357.out 2).trans rfl
              have hfs48 := blk_frozen BK357.out 2
              have hns48_0 := NB351_357.out
              have hms48_0 := NB357_351.out
              have hs49 : w45.cell? ⟨gb357, 3, none⟩ = some (.int .i64 0) := (blk_cell BK357.out 3).trans rfl
              have hfs49 := blk_frozen BK357.out 3
              have hns49_0 := NB351_357.out
              have hms49_0 := NB357_351.out
              refine skip_ (w1 := ?_) (by rfl) rfl ?_ ?_
              rotate_left
              · go_simp
                rfl
              refine hK.out _ _ ⟨((cell_far (p := ⟨gb357, _, none⟩) NB351_357.out _).trans (((cell_far (p := ⟨gb357, _, none⟩) NB351_357.out _).trans (((cell_far (p := ⟨gb357, _, none⟩) NB351_357.out _).trans (((cell_far (p := ⟨gb357, _, none⟩) NB351_357.out _).trans (hHeld.1)))))))), ((cell_far (p := ⟨gb357, _, none⟩) NB351_357.out _).trans (((cell_far (p := ⟨gb357, _, none⟩) NB351_357.out _).trans (((cell_far (p := ⟨gb357, _, none⟩) NB351_357.out _).trans (((cell_far (p := ⟨gb357, _, none⟩) NB351_357.out _).trans (hHeld.2.1)))))))), ((cell_far (p := ⟨gb357, _, none⟩) NB351_357.out _).trans (((cell_far (p := ⟨gb357, _, none⟩) NB351_357.out _).trans (((cell_far (p := ⟨gb357, _, none⟩) NB351_357.out _).trans (((cell_far (p := ⟨gb357, _, none⟩) NB351_357.out _).trans (hHeld.2.2.1)))))))), ((cell_far (p := ⟨gb357, _, none⟩) NB351_357.out _).trans (((cell_far (p := ⟨gb357, _, none⟩) NB351_357.out _).trans (((cell_far (p := ⟨gb357, _, none⟩) NB351_357.out _).trans (((cell_far (p := ⟨gb357, _, none⟩) NB351_357.out _).trans (hHeld.2.2.2))))))))⟩ (fun hHeld => ?_)
              clear hK K
              refine pure_ (i := 10) (N := some 12) (v := ?_) (a' := ?_) #[true, true, true, true, true, true, true, true, true, true, true] rfl rfl (any_of HT_.out (by kernel_rfl)) (fun _ _ _ h => h) (Or.inl ⟨by rfl, ?_⟩) ?_ ?_
              rotate_left
              · intro w'
                go_simp
                with_reducible rfl
              rotate_left
              · simp only [Act.put, List.setIfInBounds_toArray, List.set_cons_zero, List.set_cons_succ, i64_w, i32_w]
                rfl
              refine done_ (done_of HT_.out (by kernel_rfl)) ?_
              have hnb50 := NB357_351.out
              have hnc50 := NB351_357.out
              have hcz51_0 : w45.cell? ⟨gb357, 0, none⟩ = some (.int .i64 0) := (blk_cell BK357.out 0).trans rfl
              have hcz51_1 : w45.cell? ⟨gb357, 1, none⟩ = some (.int .i64 0) := (blk_cell BK357.out 1).trans rfl
              have hcz51_2 : w45.cell? ⟨gb357, 2, none⟩ = some (.int .i64 0) := (blk_cell BK357.out 2).trans rfl
              have hcz51_3 : w45.cell? ⟨gb357, 3, none⟩ = some (.int .i64 0) := (blk_cell BK357.out 3).trans rfl
              have hfz51_0 := blk_frozen BK357.out 0
              have hfz51_1 := blk_frozen BK357.out 1
              have hfz51_2 := blk_frozen BK357.out 2
              have hfz51_3 := blk_frozen BK357.out 3
              have hcz52_0 : w45.cell? ⟨gb351, 0, none⟩ = some (.int .i64 x352000_1) := (blk_cell BK351.out 0).trans rfl
              have hcz52_1 : w45.cell? ⟨gb351, 1, none⟩ = some (.int .i64 x352001_1) := (blk_cell BK351.out 1).trans rfl
              have hcz52_2 : w45.cell? ⟨gb351, 2, none⟩ = some (.int .i64 x352002_1) := (blk_cell BK351.out 2).trans rfl
              have hcz52_3 : w45.cell? ⟨gb351, 3, none⟩ = some (.int .i64 x352003_1) := (blk_cell BK351.out 3).trans rfl
              have hfz52_0 := blk_frozen BK351.out 0
              have hfz52_1 := blk_frozen BK351.out 1
              have hfz52_2 := blk_frozen BK351.out 2
              have hfz52_3 := blk_frozen BK351.out 3
              try go_wp2
              go_roundg k1
              case measure => have := HK1.out; omega
              case rel => exact ⟨(x7_1), (x8_1), (wrap64 (x10_1 + 1)), (t352), (t353), (t354), (t355), (by first | rfl | (simp; done) | (simp [*]; done)), (by first | rfl | (simp; done) | (simp [*]; done)), H', ⟨by have := HK1.out; omega⟩, ⟨by (with_reducible repeat (first | apply Kd.R_alloc | apply Kd.R_drewN | apply Kd.R_drew)); exact Kd.R_mono (Kd.R_far (p := ⟨gb351, 3, none⟩) (Kd.R_far (p := ⟨gb351, 2, none⟩) (Kd.R_far (p := ⟨gb351, 1, none⟩) (Kd.R_far (p := ⟨gb351, 0, none⟩) (Kd.R_far (p := ⟨gb357, 3, none⟩) (Kd.R_far (p := ⟨gb357, 2, none⟩) (Kd.R_far (p := ⟨gb357, 1, none⟩) (Kd.R_far (p := ⟨gb357, 0, none⟩) (Kd.R_types (Kd.R_types HO_7.out BK357.out (by decide)) BK351.out (by decide)) (fun _ hk => hk.1.2) (.int .i64 t352)) (fun _ hk => hk.1.2) (.int .i64 t353)) (fun _ hk => hk.1.2) (.int .i64 t354)) (fun _ hk => hk.1.2) (.int .i64 t355)) (fun _ hk => hk.2) (.int .i64 t352)) (fun _ hk => hk.2) (.int .i64 t353)) (fun _ hk => hk.2) (.int .i64 t354)) (fun _ hk => hk.2) (.int .i64 t355)) (fun _ hk => trivial)⟩, ⟨by (with_reducible repeat (first | refine blk_drewN ?_ _ | refine blk_drew ?_ | refine blk_alloc ?_ _)); refine blk_put (cs := #[.int .i64 t352, .int .i64 t353, .int .i64 t354, .int .i64 x352003_1]) ?_ 3 _ rfl; (with_reducible repeat (first | refine blk_drewN ?_ _ | refine blk_drew ?_ | refine blk_alloc ?_ _)); refine blk_put (cs := #[.int .i64 t352, .int .i64 t353, .int .i64 x352002_1, .int .i64 x352003_1]) ?_ 2 _ rfl; (with_reducible repeat (first | refine blk_drewN ?_ _ | refine blk_drew ?_ | refine blk_alloc ?_ _)); refine blk_put (cs := #[.int .i64 t352, .int .i64 x352001_1, .int .i64 x352002_1, .int .i64 x352003_1]) ?_ 1 _ rfl; (with_reducible repeat (first | refine blk_drewN ?_ _ | refine blk_drew ?_ | refine blk_alloc ?_ _)); refine blk_put (cs := #[.int .i64 x352000_1, .int .i64 x352001_1, .int .i64 x352002_1, .int .i64 x352003_1]) ?_ 0 _ rfl; (with_reducible repeat (first | refine blk_drewN ?_ _ | refine blk_drew ?_ | refine blk_alloc ?_ _)); refine blk_far ?_ NB351_357.out _; (with_reducible repeat (first | refine blk_drewN ?_ _ | refine blk_drew ?_ | refine blk_alloc ?_ _)); refine blk_far ?_ NB351_357.out _; (with_reducible repeat (first | refine blk_drewN ?_ _ | refine blk_drew ?_ | refine blk_alloc ?_ _)); refine blk_far ?_ NB351_357.out _; (with_reducible repeat (first | refine blk_drewN ?_ _ | refine blk_drew ?_ | refine blk_alloc ?_ _)); refine blk_far ?_ NB351_357.out _; (with_reducible repeat (first | refine blk_drewN ?_ _ | refine blk_drew ?_ | refine blk_alloc ?_ _)); exact BK351.out⟩, ⟨by repeat (first | (with_reducible first | exact HB.out | apply below_alloc | apply pw_below_drewN | apply below_drew1 | refine below_set ?_ GE351.out | refine below_set ?_ GE357.out) | exact HB.out)⟩⟩
        · rw [if_neg c8] at H
          exact absurd H (by simp)
      · rw [if_neg c7] at H
        have c7b0 : decide (x10_1 < (a0.size : Int)) = false := decide_eq_false c7
        clear c7
        by_cases c53 : x352000_1 > 1
        · rw [if_pos c53] at H
          have c53b0 : decide (1 < x352000_1) = true := decide_eq_true c53
          clear c53
          simp only [Option.some.injEq, Prod.mk.injEq] at H
          obtain ⟨rfl, rfl, rfl⟩ := H
          have hcz54_0 : wr.cell? ⟨gb351, 0, none⟩ = some (.int .i64 x352000_1) := (blk_cell BK351.out 0).trans rfl
          have hcz54_1 : wr.cell? ⟨gb351, 1, none⟩ = some (.int .i64 x352001_1) := (blk_cell BK351.out 1).trans rfl
          have hcz54_2 : wr.cell? ⟨gb351, 2, none⟩ = some (.int .i64 x352002_1) := (blk_cell BK351.out 2).trans rfl
          have hcz54_3 : wr.cell? ⟨gb351, 3, none⟩ = some (.int .i64 x352003_1) := (blk_cell BK351.out 3).trans rfl
          have hfz54_0 := blk_frozen BK351.out 0
          have hfz54_1 := blk_frozen BK351.out 1
          have hfz54_2 := blk_frozen BK351.out 2
          have hfz54_3 := blk_frozen BK351.out 3
          go_wp2
          go_ret3
          exact ⟨_, by first | rfl | (simp [errW_none, errW_some] <;> rfl) | (simp [*, errW_none, errW_some] <;> rfl), by (with_reducible repeat (first | apply Kd.R_alloc | apply Kd.R_drewN | apply Kd.R_drew)); exact HO_7.out, by repeat (first | (with_reducible first | exact HB.out | apply below_alloc | apply pw_below_drewN | apply below_drew1 | refine below_set ?_ GE351.out) | exact HB.out)⟩
        · rw [if_neg c53] at H
          have c53b0 : decide (1 < x352000_1) = false := decide_eq_false c53
          clear c53
          simp only [Option.some.injEq, Prod.mk.injEq] at H
          obtain ⟨rfl, rfl, rfl⟩ := H
          have hcz55_0 : wr.cell? ⟨gb351, 0, none⟩ = some (.int .i64 x352000_1) := (blk_cell BK351.out 0).trans rfl
          have hcz55_1 : wr.cell? ⟨gb351, 1, none⟩ = some (.int .i64 x352001_1) := (blk_cell BK351.out 1).trans rfl
          have hcz55_2 : wr.cell? ⟨gb351, 2, none⟩ = some (.int .i64 x352002_1) := (blk_cell BK351.out 2).trans rfl
          have hcz55_3 : wr.cell? ⟨gb351, 3, none⟩ = some (.int .i64 x352003_1) := (blk_cell BK351.out 3).trans rfl
          have hfz55_0 := blk_frozen BK351.out 0
          have hfz55_1 := blk_frozen BK351.out 1
          have hfz55_2 := blk_frozen BK351.out 2
          have hfz55_3 := blk_frozen BK351.out 3
          go_wp2
          go_ret3
          exact ⟨_, by first | rfl | (simp [errW_none, errW_some] <;> rfl) | (simp [*, errW_none, errW_some] <;> rfl), by (with_reducible repeat (first | apply Kd.R_alloc | apply Kd.R_drewN | apply Kd.R_drew)); exact HO_7.out, by repeat (first | (with_reducible first | exact HB.out | apply below_alloc | apply pw_below_drewN | apply below_drew1 | refine below_set ?_ GE351.out) | exact HB.out)⟩

end Go.Proofs.Ytbbgichpbjgifaa.Q
