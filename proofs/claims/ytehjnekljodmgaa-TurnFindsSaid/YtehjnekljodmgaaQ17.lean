-- written by our own program (wip/tools/myprint.py) out of the translation, by the kit's print; Lean checks it
import Derived.Test.YtehjnekljodmgaaQ0
import Derived.Test.YtehjnekljodmgaaQ16
namespace Go.Proofs.Ytehjnekljodmgaa.Q
open Go.RowKit Go.Proofs.YtehjnekljodmgaaW.PrintWords Go.Proofs.YtehjnekljodmgaaW.PrintLast Go.Proofs.YtehjnekljodmgaaW.PrintMore
attribute [local go_sem] max2_int min2_int max_two min_two max_three min_three max_four min_four   -- for this text's walks alone
set_option linter.unusedVariables false
set_option linter.unusedSimpArgs false

/-! ### chequerref03_Find: function 32 -/
mutual
def chequerref03_Find.l0 : Nat → List (S80) → Int → Int → Int → List Int → Int → Int → List Int → Option ((List (S80)))
  | 0, _, _, _, _, _, _, _, _ => none
  | k + 1, x5, x6, x486000, x486001, x486002, x487000, x487001, x487002 => if x6 < x486001 then (chequerref03_Find.l1 k x5 x6 0 x486000 x486001 x486002 x487000 x487001 x487002) else (some x5)
def chequerref03_Find.l1 : Nat → List (S80) → Int → Int → Int → Int → List Int → Int → Int → List Int → Option ((List (S80)))
  | 0, _, _, _, _, _, _, _, _, _ => none
  | k + 1, x5, x6, x7, x486000, x486001, x486002, x487000, x487001, x487002 => if x7 < x486000 then ((chequerref03_Has.f k x486000 x486001 x486002 x487000 x487001 x487002 x7 x6).bind fun t487 => (if t487 = true then (if x5.length < 8796093022208 then (chequerref03_Find.l1 k (x5 ++ [(⟨x7, x6⟩ : S80)]) x6 (wrap64 (x7 + 1)) x486000 x486001 x486002 x487000 x487001 x487002) else (none)) else (chequerref03_Find.l1 k x5 x6 (wrap64 (x7 + 1)) x486000 x486001 x486002 x487000 x487001 x487002))) else (chequerref03_Find.l0 k x5 (wrap64 (x6 + 1)) x486000 x486001 x486002 x487000 x487001 x487002)
end
def chequerref03_Find.f (k : Nat) (a0_0 : Int) (a0_1 : Int) (l0_2 : List Int) (a1_0 : Int) (a1_1 : Int) (l1_2 : List Int) : Option ((List (S80))) := chequerref03_Find.l0 k ([] : List (S80)) 0 a0_0 a0_1 l0_2 a1_0 a1_1 l1_2
theorem chequerref03_Find.mono_l : ∀ k, (∀ y0 y1 y2 y3 y4 y5 y6 y7, LeO (chequerref03_Find.l0 k y0 y1 y2 y3 y4 y5 y6 y7) (chequerref03_Find.l0 (k + 1) y0 y1 y2 y3 y4 y5 y6 y7)) ∧ (∀ y0 y1 y2 y3 y4 y5 y6 y7 y8, LeO (chequerref03_Find.l1 k y0 y1 y2 y3 y4 y5 y6 y7 y8) (chequerref03_Find.l1 (k + 1) y0 y1 y2 y3 y4 y5 y6 y7 y8))
  | 0 => ⟨fun _ _ _ _ _ _ _ _ r h => by simp [chequerref03_Find.l0] at h, fun _ _ _ _ _ _ _ _ _ r h => by simp [chequerref03_Find.l1] at h⟩
  | k + 1 => by
    obtain ⟨ih0, ih1⟩ := chequerref03_Find.mono_l k
    refine ⟨?_, ?_⟩
    · intro y0 y1 y2 y3 y4 y5 y6 y7
      unfold chequerref03_Find.l0
      repeat' first
      | (with_reducible exact ih0 _ _ _ _ _ _ _ _)
      | (with_reducible exact ih1 _ _ _ _ _ _ _ _ _)
      | (with_reducible exact chequerref03_Has.mono _ _ _ _ _ _ _ _ _)
      | (with_reducible exact LeO.refl _)
      | (with_reducible exact LeO.none _)
      | (with_reducible refine LeO.ite ?_ ?_)
      | (with_reducible refine LeO.bind ?_ (fun _ => ?_))
      | exact ih0 _ _ _ _ _ _ _ _
      | exact ih1 _ _ _ _ _ _ _ _ _
      | exact chequerref03_Has.mono _ _ _ _ _ _ _ _ _
      | exact LeO.none _
      | refine LeO.ite ?_ ?_
      | refine LeO.bind ?_ (fun _ => ?_)
    · intro y0 y1 y2 y3 y4 y5 y6 y7 y8
      unfold chequerref03_Find.l1
      repeat' first
      | (with_reducible exact ih0 _ _ _ _ _ _ _ _)
      | (with_reducible exact ih1 _ _ _ _ _ _ _ _ _)
      | (with_reducible exact chequerref03_Has.mono _ _ _ _ _ _ _ _ _)
      | (with_reducible exact LeO.refl _)
      | (with_reducible exact LeO.none _)
      | (with_reducible refine LeO.ite ?_ ?_)
      | (with_reducible refine LeO.bind ?_ (fun _ => ?_))
      | exact ih0 _ _ _ _ _ _ _ _
      | exact ih1 _ _ _ _ _ _ _ _ _
      | exact chequerref03_Has.mono _ _ _ _ _ _ _ _ _
      | exact LeO.none _
      | refine LeO.ite ?_ ?_
      | refine LeO.bind ?_ (fun _ => ?_)
theorem chequerref03_Find.mono : ∀ a0 a1 a2 a3 a4 a5 k, LeO (chequerref03_Find.f k a0 a1 a2 a3 a4 a5) (chequerref03_Find.f (k + 1) a0 a1 a2 a3 a4 a5) := by
  intro a0 a1 a2 a3 a4 a5 k
  obtain ⟨ih0, ih1⟩ := chequerref03_Find.mono_l k
  unfold chequerref03_Find.f
  repeat' first
      | (with_reducible exact ih0 _ _ _ _ _ _ _ _)
      | (with_reducible exact ih1 _ _ _ _ _ _ _ _ _)
      | (with_reducible exact chequerref03_Has.mono _ _ _ _ _ _ _ _ _)
      | (with_reducible exact LeO.refl _)
      | (with_reducible exact LeO.none _)
      | (with_reducible refine LeO.ite ?_ ?_)
      | (with_reducible refine LeO.bind ?_ (fun _ => ?_))
      | exact ih0 _ _ _ _ _ _ _ _
      | exact ih1 _ _ _ _ _ _ _ _ _
      | exact chequerref03_Has.mono _ _ _ _ _ _ _ _ _
      | exact LeO.none _
      | refine LeO.ite ?_ ?_
      | refine LeO.bind ?_ (fun _ => ?_)
set_option maxHeartbeats 8000000 in
set_option maxRecDepth 100000 in
theorem chequerref03_Find.calls (k : Nat) (a0_0 : Int) (a0_1 : Int) (A0_2 : Option Addr) (c0_2 : Nat) (l0_2 : List Int) (a1_0 : Int) (a1_1 : Int) (A1_2 : Option Addr) (c1_2 : Nat) (l1_2 : List Int) (r : List (S80)) (w : World) (hr0_2 : Kd.C (Kd.int .u64) w A0_2 l0_2.length l0_2) (hc0_2 : l0_2.length ≤ c0_2) (hr1_2 : Kd.C (Kd.int .u64) w A1_2 l1_2.length l1_2) (hc1_2 : l1_2.length ≤ c1_2) (h : chequerref03_Find.f k a0_0 a0_1 l0_2 a1_0 a1_1 l1_2 = some r) :
    Calls Try.prog 32 #[.agg #[.int .i64 a0_0, .int .i64 a0_1, .slice A0_2 l0_2.length c0_2], .agg #[.int .i64 a1_0, .int .i64 a1_1, .slice A1_2 l1_2.length c1_2]] w fun e w' => ∃ v0_ : Value, e = .returned (v0_) ∧ Kd.R k80 80 w' w.heap.size (fun _ => True) v0_ r ∧ Below w.heap.size w w' := by
  have hu24 := Try.underlying24
  have hu80 := Try.underlying80
  have HR0_2 := Aside0.mk hr0_2
  have HC0_2 := Aside0.mk hc0_2
  clear hr0_2 hc0_2
  have HR1_2 := Aside0.mk hr1_2
  have HC1_2 := Aside0.mk hc1_2
  clear hr1_2 hc1_2
  have HB := Aside0.mk (Below.refl w.heap.size w)
  have H : (chequerref03_Find.l0 k ([] : List (S80)) 0 a0_0 a0_1 l0_2 a1_0 a1_1 l1_2) = some r := h
  clear h
  have H' := Aside0.mk H
  clear H
  go_enter Try.func32, Try.ntmps32
  go_wp2_with (first | ((with_reducible refine gate_dst (N := 2) rfl ?_); refine box_event ?hg (N := 2) ?hd (cs := #[.int .i64 a0_0, .int .i64 a0_1, .slice A0_2 l0_2.length c0_2]) (t := 24) ?hr ?_; (case hd => rfl); (case hg => rfl); (case hr => first | (go_simp; done) | (go_simp; rfl)); intro gb485 hg w3 hbox hb; have n0_ := Aside0.mk (below_step (by repeat (first | (with_reducible first | exact HB.out | apply below_alloc | apply pw_below_drewN | apply below_drew1) | exact HB.out)) hb); have n1_ := Aside0.mk (hbox); have n2_ := Aside0.mk ((by rw [hg]; exact (below_size (by repeat (first | (with_reducible first | exact HB.out | apply below_alloc | apply pw_below_drewN | apply below_drew1) | exact HB.out))) : w.heap.size ≤ gb485)); have n3_ := Aside0.mk ((by rw [hg]; exact (below_size (by repeat (first | (with_reducible first | exact HB.out | apply below_alloc | apply pw_below_drewN | apply below_drew1) | exact HB.out))) : w.heap.size ≤ gb485)); clear HB; have HB := n0_; have BK485 := n1_; have GW485 := n2_; have GE485 := n3_; clear n0_ n1_ n2_ n3_; clear hb hbox hg) | ((with_reducible refine gate_dst (N := 3) rfl ?_); refine box_event ?hg (N := 3) ?hd (cs := #[.int .i64 a1_0, .int .i64 a1_1, .slice A1_2 l1_2.length c1_2]) (t := 24) ?hr ?_; (case hd => rfl); (case hg => rfl); (case hr => first | (go_simp; done) | (go_simp; rfl)); intro gb486 hg w4 hbox hb; have n0_ := Aside0.mk (blk_below (g := gb485) (o := .cells #[.int .i64 a0_0, .int .i64 a0_1, .slice A0_2 l0_2.length c0_2] 24 (0, 0)) (by (with_reducible repeat (first | refine blk_drewN ?_ _ | refine blk_drew ?_ | refine blk_alloc ?_ _)); exact BK485.out) hb); have n1_ := Aside0.mk (below_step (by repeat (first | (with_reducible first | exact HB.out | apply below_alloc | apply pw_below_drewN | apply below_drew1 | refine below_set ?_ GE485.out) | exact HB.out)) hb); have n2_ := Aside0.mk (hbox); have n3_ := Aside0.mk ((by rw [hg]; exact (below_size (by repeat (first | (with_reducible first | exact HB.out | apply below_alloc | apply pw_below_drewN | apply below_drew1 | refine below_set ?_ GE485.out) | exact HB.out))) : w.heap.size ≤ gb486)); have n4_ := Aside0.mk ((by rw [hg]; exact (below_size (by repeat (first | (with_reducible first | exact HB.out | apply below_alloc | apply pw_below_drewN | apply below_drew1 | refine below_set ?_ GE485.out) | exact HB.out))) : w.heap.size ≤ gb486)); have n5_ := Aside0.mk ((by rw [hg]; exact Nat.ne_of_lt (blk_lt (g := gb485) (o := .cells #[.int .i64 a0_0, .int .i64 a0_1, .slice A0_2 l0_2.length c0_2] 24 (0, 0)) (by (with_reducible repeat (first | refine blk_drewN ?_ _ | refine blk_drew ?_ | refine blk_alloc ?_ _)); exact BK485.out)) : gb485 ≠ gb486)); have n6_ := Aside0.mk ((by rw [hg]; exact Nat.ne_of_gt (blk_lt (g := gb485) (o := .cells #[.int .i64 a0_0, .int .i64 a0_1, .slice A0_2 l0_2.length c0_2] 24 (0, 0)) (by (with_reducible repeat (first | refine blk_drewN ?_ _ | refine blk_drew ?_ | refine blk_alloc ?_ _)); exact BK485.out)) : gb486 ≠ gb485)); clear BK485; clear HB; have BK485 := n0_; have HB := n1_; have BK486 := n2_; have GW486 := n3_; have GE486 := n4_; have NB485_486 := n5_; have NB486_485 := n6_; clear n0_ n1_ n2_ n3_ n4_ n5_ n6_; clear hb hbox hg))
  go_loopg [5, 6] k (fun kq v5 v6 w' => ∃ (x5_1 : List (S80)) (x6_1 : Int), v6 = .int .i64 x6_1 ∧ Aside0 (chequerref03_Find.l0 kq x5_1 x6_1 a0_0 a0_1 l0_2 a1_0 a1_1 l1_2 = some r) ∧ Aside0 (kq ≤ k) ∧ Aside0 (Kd.R k80 80 w' w.heap.size (fun _ => True) v5 x5_1) ∧ Aside0 (w'.heap[gb485]? = some (.cells #[.int .i64 a0_0, .int .i64 a0_1, (.slice A0_2 l0_2.length c0_2)] 24 (0, 0))) ∧ Aside0 (w'.heap[gb486]? = some (.cells #[.int .i64 a1_0, .int .i64 a1_1, (.slice A1_2 l1_2.length c1_2)] 24 (0, 0))) ∧ Aside0 (Below w.heap.size w w'))
  case atStart => exact ⟨(([] : List (S80))), (0), (by first | rfl | (simp; done) | (simp [*]; done)), H', ⟨Nat.le_refl _⟩, ⟨by first | exact Kd.R_nil _ _ _ _ _ | exact Kd.N_nil _ _ _ _ _ | exact Kd.V_nil _ _ _ _ _ | exact Kd.Q_nil _ _ _ _ _ | exact Kd.S_nil _ _ _ _ _⟩, ⟨by (with_reducible repeat (first | refine blk_drewN ?_ _ | refine blk_drew ?_ | refine blk_alloc ?_ _)); exact BK485.out⟩, ⟨by (with_reducible repeat (first | refine blk_drewN ?_ _ | refine blk_drew ?_ | refine blk_alloc ?_ _)); exact BK486.out⟩, ⟨by repeat (first | (with_reducible first | exact HB.out | apply below_alloc | apply pw_below_drewN | apply below_drew1 | refine below_set ?_ GE485.out | refine below_set ?_ GE486.out) | exact HB.out)⟩⟩
  case round =>
    clear H'
    try clear c1
    try clear p2
    try clear c3
    obtain ⟨x5_1, x6_1, rfl, HA, HK1, HO_5, BK485, BK486, HB⟩ := hrel
    cases gk with
    | zero => exact absurd HA.out (by simp [chequerref03_Find.l0])
    | succ k1 =>
      have H := HA.out
      clear HA
      simp only [chequerref03_Find.l0] at H
      by_cases c5 : x6_1 < a0_1
      · rw [if_pos c5] at H
        have c5b0 : decide (x6_1 < a0_1) = true := decide_eq_true c5
        clear c5
        have H' := Aside0.mk H
        clear H
        have hnb6 := NB485_486.out
        have hnc6 := NB486_485.out
        have hcz7_0 : wr.cell? ⟨gb485, 0, none⟩ = some (.int .i64 a0_0) := (blk_cell BK485.out 0).trans rfl
        have hcz7_1 : wr.cell? ⟨gb485, 1, none⟩ = some (.int .i64 a0_1) := (blk_cell BK485.out 1).trans rfl
        have hcz7_2 : wr.cell? ⟨gb485, 2, none⟩ = some (.slice A0_2 l0_2.length c0_2) := (blk_cell BK485.out 2).trans rfl
        have hfz7_0 := blk_frozen BK485.out 0
        have hfz7_1 := blk_frozen BK485.out 1
        have hfz7_2 := blk_frozen BK485.out 2
        go_wp2
        go_loopg [5, 7] k1 (fun kq v5 v7 w' => ∃ (x5_2 : List (S80)) (x7_2 : Int), v7 = .int .i64 x7_2 ∧ Aside0 (chequerref03_Find.l1 kq x5_2 x6_1 x7_2 a0_0 a0_1 l0_2 a1_0 a1_1 l1_2 = some r) ∧ Aside0 (kq ≤ k1) ∧ Aside0 (Kd.R k80 80 w' w.heap.size (fun _ => True) v5 x5_2) ∧ Aside0 (w'.heap[gb485]? = some (.cells #[.int .i64 a0_0, .int .i64 a0_1, (.slice A0_2 l0_2.length c0_2)] 24 (0, 0))) ∧ Aside0 (w'.heap[gb486]? = some (.cells #[.int .i64 a1_0, .int .i64 a1_1, (.slice A1_2 l1_2.length c1_2)] 24 (0, 0))) ∧ Aside0 (Below w.heap.size w w'))
        case atStart => exact ⟨(x5_1), (0), (by first | rfl | (simp; done) | (simp [*]; done)), H', ⟨Nat.le_refl _⟩, ⟨by (with_reducible repeat (first | apply Kd.R_alloc | apply Kd.R_drewN | apply Kd.R_drew)); exact HO_5.out⟩, ⟨by (with_reducible repeat (first | refine blk_drewN ?_ _ | refine blk_drew ?_ | refine blk_alloc ?_ _)); exact BK485.out⟩, ⟨by (with_reducible repeat (first | refine blk_drewN ?_ _ | refine blk_drew ?_ | refine blk_alloc ?_ _)); exact BK486.out⟩, ⟨by repeat (first | (with_reducible first | exact HB.out | apply below_alloc | apply pw_below_drewN | apply below_drew1 | refine below_set ?_ GE485.out | refine below_set ?_ GE486.out) | exact HB.out)⟩⟩
        case round =>
          clear H'
          try clear c1
          try clear p2
          try clear c3
          try clear c5
          try clear c5b0
          try clear c6
          try clear hcz7_0
          try clear hcz7_1
          try clear hcz7_2
          try clear hfz7_0
          try clear hfz7_1
          try clear hfz7_2
          try clear p2
          obtain ⟨x5_2, x7_2, rfl, HA, HK2, HO_5, BK485, BK486, HB⟩ := hrel
          cases gk with
          | zero => exact absurd HA.out (by simp [chequerref03_Find.l1])
          | succ k2 =>
            have H := HA.out
            clear HA
            simp only [chequerref03_Find.l1] at H
            by_cases c8 : x7_2 < a0_0
            · rw [if_pos c8] at H
              have c8b0 : decide (x7_2 < a0_0) = true := decide_eq_true c8
              clear c8
              replace H := Option.bind_eq_some_iff.mp H
              obtain ⟨t487, A90, H⟩ := H
              replace H : (if t487 = true then (if x5_2.length < 8796093022208 then (chequerref03_Find.l1 k2 (x5_2 ++ [(⟨x7_2, x6_1⟩ : S80)]) x6_1 (wrap64 (x7_2 + 1)) a0_0 a0_1 l0_2 a1_0 a1_1 l1_2) else (none)) else (chequerref03_Find.l1 k2 x5_2 x6_1 (wrap64 (x7_2 + 1)) a0_0 a0_1 l0_2 a1_0 a1_1 l1_2)) = some r := H
              have A9 := Aside0.mk A90
              clear A90
              by_cases c10 : t487 = true
              · subst c10
                have H1 : (if x5_2.length < 8796093022208 then (chequerref03_Find.l1 k2 (x5_2 ++ [(⟨x7_2, x6_1⟩ : S80)]) x6_1 (wrap64 (x7_2 + 1)) a0_0 a0_1 l0_2 a1_0 a1_1 l1_2) else (none)) = some r := by rw [if_pos rfl] at H; exact H
                clear H
                have H := H1
                clear H1
                by_cases c11 : x5_2.length < 8796093022208
                · rw [if_pos c11] at H
                  have LMc11 := Aside0.mk c11
                  clear c11
                  obtain ⟨y488, hy488⟩ : ∃ y_ : List (S80), y_ = (x5_2 ++ [(⟨x7_2, x6_1⟩ : S80)]) := ⟨_, rfl⟩
                  replace H : (chequerref03_Find.l1 k2 y488 x6_1 (wrap64 (x7_2 + 1)) a0_0 a0_1 l0_2 a1_0 a1_1 l1_2) = some r := by first | (rw [hy488]; with_reducible exact H) | (have H2_ := (Option.bind_some _ _).symm.trans H; rw [hy488]; with_reducible exact H2_) | (have H2_ := (Option.bind_some _ _).symm.trans H; with_reducible exact H2_) | with_reducible exact H | (rw [hy488]; exact H) | exact H
                  have Ny488 := Aside0.mk hy488
                  clear hy488
                  have H' := Aside0.mk H
                  clear H
                  have hnb12 := NB485_486.out
                  have hnc12 := NB486_485.out
                  have hcz13_0 : wr.cell? ⟨gb485, 0, none⟩ = some (.int .i64 a0_0) := (blk_cell BK485.out 0).trans rfl
                  have hcz13_1 : wr.cell? ⟨gb485, 1, none⟩ = some (.int .i64 a0_1) := (blk_cell BK485.out 1).trans rfl
                  have hcz13_2 : wr.cell? ⟨gb485, 2, none⟩ = some (.slice A0_2 l0_2.length c0_2) := (blk_cell BK485.out 2).trans rfl
                  have hfz13_0 := blk_frozen BK485.out 0
                  have hfz13_1 := blk_frozen BK485.out 1
                  have hfz13_2 := blk_frozen BK485.out 2
                  have hcz14_0 : wr.cell? ⟨gb486, 0, none⟩ = some (.int .i64 a1_0) := (blk_cell BK486.out 0).trans rfl
                  have hcz14_1 : wr.cell? ⟨gb486, 1, none⟩ = some (.int .i64 a1_1) := (blk_cell BK486.out 1).trans rfl
                  have hcz14_2 : wr.cell? ⟨gb486, 2, none⟩ = some (.slice A1_2 l1_2.length c1_2) := (blk_cell BK486.out 2).trans rfl
                  have hfz14_0 := blk_frozen BK486.out 0
                  have hfz14_1 := blk_frozen BK486.out 1
                  have hfz14_2 := blk_frozen BK486.out 2
                  go_wp2_with (first | ((with_reducible refine gate_callee (f := 50) rfl ?_); refine goesL_ (some 24) rfl rfl Try.func50 (by kernel_rfl) rfl #[.agg #[.int .i64 a0_0, .int .i64 a0_1, .slice A0_2 l0_2.length c0_2], .agg #[.int .i64 a1_0, .int .i64 a1_1, .slice A1_2 l1_2.length c1_2], .int .i64 x7_2, .int .i64 x6_1] rfl (by (try simp only [List.map_toArray, List.map_cons, List.map_nil]); first | done | rfl | (simp only [List.length_drop, List.length_take]; rfl)) ?_; (with_reducible refine (chequerref03_Has.calls k2 a0_0 a0_1 _ _ l0_2 a1_0 a1_1 _ _ l1_2 x7_2 x6_1 true _ ?side1 ?side2 ?side3 ?side4 A9.out).mono ?_); (case side1 => repeat (first | exact (Kd.C_below HR0_2.out HB.out) | (with_reducible refine Kd.C_alloc ?_ _) | (with_reducible refine Kd.C_drewN ?_ _) | (with_reducible refine Kd.C_drew ?_))); (case side2 => exact HC0_2.out); (case side3 => repeat (first | exact (Kd.C_below HR1_2.out HB.out) | (with_reducible refine Kd.C_alloc ?_ _) | (with_reducible refine Kd.C_drewN ?_ _) | (with_reducible refine Kd.C_drew ?_))); (case side4 => exact HC1_2.out); rintro e w15 ⟨rfl, hb⟩; refine ⟨_, rfl, ?_⟩; have n0_ := Aside0.mk (Kd.R_below (by (with_reducible repeat (first | apply Kd.R_alloc | apply Kd.R_drewN | apply Kd.R_drew)); exact HO_5.out) hb); have n1_ := Aside0.mk (blk_below (g := gb485) (o := .cells #[.int .i64 a0_0, .int .i64 a0_1, .slice A0_2 l0_2.length c0_2] 24 (0, 0)) (by (with_reducible repeat (first | refine blk_drewN ?_ _ | refine blk_drew ?_ | refine blk_alloc ?_ _)); exact BK485.out) hb); have n2_ := Aside0.mk (blk_below (g := gb486) (o := .cells #[.int .i64 a1_0, .int .i64 a1_1, .slice A1_2 l1_2.length c1_2] 24 (0, 0)) (by (with_reducible repeat (first | refine blk_drewN ?_ _ | refine blk_drew ?_ | refine blk_alloc ?_ _)); exact BK486.out) hb); have n3_ := Aside0.mk (below_step (by repeat (first | (with_reducible first | exact HB.out | apply below_alloc | apply pw_below_drewN | apply below_drew1 | refine below_set ?_ GE485.out | refine below_set ?_ GE486.out) | exact HB.out)) hb); clear HO_5; clear BK485; clear BK486; clear HB; have HO_5 := n0_; have BK485 := n1_; have BK486 := n2_; have HB := n3_; clear n0_ n1_ n2_ n3_; (try clear hb); (try clear hb2); (try clear hk); (try clear hi)) | ((with_reducible refine gate_builtin (b := .append) (xs := #[.tmp 25, .tmp 29]) rfl ?_); at_builtin; refine Kd.R_append k80 (w0 := w) w.heap.size rfl (.tmp 25) (.tmp 29) 61 80 (.agg #[(.int .i64 0), (.int .i64 0)]) 16 rfl Try.underlying61 info80 rfl (by decide) (by omega) u5 x5_2 (⟨x7_2, x6_1⟩ : S80) [.int .i64 x7_2, .int .i64 x6_1] (fun _ => True) (fun _ => False) rfl rfl ?aP (fun _ hk => hk.elim) ?aF ?aO ?aB ?aS ?aL ?_; (case aP => exact k80_mkM _ _ _ (⟨x7_2, x6_1⟩ : S80)); (case aB => exact (by repeat (first | (with_reducible first | exact HB.out | apply below_alloc | apply pw_below_drewN | apply below_drew1 | refine below_set ?_ GE485.out | refine below_set ?_ GE486.out) | exact HB.out))); (case aF => exact (fun _ _ => trivial)); (case aO => exact (by (with_reducible repeat (first | apply Kd.R_alloc | apply Kd.R_drewN | apply Kd.R_drew)); exact HO_5.out)); (case aS => exact (below_size (by repeat (first | (with_reducible first | exact HB.out | apply below_alloc | apply pw_below_drewN | apply below_drew1 | refine below_set ?_ GE485.out | refine below_set ?_ GE486.out) | exact HB.out)))); (case aL => have := LMc11.out; omega); intro v489 w16 ho hb hg hat; rw [← Ny488.out] at ho; have n0_ := Aside0.mk (blk_grown (g := gb485) (o := .cells #[.int .i64 a0_0, .int .i64 a0_1, .slice A0_2 l0_2.length c0_2] 24 (0, 0)) (by (with_reducible repeat (first | refine blk_drewN ?_ _ | refine blk_drew ?_ | refine blk_alloc ?_ _)); exact BK485.out) hg (Kd.R_ne HO_5.out BK485.out (by decide))); have n1_ := Aside0.mk (blk_grown (g := gb486) (o := .cells #[.int .i64 a1_0, .int .i64 a1_1, .slice A1_2 l1_2.length c1_2] 24 (0, 0)) (by (with_reducible repeat (first | refine blk_drewN ?_ _ | refine blk_drew ?_ | refine blk_alloc ?_ _)); exact BK486.out) hg (Kd.R_ne HO_5.out BK486.out (by decide))); have n2_ := Aside0.mk (hb); have n3_ := Aside0.mk (ho); clear BK485; clear BK486; clear HB; clear HO_5; have BK485 := n0_; have BK486 := n1_; have HB := n2_; have HO490 := n3_; clear n0_ n1_ n2_ n3_; clear ho hb hg hat))
                  go_roundg k2
                  case measure => have := HK1.out; have := HK2.out; omega
                  case rel => exact ⟨(y488), (wrap64 (x7_2 + 1)), (by first | rfl | (simp; done) | (simp [*]; done)), H', ⟨by have := HK1.out; have := HK2.out; omega⟩, ⟨by (with_reducible repeat (first | apply Kd.R_alloc | apply Kd.R_drewN | apply Kd.R_drew)); exact HO490.out⟩, ⟨by (with_reducible repeat (first | refine blk_drewN ?_ _ | refine blk_drew ?_ | refine blk_alloc ?_ _)); exact BK485.out⟩, ⟨by (with_reducible repeat (first | refine blk_drewN ?_ _ | refine blk_drew ?_ | refine blk_alloc ?_ _)); exact BK486.out⟩, ⟨by repeat (first | (with_reducible first | exact HB.out | apply below_alloc | apply pw_below_drewN | apply below_drew1 | refine below_set ?_ GE485.out | refine below_set ?_ GE486.out) | exact HB.out)⟩⟩
                · rw [if_neg c11] at H
                  exact absurd H (by simp)
              · replace c10 := Bool.eq_false_iff.mpr c10
                subst c10
                have H1 : (chequerref03_Find.l1 k2 x5_2 x6_1 (wrap64 (x7_2 + 1)) a0_0 a0_1 l0_2 a1_0 a1_1 l1_2) = some r := by rw [if_neg (show ¬ (false = true) by decide)] at H; exact H
                clear H
                have H := H1
                clear H1
                have H' := Aside0.mk H
                clear H
                have hnb17 := NB485_486.out
                have hnc17 := NB486_485.out
                have hcz18_0 : wr.cell? ⟨gb485, 0, none⟩ = some (.int .i64 a0_0) := (blk_cell BK485.out 0).trans rfl
                have hcz18_1 : wr.cell? ⟨gb485, 1, none⟩ = some (.int .i64 a0_1) := (blk_cell BK485.out 1).trans rfl
                have hcz18_2 : wr.cell? ⟨gb485, 2, none⟩ = some (.slice A0_2 l0_2.length c0_2) := (blk_cell BK485.out 2).trans rfl
                have hfz18_0 := blk_frozen BK485.out 0
                have hfz18_1 := blk_frozen BK485.out 1
                have hfz18_2 := blk_frozen BK485.out 2
                have hcz19_0 : wr.cell? ⟨gb486, 0, none⟩ = some (.int .i64 a1_0) := (blk_cell BK486.out 0).trans rfl
                have hcz19_1 : wr.cell? ⟨gb486, 1, none⟩ = some (.int .i64 a1_1) := (blk_cell BK486.out 1).trans rfl
                have hcz19_2 : wr.cell? ⟨gb486, 2, none⟩ = some (.slice A1_2 l1_2.length c1_2) := (blk_cell BK486.out 2).trans rfl
                have hfz19_0 := blk_frozen BK486.out 0
                have hfz19_1 := blk_frozen BK486.out 1
                have hfz19_2 := blk_frozen BK486.out 2
                go_wp2_with (first | ((with_reducible refine gate_callee (f := 50) rfl ?_); refine goesL_ (some 24) rfl rfl Try.func50 (by kernel_rfl) rfl #[.agg #[.int .i64 a0_0, .int .i64 a0_1, .slice A0_2 l0_2.length c0_2], .agg #[.int .i64 a1_0, .int .i64 a1_1, .slice A1_2 l1_2.length c1_2], .int .i64 x7_2, .int .i64 x6_1] rfl (by (try simp only [List.map_toArray, List.map_cons, List.map_nil]); first | done | rfl | (simp only [List.length_drop, List.length_take]; rfl)) ?_; (with_reducible refine (chequerref03_Has.calls k2 a0_0 a0_1 _ _ l0_2 a1_0 a1_1 _ _ l1_2 x7_2 x6_1 false _ ?side1 ?side2 ?side3 ?side4 A9.out).mono ?_); (case side1 => repeat (first | exact (Kd.C_below HR0_2.out HB.out) | (with_reducible refine Kd.C_alloc ?_ _) | (with_reducible refine Kd.C_drewN ?_ _) | (with_reducible refine Kd.C_drew ?_))); (case side2 => exact HC0_2.out); (case side3 => repeat (first | exact (Kd.C_below HR1_2.out HB.out) | (with_reducible refine Kd.C_alloc ?_ _) | (with_reducible refine Kd.C_drewN ?_ _) | (with_reducible refine Kd.C_drew ?_))); (case side4 => exact HC1_2.out); rintro e w20 ⟨rfl, hb⟩; refine ⟨_, rfl, ?_⟩; have n0_ := Aside0.mk (Kd.R_below (by (with_reducible repeat (first | apply Kd.R_alloc | apply Kd.R_drewN | apply Kd.R_drew)); exact HO_5.out) hb); have n1_ := Aside0.mk (blk_below (g := gb485) (o := .cells #[.int .i64 a0_0, .int .i64 a0_1, .slice A0_2 l0_2.length c0_2] 24 (0, 0)) (by (with_reducible repeat (first | refine blk_drewN ?_ _ | refine blk_drew ?_ | refine blk_alloc ?_ _)); exact BK485.out) hb); have n2_ := Aside0.mk (blk_below (g := gb486) (o := .cells #[.int .i64 a1_0, .int .i64 a1_1, .slice A1_2 l1_2.length c1_2] 24 (0, 0)) (by (with_reducible repeat (first | refine blk_drewN ?_ _ | refine blk_drew ?_ | refine blk_alloc ?_ _)); exact BK486.out) hb); have n3_ := Aside0.mk (below_step (by repeat (first | (with_reducible first | exact HB.out | apply below_alloc | apply pw_below_drewN | apply below_drew1 | refine below_set ?_ GE485.out | refine below_set ?_ GE486.out) | exact HB.out)) hb); clear HO_5; clear BK485; clear BK486; clear HB; have HO_5 := n0_; have BK485 := n1_; have BK486 := n2_; have HB := n3_; clear n0_ n1_ n2_ n3_; (try clear hb); (try clear hb2); (try clear hk); (try clear hi)))
                go_roundg k2
                case measure => have := HK1.out; have := HK2.out; omega
                case rel => exact ⟨(x5_2), (wrap64 (x7_2 + 1)), (by first | rfl | (simp; done) | (simp [*]; done)), H', ⟨by have := HK1.out; have := HK2.out; omega⟩, ⟨by (with_reducible repeat (first | apply Kd.R_alloc | apply Kd.R_drewN | apply Kd.R_drew)); exact HO_5.out⟩, ⟨by (with_reducible repeat (first | refine blk_drewN ?_ _ | refine blk_drew ?_ | refine blk_alloc ?_ _)); exact BK485.out⟩, ⟨by (with_reducible repeat (first | refine blk_drewN ?_ _ | refine blk_drew ?_ | refine blk_alloc ?_ _)); exact BK486.out⟩, ⟨by repeat (first | (with_reducible first | exact HB.out | apply below_alloc | apply pw_below_drewN | apply below_drew1 | refine below_set ?_ GE485.out | refine below_set ?_ GE486.out) | exact HB.out)⟩⟩
            · rw [if_neg c8] at H
              have c8b0 : decide (x7_2 < a0_0) = false := decide_eq_false c8
              clear c8
              have H' := Aside0.mk H
              clear H
              have hnb21 := NB485_486.out
              have hnc21 := NB486_485.out
              have hcz22_0 : wr.cell? ⟨gb485, 0, none⟩ = some (.int .i64 a0_0) := (blk_cell BK485.out 0).trans rfl
              have hcz22_1 : wr.cell? ⟨gb485, 1, none⟩ = some (.int .i64 a0_1) := (blk_cell BK485.out 1).trans rfl
              have hcz22_2 : wr.cell? ⟨gb485, 2, none⟩ = some (.slice A0_2 l0_2.length c0_2) := (blk_cell BK485.out 2).trans rfl
              have hfz22_0 := blk_frozen BK485.out 0
              have hfz22_1 := blk_frozen BK485.out 1
              have hfz22_2 := blk_frozen BK485.out 2
              go_wp2
              go_roundg k2
              case measure => have := HK1.out; have := HK2.out; omega
              case rel => exact ⟨(x5_2), (wrap64 (x6_1 + 1)), (by first | rfl | (simp; done) | (simp [*]; done)), H', ⟨by have := HK1.out; have := HK2.out; omega⟩, ⟨by (with_reducible repeat (first | apply Kd.R_alloc | apply Kd.R_drewN | apply Kd.R_drew)); exact HO_5.out⟩, ⟨by (with_reducible repeat (first | refine blk_drewN ?_ _ | refine blk_drew ?_ | refine blk_alloc ?_ _)); exact BK485.out⟩, ⟨by (with_reducible repeat (first | refine blk_drewN ?_ _ | refine blk_drew ?_ | refine blk_alloc ?_ _)); exact BK486.out⟩, ⟨by repeat (first | (with_reducible first | exact HB.out | apply below_alloc | apply pw_below_drewN | apply below_drew1 | refine below_set ?_ GE485.out | refine below_set ?_ GE486.out) | exact HB.out)⟩⟩
      · rw [if_neg c5] at H
        have c5b0 : decide (x6_1 < a0_1) = false := decide_eq_false c5
        clear c5
        obtain rfl := Option.some.inj H
        have hcz23_0 : wr.cell? ⟨gb485, 0, none⟩ = some (.int .i64 a0_0) := (blk_cell BK485.out 0).trans rfl
        have hcz23_1 : wr.cell? ⟨gb485, 1, none⟩ = some (.int .i64 a0_1) := (blk_cell BK485.out 1).trans rfl
        have hcz23_2 : wr.cell? ⟨gb485, 2, none⟩ = some (.slice A0_2 l0_2.length c0_2) := (blk_cell BK485.out 2).trans rfl
        have hfz23_0 := blk_frozen BK485.out 0
        have hfz23_1 := blk_frozen BK485.out 1
        have hfz23_2 := blk_frozen BK485.out 2
        go_wp2
        go_ret
        exact ⟨_, by first | rfl | (simp [errW_none, errW_some] <;> rfl) | (simp [*, errW_none, errW_some] <;> rfl), by (with_reducible repeat (first | apply Kd.R_alloc | apply Kd.R_drewN | apply Kd.R_drew)); exact HO_5.out, by repeat (first | (with_reducible first | exact HB.out | apply below_alloc | apply pw_below_drewN | apply below_drew1 | refine below_set ?_ GE485.out) | exact HB.out)⟩

end Go.Proofs.Ytehjnekljodmgaa.Q
