-- written by our own program (wip/tools/myprint.py) out of the translation, by the kit's print; Lean checks it
import Derived.Test.YtdjonaajfhbfhaaQ0
import Derived.Test.YtdjonaajfhbfhaaQ3
namespace Go.Proofs.Ytdjonaajfhbfhaa.Q
open Go.RowKit Go.Proofs.YtdjonaajfhbfhaaW.PrintWords Go.Proofs.YtdjonaajfhbfhaaW.PrintLast Go.Proofs.YtdjonaajfhbfhaaW.PrintMore
attribute [local go_sem] max2_int min2_int max_two min_two max_three min_three max_four min_four   -- for this text's walks alone
set_option linter.unusedVariables false
set_option linter.unusedSimpArgs false


/-! ### chequerref08_Pixels: function 9 -/
mutual
def chequerref08_Pixels.l0 : Nat → List Int → List Int → Int → Int → Int → Int → Int → Int → Int → Option (List Int)
 | 0, _, _, _, _, _, _, _, _, _ => none
 | k + 1, x0, x6, x7, x133000, x133001, x133002, x133003, x136000, x136001 => if x7 < (wrap64 (x133001 * x133002)) then (chequerref08_Pixels.l1 k x0 x6 x7 ([] : List Int) 0 x133000 x133001 x133002 x133003 x136000 x136001) else (some x6)
def chequerref08_Pixels.l1 : Nat → List Int → List Int → Int → List Int → Int → Int → Int → Int → Int → Int → Int → Option (List Int)
 | 0, _, _, _, _, _, _, _, _, _, _, _ => none
 | k + 1, x0, x6, x7, x8, x9, x133000, x133001, x133002, x133003, x136000, x136001 => if x9 < x136000 then (if (x0.length : Int) > 0 then (if (x0.length : Int) = 0 then (none) else (if 0 ≤ (Int.tmod (wrap64 ((wrap64 (x7 * x136000)) + x9)) (x0.length : Int)) then (if (Int.tmod (wrap64 ((wrap64 (x7 * x136000)) + x9)) (x0.length : Int)) < (x0.length : Int) then (if x8.length < 17592186044416 then (chequerref08_Pixels.l1 k x0 x6 x7 (x8 ++ [rd x0 (Int.tmod (wrap64 ((wrap64 (x7 * x136000)) + x9)) (x0.length : Int))]) (wrap64 (x9 + 1)) x133000 x133001 x133002 x133003 x136000 x136001) else (none)) else (none)) else (none))) else (if x8.length < 17592186044416 then (chequerref08_Pixels.l1 k x0 x6 x7 (x8 ++ [0]) (wrap64 (x9 + 1)) x133000 x133001 x133002 x133003 x136000 x136001) else (none))) else ((chequerref01_Good.f k x8 x136000 x136001).bind fun t143 => (if x6.length < 17592186044416 then (chequerref08_Pixels.l0 k x0 (x6 ++ [t143]) (wrap64 (x7 + 1)) x133000 x133001 x133002 x133003 x136000 x136001) else (none)))
end
def chequerref08_Pixels.f (k : Nat) (l0 : List Int) (a1_0 : Int) (a1_1 : Int) (a1_2 : Int) (a1_3 : Int) : Option (List Int) := (chequerref06_Format.f a1_0 a1_1 a1_2 a1_3).bind fun bt133 => (chequerref08_Pixels.l0 k l0 ([] : List Int) 0 a1_0 a1_1 a1_2 a1_3 bt133.1 bt133.2)
theorem chequerref08_Pixels.mono_l : ∀ k, (∀ y0 y1 y2 y3 y4 y5 y6 y7 y8, LeO (chequerref08_Pixels.l0 k y0 y1 y2 y3 y4 y5 y6 y7 y8) (chequerref08_Pixels.l0 (k + 1) y0 y1 y2 y3 y4 y5 y6 y7 y8)) ∧ (∀ y0 y1 y2 y3 y4 y5 y6 y7 y8 y9 y10, LeO (chequerref08_Pixels.l1 k y0 y1 y2 y3 y4 y5 y6 y7 y8 y9 y10) (chequerref08_Pixels.l1 (k + 1) y0 y1 y2 y3 y4 y5 y6 y7 y8 y9 y10))
 | 0 => ⟨fun _ _ _ _ _ _ _ _ _ r h => by simp [chequerref08_Pixels.l0] at h, fun _ _ _ _ _ _ _ _ _ _ _ r h => by simp [chequerref08_Pixels.l1] at h⟩
 | k + 1 => by
  obtain ⟨ih0, ih1⟩ := chequerref08_Pixels.mono_l k
  refine ⟨?_, ?_⟩
  · intro y0 y1 y2 y3 y4 y5 y6 y7 y8
    unfold chequerref08_Pixels.l0
    repeat' first
    | (with_reducible exact ih0 _ _ _ _ _ _ _ _ _)
    | (with_reducible exact ih1 _ _ _ _ _ _ _ _ _ _ _)
    | (with_reducible exact chequerref01_Good.mono _ _ _ _)
    | (with_reducible exact LeO.refl _)
    | (with_reducible exact LeO.none _)
    | (with_reducible refine LeO.ite ?_ ?_)
    | (with_reducible refine LeO.bind ?_ (fun _ => ?_))
    | exact ih0 _ _ _ _ _ _ _ _ _
    | exact ih1 _ _ _ _ _ _ _ _ _ _ _
    | exact chequerref01_Good.mono _ _ _ _
    | exact LeO.none _
    | refine LeO.ite ?_ ?_
    | refine LeO.bind ?_ (fun _ => ?_)
  · intro y0 y1 y2 y3 y4 y5 y6 y7 y8 y9 y10
    unfold chequerref08_Pixels.l1
    repeat' first
    | (with_reducible exact ih0 _ _ _ _ _ _ _ _ _)
    | (with_reducible exact ih1 _ _ _ _ _ _ _ _ _ _ _)
    | (with_reducible exact chequerref01_Good.mono _ _ _ _)
    | (with_reducible exact LeO.refl _)
    | (with_reducible exact LeO.none _)
    | (with_reducible refine LeO.ite ?_ ?_)
    | (with_reducible refine LeO.bind ?_ (fun _ => ?_))
    | exact ih0 _ _ _ _ _ _ _ _ _
    | exact ih1 _ _ _ _ _ _ _ _ _ _ _
    | exact chequerref01_Good.mono _ _ _ _
    | exact LeO.none _
    | refine LeO.ite ?_ ?_
    | refine LeO.bind ?_ (fun _ => ?_)
theorem chequerref08_Pixels.mono : ∀ a0 a1 a2 a3 a4 k, LeO (chequerref08_Pixels.f k a0 a1 a2 a3 a4) (chequerref08_Pixels.f (k + 1) a0 a1 a2 a3 a4) := by
 intro a0 a1 a2 a3 a4 k
 obtain ⟨ih0, ih1⟩ := chequerref08_Pixels.mono_l k
 unfold chequerref08_Pixels.f
 repeat' first
  | (with_reducible exact ih0 _ _ _ _ _ _ _ _ _)
  | (with_reducible exact ih1 _ _ _ _ _ _ _ _ _ _ _)
  | (with_reducible exact chequerref01_Good.mono _ _ _ _)
  | (with_reducible exact LeO.refl _)
  | (with_reducible exact LeO.none _)
  | (with_reducible refine LeO.ite ?_ ?_)
  | (with_reducible refine LeO.bind ?_ (fun _ => ?_))
  | exact ih0 _ _ _ _ _ _ _ _ _
  | exact ih1 _ _ _ _ _ _ _ _ _ _ _
  | exact chequerref01_Good.mono _ _ _ _
  | exact LeO.none _
  | refine LeO.ite ?_ ?_
  | refine LeO.bind ?_ (fun _ => ?_)
set_option maxHeartbeats 8000000 in
set_option maxRecDepth 100000 in
theorem chequerref08_Pixels.calls (k : Nat) (A0 : Option Addr) (c0 : Nat) (l0 : List Int) (a1_0 : Int) (a1_1 : Int) (a1_2 : Int) (a1_3 : Int) (r : List Int) (w : World) (hr0 : Kd.C (Kd.int .i64) w A0 l0.length l0) (hc0 : l0.length ≤ c0) (h : chequerref08_Pixels.f k l0 a1_0 a1_1 a1_2 a1_3 = some r) :
 Calls Try.prog 9 #[.slice A0 l0.length c0, .agg #[.int .i64 a1_0, .int .i64 a1_1, .int .i64 a1_2, .int .i64 a1_3]] w fun e w' => ∃ v0_ : Value, e = .returned (v0_) ∧ Kd.R (Kd.int .u64) 26 w' w.heap.size (fun _ => True) v0_ r ∧ Below w.heap.size w w' := by
 have hu23 := Try.underlying23
 have hu60 := Try.underlying60
 have HR0 := Aside0.mk hr0
 have HC0 := Aside0.mk hc0
 clear hr0 hc0
 have HB := Aside0.mk (Below.refl w.heap.size w)
 have H : ((chequerref06_Format.f a1_0 a1_1 a1_2 a1_3).bind fun bt133 => (chequerref08_Pixels.l0 k l0 ([] : List Int) 0 a1_0 a1_1 a1_2 a1_3 bt133.1 bt133.2)) = some r := h
 clear h
 replace H := Option.bind_eq_some_iff.mp H
 obtain ⟨⟨t133, t134⟩, A30, H⟩ := H
 replace H : (chequerref08_Pixels.l0 k l0 ([] : List Int) 0 a1_0 a1_1 a1_2 a1_3 t133 t134) = some r := H
 have A3 := Aside0.mk A30
 clear A30
 have H' := Aside0.mk H
 clear H
 go_enter Try.func9, Try.ntmps9
 go_wp2_with (first | ((with_reducible refine gate_dst (N := 3) rfl ?_); refine box_event ?hg (N := 3) ?hd (cs := #[.int .i64 a1_0, .int .i64 a1_1, .int .i64 a1_2, .int .i64 a1_3]) (t := 23) ?hr ?_; (case hd => rfl); (case hg => rfl); (case hr => first | (go_simp; done) | (go_simp; rfl)); intro gb132 hg w4 hbox hb; have BK132 := Aside0.mk (hbox); have GW132 := Aside0.mk ((by rw [hg]; exact (below_size bp_) : w.heap.size ≤ gb132)); have GE132 := Aside0.mk ((by rw [hg]; exact (below_size bp_) : w.heap.size ≤ gb132)); replace HB := Aside0.mk (below_step bp_ hb); clear hb hbox hg; have hcz5_0 : w4.cell? ⟨gb132, 0, none⟩ = some (.int .i64 a1_0) := (blk_cell BK132.out 0).trans rfl; have hcz5_1 : w4.cell? ⟨gb132, 1, none⟩ = some (.int .i64 a1_1) := (blk_cell BK132.out 1).trans rfl; have hcz5_2 : w4.cell? ⟨gb132, 2, none⟩ = some (.int .i64 a1_2) := (blk_cell BK132.out 2).trans rfl; have hcz5_3 : w4.cell? ⟨gb132, 3, none⟩ = some (.int .i64 a1_3) := (blk_cell BK132.out 3).trans rfl; have hfz5_0 := blk_frozen BK132.out 0; have hfz5_1 := blk_frozen BK132.out 1; have hfz5_2 := blk_frozen BK132.out 2; have hfz5_3 := blk_frozen BK132.out 3) | ((with_reducible refine gate_callee (f := 29) rfl ?_); refine goQ_ (some 12) Try.func29 #[.agg #[.int .i64 a1_0, .int .i64 a1_1, .int .i64 a1_2, .int .i64 a1_3]] ?_; (with_reducible refine (chequerref06_Format.calls a1_0 a1_1 a1_2 a1_3 t133 t134 _ A3.out).mono ?_); rintro e w6 ⟨rfl, hb⟩; refine ⟨_, rfl, ?_⟩; replace BK132 := Aside0.mk (blk_below (hp_ BK132.out) hb); replace HB := Aside0.mk (below_step bp_ hb); (try clear hb); (try clear hb2); (try clear hk); (try clear hi)) | ((with_reducible refine gate_dst (N := 5) rfl ?_); refine box_event ?hg (N := 5) ?hd (cs := #[.int .i64 0, .int .i64 0]) (t := 60) ?hr ?_; (case hd => rfl); (case hg => rfl); (case hr => first | (go_simp; done) | (go_simp; rfl)); intro gb135 hg w7 hbox hb; have BK135 := Aside0.mk (hbox); have GW135 := Aside0.mk ((by rw [hg]; exact (below_size bp_) : w.heap.size ≤ gb135)); have GE135 := Aside0.mk ((by rw [hg]; exact (below_size bp_) : w.heap.size ≤ gb135)); replace HB := Aside0.mk (below_step bp_ hb); have NB132_135 := Aside0.mk ((nlt_ hg (hp_ BK132.out))); have NB135_132 := Aside0.mk ((ngt_ hg (hp_ BK132.out))); replace BK132 := Aside0.mk (blk_below (hp_ BK132.out) hb); clear hb hbox hg; have hnb8 := NB135_132.out; have hnc8 := NB132_135.out; have hcz9_0 : w7.cell? ⟨gb135, 0, none⟩ = some (.int .i64 0) := (blk_cell BK135.out 0).trans rfl; have hcz9_1 : w7.cell? ⟨gb135, 1, none⟩ = some (.int .i64 0) := (blk_cell BK135.out 1).trans rfl; have hfz9_0 := blk_frozen BK135.out 0; have hfz9_1 := blk_frozen BK135.out 1))
 go_loopg [6, 7] k (fun kq v6 v7 w' => ∃ (x6_1 : List Int) (x7_1 : Int), v7 = .int .i64 x7_1 ∧ Aside0 (chequerref08_Pixels.l0 kq l0 x6_1 x7_1 a1_0 a1_1 a1_2 a1_3 t133 t134 = some r) ∧ Aside0 (kq ≤ k) ∧ Aside0 (Kd.R (Kd.int .u64) 26 w' w.heap.size (fun _ => True) v6 x6_1) ∧ Aside0 (w'.heap[gb132]? = some (.cells #[.int .i64 a1_0, .int .i64 a1_1, .int .i64 a1_2, .int .i64 a1_3] 23 (0, 0))) ∧ Aside0 (w'.heap[gb135]? = some (.cells #[.int .i64 t133, .int .i64 t134] 60 (0, 0))) ∧ Aside0 (Below w.heap.size w w'))
 case atStart => exact ⟨(([] : List Int)), (0), (by first | rfl | (simp; done) | (simp [*]; done)), H', ⟨Nat.le_refl _⟩, ⟨by first | exact Kd.R_nil _ _ _ _ _ | exact Kd.N_nil _ _ _ _ _ | exact Kd.V_nil _ _ _ _ _ | exact Kd.Q_nil _ _ _ _ _ | exact Kd.S_nil _ _ _ _ _⟩, ⟨hf_ BK132.out NB132_135.out⟩, ⟨by (with_reducible repeat (first | refine blk_drewN ?_ _ | refine blk_drew ?_ | refine blk_alloc ?_ _)); refine blk_put (cs := #[.int .i64 t133, .int .i64 0]) ?_ 1 _ rfl; (with_reducible repeat (first | refine blk_drewN ?_ _ | refine blk_drew ?_ | refine blk_alloc ?_ _)); refine blk_put (cs := #[.int .i64 0, .int .i64 0]) ?_ 0 _ rfl; (with_reducible repeat (first | refine blk_drewN ?_ _ | refine blk_drew ?_ | refine blk_alloc ?_ _)); exact BK135.out⟩, ⟨bp_⟩⟩
 case round =>
  clear H'
  try clear c2
  try clear p2
  try clear c8
  try clear c9
  try clear hcz5_0
  try clear hcz5_1
  try clear hcz5_2
  try clear hcz5_3
  try clear hcz9_0
  try clear hcz9_1
  try clear hfz5_0
  try clear hfz5_1
  try clear hfz5_2
  try clear hfz5_3
  try clear hfz9_0
  try clear hfz9_1
  obtain ⟨x6_1, x7_1, rfl, HA, HK1, HO_6, BK132, BK135, HB⟩ := hrel
  cases gk with
  | zero => exact absurd HA.out (by simp [chequerref08_Pixels.l0])
  | succ k1 =>
   have H := HA.out
   clear HA
   simp only [chequerref08_Pixels.l0] at H
   by_cases c10 : x7_1 < (wrap64 (a1_1 * a1_2))
   · rw [if_pos c10] at H
     have c10b0 : decide (x7_1 < (wrap64 (a1_1 * a1_2))) = true := decide_eq_true c10
     clear c10
     have H' := Aside0.mk H
     clear H
     have hnb11 := NB132_135.out
     have hnc11 := NB135_132.out
     have hcz12_0 : wr.cell? ⟨gb132, 0, none⟩ = some (.int .i64 a1_0) := (blk_cell BK132.out 0).trans rfl
     have hcz12_1 : wr.cell? ⟨gb132, 1, none⟩ = some (.int .i64 a1_1) := (blk_cell BK132.out 1).trans rfl
     have hcz12_2 : wr.cell? ⟨gb132, 2, none⟩ = some (.int .i64 a1_2) := (blk_cell BK132.out 2).trans rfl
     have hcz12_3 : wr.cell? ⟨gb132, 3, none⟩ = some (.int .i64 a1_3) := (blk_cell BK132.out 3).trans rfl
     have hfz12_0 := blk_frozen BK132.out 0
     have hfz12_1 := blk_frozen BK132.out 1
     have hfz12_2 := blk_frozen BK132.out 2
     have hfz12_3 := blk_frozen BK132.out 3
     go_wp2
     go_loopg [8, 9] k1 (fun kq v8 v9 w' => ∃ (x8_2 : List Int) (x9_2 : Int), v9 = .int .i64 x9_2 ∧ Aside0 (chequerref08_Pixels.l1 kq l0 x6_1 x7_1 x8_2 x9_2 a1_0 a1_1 a1_2 a1_3 t133 t134 = some r) ∧ Aside0 (kq ≤ k1) ∧ Aside0 (Kd.R (Kd.int .u64) 26 w' w.heap.size (fun _ => True) u6 x6_1) ∧ Aside0 (Kd.R (Kd.int .i64) 3 w' w.heap.size (fun _ => True) v8 x8_2) ∧ Aside0 (w'.heap[gb132]? = some (.cells #[.int .i64 a1_0, .int .i64 a1_1, .int .i64 a1_2, .int .i64 a1_3] 23 (0, 0))) ∧ Aside0 (w'.heap[gb135]? = some (.cells #[.int .i64 t133, .int .i64 t134] 60 (0, 0))) ∧ Aside0 (Below w.heap.size w w'))
     case atStart => exact ⟨(([] : List Int)), (0), (by first | rfl | (simp; done) | (simp [*]; done)), H', ⟨Nat.le_refl _⟩, ⟨rp_ HO_6.out⟩, ⟨by first | exact Kd.R_nil _ _ _ _ _ | exact Kd.N_nil _ _ _ _ _ | exact Kd.V_nil _ _ _ _ _ | exact Kd.Q_nil _ _ _ _ _ | exact Kd.S_nil _ _ _ _ _⟩, ⟨hp_ BK132.out⟩, ⟨hp_ BK135.out⟩, ⟨bp_⟩⟩
     case round =>
      clear H'
      try clear c1
      try clear c2
      try clear p2
      try clear p6
      try clear c8
      try clear c9
      try clear c10
      try clear c10b0
      try clear c11
      try clear hcz12_0
      try clear hcz12_1
      try clear hcz12_2
      try clear hcz12_3
      try clear hcz5_0
      try clear hcz5_1
      try clear hcz5_2
      try clear hcz5_3
      try clear hcz9_0
      try clear hcz9_1
      try clear hfz12_0
      try clear hfz12_1
      try clear hfz12_2
      try clear hfz12_3
      try clear hfz5_0
      try clear hfz5_1
      try clear hfz5_2
      try clear hfz5_3
      try clear hfz9_0
      try clear hfz9_1
      try clear p2
      obtain ⟨x8_2, x9_2, rfl, HA, HK2, HO_6, HO_8, BK132, BK135, HB⟩ := hrel
      cases gk with
      | zero => exact absurd HA.out (by simp [chequerref08_Pixels.l1])
      | succ k2 =>
       have H := HA.out
       clear HA
       simp only [chequerref08_Pixels.l1] at H
       by_cases c13 : x9_2 < t133
       · rw [if_pos c13] at H
         have c13b0 : decide (x9_2 < t133) = true := decide_eq_true c13
         clear c13
         by_cases c14 : (l0.length : Int) > 0
         · rw [if_pos c14] at H
           have c14b0 : decide (0 < (l0.length : Int)) = true := decide_eq_true c14
           have c14b1 : decide (0 < l0.length) = true := decide_eq_true (by omega)
           clear c14
           by_cases c15 : (l0.length : Int) = 0
           · rw [if_pos c15] at H
             exact absurd H (by simp)
           · rw [if_neg c15] at H
             have c15b0 : ((l0.length : Int) == 0) = false := beq_eq_false_iff_ne.mpr c15
             have c15b1 : ((l0.length : Int) != 0) = true := bne_iff_ne.mpr c15
             have c15b2 : ¬ (l0 = []) := fun h_ => c15 (by rw [h_]; rfl)
             obtain ⟨ji16, hji16⟩ : ∃ j_ : Int, (Int.tmod (wrap64 ((wrap64 (x7_1 * t133)) + x9_2)) (l0.length : Int)) = j_ := ⟨_, rfl⟩
             replace H : (if 0 ≤ (ji16) then (if (ji16) < (l0.length : Int) then (if x8_2.length < 17592186044416 then (chequerref08_Pixels.l1 k2 l0 x6_1 x7_1 (x8_2 ++ [rd l0 (ji16)]) (wrap64 (x9_2 + 1)) a1_0 a1_1 a1_2 a1_3 t133 t134) else (none)) else (none)) else (none)) = some r := by first | (rw [hji16] at H; exact H) | (simp only [hji16] at H ⊢; exact H)
             by_cases c17 : 0 ≤ (ji16)
             · rw [if_pos c17] at H
               have c17b0 : decide (0 ≤ (ji16)) = true := decide_eq_true c17
               clear c17
               by_cases c18 : (ji16) < (l0.length : Int)
               · rw [if_pos c18] at H
                 have c18b0 : decide ((ji16) < (l0.length : Int)) = true := decide_eq_true c18
                 clear c18
                 by_cases c19 : x8_2.length < 17592186044416
                 · rw [if_pos c19] at H
                   have LMc19 := Aside0.mk c19
                   clear c19
                   obtain ⟨y137, hy137⟩ : ∃ y_ : List Int, y_ = (x8_2 ++ [rd l0 (ji16)]) := ⟨_, rfl⟩
                   replace H : (chequerref08_Pixels.l1 k2 l0 x6_1 x7_1 y137 (wrap64 (x9_2 + 1)) a1_0 a1_1 a1_2 a1_3 t133 t134) = some r := by first | (rw [hy137]; with_reducible exact H) | (have H2_ := (Option.bind_some _ _).symm.trans H; rw [hy137]; with_reducible exact H2_) | (have H2_ := (Option.bind_some _ _).symm.trans H; with_reducible exact H2_) | with_reducible exact H | (rw [hy137]; exact H) | exact H
                   have Ny137 := Aside0.mk hy137
                   clear hy137
                   have H' := Aside0.mk H
                   clear H
                   have hnb20 := NB135_132.out
                   have hnc20 := NB132_135.out
                   have hcz21_0 : wr.cell? ⟨gb135, 0, none⟩ = some (.int .i64 t133) := (blk_cell BK135.out 0).trans rfl
                   have hcz21_1 : wr.cell? ⟨gb135, 1, none⟩ = some (.int .i64 t134) := (blk_cell BK135.out 1).trans rfl
                   have hfz21_0 := blk_frozen BK135.out 0
                   have hfz21_1 := blk_frozen BK135.out 1
                   have p136 : 0 ≤ ((ji16) : Int) := of_decide_eq_true (by first | (with_reducible assumption) | assumption)
                   have q136 : (ji16) < (l0.length : Int) := of_decide_eq_true (by first | (with_reducible assumption) | assumption)
                   obtain ⟨ad136, e136, hx136_0⟩ := Kd.at_int HR0.out (ji16) p136 q136
                   cases e136
                   replace hx136_0 := (HB.out.cell (World.block_lt_of_cell? w _ hx136_0)).trans hx136_0
                   replace p136 := eq_true p136
                   replace q136 := eq_true q136
                   go_wp2_with (first | ((with_reducible refine gate_builtin (b := .append) (xs := #[.tmp 43, .tmp 45]) rfl ?_); at_builtin; refine Kd.R_append (Kd.int .i64) (w0 := w) w.heap.size rfl (.tmp 43) (.tmp 45) 24 3 (.int .i64 0) 8 rfl Try.underlying24 info3 rfl (by decide) (by omega) u8 x8_2 (rd l0 (ji16)) [.int .i64 (rd l0 (ji16))] (fun _ => True) (fun _ => False) rfl rfl ?aP (fun _ hk => hk.elim) ?aF ?aO ?aB ?aS ?aL ?_; (case aP => exact rfl); (case aB => exact bp_); (case aF => exact (fun _ _ => trivial)); (case aO => exact (rp_ HO_8.out)); (case aS => exact (below_size bp_)); (case aL => have := LMc19.out; omega); intro v138 w22 ho hb hg hat; rw [← Ny137.out] at ho; replace HO_6 := Aside0.mk (Kd.R_over' (rp_ HO_6.out) (Kd.R_typed (rp_ HO_8.out)) (by decide) hg); replace BK132 := Aside0.mk (blk_grown (g := gb132) (o := .cells #[.int .i64 a1_0, .int .i64 a1_1, .int .i64 a1_2, .int .i64 a1_3] 23 (0, 0)) (hp_ BK132.out) hg (Kd.R_ne HO_8.out BK132.out (by decide))); replace BK135 := Aside0.mk (blk_grown (g := gb135) (o := .cells #[.int .i64 t133, .int .i64 t134] 60 (0, 0)) (hp_ BK135.out) hg (Kd.R_ne HO_8.out BK135.out (by decide))); replace HB := Aside0.mk (hb); have HO139 := Aside0.mk (ho); clear HO_8; clear ho hb hg hat))
                   go_roundg k2
                   case measure => have := HK1.out; have := HK2.out; omega
                   case rel => exact ⟨(y137), (wrap64 (x9_2 + 1)), (by first | rfl | (simp; done) | (simp [*]; done)), H', ⟨by have := HK1.out; have := HK2.out; omega⟩, ⟨rp_ HO_6.out⟩, ⟨rp_ HO139.out⟩, ⟨hp_ BK132.out⟩, ⟨hp_ BK135.out⟩, ⟨bp_⟩⟩
                 · rw [if_neg c19] at H
                   exact absurd H (by simp)
               · rw [if_neg c18] at H
                 exact absurd H (by simp)
             · rw [if_neg c17] at H
               exact absurd H (by simp)
         · rw [if_neg c14] at H
           have c14b0 : decide (0 < (l0.length : Int)) = false := decide_eq_false c14
           have c14b1 : decide (0 < l0.length) = false := decide_eq_false (by omega)
           clear c14
           by_cases c23 : x8_2.length < 17592186044416
           · rw [if_pos c23] at H
             have LMc23 := Aside0.mk c23
             clear c23
             obtain ⟨y140, hy140⟩ : ∃ y_ : List Int, y_ = (x8_2 ++ [0]) := ⟨_, rfl⟩
             replace H : (chequerref08_Pixels.l1 k2 l0 x6_1 x7_1 y140 (wrap64 (x9_2 + 1)) a1_0 a1_1 a1_2 a1_3 t133 t134) = some r := by first | (rw [hy140]; with_reducible exact H) | (have H2_ := (Option.bind_some _ _).symm.trans H; rw [hy140]; with_reducible exact H2_) | (have H2_ := (Option.bind_some _ _).symm.trans H; with_reducible exact H2_) | with_reducible exact H | (rw [hy140]; exact H) | exact H
             have Ny140 := Aside0.mk hy140
             clear hy140
             have H' := Aside0.mk H
             clear H
             have hnb24 := NB135_132.out
             have hnc24 := NB132_135.out
             have hcz25_0 : wr.cell? ⟨gb135, 0, none⟩ = some (.int .i64 t133) := (blk_cell BK135.out 0).trans rfl
             have hcz25_1 : wr.cell? ⟨gb135, 1, none⟩ = some (.int .i64 t134) := (blk_cell BK135.out 1).trans rfl
             have hfz25_0 := blk_frozen BK135.out 0
             have hfz25_1 := blk_frozen BK135.out 1
             go_wp2_with (first | ((with_reducible refine gate_builtin (b := .append) (xs := #[.tmp 43, .tmp 45]) rfl ?_); at_builtin; refine Kd.R_append (Kd.int .i64) (w0 := w) w.heap.size rfl (.tmp 43) (.tmp 45) 24 3 (.int .i64 0) 8 rfl Try.underlying24 info3 rfl (by decide) (by omega) u8 x8_2 0 [.int .i64 0] (fun _ => True) (fun _ => False) rfl rfl ?aP (fun _ hk => hk.elim) ?aF ?aO ?aB ?aS ?aL ?_; (case aP => exact rfl); (case aB => exact bp_); (case aF => exact (fun _ _ => trivial)); (case aO => exact (rp_ HO_8.out)); (case aS => exact (below_size bp_)); (case aL => have := LMc23.out; omega); intro v141 w26 ho hb hg hat; rw [← Ny140.out] at ho; replace HO_6 := Aside0.mk (Kd.R_over' (rp_ HO_6.out) (Kd.R_typed (rp_ HO_8.out)) (by decide) hg); replace BK132 := Aside0.mk (blk_grown (g := gb132) (o := .cells #[.int .i64 a1_0, .int .i64 a1_1, .int .i64 a1_2, .int .i64 a1_3] 23 (0, 0)) (hp_ BK132.out) hg (Kd.R_ne HO_8.out BK132.out (by decide))); replace BK135 := Aside0.mk (blk_grown (g := gb135) (o := .cells #[.int .i64 t133, .int .i64 t134] 60 (0, 0)) (hp_ BK135.out) hg (Kd.R_ne HO_8.out BK135.out (by decide))); replace HB := Aside0.mk (hb); have HO142 := Aside0.mk (ho); clear HO_8; clear ho hb hg hat))
             go_roundg k2
             case measure => have := HK1.out; have := HK2.out; omega
             case rel => exact ⟨(y140), (wrap64 (x9_2 + 1)), (by first | rfl | (simp; done) | (simp [*]; done)), H', ⟨by have := HK1.out; have := HK2.out; omega⟩, ⟨rp_ HO_6.out⟩, ⟨rp_ HO142.out⟩, ⟨hp_ BK132.out⟩, ⟨hp_ BK135.out⟩, ⟨bp_⟩⟩
           · rw [if_neg c23] at H
             exact absurd H (by simp)
       · rw [if_neg c13] at H
         have c13b0 : decide (x9_2 < t133) = false := decide_eq_false c13
         clear c13
         replace H := Option.bind_eq_some_iff.mp H
         obtain ⟨t143, A270, H⟩ := H
         replace H : (if x6_1.length < 17592186044416 then (chequerref08_Pixels.l0 k2 l0 (x6_1 ++ [t143]) (wrap64 (x7_1 + 1)) a1_0 a1_1 a1_2 a1_3 t133 t134) else (none)) = some r := H
         have A27 := Aside0.mk A270
         clear A270
         by_cases c28 : x6_1.length < 17592186044416
         · rw [if_pos c28] at H
           have LMc28 := Aside0.mk c28
           clear c28
           obtain ⟨y144, hy144⟩ : ∃ y_ : List Int, y_ = (x6_1 ++ [t143]) := ⟨_, rfl⟩
           replace H : (chequerref08_Pixels.l0 k2 l0 y144 (wrap64 (x7_1 + 1)) a1_0 a1_1 a1_2 a1_3 t133 t134) = some r := by first | (rw [hy144]; with_reducible exact H) | (have H2_ := (Option.bind_some _ _).symm.trans H; rw [hy144]; with_reducible exact H2_) | (have H2_ := (Option.bind_some _ _).symm.trans H; with_reducible exact H2_) | with_reducible exact H | (rw [hy144]; exact H) | exact H
           have Ny144 := Aside0.mk hy144
           clear hy144
           have H' := Aside0.mk H
           clear H
           have hnb29 := NB135_132.out
           have hnc29 := NB132_135.out
           have hcz30_0 : wr.cell? ⟨gb135, 0, none⟩ = some (.int .i64 t133) := (blk_cell BK135.out 0).trans rfl
           have hcz30_1 : wr.cell? ⟨gb135, 1, none⟩ = some (.int .i64 t134) := (blk_cell BK135.out 1).trans rfl
           have hfz30_0 := blk_frozen BK135.out 0
           have hfz30_1 := blk_frozen BK135.out 1
           obtain ⟨Ao31, co31, eo31⟩ := Kd.R_slice HO_8.out
           subst eo31
           go_wp2_with (first | ((with_reducible refine gate_callee (f := 30) rfl ?_); refine goQ_ (some 50) Try.func30 #[.slice Ao31 x8_2.length co31, .agg #[.int .i64 t133, .int .i64 t134]] ?_; (with_reducible refine (chequerref01_Good.calls k2 _ _ x8_2 t133 t134 t143 _ ?side1 ?side2 A27.out).mono ?_); (case side1 => exact cp_ (Kd.R_reads' HO_8.out).2.2); (case side2 => exact (Kd.R_reads' HO_8.out).2.1); rintro e w32 ⟨rfl, hb⟩; refine ⟨_, rfl, ?_⟩; replace HO_6 := Aside0.mk (Kd.R_below (rp_ HO_6.out) hb); replace HO_8 := Aside0.mk (Kd.R_below (rp_ HO_8.out) hb); replace BK132 := Aside0.mk (blk_below (hp_ BK132.out) hb); replace BK135 := Aside0.mk (blk_below (hp_ BK135.out) hb); replace HB := Aside0.mk (below_step bp_ hb); (try clear hb); (try clear hb2); (try clear hk); (try clear hi)) | ((with_reducible refine gate_builtin (b := .append) (xs := #[.tmp 47, .tmp 51]) rfl ?_); at_builtin; refine Kd.R_append (Kd.int .u64) (w0 := w) w.heap.size rfl (.tmp 47) (.tmp 51) 29 26 (.int .u64 0) 8 rfl Try.underlying29 info26 rfl (by decide) (by omega) u6 x6_1 t143 [.int .u64 t143] (fun _ => True) (fun _ => False) rfl rfl ?aP (fun _ hk => hk.elim) ?aF ?aO ?aB ?aS ?aL ?_; (case aP => exact rfl); (case aB => exact bp_); (case aF => exact (fun _ _ => trivial)); (case aO => exact (rp_ HO_6.out)); (case aS => exact (below_size bp_)); (case aL => have := LMc28.out; omega); intro v145 w33 ho hb hg hat; rw [← Ny144.out] at ho; replace HO_8 := Aside0.mk (Kd.R_over' (rp_ HO_8.out) (Kd.R_typed (rp_ HO_6.out)) (by decide) hg); replace BK132 := Aside0.mk (blk_grown (g := gb132) (o := .cells #[.int .i64 a1_0, .int .i64 a1_1, .int .i64 a1_2, .int .i64 a1_3] 23 (0, 0)) (hp_ BK132.out) hg (Kd.R_ne HO_6.out BK132.out (by decide))); replace BK135 := Aside0.mk (blk_grown (g := gb135) (o := .cells #[.int .i64 t133, .int .i64 t134] 60 (0, 0)) (hp_ BK135.out) hg (Kd.R_ne HO_6.out BK135.out (by decide))); replace HB := Aside0.mk (hb); have HO146 := Aside0.mk (ho); clear HO_6; clear ho hb hg hat))
           go_roundg k2
           case measure => have := HK1.out; have := HK2.out; omega
           case rel => exact ⟨(y144), (wrap64 (x7_1 + 1)), (by first | rfl | (simp; done) | (simp [*]; done)), H', ⟨by have := HK1.out; have := HK2.out; omega⟩, ⟨rp_ HO146.out⟩, ⟨hp_ BK132.out⟩, ⟨hp_ BK135.out⟩, ⟨bp_⟩⟩
         · rw [if_neg c28] at H
           exact absurd H (by simp)
   · rw [if_neg c10] at H
     have c10b0 : decide (x7_1 < (wrap64 (a1_1 * a1_2))) = false := decide_eq_false c10
     clear c10
     obtain rfl := Option.some.inj H
     have hcz34_0 : wr.cell? ⟨gb132, 0, none⟩ = some (.int .i64 a1_0) := (blk_cell BK132.out 0).trans rfl
     have hcz34_1 : wr.cell? ⟨gb132, 1, none⟩ = some (.int .i64 a1_1) := (blk_cell BK132.out 1).trans rfl
     have hcz34_2 : wr.cell? ⟨gb132, 2, none⟩ = some (.int .i64 a1_2) := (blk_cell BK132.out 2).trans rfl
     have hcz34_3 : wr.cell? ⟨gb132, 3, none⟩ = some (.int .i64 a1_3) := (blk_cell BK132.out 3).trans rfl
     have hfz34_0 := blk_frozen BK132.out 0
     have hfz34_1 := blk_frozen BK132.out 1
     have hfz34_2 := blk_frozen BK132.out 2
     have hfz34_3 := blk_frozen BK132.out 3
     go_wp2
     go_ret
     exact ⟨_, by first | rfl | (simp [errW_none, errW_some] <;> rfl) | (simp [*, errW_none, errW_some] <;> rfl), by (with_reducible repeat (first | apply Kd.R_alloc | apply Kd.R_drewN | apply Kd.R_drew)); exact HO_6.out, bp_⟩


/-! ### head_Format: function 31 -/
def head_Format.f (a0_0 : Int) (a0_1 : Int) (a0_2 : Int) (a0_3 : Int) : Option (Int × Int) := if (Int.tmod a0_0 3) = 0 then (some (3, a0_3)) else (some (1, a0_3))
set_option maxHeartbeats 8000000 in
set_option maxRecDepth 100000 in
theorem head_Format.calls (a0_0 : Int) (a0_1 : Int) (a0_2 : Int) (a0_3 : Int) (r1 : Int) (r2 : Int) (w : World) (h : head_Format.f a0_0 a0_1 a0_2 a0_3 = some (r1, r2)) :
 Calls Try.prog 31 #[.agg #[.int .i64 a0_0, .int .i64 a0_1, .int .i64 a0_2, .int .i64 a0_3]] w fun e w' => e = .returned (.agg #[.int .i64 r1, .int .i64 r2]) ∧ Below w.heap.size w w' := by
 have hu34 := Try.underlying34
 have hu60 := Try.underlying60
 have HB := Aside0.mk (Below.refl w.heap.size w)
 have H : (if (Int.tmod a0_0 3) = 0 then (some (3, a0_3)) else (some (1, a0_3))) = some (r1, r2) := h
 clear h
 by_cases c2 : (Int.tmod a0_0 3) = 0
 · rw [if_pos c2] at H
   have c2b0 : ((Int.tmod a0_0 3) == 0) = true := beq_iff_eq.mpr c2
   have c2b1 : ((Int.tmod a0_0 3) != 0) = false := bne_eq_false_iff_eq.mpr c2
   clear c2
   simp only [Option.some.injEq, Prod.mk.injEq] at H
   obtain ⟨rfl, rfl⟩ := H
   go_enter Try.func31, Try.ntmps31
   go_wp2_with (first | ((with_reducible refine gate_dst (N := 1) rfl ?_); refine box_event ?hg (N := 1) ?hd (cs := #[.int .i64 a0_0, .int .i64 a0_1, .int .i64 a0_2, .int .i64 a0_3]) (t := 34) ?hr ?_; (case hd => rfl); (case hg => rfl); (case hr => first | (go_simp; done) | (go_simp; rfl)); intro gb147 hg w3 hbox hb; have BK147 := Aside0.mk (hbox); have GW147 := Aside0.mk ((by rw [hg]; exact (below_size bp_) : w.heap.size ≤ gb147)); have GE147 := Aside0.mk ((by rw [hg]; exact (below_size bp_) : w.heap.size ≤ gb147)); replace HB := Aside0.mk (below_step bp_ hb); clear hb hbox hg) | ((with_reducible refine gate_dst (N := 2) rfl ?_); refine box_event ?hg (N := 2) ?hd (cs := #[.int .i64 0, .int .i64 0]) (t := 60) ?hr ?_; (case hd => rfl); (case hg => rfl); (case hr => first | (go_simp; done) | (go_simp; rfl)); intro gb148 hg w4 hbox hb; have BK148 := Aside0.mk (hbox); have GW148 := Aside0.mk ((by rw [hg]; exact (below_size bp_) : w.heap.size ≤ gb148)); have GE148 := Aside0.mk ((by rw [hg]; exact (below_size bp_) : w.heap.size ≤ gb148)); replace HB := Aside0.mk (below_step bp_ hb); have NB147_148 := Aside0.mk ((nlt_ hg (hp_ BK147.out))); have NB148_147 := Aside0.mk ((ngt_ hg (hp_ BK147.out))); replace BK147 := Aside0.mk (blk_below (hp_ BK147.out) hb); clear hb hbox hg; have hnb5 := NB147_148.out; have hnc5 := NB148_147.out; have hcz6_0 : w4.cell? ⟨gb147, 0, none⟩ = some (.int .i64 a0_0) := (blk_cell BK147.out 0).trans rfl; have hcz6_1 : w4.cell? ⟨gb147, 1, none⟩ = some (.int .i64 a0_1) := (blk_cell BK147.out 1).trans rfl; have hcz6_2 : w4.cell? ⟨gb147, 2, none⟩ = some (.int .i64 a0_2) := (blk_cell BK147.out 2).trans rfl; have hcz6_3 : w4.cell? ⟨gb147, 3, none⟩ = some (.int .i64 a0_3) := (blk_cell BK147.out 3).trans rfl; have hfz6_0 := blk_frozen BK147.out 0; have hfz6_1 := blk_frozen BK147.out 1; have hfz6_2 := blk_frozen BK147.out 2; have hfz6_3 := blk_frozen BK147.out 3; have hcz7_0 : w4.cell? ⟨gb148, 0, none⟩ = some (.int .i64 0) := (blk_cell BK148.out 0).trans rfl; have hcz7_1 : w4.cell? ⟨gb148, 1, none⟩ = some (.int .i64 0) := (blk_cell BK148.out 1).trans rfl; have hfz7_0 := blk_frozen BK148.out 0; have hfz7_1 := blk_frozen BK148.out 1))
   refine bodyPost_ret (results_cell_row rfl _ _ gb148 60 #[.int .i64 3, .int .i64 a0_3] (0, 0) _ rfl (by (with_reducible repeat (first | refine blk_drewN ?_ _ | refine blk_drew ?_ | refine blk_alloc ?_ _)); refine blk_put (cs := #[.int .i64 3, .int .i64 0]) ?_ 1 _ rfl; (with_reducible repeat (first | refine blk_drewN ?_ _ | refine blk_drew ?_ | refine blk_alloc ?_ _)); refine blk_put (cs := #[.int .i64 0, .int .i64 0]) ?_ 0 _ rfl; (with_reducible repeat (first | refine blk_drewN ?_ _ | refine blk_drew ?_ | refine blk_alloc ?_ _)); exact BK148.out) Try.underlying60 rfl (by kernel_rfl)) rfl ?_
   exact ⟨by first | rfl | (simp [errW_none, errW_some] <;> rfl) | (simp [*, errW_none, errW_some] <;> rfl), bp_⟩
 · rw [if_neg c2] at H
   have c2b0 : ((Int.tmod a0_0 3) == 0) = false := beq_eq_false_iff_ne.mpr c2
   have c2b1 : ((Int.tmod a0_0 3) != 0) = true := bne_iff_ne.mpr c2
   simp only [Option.some.injEq, Prod.mk.injEq] at H
   obtain ⟨rfl, rfl⟩ := H
   go_enter Try.func31, Try.ntmps31
   go_wp2_with (first | ((with_reducible refine gate_dst (N := 1) rfl ?_); refine box_event ?hg (N := 1) ?hd (cs := #[.int .i64 a0_0, .int .i64 a0_1, .int .i64 a0_2, .int .i64 a0_3]) (t := 34) ?hr ?_; (case hd => rfl); (case hg => rfl); (case hr => first | (go_simp; done) | (go_simp; rfl)); intro gb147 hg w8 hbox hb; have BK147 := Aside0.mk (hbox); have GW147 := Aside0.mk ((by rw [hg]; exact (below_size bp_) : w.heap.size ≤ gb147)); have GE147 := Aside0.mk ((by rw [hg]; exact (below_size bp_) : w.heap.size ≤ gb147)); replace HB := Aside0.mk (below_step bp_ hb); clear hb hbox hg) | ((with_reducible refine gate_dst (N := 2) rfl ?_); refine box_event ?hg (N := 2) ?hd (cs := #[.int .i64 0, .int .i64 0]) (t := 60) ?hr ?_; (case hd => rfl); (case hg => rfl); (case hr => first | (go_simp; done) | (go_simp; rfl)); intro gb148 hg w9 hbox hb; have BK148 := Aside0.mk (hbox); have GW148 := Aside0.mk ((by rw [hg]; exact (below_size bp_) : w.heap.size ≤ gb148)); have GE148 := Aside0.mk ((by rw [hg]; exact (below_size bp_) : w.heap.size ≤ gb148)); replace HB := Aside0.mk (below_step bp_ hb); have NB147_148 := Aside0.mk ((nlt_ hg (hp_ BK147.out))); have NB148_147 := Aside0.mk ((ngt_ hg (hp_ BK147.out))); replace BK147 := Aside0.mk (blk_below (hp_ BK147.out) hb); clear hb hbox hg; have hnb10 := NB147_148.out; have hnc10 := NB148_147.out; have hcz11_0 : w9.cell? ⟨gb147, 0, none⟩ = some (.int .i64 a0_0) := (blk_cell BK147.out 0).trans rfl; have hcz11_1 : w9.cell? ⟨gb147, 1, none⟩ = some (.int .i64 a0_1) := (blk_cell BK147.out 1).trans rfl; have hcz11_2 : w9.cell? ⟨gb147, 2, none⟩ = some (.int .i64 a0_2) := (blk_cell BK147.out 2).trans rfl; have hcz11_3 : w9.cell? ⟨gb147, 3, none⟩ = some (.int .i64 a0_3) := (blk_cell BK147.out 3).trans rfl; have hfz11_0 := blk_frozen BK147.out 0; have hfz11_1 := blk_frozen BK147.out 1; have hfz11_2 := blk_frozen BK147.out 2; have hfz11_3 := blk_frozen BK147.out 3; have hcz12_0 : w9.cell? ⟨gb148, 0, none⟩ = some (.int .i64 0) := (blk_cell BK148.out 0).trans rfl; have hcz12_1 : w9.cell? ⟨gb148, 1, none⟩ = some (.int .i64 0) := (blk_cell BK148.out 1).trans rfl; have hfz12_0 := blk_frozen BK148.out 0; have hfz12_1 := blk_frozen BK148.out 1))
   refine bodyPost_ret (results_cell_row rfl _ _ gb148 60 #[.int .i64 1, .int .i64 a0_3] (0, 0) _ rfl (by (with_reducible repeat (first | refine blk_drewN ?_ _ | refine blk_drew ?_ | refine blk_alloc ?_ _)); refine blk_put (cs := #[.int .i64 1, .int .i64 0]) ?_ 1 _ rfl; (with_reducible repeat (first | refine blk_drewN ?_ _ | refine blk_drew ?_ | refine blk_alloc ?_ _)); refine blk_put (cs := #[.int .i64 0, .int .i64 0]) ?_ 0 _ rfl; (with_reducible repeat (first | refine blk_drewN ?_ _ | refine blk_drew ?_ | refine blk_alloc ?_ _)); exact BK148.out) Try.underlying60 rfl (by kernel_rfl)) rfl ?_
   exact ⟨by first | rfl | (simp [errW_none, errW_some] <;> rfl) | (simp [*, errW_none, errW_some] <;> rfl), bp_⟩

/-! ### raw_wide: function 38 -/
def raw_wide.f (a0_0 : Int) (a0_1 : Int) (a0_2 : Int) (a0_3 : Int) : Option (Int) := if a0_3 > 255 then (some 2) else (some 1)
set_option maxHeartbeats 8000000 in
set_option maxRecDepth 100000 in
theorem raw_wide.calls (a0_0 : Int) (a0_1 : Int) (a0_2 : Int) (a0_3 : Int) (r : Int) (w : World) (h : raw_wide.f a0_0 a0_1 a0_2 a0_3 = some r) :
    Calls Try.prog 38 #[.agg #[.int .i64 a0_0, .int .i64 a0_1, .int .i64 a0_2, .int .i64 a0_3]] w fun e w' => e = .returned (.int .i64 r) ∧ Below w.heap.size w w' := by
  have hu34 := Try.underlying34
  have HB := Aside0.mk (Below.refl w.heap.size w)
  have H : (if a0_3 > 255 then (some 2) else (some 1)) = some r := h
  clear h
  by_cases c2 : a0_3 > 255
  · rw [if_pos c2] at H
    have c2b0 : decide (255 < a0_3) = true := decide_eq_true c2
    clear c2
    obtain rfl := Option.some.inj H
    go_enter Try.func38, Try.ntmps38
    go_wp2_with (first | ((with_reducible refine gate_dst (N := 1) rfl ?_); refine box_event ?hg (N := 1) ?hd (cs := #[.int .i64 a0_0, .int .i64 a0_1, .int .i64 a0_2, .int .i64 a0_3]) (t := 34) ?hr ?_; (case hd => rfl); (case hg => rfl); (case hr => first | (go_simp; done) | (go_simp; rfl)); intro gb149 hg w3 hbox hb; have n0_ := Aside0.mk (below_step (by repeat (first | (with_reducible first | exact HB.out | apply below_alloc | apply pw_below_drewN | apply below_drew1) | exact HB.out)) hb); have n1_ := Aside0.mk (hbox); have n2_ := Aside0.mk ((by rw [hg]; exact (below_size (by repeat (first | (with_reducible first | exact HB.out | apply below_alloc | apply pw_below_drewN | apply below_drew1) | exact HB.out))) : w.heap.size ≤ gb149)); have n3_ := Aside0.mk ((by rw [hg]; exact (below_size (by repeat (first | (with_reducible first | exact HB.out | apply below_alloc | apply pw_below_drewN | apply below_drew1) | exact HB.out))) : w.heap.size ≤ gb149)); clear HB; have HB := n0_; have BK149 := n1_; have GW149 := n2_; have GE149 := n3_; clear n0_ n1_ n2_ n3_; clear hb hbox hg; have hcz4_0 : w3.cell? ⟨gb149, 0, none⟩ = some (.int .i64 a0_0) := (blk_cell BK149.out 0).trans rfl; have hcz4_1 : w3.cell? ⟨gb149, 1, none⟩ = some (.int .i64 a0_1) := (blk_cell BK149.out 1).trans rfl; have hcz4_2 : w3.cell? ⟨gb149, 2, none⟩ = some (.int .i64 a0_2) := (blk_cell BK149.out 2).trans rfl; have hcz4_3 : w3.cell? ⟨gb149, 3, none⟩ = some (.int .i64 a0_3) := (blk_cell BK149.out 3).trans rfl; have hfz4_0 := blk_frozen BK149.out 0; have hfz4_1 := blk_frozen BK149.out 1; have hfz4_2 := blk_frozen BK149.out 2; have hfz4_3 := blk_frozen BK149.out 3))
    go_ret
    exact ⟨by first | rfl | (simp [errW_none, errW_some] <;> rfl) | (simp [*, errW_none, errW_some] <;> rfl), by repeat (first | (with_reducible first | exact HB.out | apply below_alloc | apply pw_below_drewN | apply below_drew1 | refine below_set ?_ GE149.out) | exact HB.out)⟩
  · rw [if_neg c2] at H
    have c2b0 : decide (255 < a0_3) = false := decide_eq_false c2
    clear c2
    obtain rfl := Option.some.inj H
    go_enter Try.func38, Try.ntmps38
    go_wp2_with (first | ((with_reducible refine gate_dst (N := 1) rfl ?_); refine box_event ?hg (N := 1) ?hd (cs := #[.int .i64 a0_0, .int .i64 a0_1, .int .i64 a0_2, .int .i64 a0_3]) (t := 34) ?hr ?_; (case hd => rfl); (case hg => rfl); (case hr => first | (go_simp; done) | (go_simp; rfl)); intro gb149 hg w5 hbox hb; have n0_ := Aside0.mk (below_step (by repeat (first | (with_reducible first | exact HB.out | apply below_alloc | apply pw_below_drewN | apply below_drew1) | exact HB.out)) hb); have n1_ := Aside0.mk (hbox); have n2_ := Aside0.mk ((by rw [hg]; exact (below_size (by repeat (first | (with_reducible first | exact HB.out | apply below_alloc | apply pw_below_drewN | apply below_drew1) | exact HB.out))) : w.heap.size ≤ gb149)); have n3_ := Aside0.mk ((by rw [hg]; exact (below_size (by repeat (first | (with_reducible first | exact HB.out | apply below_alloc | apply pw_below_drewN | apply below_drew1) | exact HB.out))) : w.heap.size ≤ gb149)); clear HB; have HB := n0_; have BK149 := n1_; have GW149 := n2_; have GE149 := n3_; clear n0_ n1_ n2_ n3_; clear hb hbox hg; have hcz6_0 : w5.cell? ⟨gb149, 0, none⟩ = some (.int .i64 a0_0) := (blk_cell BK149.out 0).trans rfl; have hcz6_1 : w5.cell? ⟨gb149, 1, none⟩ = some (.int .i64 a0_1) := (blk_cell BK149.out 1).trans rfl; have hcz6_2 : w5.cell? ⟨gb149, 2, none⟩ = some (.int .i64 a0_2) := (blk_cell BK149.out 2).trans rfl; have hcz6_3 : w5.cell? ⟨gb149, 3, none⟩ = some (.int .i64 a0_3) := (blk_cell BK149.out 3).trans rfl; have hfz6_0 := blk_frozen BK149.out 0; have hfz6_1 := blk_frozen BK149.out 1; have hfz6_2 := blk_frozen BK149.out 2; have hfz6_3 := blk_frozen BK149.out 3))
    go_ret
    exact ⟨by first | rfl | (simp [errW_none, errW_some] <;> rfl) | (simp [*, errW_none, errW_some] <;> rfl), by repeat (first | (with_reducible first | exact HB.out | apply below_alloc | apply pw_below_drewN | apply below_drew1 | refine below_set ?_ GE149.out) | exact HB.out)⟩

/-! ### head_Raw: function 44 -/
def head_Raw.f (a0_0 : Int) (a0_1 : Int) (a0_2 : Int) (a0_3 : Int) : Option (Bool) := if a0_0 ≥ 4 then (some (decide (a0_0 ≤ 6))) else (some false)
set_option maxHeartbeats 8000000 in
set_option maxRecDepth 100000 in
theorem head_Raw.calls (a0_0 : Int) (a0_1 : Int) (a0_2 : Int) (a0_3 : Int) (r : Bool) (w : World) (h : head_Raw.f a0_0 a0_1 a0_2 a0_3 = some r) :
    Calls Try.prog 44 #[.agg #[.int .i64 a0_0, .int .i64 a0_1, .int .i64 a0_2, .int .i64 a0_3]] w fun e w' => e = .returned (.bool r) ∧ Below w.heap.size w w' := by
  have hu34 := Try.underlying34
  have HB := Aside0.mk (Below.refl w.heap.size w)
  have H : (if a0_0 ≥ 4 then (some (decide (a0_0 ≤ 6))) else (some false)) = some r := h
  clear h
  by_cases c2 : a0_0 ≥ 4
  · rw [if_pos c2] at H
    have c2b0 : decide (4 ≤ a0_0) = true := decide_eq_true c2
    clear c2
    obtain rfl := Option.some.inj H
    go_enter Try.func44, Try.ntmps44
    go_wp2_with (first | ((with_reducible refine gate_dst (N := 1) rfl ?_); refine box_event ?hg (N := 1) ?hd (cs := #[.int .i64 a0_0, .int .i64 a0_1, .int .i64 a0_2, .int .i64 a0_3]) (t := 34) ?hr ?_; (case hd => rfl); (case hg => rfl); (case hr => first | (go_simp; done) | (go_simp; rfl)); intro gb150 hg w3 hbox hb; have n0_ := Aside0.mk (below_step (by repeat (first | (with_reducible first | exact HB.out | apply below_alloc | apply pw_below_drewN | apply below_drew1) | exact HB.out)) hb); have n1_ := Aside0.mk (hbox); have n2_ := Aside0.mk ((by rw [hg]; exact (below_size (by repeat (first | (with_reducible first | exact HB.out | apply below_alloc | apply pw_below_drewN | apply below_drew1) | exact HB.out))) : w.heap.size ≤ gb150)); have n3_ := Aside0.mk ((by rw [hg]; exact (below_size (by repeat (first | (with_reducible first | exact HB.out | apply below_alloc | apply pw_below_drewN | apply below_drew1) | exact HB.out))) : w.heap.size ≤ gb150)); clear HB; have HB := n0_; have BK150 := n1_; have GW150 := n2_; have GE150 := n3_; clear n0_ n1_ n2_ n3_; clear hb hbox hg; have hcz4_0 : w3.cell? ⟨gb150, 0, none⟩ = some (.int .i64 a0_0) := (blk_cell BK150.out 0).trans rfl; have hcz4_1 : w3.cell? ⟨gb150, 1, none⟩ = some (.int .i64 a0_1) := (blk_cell BK150.out 1).trans rfl; have hcz4_2 : w3.cell? ⟨gb150, 2, none⟩ = some (.int .i64 a0_2) := (blk_cell BK150.out 2).trans rfl; have hcz4_3 : w3.cell? ⟨gb150, 3, none⟩ = some (.int .i64 a0_3) := (blk_cell BK150.out 3).trans rfl; have hfz4_0 := blk_frozen BK150.out 0; have hfz4_1 := blk_frozen BK150.out 1; have hfz4_2 := blk_frozen BK150.out 2; have hfz4_3 := blk_frozen BK150.out 3))
    go_ret
    exact ⟨by first | rfl | (simp [errW_none, errW_some] <;> rfl) | (simp [*, errW_none, errW_some] <;> rfl), by repeat (first | (with_reducible first | exact HB.out | apply below_alloc | apply pw_below_drewN | apply below_drew1 | refine below_set ?_ GE150.out) | exact HB.out)⟩
  · rw [if_neg c2] at H
    have c2b0 : decide (4 ≤ a0_0) = false := decide_eq_false c2
    clear c2
    obtain rfl := Option.some.inj H
    go_enter Try.func44, Try.ntmps44
    go_wp2_with (first | ((with_reducible refine gate_dst (N := 1) rfl ?_); refine box_event ?hg (N := 1) ?hd (cs := #[.int .i64 a0_0, .int .i64 a0_1, .int .i64 a0_2, .int .i64 a0_3]) (t := 34) ?hr ?_; (case hd => rfl); (case hg => rfl); (case hr => first | (go_simp; done) | (go_simp; rfl)); intro gb150 hg w5 hbox hb; have n0_ := Aside0.mk (below_step (by repeat (first | (with_reducible first | exact HB.out | apply below_alloc | apply pw_below_drewN | apply below_drew1) | exact HB.out)) hb); have n1_ := Aside0.mk (hbox); have n2_ := Aside0.mk ((by rw [hg]; exact (below_size (by repeat (first | (with_reducible first | exact HB.out | apply below_alloc | apply pw_below_drewN | apply below_drew1) | exact HB.out))) : w.heap.size ≤ gb150)); have n3_ := Aside0.mk ((by rw [hg]; exact (below_size (by repeat (first | (with_reducible first | exact HB.out | apply below_alloc | apply pw_below_drewN | apply below_drew1) | exact HB.out))) : w.heap.size ≤ gb150)); clear HB; have HB := n0_; have BK150 := n1_; have GW150 := n2_; have GE150 := n3_; clear n0_ n1_ n2_ n3_; clear hb hbox hg; have hcz6_0 : w5.cell? ⟨gb150, 0, none⟩ = some (.int .i64 a0_0) := (blk_cell BK150.out 0).trans rfl; have hcz6_1 : w5.cell? ⟨gb150, 1, none⟩ = some (.int .i64 a0_1) := (blk_cell BK150.out 1).trans rfl; have hcz6_2 : w5.cell? ⟨gb150, 2, none⟩ = some (.int .i64 a0_2) := (blk_cell BK150.out 2).trans rfl; have hcz6_3 : w5.cell? ⟨gb150, 3, none⟩ = some (.int .i64 a0_3) := (blk_cell BK150.out 3).trans rfl; have hfz6_0 := blk_frozen BK150.out 0; have hfz6_1 := blk_frozen BK150.out 1; have hfz6_2 := blk_frozen BK150.out 2; have hfz6_3 := blk_frozen BK150.out 3))
    go_ret
    exact ⟨by first | rfl | (simp [errW_none, errW_some] <;> rfl) | (simp [*, errW_none, errW_some] <;> rfl), by repeat (first | (with_reducible first | exact HB.out | apply below_alloc | apply pw_below_drewN | apply below_drew1 | refine below_set ?_ GE150.out) | exact HB.out)⟩

/-! ### bits_sized: function 56 -/
def bits_sized.f (a0 : Int) : Option (Bool) := if a0 ≥ 1 then (some (decide (a0 ≤ 4096))) else (some false)
set_option maxHeartbeats 8000000 in
set_option maxRecDepth 100000 in
theorem bits_sized.calls (a0 : Int) (r : Bool) (w : World) (h : bits_sized.f a0 = some r) :
    Calls Try.prog 56 #[.int .i64 a0] w fun e w' => e = .returned (.bool r) ∧ Drawn0 w w' := by
  have H : (if a0 ≥ 1 then (some (decide (a0 ≤ 4096))) else (some false)) = some r := h
  clear h
  by_cases c2 : a0 ≥ 1
  · rw [if_pos c2] at H
    have c2b0 : decide (1 ≤ a0) = true := decide_eq_true c2
    clear c2
    obtain rfl := Option.some.inj H
    go_enter Try.func56, Try.ntmps56
    go_wp2
    go_ret
    exact ⟨by first | rfl | (simp; done) | (simp [*]; done), by repeat (first | exact Drawn0.refl _ | apply Drawn0.step)⟩
  · rw [if_neg c2] at H
    have c2b0 : decide (1 ≤ a0) = false := decide_eq_false c2
    clear c2
    obtain rfl := Option.some.inj H
    go_enter Try.func56, Try.ntmps56
    go_wp2
    go_ret
    exact ⟨by first | rfl | (simp; done) | (simp [*]; done), by repeat (first | exact Drawn0.refl _ | apply Drawn0.step)⟩

/-! ### bits_Bytes: function 50 -/
def bits_Bytes.f (a0 : Int) : Option (Int) := (bits_sized.f a0).bind fun t151 => (if t151 = true then (some (wrap64 (Int.tdiv (wrap64 ((wrap64 (a0 + 8)) - 1)) 8))) else (some 0))
set_option maxHeartbeats 8000000 in
set_option maxRecDepth 100000 in
theorem bits_Bytes.calls (a0 : Int) (r : Int) (w : World) (h : bits_Bytes.f a0 = some r) :
    Calls Try.prog 50 #[.int .i64 a0] w fun e w' => e = .returned (.int .i64 r) ∧ Drawn0 w w' := by
  have H : ((bits_sized.f a0).bind fun t151 => (if t151 = true then (some (wrap64 (Int.tdiv (wrap64 ((wrap64 (a0 + 8)) - 1)) 8))) else (some 0))) = some r := h
  clear h
  replace H := Option.bind_eq_some_iff.mp H
  obtain ⟨t151, A20, H⟩ := H
  replace H : (if t151 = true then (some (wrap64 (Int.tdiv (wrap64 ((wrap64 (a0 + 8)) - 1)) 8))) else (some 0)) = some r := H
  have A2 := Aside0.mk A20
  clear A20
  by_cases c3 : t151 = true
  · subst c3
    have H1 : (some (wrap64 (Int.tdiv (wrap64 ((wrap64 (a0 + 8)) - 1)) 8))) = some r := by rw [if_pos rfl] at H; exact H
    clear H
    have H := H1
    clear H1
    obtain rfl := Option.some.inj H
    go_enter Try.func50, Try.ntmps50
    go_wp2_with (first | ((with_reducible refine gate_callee (f := 56) rfl ?_); refine goesL_ (some 4) rfl rfl Try.func56 (by kernel_rfl) rfl #[.int .i64 a0] rfl (by (try simp only [List.map_toArray, List.map_cons, List.map_nil]); first | done | rfl | (simp only [List.length_drop, List.length_take]; rfl)) ?_; (with_reducible refine (bits_sized.calls a0 true _ A2.out).mono ?_); rintro e w' ⟨rfl, ⟨nd, rfl⟩⟩; refine ⟨_, rfl, ?_⟩))
    go_ret
    exact ⟨by first | rfl | (simp; done) | (simp [*]; done), by repeat (first | exact Drawn0.refl _ | apply Drawn0.step)⟩
  · replace c3 := Bool.eq_false_iff.mpr c3
    subst c3
    have H1 : (some 0) = some r := by rw [if_neg (show ¬ (false = true) by decide)] at H; exact H
    clear H
    have H := H1
    clear H1
    obtain rfl := Option.some.inj H
    go_enter Try.func50, Try.ntmps50
    go_wp2_with (first | ((with_reducible refine gate_callee (f := 56) rfl ?_); refine goesL_ (some 4) rfl rfl Try.func56 (by kernel_rfl) rfl #[.int .i64 a0] rfl (by (try simp only [List.map_toArray, List.map_cons, List.map_nil]); first | done | rfl | (simp only [List.length_drop, List.length_take]; rfl)) ?_; (with_reducible refine (bits_sized.calls a0 false _ A2.out).mono ?_); rintro e w' ⟨rfl, ⟨nd, rfl⟩⟩; refine ⟨_, rfl, ?_⟩))
    go_ret
    exact ⟨by first | rfl | (simp; done) | (simp [*]; done), by repeat (first | exact Drawn0.refl _ | apply Drawn0.step)⟩


/-! ### raw_Stride: function 26 -/
def raw_Stride.f (a0_0 : Int) (a0_1 : Int) (a0_2 : Int) (a0_3 : Int) : Option (Int) := (head_Raw.f a0_0 a0_1 a0_2 a0_3).bind fun t153 => (if t153 = true then (if a0_0 = 4 then ((bits_Bytes.f a0_1).bind fun t154 => (some t154)) else ((head_Format.f a0_0 a0_1 a0_2 a0_3).bind fun bt155 => ((raw_wide.f a0_0 a0_1 a0_2 a0_3).bind fun t157 => (some (wrap64 ((wrap64 (a0_1 * bt155.1)) * t157)))))) else (some 0))
def raw_Stride.T5 : Bool × List (List Nat × List Nat) := (true, [([], []), ([0], [0]), ([], []), ([2], [2]), ([3], [3]), ([1, 4], [1, 4]), ([], []), ([6, 3], [6]), ([5, 7], [5, 7]), ([8, 7, 0, 1, 2, 3, 4, 5, 6, 7, 8], [8])])
def raw_Stride.B5 : List Nat := [0, 1, 0, 4, 12, 31, 0, 76, 255, 511]
theorem raw_Stride.tab5 : rtab .any (opsOf Try.f26 5) = raw_Stride.T5 := by kernel_rfl
theorem raw_Stride.bits5 : waitsOk raw_Stride.T5.2 raw_Stride.B5 = true := by kernel_rfl
set_option maxHeartbeats 8000000 in
set_option maxRecDepth 100000 in
theorem raw_Stride.calls (a0_0 : Int) (a0_1 : Int) (a0_2 : Int) (a0_3 : Int) (r : Int) (w : World) (h : raw_Stride.f a0_0 a0_1 a0_2 a0_3 = some r) :
 Calls Try.prog 26 #[.agg #[.int .i64 a0_0, .int .i64 a0_1, .int .i64 a0_2, .int .i64 a0_3]] w fun e w' => e = .returned (.int .i64 r) ∧ Below w.heap.size w w' := by
 have hu34 := Try.underlying34
 have hu60 := Try.underlying60
 have HB := Aside0.mk (Below.refl w.heap.size w)
 have H : ((head_Raw.f a0_0 a0_1 a0_2 a0_3).bind fun t153 => (if t153 = true then (if a0_0 = 4 then ((bits_Bytes.f a0_1).bind fun t154 => (some t154)) else ((head_Format.f a0_0 a0_1 a0_2 a0_3).bind fun bt155 => ((raw_wide.f a0_0 a0_1 a0_2 a0_3).bind fun t157 => (some (wrap64 ((wrap64 (a0_1 * bt155.1)) * t157)))))) else (some 0))) = some r := h
 clear h
 replace H := Option.bind_eq_some_iff.mp H
 obtain ⟨t153, A20, H⟩ := H
 replace H : (if t153 = true then (if a0_0 = 4 then ((bits_Bytes.f a0_1).bind fun t154 => (some t154)) else ((head_Format.f a0_0 a0_1 a0_2 a0_3).bind fun bt155 => ((raw_wide.f a0_0 a0_1 a0_2 a0_3).bind fun t157 => (some (wrap64 ((wrap64 (a0_1 * bt155.1)) * t157)))))) else (some 0)) = some r := H
 have A2 := Aside0.mk A20
 clear A20
 by_cases c3 : t153 = true
 · subst c3
   have H1 : (if a0_0 = 4 then ((bits_Bytes.f a0_1).bind fun t154 => (some t154)) else ((head_Format.f a0_0 a0_1 a0_2 a0_3).bind fun bt155 => ((raw_wide.f a0_0 a0_1 a0_2 a0_3).bind fun t157 => (some (wrap64 ((wrap64 (a0_1 * bt155.1)) * t157)))))) = some r := by rw [if_pos rfl] at H; exact H
   clear H
   have H := H1
   clear H1
   by_cases c4 : a0_0 = 4
   · rw [if_pos c4] at H
     have c4b0 : (a0_0 == 4) = true := beq_iff_eq.mpr c4
     have c4b1 : (a0_0 != 4) = false := bne_eq_false_iff_eq.mpr c4
     clear c4
     replace H := Option.bind_eq_some_iff.mp H
     obtain ⟨t154, A50, H⟩ := H
     replace H : (some t154) = some r := H
     have A5 := Aside0.mk A50
     clear A50
     obtain rfl := Option.some.inj H
     go_enter Try.func26, Try.ntmps26
     go_wp2_with (first | ((with_reducible refine gate_dst (N := 1) rfl ?_); refine box_event ?hg (N := 1) ?hd (cs := #[.int .i64 a0_0, .int .i64 a0_1, .int .i64 a0_2, .int .i64 a0_3]) (t := 34) ?hr ?_; (case hd => rfl); (case hg => rfl); (case hr => first | (go_simp; done) | (go_simp; rfl)); intro gb152 hg w6 hbox hb; have BK152 := Aside0.mk (hbox); have GW152 := Aside0.mk ((by rw [hg]; exact (below_size bp_) : w.heap.size ≤ gb152)); have GE152 := Aside0.mk ((by rw [hg]; exact (below_size bp_) : w.heap.size ≤ gb152)); replace HB := Aside0.mk (below_step bp_ hb); clear hb hbox hg; have hcz7_0 : w6.cell? ⟨gb152, 0, none⟩ = some (.int .i64 a0_0) := (blk_cell BK152.out 0).trans rfl; have hcz7_1 : w6.cell? ⟨gb152, 1, none⟩ = some (.int .i64 a0_1) := (blk_cell BK152.out 1).trans rfl; have hcz7_2 : w6.cell? ⟨gb152, 2, none⟩ = some (.int .i64 a0_2) := (blk_cell BK152.out 2).trans rfl; have hcz7_3 : w6.cell? ⟨gb152, 3, none⟩ = some (.int .i64 a0_3) := (blk_cell BK152.out 3).trans rfl; have hfz7_0 := blk_frozen BK152.out 0; have hfz7_1 := blk_frozen BK152.out 1; have hfz7_2 := blk_frozen BK152.out 2; have hfz7_3 := blk_frozen BK152.out 3) | ((with_reducible refine gate_callee (f := 44) rfl ?_); refine goQ_ (some 5) Try.func44 #[.agg #[.int .i64 a0_0, .int .i64 a0_1, .int .i64 a0_2, .int .i64 a0_3]] ?_; (with_reducible refine (head_Raw.calls a0_0 a0_1 a0_2 a0_3 true _ A2.out).mono ?_); rintro e w8 ⟨rfl, hb⟩; refine ⟨_, rfl, ?_⟩; replace BK152 := Aside0.mk (blk_below (hp_ BK152.out) hb); replace HB := Aside0.mk (below_step bp_ hb); (try clear hb); (try clear hb2); (try clear hk); (try clear hi); have hcz9_0 : w8.cell? ⟨gb152, 0, none⟩ = some (.int .i64 a0_0) := (blk_cell BK152.out 0).trans rfl; have hcz9_1 : w8.cell? ⟨gb152, 1, none⟩ = some (.int .i64 a0_1) := (blk_cell BK152.out 1).trans rfl; have hcz9_2 : w8.cell? ⟨gb152, 2, none⟩ = some (.int .i64 a0_2) := (blk_cell BK152.out 2).trans rfl; have hcz9_3 : w8.cell? ⟨gb152, 3, none⟩ = some (.int .i64 a0_3) := (blk_cell BK152.out 3).trans rfl; have hfz9_0 := blk_frozen BK152.out 0; have hfz9_1 := blk_frozen BK152.out 1; have hfz9_2 := blk_frozen BK152.out 2; have hfz9_3 := blk_frozen BK152.out 3) | ((with_reducible refine gate_callee (f := 50) rfl ?_); refine goQ_ (some 13) Try.func50 #[.int .i64 a0_1] ?_; (with_reducible refine (bits_Bytes.calls a0_1 t154 _ A5.out).mono ?_); rintro e w' ⟨rfl, ⟨nd, rfl⟩⟩; refine ⟨_, rfl, ?_⟩))
     go_ret
     exact ⟨by first | rfl | (simp [errW_none, errW_some] <;> rfl) | (simp [*, errW_none, errW_some] <;> rfl), bp_⟩
   · rw [if_neg c4] at H
     have c4b0 : (a0_0 == 4) = false := beq_eq_false_iff_ne.mpr c4
     have c4b1 : (a0_0 != 4) = true := bne_iff_ne.mpr c4
     replace H := Option.bind_eq_some_iff.mp H
     obtain ⟨⟨t155, t156⟩, A100, H⟩ := H
     replace H : ((raw_wide.f a0_0 a0_1 a0_2 a0_3).bind fun t157 => (some (wrap64 ((wrap64 (a0_1 * t155)) * t157)))) = some r := H
     have A10 := Aside0.mk A100
     clear A100
     replace H := Option.bind_eq_some_iff.mp H
     obtain ⟨t157, A110, H⟩ := H
     replace H : (some (wrap64 ((wrap64 (a0_1 * t155)) * t157))) = some r := H
     have A11 := Aside0.mk A110
     clear A110
     obtain rfl := Option.some.inj H
     go_enter Try.func26, Try.ntmps26
     try go_wp2_with (first | ((with_reducible refine gate_dst (N := 1) rfl ?_); refine box_event ?hg (N := 1) ?hd (cs := #[.int .i64 a0_0, .int .i64 a0_1, .int .i64 a0_2, .int .i64 a0_3]) (t := 34) ?hr ?_; (case hd => rfl); (case hg => rfl); (case hr => first | (go_simp; done) | (go_simp; rfl)); intro gb152 hg w12 hbox hb; have BK152 := Aside0.mk (hbox); have GW152 := Aside0.mk ((by rw [hg]; exact (below_size bp_) : w.heap.size ≤ gb152)); have GE152 := Aside0.mk ((by rw [hg]; exact (below_size bp_) : w.heap.size ≤ gb152)); replace HB := Aside0.mk (below_step bp_ hb); clear hb hbox hg; have hcz13_0 : w12.cell? ⟨gb152, 0, none⟩ = some (.int .i64 a0_0) := (blk_cell BK152.out 0).trans rfl; have hcz13_1 : w12.cell? ⟨gb152, 1, none⟩ = some (.int .i64 a0_1) := (blk_cell BK152.out 1).trans rfl; have hcz13_2 : w12.cell? ⟨gb152, 2, none⟩ = some (.int .i64 a0_2) := (blk_cell BK152.out 2).trans rfl; have hcz13_3 : w12.cell? ⟨gb152, 3, none⟩ = some (.int .i64 a0_3) := (blk_cell BK152.out 3).trans rfl; have hfz13_0 := blk_frozen BK152.out 0; have hfz13_1 := blk_frozen BK152.out 1; have hfz13_2 := blk_frozen BK152.out 2; have hfz13_3 := blk_frozen BK152.out 3) | ((with_reducible refine gate_callee (f := 44) rfl ?_); refine goQ_ (some 5) Try.func44 #[.agg #[.int .i64 a0_0, .int .i64 a0_1, .int .i64 a0_2, .int .i64 a0_3]] ?_; (with_reducible refine (head_Raw.calls a0_0 a0_1 a0_2 a0_3 true _ A2.out).mono ?_); rintro e w14 ⟨rfl, hb⟩; refine ⟨_, rfl, ?_⟩; replace BK152 := Aside0.mk (blk_below (hp_ BK152.out) hb); replace HB := Aside0.mk (below_step bp_ hb); (try clear hb); (try clear hb2); (try clear hk); (try clear hi); have hcz15_0 : w14.cell? ⟨gb152, 0, none⟩ = some (.int .i64 a0_0) := (blk_cell BK152.out 0).trans rfl; have hcz15_1 : w14.cell? ⟨gb152, 1, none⟩ = some (.int .i64 a0_1) := (blk_cell BK152.out 1).trans rfl; have hcz15_2 : w14.cell? ⟨gb152, 2, none⟩ = some (.int .i64 a0_2) := (blk_cell BK152.out 2).trans rfl; have hcz15_3 : w14.cell? ⟨gb152, 3, none⟩ = some (.int .i64 a0_3) := (blk_cell BK152.out 3).trans rfl; have hfz15_0 := blk_frozen BK152.out 0; have hfz15_1 := blk_frozen BK152.out 1; have hfz15_2 := blk_frozen BK152.out 2; have hfz15_3 := blk_frozen BK152.out 3))
     replace BK152 := Aside0.mk (blk_drew BK152.out)
     replace HB := Aside0.mk (below_drew1 HB.out)
     refine start_ (n := 10) (S := fun w' => w'.cell? ⟨gb152, 0, none⟩ = some (.int .i64 a0_0) ∧ w'.cell? ⟨gb152, 1, none⟩ = some (.int .i64 a0_1) ∧ w'.cell? ⟨gb152, 2, none⟩ = some (.int .i64 a0_2) ∧ w'.cell? ⟨gb152, 3, none⟩ = some (.int .i64 a0_3)) (ds := []) #[false, false, false, false, false, false, false, false, false, false] (by kernel_rfl) rfl rfl ⟨(blk_cell BK152.out 0).trans rfl, (blk_cell BK152.out 1).trans rfl, (blk_cell BK152.out 2).trans rfl, (blk_cell BK152.out 3).trans rfl⟩ (fun hHeld => ?_); refine with_tabW raw_Stride.tab5 raw_Stride.bits5 (fun HT_ HW_ => ?_)
     generalize w14.drew = w16 at BK152 HB hHeld ⊢
     refine pur_ (i := 0) (N := some 14) #[true, false, false, false, false, false, false, false, false, false] (any_of HT_.out (by kernel_rfl)) ?_
     refine take_ (i := 1) (N := some 15) (v := ?_) (a' := ?_) #[true, true, false, false, false, false, false, false, false, false] rfl rfl (take_ofW HT_.out HW_.out (by kernel_rfl)) (fun _ _ _ h => h) (Or.inl ⟨by rfl, ?_⟩) hHeld ?_ ?_
     rotate_left
     · rintro w' ⟨s0, s1, s2, s3⟩
       go_simp
       with_reducible rfl
     rotate_left
     · simp only [Act.put, List.setIfInBounds_toArray, List.set_cons_zero, List.set_cons_succ, i64_w, i32_w]
       rfl
     refine take_ (i := 2) (N := some 16) (v := ?_) (a' := ?_) #[true, true, true, false, false, false, false, false, false, false] rfl rfl (take_ofW HT_.out HW_.out (by kernel_rfl)) (fun _ _ _ h => h) (Or.inl ⟨by rfl, ?_⟩) hHeld ?_ ?_
     rotate_left
     · rintro w' ⟨s0, s1, s2, s3⟩
       go_simp
       with_reducible rfl
     rotate_left
     · simp only [Act.put, List.setIfInBounds_toArray, List.set_cons_zero, List.set_cons_succ, i64_w, i32_w]
       rfl
     refine take_ (i := 6) (N := some 20) (v := ?_) (a' := ?_) #[true, true, true, false, false, false, true, false, false, false] rfl rfl (take_ofW HT_.out HW_.out (by kernel_rfl)) (fun _ _ _ h => h) (Or.inl ⟨by rfl, ?_⟩) hHeld ?_ ?_
     rotate_left
     · rintro w' ⟨s0, s1, s2, s3⟩
       go_simp
       with_reducible rfl
     rotate_left
     · simp only [Act.put, List.setIfInBounds_toArray, List.set_cons_zero, List.set_cons_succ, i64_w, i32_w]
       rfl
     refine one_ (i := 3) (N := some 17) #[true, true, true, true, false, false, true, false, false, false] rfl rfl (one_of HT_.out (by kernel_rfl)) (by decide) (fun K hK => ?_)
     refine goes_ Try.func31 (by kernel_rfl) rfl #[.agg #[.int .i64 a0_0, .int .i64 a0_1, .int .i64 a0_2, .int .i64 a0_3]] (by rfl) rfl rfl (by (try simp only [List.map_toArray, List.map_cons, List.map_nil]); first | done | rfl | (simp only [List.length_drop, List.length_take]; rfl)) ?_
     with_reducible refine (head_Format.calls a0_0 a0_1 a0_2 a0_3 t155 t156 _ A10.out).mono ?_
     rintro e w17 ⟨rfl, hb⟩
     refine ⟨_, rfl, ?_⟩
     replace BK152 := Aside0.mk (blk_below (hp_ BK152.out) hb)
     replace HB := Aside0.mk (below_step bp_ hb)
     (try clear hb)
     (try clear hb2)
     (try clear hk)
     (try clear hi)
     refine hK.out _ _ ⟨(blk_cell BK152.out 0).trans rfl, (blk_cell BK152.out 1).trans rfl, (blk_cell BK152.out 2).trans rfl, (blk_cell BK152.out 3).trans rfl⟩ (fun hHeld => ?_)
     clear hK K
     refine norm_ (a' := ?_) ?_ ?_
     rotate_left
     · show Act.put _ (some 17) _ = _
       simp only [Act.put, List.setIfInBounds_toArray, List.set_cons_zero, List.set_cons_succ, i64_w, i32_w]
       rfl
     refine pur_ (i := 4) (N := some 18) #[true, true, true, true, true, false, true, false, false, false] (any_of HT_.out (by kernel_rfl)) ?_
     refine pur_ (i := 5) (N := some 19) #[true, true, true, true, true, true, true, false, false, false] (any_of HT_.out (by kernel_rfl)) ?_
     refine one_ (i := 7) (N := some 21) #[true, true, true, true, true, true, true, true, false, false] rfl rfl (one_of HT_.out (by kernel_rfl)) (by decide) (fun K hK => ?_)
     refine goes_ Try.func38 (by kernel_rfl) rfl #[.agg #[.int .i64 a0_0, .int .i64 a0_1, .int .i64 a0_2, .int .i64 a0_3]] (by rfl) rfl rfl (by (try simp only [List.map_toArray, List.map_cons, List.map_nil]); first | done | rfl | (simp only [List.length_drop, List.length_take]; rfl)) ?_
     with_reducible refine (raw_wide.calls a0_0 a0_1 a0_2 a0_3 t157 _ A11.out).mono ?_
     rintro e w18 ⟨rfl, hb⟩
     refine ⟨_, rfl, ?_⟩
     replace BK152 := Aside0.mk (blk_below (hp_ BK152.out) hb)
     replace HB := Aside0.mk (below_step bp_ hb)
     (try clear hb)
     (try clear hb2)
     (try clear hk)
     (try clear hi)
     refine hK.out _ _ ⟨(blk_cell BK152.out 0).trans rfl, (blk_cell BK152.out 1).trans rfl, (blk_cell BK152.out 2).trans rfl, (blk_cell BK152.out 3).trans rfl⟩ (fun hHeld => ?_)
     clear hK K
     refine norm_ (a' := ?_) ?_ ?_
     rotate_left
     · show Act.put _ (some 21) _ = _
       simp only [Act.put, List.setIfInBounds_toArray, List.set_cons_zero, List.set_cons_succ, i64_w, i32_w]
       rfl
     refine pur_ (i := 8) (N := some 22) #[true, true, true, true, true, true, true, true, true, false] (any_of HT_.out (by kernel_rfl)) ?_
     refine pur_ (i := 9) (N := some 2) #[true, true, true, true, true, true, true, true, true, true] (any_of HT_.out (by kernel_rfl)) ?_
     refine done_ (done_of HT_.out (by kernel_rfl)) ?_
     try go_wp2
     go_ret
     exact ⟨by first | rfl | (simp [errW_none, errW_some] <;> rfl) | (simp [*, errW_none, errW_some] <;> rfl), bp_⟩
 · replace c3 := Bool.eq_false_iff.mpr c3
   subst c3
   have H1 : (some 0) = some r := by rw [if_neg (show ¬ (false = true) by decide)] at H; exact H
   clear H
   have H := H1
   clear H1
   obtain rfl := Option.some.inj H
   go_enter Try.func26, Try.ntmps26
   go_wp2_with (first | ((with_reducible refine gate_dst (N := 1) rfl ?_); refine box_event ?hg (N := 1) ?hd (cs := #[.int .i64 a0_0, .int .i64 a0_1, .int .i64 a0_2, .int .i64 a0_3]) (t := 34) ?hr ?_; (case hd => rfl); (case hg => rfl); (case hr => first | (go_simp; done) | (go_simp; rfl)); intro gb152 hg w19 hbox hb; have BK152 := Aside0.mk (hbox); have GW152 := Aside0.mk ((by rw [hg]; exact (below_size bp_) : w.heap.size ≤ gb152)); have GE152 := Aside0.mk ((by rw [hg]; exact (below_size bp_) : w.heap.size ≤ gb152)); replace HB := Aside0.mk (below_step bp_ hb); clear hb hbox hg; have hcz20_0 : w19.cell? ⟨gb152, 0, none⟩ = some (.int .i64 a0_0) := (blk_cell BK152.out 0).trans rfl; have hcz20_1 : w19.cell? ⟨gb152, 1, none⟩ = some (.int .i64 a0_1) := (blk_cell BK152.out 1).trans rfl; have hcz20_2 : w19.cell? ⟨gb152, 2, none⟩ = some (.int .i64 a0_2) := (blk_cell BK152.out 2).trans rfl; have hcz20_3 : w19.cell? ⟨gb152, 3, none⟩ = some (.int .i64 a0_3) := (blk_cell BK152.out 3).trans rfl; have hfz20_0 := blk_frozen BK152.out 0; have hfz20_1 := blk_frozen BK152.out 1; have hfz20_2 := blk_frozen BK152.out 2; have hfz20_3 := blk_frozen BK152.out 3) | ((with_reducible refine gate_callee (f := 44) rfl ?_); refine goQ_ (some 5) Try.func44 #[.agg #[.int .i64 a0_0, .int .i64 a0_1, .int .i64 a0_2, .int .i64 a0_3]] ?_; (with_reducible refine (head_Raw.calls a0_0 a0_1 a0_2 a0_3 false _ A2.out).mono ?_); rintro e w21 ⟨rfl, hb⟩; refine ⟨_, rfl, ?_⟩; replace HB := Aside0.mk (below_step bp_ hb); (try clear hb); (try clear hb2); (try clear hk); (try clear hi)))
   go_ret
   exact ⟨by first | rfl | (simp [errW_none, errW_some] <;> rfl) | (simp [*, errW_none, errW_some] <;> rfl), bp_⟩

end Go.Proofs.Ytdjonaajfhbfhaa.Q
