-- written by our own program (wip/tools/myprint.py) out of the translation, by the kit's print; Lean checks it
import Derived.Test.YtehjnekljodmgaaQ0
import Derived.Test.YtehjnekljodmgaaQ3
namespace Go.Proofs.Ytehjnekljodmgaa.Q
open Go.RowKit Go.Proofs.YtehjnekljodmgaaW.PrintWords Go.Proofs.YtehjnekljodmgaaW.PrintLast Go.Proofs.YtehjnekljodmgaaW.PrintMore
attribute [local go_sem] max2_int min2_int max_two min_two max_three min_three max_four min_four   -- for this text's walks alone
set_option linter.unusedVariables false
set_option linter.unusedSimpArgs false


/-! ### chequerref04_mirror: function 36 -/
mutual
def chequerref04_mirror.l0 : Nat → Int → Int → Int → List Int → Int → Int → List Int → Option (Int × Int × List Int)
 | 0, _, _, _, _, _, _, _ => none
 | k + 1, x4, x145000, x145001, x145002, x147000, x147001, x147002 => if x4 < x145001 then (chequerref04_mirror.l1 k x4 (wrap64 (x145000 - 1)) x145000 x145001 x145002 x147000 x147001 x147002) else (some (x147000, x147001, x147002))
def chequerref04_mirror.l1 : Nat → Int → Int → Int → Int → List Int → Int → Int → List Int → Option (Int × Int × List Int)
 | 0, _, _, _, _, _, _, _, _ => none
 | k + 1, x4, x5, x145000, x145001, x145002, x147000, x147001, x147002 => if x5 ≥ 0 then ((chequerref03_At.f x145000 x145001 x145002 x5 x4).bind fun bt147 => (if x147002.length < 17592186044416 then (chequerref04_mirror.l1 k x4 (wrap64 (x5 - 1)) x145000 x145001 x145002 x147000 x147001 (x147002 ++ [bt147.1])) else (none))) else (chequerref04_mirror.l0 k (wrap64 (x4 + 1)) x145000 x145001 x145002 x147000 x147001 x147002)
end
def chequerref04_mirror.f (k : Nat) (a0_0 : Int) (a0_1 : Int) (l0_2 : List Int) : Option (Int × Int × List Int) := chequerref04_mirror.l0 k 0 a0_0 a0_1 l0_2 a0_0 a0_1 ([] : List Int)
theorem chequerref04_mirror.mono_l : ∀ k, (∀ y0 y1 y2 y3 y4 y5 y6, LeO (chequerref04_mirror.l0 k y0 y1 y2 y3 y4 y5 y6) (chequerref04_mirror.l0 (k + 1) y0 y1 y2 y3 y4 y5 y6)) ∧ (∀ y0 y1 y2 y3 y4 y5 y6 y7, LeO (chequerref04_mirror.l1 k y0 y1 y2 y3 y4 y5 y6 y7) (chequerref04_mirror.l1 (k + 1) y0 y1 y2 y3 y4 y5 y6 y7))
 | 0 => ⟨fun _ _ _ _ _ _ _ r h => by simp [chequerref04_mirror.l0] at h, fun _ _ _ _ _ _ _ _ r h => by simp [chequerref04_mirror.l1] at h⟩
 | k + 1 => by
  obtain ⟨ih0, ih1⟩ := chequerref04_mirror.mono_l k
  refine ⟨?_, ?_⟩
  · intro y0 y1 y2 y3 y4 y5 y6
    unfold chequerref04_mirror.l0
    repeat' first
    | (with_reducible exact ih0 _ _ _ _ _ _ _)
    | (with_reducible exact ih1 _ _ _ _ _ _ _ _)
    | (with_reducible exact LeO.refl _)
    | (with_reducible exact LeO.none _)
    | (with_reducible refine LeO.ite ?_ ?_)
    | (with_reducible refine LeO.bind ?_ (fun _ => ?_))
    | exact ih0 _ _ _ _ _ _ _
    | exact ih1 _ _ _ _ _ _ _ _
    | exact LeO.none _
    | refine LeO.ite ?_ ?_
    | refine LeO.bind ?_ (fun _ => ?_)
  · intro y0 y1 y2 y3 y4 y5 y6 y7
    unfold chequerref04_mirror.l1
    repeat' first
    | (with_reducible exact ih0 _ _ _ _ _ _ _)
    | (with_reducible exact ih1 _ _ _ _ _ _ _ _)
    | (with_reducible exact LeO.refl _)
    | (with_reducible exact LeO.none _)
    | (with_reducible refine LeO.ite ?_ ?_)
    | (with_reducible refine LeO.bind ?_ (fun _ => ?_))
    | exact ih0 _ _ _ _ _ _ _
    | exact ih1 _ _ _ _ _ _ _ _
    | exact LeO.none _
    | refine LeO.ite ?_ ?_
    | refine LeO.bind ?_ (fun _ => ?_)
theorem chequerref04_mirror.mono : ∀ a0 a1 a2 k, LeO (chequerref04_mirror.f k a0 a1 a2) (chequerref04_mirror.f (k + 1) a0 a1 a2) := by
 intro a0 a1 a2 k
 obtain ⟨ih0, ih1⟩ := chequerref04_mirror.mono_l k
 unfold chequerref04_mirror.f
 repeat' first
  | (with_reducible exact ih0 _ _ _ _ _ _ _)
  | (with_reducible exact ih1 _ _ _ _ _ _ _ _)
  | (with_reducible exact LeO.refl _)
  | (with_reducible exact LeO.none _)
  | (with_reducible refine LeO.ite ?_ ?_)
  | (with_reducible refine LeO.bind ?_ (fun _ => ?_))
  | exact ih0 _ _ _ _ _ _ _
  | exact ih1 _ _ _ _ _ _ _ _
  | exact LeO.none _
  | refine LeO.ite ?_ ?_
  | refine LeO.bind ?_ (fun _ => ?_)
set_option maxHeartbeats 8000000 in
set_option maxRecDepth 100000 in
theorem chequerref04_mirror.calls (k : Nat) (a0_0 : Int) (a0_1 : Int) (A0_2 : Option Addr) (c0_2 : Nat) (l0_2 : List Int) (r1 : Int) (r2 : Int) (r3 : List Int) (w : World) (hr0_2 : Kd.C (Kd.int .u64) w A0_2 l0_2.length l0_2) (hc0_2 : l0_2.length ≤ c0_2) (h : chequerref04_mirror.f k a0_0 a0_1 l0_2 = some (r1, r2, r3)) :
 Calls Try.prog 36 #[.agg #[.int .i64 a0_0, .int .i64 a0_1, .slice A0_2 l0_2.length c0_2]] w fun e w' => ∃ v2_ : Value, e = .returned (.agg #[.int .i64 r1, .int .i64 r2, v2_]) ∧ Kd.R (Kd.int .u64) 41 w' w.heap.size (fun _ => True) v2_ r3 ∧ Below w.heap.size w w' := by
 have hu24 := Try.underlying24
 have HR0_2 := Aside0.mk hr0_2
 have HC0_2 := Aside0.mk hc0_2
 clear hr0_2 hc0_2
 have HB := Aside0.mk (Below.refl w.heap.size w)
 have H : (chequerref04_mirror.l0 k 0 a0_0 a0_1 l0_2 a0_0 a0_1 ([] : List Int)) = some (r1, r2, r3) := h
 clear h
 have H' := Aside0.mk H
 clear H
 go_enter Try.func36, Try.ntmps36
 go_wp2_with (first | ((with_reducible refine gate_dst (N := 1) rfl ?_); refine box_event ?hg (N := 1) ?hd (cs := #[.int .i64 a0_0, .int .i64 a0_1, .slice A0_2 l0_2.length c0_2]) (t := 24) ?hr ?_; (case hd => rfl); (case hg => rfl); (case hr => first | (go_simp; done) | (go_simp; rfl)); intro gb144 hg w2 hbox hb; have BK144 := Aside0.mk (hbox); have GW144 := Aside0.mk ((by rw [hg]; exact (below_size bp_) : w.heap.size ≤ gb144)); have GE144 := Aside0.mk ((by rw [hg]; exact (below_size bp_) : w.heap.size ≤ gb144)); replace HB := Aside0.mk (below_step bp_ hb); clear hb hbox hg) | ((with_reducible refine gate_dst (N := 2) rfl ?_); refine box_event ?hg (N := 2) ?hd (cs := #[.int .i64 0, .int .i64 0, .slice none 0 0]) (t := 24) ?hr ?_; (case hd => rfl); (case hg => rfl); (case hr => first | (go_simp; done) | (go_simp; rfl)); intro gb145 hg w3 hbox hb; have BK145 := Aside0.mk (hbox); have GW145 := Aside0.mk ((by rw [hg]; exact (below_size bp_) : w.heap.size ≤ gb145)); have GE145 := Aside0.mk ((by rw [hg]; exact (below_size bp_) : w.heap.size ≤ gb145)); replace HB := Aside0.mk (below_step bp_ hb); have NB144_145 := Aside0.mk ((nlt_ hg (hp_ BK144.out))); have NB145_144 := Aside0.mk ((ngt_ hg (hp_ BK144.out))); replace BK144 := Aside0.mk (blk_below (hp_ BK144.out) hb); clear hb hbox hg; have hnb4 := NB144_145.out; have hnc4 := NB145_144.out; have hcz5_0 : w3.cell? ⟨gb144, 0, none⟩ = some (.int .i64 a0_0) := (blk_cell BK144.out 0).trans rfl; have hcz5_1 : w3.cell? ⟨gb144, 1, none⟩ = some (.int .i64 a0_1) := (blk_cell BK144.out 1).trans rfl; have hcz5_2 : w3.cell? ⟨gb144, 2, none⟩ = some (.slice A0_2 l0_2.length c0_2) := (blk_cell BK144.out 2).trans rfl; have hfz5_0 := blk_frozen BK144.out 0; have hfz5_1 := blk_frozen BK144.out 1; have hfz5_2 := blk_frozen BK144.out 2) | ((with_reducible refine gate_dst (N := 3) rfl ?_); refine box_event ?hg (N := 3) ?hd (cs := #[.int .i64 0, .int .i64 0, .slice none 0 0]) (t := 24) ?hr ?_; (case hd => rfl); (case hg => rfl); (case hr => first | (go_simp; done) | (go_simp; rfl)); intro gb146 hg w6 hbox hb; have BK146 := Aside0.mk (hbox); have GW146 := Aside0.mk ((by rw [hg]; exact (below_size bp_) : w.heap.size ≤ gb146)); have GE146 := Aside0.mk ((by rw [hg]; exact (below_size bp_) : w.heap.size ≤ gb146)); replace HB := Aside0.mk (below_step bp_ hb); have NB144_146 := Aside0.mk ((nlt_ hg (hp_ BK144.out))); have NB146_144 := Aside0.mk ((ngt_ hg (hp_ BK144.out))); replace BK144 := Aside0.mk (blk_below (hp_ BK144.out) hb); have NB145_146 := Aside0.mk ((nlt_ hg (hp_ BK145.out))); have NB146_145 := Aside0.mk ((ngt_ hg (hp_ BK145.out))); replace BK145 := Aside0.mk (blk_below (hp_ BK145.out) hb); clear hb hbox hg; have hnb7 := NB146_144.out; have hnc7 := NB144_146.out; have hnb8 := NB146_145.out; have hnc8 := NB145_146.out; have hcz9_0 : w6.cell? ⟨gb146, 0, none⟩ = some (.int .i64 0) := (blk_cell BK146.out 0).trans rfl; have hcz9_1 : w6.cell? ⟨gb146, 1, none⟩ = some (.int .i64 0) := (blk_cell BK146.out 1).trans rfl; have hcz9_2 : w6.cell? ⟨gb146, 2, none⟩ = some (.slice none 0 0) := (blk_cell BK146.out 2).trans rfl; have hfz9_0 := blk_frozen BK146.out 0; have hfz9_1 := blk_frozen BK146.out 1; have hfz9_2 := blk_frozen BK146.out 2))
 go_loopg [4] k (fun kq v4 w' => ∃ (x4_1 : Int) (x147002_1 : List Int) (u147002 : Value), v4 = .int .i64 x4_1 ∧ Aside0 (chequerref04_mirror.l0 kq x4_1 a0_0 a0_1 l0_2 a0_0 a0_1 x147002_1 = some (r1, r2, r3)) ∧ Aside0 (kq ≤ k) ∧ Aside0 (Kd.R (Kd.int .u64) 41 w' w.heap.size (fun _ => True) u147002 x147002_1) ∧ Aside0 (w'.heap[gb144]? = some (.cells #[.int .i64 a0_0, .int .i64 a0_1, (.slice A0_2 l0_2.length c0_2)] 24 (0, 0))) ∧ Aside0 (w'.heap[gb145]? = some (.cells #[.int .i64 0, .int .i64 0, (.slice none 0 0)] 24 (0, 0))) ∧ Aside0 (w'.heap[gb146]? = some (.cells #[.int .i64 a0_0, .int .i64 a0_1, u147002] 24 (0, 0))) ∧ Aside0 (Below w.heap.size w w'))
 case atStart => exact ⟨(0), (([] : List Int)), (.slice none 0 0), (by first | rfl | (simp; done) | (simp [*]; done)), H', ⟨Nat.le_refl _⟩, ⟨by first | exact Kd.R_nil _ _ _ _ _ | exact Kd.N_nil _ _ _ _ _ | exact Kd.V_nil _ _ _ _ _ | exact Kd.Q_nil _ _ _ _ _ | exact Kd.S_nil _ _ _ _ _⟩, ⟨hf_ BK144.out NB144_146.out⟩, ⟨hf_ BK145.out NB145_146.out⟩, ⟨by (with_reducible repeat (first | refine blk_drewN ?_ _ | refine blk_drew ?_ | refine blk_alloc ?_ _)); refine blk_put (cs := #[.int .i64 a0_0, .int .i64 a0_1, .slice none 0 0]) ?_ 2 _ rfl; (with_reducible repeat (first | refine blk_drewN ?_ _ | refine blk_drew ?_ | refine blk_alloc ?_ _)); refine blk_put (cs := #[.int .i64 a0_0, .int .i64 0, .slice none 0 0]) ?_ 1 _ rfl; (with_reducible repeat (first | refine blk_drewN ?_ _ | refine blk_drew ?_ | refine blk_alloc ?_ _)); refine blk_put (cs := #[.int .i64 0, .int .i64 0, .slice none 0 0]) ?_ 0 _ rfl; (with_reducible repeat (first | refine blk_drewN ?_ _ | refine blk_drew ?_ | refine blk_alloc ?_ _)); exact BK146.out⟩, ⟨bp_⟩⟩
 case round =>
  clear H'
  try clear p2
  try clear c3
  try clear c4
  try clear c7
  try clear c8
  try clear hcz5_0
  try clear hcz5_1
  try clear hcz5_2
  try clear hcz9_0
  try clear hcz9_1
  try clear hcz9_2
  try clear hfz5_0
  try clear hfz5_1
  try clear hfz5_2
  try clear hfz9_0
  try clear hfz9_1
  try clear hfz9_2
  obtain ⟨x4_1, x147002_1, u147002, rfl, HA, HK1, HO_147002, BK144, BK145, BK146, HB⟩ := hrel
  cases gk with
  | zero => exact absurd HA.out (by simp [chequerref04_mirror.l0])
  | succ k1 =>
   have H := HA.out
   clear HA
   simp only [chequerref04_mirror.l0] at H
   by_cases c10 : x4_1 < a0_1
   · rw [if_pos c10] at H
     have c10b0 : decide (x4_1 < a0_1) = true := decide_eq_true c10
     clear c10
     have H' := Aside0.mk H
     clear H
     have hnb11 := NB144_145.out
     have hnc11 := NB145_144.out
     have hnb12 := NB144_146.out
     have hnc12 := NB146_144.out
     have hcz13_0 : wr.cell? ⟨gb144, 0, none⟩ = some (.int .i64 a0_0) := (blk_cell BK144.out 0).trans rfl
     have hcz13_1 : wr.cell? ⟨gb144, 1, none⟩ = some (.int .i64 a0_1) := (blk_cell BK144.out 1).trans rfl
     have hcz13_2 : wr.cell? ⟨gb144, 2, none⟩ = some (.slice A0_2 l0_2.length c0_2) := (blk_cell BK144.out 2).trans rfl
     have hfz13_0 := blk_frozen BK144.out 0
     have hfz13_1 := blk_frozen BK144.out 1
     have hfz13_2 := blk_frozen BK144.out 2
     go_wp2
     go_loopg [5] k1 (fun kq v5 w' => ∃ (x5_2 : Int) (x147002_2 : List Int) (u147002 : Value), v5 = .int .i64 x5_2 ∧ Aside0 (chequerref04_mirror.l1 kq x4_1 x5_2 a0_0 a0_1 l0_2 a0_0 a0_1 x147002_2 = some (r1, r2, r3)) ∧ Aside0 (kq ≤ k1) ∧ Aside0 (Kd.R (Kd.int .u64) 41 w' w.heap.size (fun _ => True) u147002 x147002_2) ∧ Aside0 (w'.heap[gb144]? = some (.cells #[.int .i64 a0_0, .int .i64 a0_1, (.slice A0_2 l0_2.length c0_2)] 24 (0, 0))) ∧ Aside0 (w'.heap[gb145]? = some (.cells #[.int .i64 0, .int .i64 0, (.slice none 0 0)] 24 (0, 0))) ∧ Aside0 (w'.heap[gb146]? = some (.cells #[.int .i64 a0_0, .int .i64 a0_1, u147002] 24 (0, 0))) ∧ Aside0 (Below w.heap.size w w'))
     case atStart => exact ⟨(wrap64 (a0_0 - 1)), (x147002_1), (u147002), (by first | rfl | (simp; done) | (simp [*]; done)), H', ⟨Nat.le_refl _⟩, ⟨rp_ HO_147002.out⟩, ⟨hp_ BK144.out⟩, ⟨hp_ BK145.out⟩, ⟨hp_ BK146.out⟩, ⟨bp_⟩⟩
     case round =>
      clear H'
      try clear c1
      try clear p2
      try clear c3
      try clear c4
      try clear p6
      try clear c7
      try clear c8
      try clear c10
      try clear c10b0
      try clear c11
      try clear c12
      try clear hcz13_0
      try clear hcz13_1
      try clear hcz13_2
      try clear hcz5_0
      try clear hcz5_1
      try clear hcz5_2
      try clear hcz9_0
      try clear hcz9_1
      try clear hcz9_2
      try clear hfz13_0
      try clear hfz13_1
      try clear hfz13_2
      try clear hfz5_0
      try clear hfz5_1
      try clear hfz5_2
      try clear hfz9_0
      try clear hfz9_1
      try clear hfz9_2
      try clear p2
      obtain ⟨x5_2, x147002_2, u147002, rfl, HA, HK2, HO_147002, BK144, BK145, BK146, HB⟩ := hrel
      cases gk with
      | zero => exact absurd HA.out (by simp [chequerref04_mirror.l1])
      | succ k2 =>
       have H := HA.out
       clear HA
       simp only [chequerref04_mirror.l1] at H
       by_cases c14 : x5_2 ≥ 0
       · rw [if_pos c14] at H
         have c14b0 : decide (0 ≤ x5_2) = true := decide_eq_true c14
         clear c14
         replace H := Option.bind_eq_some_iff.mp H
         obtain ⟨⟨t147, t148⟩, A150, H⟩ := H
         replace H : (if x147002_2.length < 17592186044416 then (chequerref04_mirror.l1 k2 x4_1 (wrap64 (x5_2 - 1)) a0_0 a0_1 l0_2 a0_0 a0_1 (x147002_2 ++ [t147])) else (none)) = some (r1, r2, r3) := H
         have A15 := Aside0.mk A150
         clear A150
         by_cases c16 : x147002_2.length < 17592186044416
         · rw [if_pos c16] at H
           have LMc16 := Aside0.mk c16
           clear c16
           obtain ⟨y149, hy149⟩ : ∃ y_ : List Int, y_ = (x147002_2 ++ [t147]) := ⟨_, rfl⟩
           replace H : (chequerref04_mirror.l1 k2 x4_1 (wrap64 (x5_2 - 1)) a0_0 a0_1 l0_2 a0_0 a0_1 y149) = some (r1, r2, r3) := by first | (rw [hy149]; with_reducible exact H) | (have H2_ := (Option.bind_some _ _).symm.trans H; rw [hy149]; with_reducible exact H2_) | (have H2_ := (Option.bind_some _ _).symm.trans H; with_reducible exact H2_) | with_reducible exact H | (rw [hy149]; exact H) | exact H
           have Ny149 := Aside0.mk hy149
           clear hy149
           have H' := Aside0.mk H
           clear H
           have hnb17 := NB144_145.out
           have hnc17 := NB145_144.out
           have hnb18 := NB144_146.out
           have hnc18 := NB146_144.out
           have hcz19_0 : wr.cell? ⟨gb144, 0, none⟩ = some (.int .i64 a0_0) := (blk_cell BK144.out 0).trans rfl
           have hcz19_1 : wr.cell? ⟨gb144, 1, none⟩ = some (.int .i64 a0_1) := (blk_cell BK144.out 1).trans rfl
           have hcz19_2 : wr.cell? ⟨gb144, 2, none⟩ = some (.slice A0_2 l0_2.length c0_2) := (blk_cell BK144.out 2).trans rfl
           have hfz19_0 := blk_frozen BK144.out 0
           have hfz19_1 := blk_frozen BK144.out 1
           have hfz19_2 := blk_frozen BK144.out 2
           go_wp2_with (first | ((with_reducible refine gate_callee (f := 21) rfl ?_); refine goQ_ (some 30) Try.func21 #[.agg #[.int .i64 a0_0, .int .i64 a0_1, .slice A0_2 l0_2.length c0_2], .int .i64 x5_2, .int .i64 x4_1] ?_; (with_reducible refine (chequerref03_At.calls a0_0 a0_1 _ _ l0_2 x5_2 x4_1 t147 t148 _ ?side1 ?side2 A15.out).mono ?_); (case side1 => repeat (first | exact (Kd.C_below HR0_2.out HB.out) | (with_reducible refine Kd.C_alloc ?_ _) | (with_reducible refine Kd.C_drewN ?_ _) | (with_reducible refine Kd.C_drew ?_))); (case side2 => exact HC0_2.out); rintro e w20 ⟨rfl, hb⟩; refine ⟨_, rfl, ?_⟩; replace HO_147002 := Aside0.mk (Kd.R_below (rp_ HO_147002.out) hb); replace BK144 := Aside0.mk (blk_below (hp_ BK144.out) hb); replace BK145 := Aside0.mk (blk_below (hp_ BK145.out) hb); replace BK146 := Aside0.mk (blk_below (hp_ BK146.out) hb); replace HB := Aside0.mk (below_step bp_ hb); (try clear hb); (try clear hb2); (try clear hk); (try clear hi); have hnb21 := NB146_145.out; have hnc21 := NB145_146.out; have hcz22_0 : w20.cell? ⟨gb146, 0, none⟩ = some (.int .i64 a0_0) := (blk_cell BK146.out 0).trans rfl; have hcz22_1 : w20.cell? ⟨gb146, 1, none⟩ = some (.int .i64 a0_1) := (blk_cell BK146.out 1).trans rfl; have hcz22_2 : w20.cell? ⟨gb146, 2, none⟩ = some (u147002) := (blk_cell BK146.out 2).trans rfl; have hfz22_0 := blk_frozen BK146.out 0; have hfz22_1 := blk_frozen BK146.out 1; have hfz22_2 := blk_frozen BK146.out 2) | ((with_reducible refine gate_builtin (b := .append) (xs := #[.tmp 34, .tmp 36]) rfl ?_); at_builtin; refine Kd.R_append (Kd.int .u64) (w0 := w) w.heap.size rfl (.tmp 34) (.tmp 36) 22 41 (.int .u64 0) 8 rfl Try.underlying22 info41 rfl (by decide) (by omega) u147002 x147002_2 t147 [.int .u64 t147] (fun _ => True) (fun _ => False) rfl rfl ?aP (fun _ hk => hk.elim) ?aF ?aO ?aB ?aS ?aL ?_; (case aP => exact rfl); (case aB => exact bp_); (case aF => exact (fun _ _ => trivial)); (case aO => exact (rp_ HO_147002.out)); (case aS => exact (below_size bp_)); (case aL => have := LMc16.out; omega); intro v150 w23 ho hb hg hat; rw [← Ny149.out] at ho; replace BK144 := Aside0.mk (blk_grown (g := gb144) (o := .cells #[.int .i64 a0_0, .int .i64 a0_1, .slice A0_2 l0_2.length c0_2] 24 (0, 0)) (hp_ BK144.out) hg (Kd.R_ne HO_147002.out BK144.out (by decide))); replace BK145 := Aside0.mk (blk_grown (g := gb145) (o := .cells #[.int .i64 0, .int .i64 0, .slice none 0 0] 24 (0, 0)) (hp_ BK145.out) hg (Kd.R_ne HO_147002.out BK145.out (by decide))); replace BK146 := Aside0.mk (blk_grown (g := gb146) (o := .cells #[.int .i64 a0_0, .int .i64 a0_1, u147002] 24 (0, 0)) (hp_ BK146.out) hg (Kd.R_ne HO_147002.out BK146.out (by decide))); replace HB := Aside0.mk (hb); have HO151 := Aside0.mk (ho); clear HO_147002; clear ho hb hg hat; obtain ⟨Ao24, co24, eo24⟩ := Kd.R_slice HO151.out; subst eo24; have hcz25_0 : w23.cell? ⟨gb146, 0, none⟩ = some (.int .i64 a0_0) := (blk_cell BK146.out 0).trans rfl; have hcz25_1 : w23.cell? ⟨gb146, 1, none⟩ = some (.int .i64 a0_1) := (blk_cell BK146.out 1).trans rfl; have hcz25_2 : w23.cell? ⟨gb146, 2, none⟩ = some (u147002) := (blk_cell BK146.out 2).trans rfl; have hfz25_0 := blk_frozen BK146.out 0; have hfz25_1 := blk_frozen BK146.out 1; have hfz25_2 := blk_frozen BK146.out 2))
           go_roundg k2
           case measure => have := HK1.out; have := HK2.out; omega
           case rel => exact ⟨(wrap64 (x5_2 - 1)), (y149), (.slice Ao24 y149.length co24), (by first | rfl | (simp; done) | (simp [*]; done)), H', ⟨by have := HK1.out; have := HK2.out; omega⟩, ⟨rf_ HO151.out BK146.out (by decide) (fun _ hk => trivial)⟩, ⟨hf_ BK144.out NB144_146.out⟩, ⟨hf_ BK145.out NB145_146.out⟩, ⟨by (with_reducible repeat (first | refine blk_drewN ?_ _ | refine blk_drew ?_ | refine blk_alloc ?_ _)); refine blk_put (cs := #[.int .i64 a0_0, .int .i64 a0_1, u147002]) ?_ 2 _ rfl; (with_reducible repeat (first | refine blk_drewN ?_ _ | refine blk_drew ?_ | refine blk_alloc ?_ _)); exact BK146.out⟩, ⟨bp_⟩⟩
         · rw [if_neg c16] at H
           exact absurd H (by simp)
       · rw [if_neg c14] at H
         have c14b0 : decide (0 ≤ x5_2) = false := decide_eq_false c14
         clear c14
         have H' := Aside0.mk H
         clear H
         go_wp2
         go_roundg k2
         case measure => have := HK1.out; have := HK2.out; omega
         case rel => exact ⟨(wrap64 (x4_1 + 1)), (x147002_2), (u147002), (by first | rfl | (simp; done) | (simp [*]; done)), H', ⟨by have := HK1.out; have := HK2.out; omega⟩, ⟨rp_ HO_147002.out⟩, ⟨hp_ BK144.out⟩, ⟨hp_ BK145.out⟩, ⟨hp_ BK146.out⟩, ⟨bp_⟩⟩
   · rw [if_neg c10] at H
     have c10b0 : decide (x4_1 < a0_1) = false := decide_eq_false c10
     clear c10
     simp only [Option.some.injEq, Prod.mk.injEq] at H
     obtain ⟨rfl, rfl, rfl⟩ := H
     have hnb26 := NB144_145.out
     have hnc26 := NB145_144.out
     have hnb27 := NB144_146.out
     have hnc27 := NB146_144.out
     have hcz28_0 : wr.cell? ⟨gb144, 0, none⟩ = some (.int .i64 a0_0) := (blk_cell BK144.out 0).trans rfl
     have hcz28_1 : wr.cell? ⟨gb144, 1, none⟩ = some (.int .i64 a0_1) := (blk_cell BK144.out 1).trans rfl
     have hcz28_2 : wr.cell? ⟨gb144, 2, none⟩ = some (.slice A0_2 l0_2.length c0_2) := (blk_cell BK144.out 2).trans rfl
     have hfz28_0 := blk_frozen BK144.out 0
     have hfz28_1 := blk_frozen BK144.out 1
     have hfz28_2 := blk_frozen BK144.out 2
     have hnb29 := NB146_145.out
     have hnc29 := NB145_146.out
     have hcz30_0 : wr.cell? ⟨gb146, 0, none⟩ = some (.int .i64 a0_0) := (blk_cell BK146.out 0).trans rfl
     have hcz30_1 : wr.cell? ⟨gb146, 1, none⟩ = some (.int .i64 a0_1) := (blk_cell BK146.out 1).trans rfl
     have hcz30_2 : wr.cell? ⟨gb146, 2, none⟩ = some (u147002) := (blk_cell BK146.out 2).trans rfl
     have hfz30_0 := blk_frozen BK146.out 0
     have hfz30_1 := blk_frozen BK146.out 1
     have hfz30_2 := blk_frozen BK146.out 2
     have hcz31_0 : wr.cell? ⟨gb145, 0, none⟩ = some (.int .i64 0) := (blk_cell BK145.out 0).trans rfl
     have hcz31_1 : wr.cell? ⟨gb145, 1, none⟩ = some (.int .i64 0) := (blk_cell BK145.out 1).trans rfl
     have hcz31_2 : wr.cell? ⟨gb145, 2, none⟩ = some (.slice none 0 0) := (blk_cell BK145.out 2).trans rfl
     have hfz31_0 := blk_frozen BK145.out 0
     have hfz31_1 := blk_frozen BK145.out 1
     have hfz31_2 := blk_frozen BK145.out 2
     obtain ⟨Ao32, co32, eo32⟩ := Kd.R_slice HO_147002.out
     subst eo32
     go_wp2
     refine bodyPost_ret (results_cell_row rfl _ _ gb145 24 #[.int .i64 a0_0, .int .i64 a0_1, .slice Ao32 x147002_1.length co32] (0, 0) _ rfl (by (with_reducible repeat (first | refine blk_drewN ?_ _ | refine blk_drew ?_ | refine blk_alloc ?_ _)); refine blk_put (cs := #[.int .i64 a0_0, .int .i64 a0_1, .slice none 0 0]) ?_ 2 _ rfl; (with_reducible repeat (first | refine blk_drewN ?_ _ | refine blk_drew ?_ | refine blk_alloc ?_ _)); refine blk_put (cs := #[.int .i64 a0_0, .int .i64 0, .slice none 0 0]) ?_ 1 _ rfl; (with_reducible repeat (first | refine blk_drewN ?_ _ | refine blk_drew ?_ | refine blk_alloc ?_ _)); refine blk_put (cs := #[.int .i64 0, .int .i64 0, .slice none 0 0]) ?_ 0 _ rfl; (with_reducible repeat (first | refine blk_drewN ?_ _ | refine blk_drew ?_ | refine blk_alloc ?_ _)); exact BK145.out) Try.underlying24 rfl (by kernel_rfl)) rfl ?_
     exact ⟨_, by first | rfl | (simp [errW_none, errW_some] <;> rfl) | (simp [*, errW_none, errW_some] <;> rfl), rf_ HO_147002.out BK145.out (by decide) (fun _ hk => trivial), bp_⟩


/-! ### chequerref04_quarter: function 37 -/
mutual
def chequerref04_quarter.l0 : Nat → Int → Int → Int → List Int → Int → Int → List Int → Option (Int × Int × List Int)
 | 0, _, _, _, _, _, _, _ => none
 | k + 1, x4, x153000, x153001, x153002, x155000, x155001, x155002 => if x4 < x153000 then (chequerref04_quarter.l1 k x4 (wrap64 (x153001 - 1)) x153000 x153001 x153002 x155000 x155001 x155002) else (some (x155000, x155001, x155002))
def chequerref04_quarter.l1 : Nat → Int → Int → Int → Int → List Int → Int → Int → List Int → Option (Int × Int × List Int)
 | 0, _, _, _, _, _, _, _, _ => none
 | k + 1, x4, x5, x153000, x153001, x153002, x155000, x155001, x155002 => if x5 ≥ 0 then ((chequerref03_At.f x153000 x153001 x153002 x4 x5).bind fun bt155 => (if x155002.length < 17592186044416 then (chequerref04_quarter.l1 k x4 (wrap64 (x5 - 1)) x153000 x153001 x153002 x155000 x155001 (x155002 ++ [bt155.1])) else (none))) else (chequerref04_quarter.l0 k (wrap64 (x4 + 1)) x153000 x153001 x153002 x155000 x155001 x155002)
end
def chequerref04_quarter.f (k : Nat) (a0_0 : Int) (a0_1 : Int) (l0_2 : List Int) : Option (Int × Int × List Int) := chequerref04_quarter.l0 k 0 a0_0 a0_1 l0_2 a0_1 a0_0 ([] : List Int)
theorem chequerref04_quarter.mono_l : ∀ k, (∀ y0 y1 y2 y3 y4 y5 y6, LeO (chequerref04_quarter.l0 k y0 y1 y2 y3 y4 y5 y6) (chequerref04_quarter.l0 (k + 1) y0 y1 y2 y3 y4 y5 y6)) ∧ (∀ y0 y1 y2 y3 y4 y5 y6 y7, LeO (chequerref04_quarter.l1 k y0 y1 y2 y3 y4 y5 y6 y7) (chequerref04_quarter.l1 (k + 1) y0 y1 y2 y3 y4 y5 y6 y7))
 | 0 => ⟨fun _ _ _ _ _ _ _ r h => by simp [chequerref04_quarter.l0] at h, fun _ _ _ _ _ _ _ _ r h => by simp [chequerref04_quarter.l1] at h⟩
 | k + 1 => by
  obtain ⟨ih0, ih1⟩ := chequerref04_quarter.mono_l k
  refine ⟨?_, ?_⟩
  · intro y0 y1 y2 y3 y4 y5 y6
    unfold chequerref04_quarter.l0
    repeat' first
    | (with_reducible exact ih0 _ _ _ _ _ _ _)
    | (with_reducible exact ih1 _ _ _ _ _ _ _ _)
    | (with_reducible exact LeO.refl _)
    | (with_reducible exact LeO.none _)
    | (with_reducible refine LeO.ite ?_ ?_)
    | (with_reducible refine LeO.bind ?_ (fun _ => ?_))
    | exact ih0 _ _ _ _ _ _ _
    | exact ih1 _ _ _ _ _ _ _ _
    | exact LeO.none _
    | refine LeO.ite ?_ ?_
    | refine LeO.bind ?_ (fun _ => ?_)
  · intro y0 y1 y2 y3 y4 y5 y6 y7
    unfold chequerref04_quarter.l1
    repeat' first
    | (with_reducible exact ih0 _ _ _ _ _ _ _)
    | (with_reducible exact ih1 _ _ _ _ _ _ _ _)
    | (with_reducible exact LeO.refl _)
    | (with_reducible exact LeO.none _)
    | (with_reducible refine LeO.ite ?_ ?_)
    | (with_reducible refine LeO.bind ?_ (fun _ => ?_))
    | exact ih0 _ _ _ _ _ _ _
    | exact ih1 _ _ _ _ _ _ _ _
    | exact LeO.none _
    | refine LeO.ite ?_ ?_
    | refine LeO.bind ?_ (fun _ => ?_)
theorem chequerref04_quarter.mono : ∀ a0 a1 a2 k, LeO (chequerref04_quarter.f k a0 a1 a2) (chequerref04_quarter.f (k + 1) a0 a1 a2) := by
 intro a0 a1 a2 k
 obtain ⟨ih0, ih1⟩ := chequerref04_quarter.mono_l k
 unfold chequerref04_quarter.f
 repeat' first
  | (with_reducible exact ih0 _ _ _ _ _ _ _)
  | (with_reducible exact ih1 _ _ _ _ _ _ _ _)
  | (with_reducible exact LeO.refl _)
  | (with_reducible exact LeO.none _)
  | (with_reducible refine LeO.ite ?_ ?_)
  | (with_reducible refine LeO.bind ?_ (fun _ => ?_))
  | exact ih0 _ _ _ _ _ _ _
  | exact ih1 _ _ _ _ _ _ _ _
  | exact LeO.none _
  | refine LeO.ite ?_ ?_
  | refine LeO.bind ?_ (fun _ => ?_)
set_option maxHeartbeats 8000000 in
set_option maxRecDepth 100000 in
theorem chequerref04_quarter.calls (k : Nat) (a0_0 : Int) (a0_1 : Int) (A0_2 : Option Addr) (c0_2 : Nat) (l0_2 : List Int) (r1 : Int) (r2 : Int) (r3 : List Int) (w : World) (hr0_2 : Kd.C (Kd.int .u64) w A0_2 l0_2.length l0_2) (hc0_2 : l0_2.length ≤ c0_2) (h : chequerref04_quarter.f k a0_0 a0_1 l0_2 = some (r1, r2, r3)) :
 Calls Try.prog 37 #[.agg #[.int .i64 a0_0, .int .i64 a0_1, .slice A0_2 l0_2.length c0_2]] w fun e w' => ∃ v2_ : Value, e = .returned (.agg #[.int .i64 r1, .int .i64 r2, v2_]) ∧ Kd.R (Kd.int .u64) 41 w' w.heap.size (fun _ => True) v2_ r3 ∧ Below w.heap.size w w' := by
 have hu24 := Try.underlying24
 have HR0_2 := Aside0.mk hr0_2
 have HC0_2 := Aside0.mk hc0_2
 clear hr0_2 hc0_2
 have HB := Aside0.mk (Below.refl w.heap.size w)
 have H : (chequerref04_quarter.l0 k 0 a0_0 a0_1 l0_2 a0_1 a0_0 ([] : List Int)) = some (r1, r2, r3) := h
 clear h
 have H' := Aside0.mk H
 clear H
 go_enter Try.func37, Try.ntmps37
 go_wp2_with (first | ((with_reducible refine gate_dst (N := 1) rfl ?_); refine box_event ?hg (N := 1) ?hd (cs := #[.int .i64 a0_0, .int .i64 a0_1, .slice A0_2 l0_2.length c0_2]) (t := 24) ?hr ?_; (case hd => rfl); (case hg => rfl); (case hr => first | (go_simp; done) | (go_simp; rfl)); intro gb152 hg w2 hbox hb; have BK152 := Aside0.mk (hbox); have GW152 := Aside0.mk ((by rw [hg]; exact (below_size bp_) : w.heap.size ≤ gb152)); have GE152 := Aside0.mk ((by rw [hg]; exact (below_size bp_) : w.heap.size ≤ gb152)); replace HB := Aside0.mk (below_step bp_ hb); clear hb hbox hg) | ((with_reducible refine gate_dst (N := 2) rfl ?_); refine box_event ?hg (N := 2) ?hd (cs := #[.int .i64 0, .int .i64 0, .slice none 0 0]) (t := 24) ?hr ?_; (case hd => rfl); (case hg => rfl); (case hr => first | (go_simp; done) | (go_simp; rfl)); intro gb153 hg w3 hbox hb; have BK153 := Aside0.mk (hbox); have GW153 := Aside0.mk ((by rw [hg]; exact (below_size bp_) : w.heap.size ≤ gb153)); have GE153 := Aside0.mk ((by rw [hg]; exact (below_size bp_) : w.heap.size ≤ gb153)); replace HB := Aside0.mk (below_step bp_ hb); have NB152_153 := Aside0.mk ((nlt_ hg (hp_ BK152.out))); have NB153_152 := Aside0.mk ((ngt_ hg (hp_ BK152.out))); replace BK152 := Aside0.mk (blk_below (hp_ BK152.out) hb); clear hb hbox hg; have hnb4 := NB152_153.out; have hnc4 := NB153_152.out; have hcz5_0 : w3.cell? ⟨gb152, 0, none⟩ = some (.int .i64 a0_0) := (blk_cell BK152.out 0).trans rfl; have hcz5_1 : w3.cell? ⟨gb152, 1, none⟩ = some (.int .i64 a0_1) := (blk_cell BK152.out 1).trans rfl; have hcz5_2 : w3.cell? ⟨gb152, 2, none⟩ = some (.slice A0_2 l0_2.length c0_2) := (blk_cell BK152.out 2).trans rfl; have hfz5_0 := blk_frozen BK152.out 0; have hfz5_1 := blk_frozen BK152.out 1; have hfz5_2 := blk_frozen BK152.out 2) | ((with_reducible refine gate_dst (N := 3) rfl ?_); refine box_event ?hg (N := 3) ?hd (cs := #[.int .i64 0, .int .i64 0, .slice none 0 0]) (t := 24) ?hr ?_; (case hd => rfl); (case hg => rfl); (case hr => first | (go_simp; done) | (go_simp; rfl)); intro gb154 hg w6 hbox hb; have BK154 := Aside0.mk (hbox); have GW154 := Aside0.mk ((by rw [hg]; exact (below_size bp_) : w.heap.size ≤ gb154)); have GE154 := Aside0.mk ((by rw [hg]; exact (below_size bp_) : w.heap.size ≤ gb154)); replace HB := Aside0.mk (below_step bp_ hb); have NB152_154 := Aside0.mk ((nlt_ hg (hp_ BK152.out))); have NB154_152 := Aside0.mk ((ngt_ hg (hp_ BK152.out))); replace BK152 := Aside0.mk (blk_below (hp_ BK152.out) hb); have NB153_154 := Aside0.mk ((nlt_ hg (hp_ BK153.out))); have NB154_153 := Aside0.mk ((ngt_ hg (hp_ BK153.out))); replace BK153 := Aside0.mk (blk_below (hp_ BK153.out) hb); clear hb hbox hg; have hnb7 := NB154_152.out; have hnc7 := NB152_154.out; have hnb8 := NB154_153.out; have hnc8 := NB153_154.out; have hcz9_0 : w6.cell? ⟨gb154, 0, none⟩ = some (.int .i64 0) := (blk_cell BK154.out 0).trans rfl; have hcz9_1 : w6.cell? ⟨gb154, 1, none⟩ = some (.int .i64 0) := (blk_cell BK154.out 1).trans rfl; have hcz9_2 : w6.cell? ⟨gb154, 2, none⟩ = some (.slice none 0 0) := (blk_cell BK154.out 2).trans rfl; have hfz9_0 := blk_frozen BK154.out 0; have hfz9_1 := blk_frozen BK154.out 1; have hfz9_2 := blk_frozen BK154.out 2))
 go_loopg [4] k (fun kq v4 w' => ∃ (x4_1 : Int) (x155002_1 : List Int) (u155002 : Value), v4 = .int .i64 x4_1 ∧ Aside0 (chequerref04_quarter.l0 kq x4_1 a0_0 a0_1 l0_2 a0_1 a0_0 x155002_1 = some (r1, r2, r3)) ∧ Aside0 (kq ≤ k) ∧ Aside0 (Kd.R (Kd.int .u64) 41 w' w.heap.size (fun _ => True) u155002 x155002_1) ∧ Aside0 (w'.heap[gb152]? = some (.cells #[.int .i64 a0_0, .int .i64 a0_1, (.slice A0_2 l0_2.length c0_2)] 24 (0, 0))) ∧ Aside0 (w'.heap[gb153]? = some (.cells #[.int .i64 0, .int .i64 0, (.slice none 0 0)] 24 (0, 0))) ∧ Aside0 (w'.heap[gb154]? = some (.cells #[.int .i64 a0_1, .int .i64 a0_0, u155002] 24 (0, 0))) ∧ Aside0 (Below w.heap.size w w'))
 case atStart => exact ⟨(0), (([] : List Int)), (.slice none 0 0), (by first | rfl | (simp; done) | (simp [*]; done)), H', ⟨Nat.le_refl _⟩, ⟨by first | exact Kd.R_nil _ _ _ _ _ | exact Kd.N_nil _ _ _ _ _ | exact Kd.V_nil _ _ _ _ _ | exact Kd.Q_nil _ _ _ _ _ | exact Kd.S_nil _ _ _ _ _⟩, ⟨hf_ BK152.out NB152_154.out⟩, ⟨hf_ BK153.out NB153_154.out⟩, ⟨by (with_reducible repeat (first | refine blk_drewN ?_ _ | refine blk_drew ?_ | refine blk_alloc ?_ _)); refine blk_put (cs := #[.int .i64 a0_1, .int .i64 a0_0, .slice none 0 0]) ?_ 2 _ rfl; (with_reducible repeat (first | refine blk_drewN ?_ _ | refine blk_drew ?_ | refine blk_alloc ?_ _)); refine blk_put (cs := #[.int .i64 a0_1, .int .i64 0, .slice none 0 0]) ?_ 1 _ rfl; (with_reducible repeat (first | refine blk_drewN ?_ _ | refine blk_drew ?_ | refine blk_alloc ?_ _)); refine blk_put (cs := #[.int .i64 0, .int .i64 0, .slice none 0 0]) ?_ 0 _ rfl; (with_reducible repeat (first | refine blk_drewN ?_ _ | refine blk_drew ?_ | refine blk_alloc ?_ _)); exact BK154.out⟩, ⟨bp_⟩⟩
 case round =>
  clear H'
  try clear p2
  try clear c3
  try clear c4
  try clear c7
  try clear c8
  try clear hcz5_0
  try clear hcz5_1
  try clear hcz5_2
  try clear hcz9_0
  try clear hcz9_1
  try clear hcz9_2
  try clear hfz5_0
  try clear hfz5_1
  try clear hfz5_2
  try clear hfz9_0
  try clear hfz9_1
  try clear hfz9_2
  obtain ⟨x4_1, x155002_1, u155002, rfl, HA, HK1, HO_155002, BK152, BK153, BK154, HB⟩ := hrel
  cases gk with
  | zero => exact absurd HA.out (by simp [chequerref04_quarter.l0])
  | succ k1 =>
   have H := HA.out
   clear HA
   simp only [chequerref04_quarter.l0] at H
   by_cases c10 : x4_1 < a0_0
   · rw [if_pos c10] at H
     have c10b0 : decide (x4_1 < a0_0) = true := decide_eq_true c10
     clear c10
     have H' := Aside0.mk H
     clear H
     have hnb11 := NB152_153.out
     have hnc11 := NB153_152.out
     have hnb12 := NB152_154.out
     have hnc12 := NB154_152.out
     have hcz13_0 : wr.cell? ⟨gb152, 0, none⟩ = some (.int .i64 a0_0) := (blk_cell BK152.out 0).trans rfl
     have hcz13_1 : wr.cell? ⟨gb152, 1, none⟩ = some (.int .i64 a0_1) := (blk_cell BK152.out 1).trans rfl
     have hcz13_2 : wr.cell? ⟨gb152, 2, none⟩ = some (.slice A0_2 l0_2.length c0_2) := (blk_cell BK152.out 2).trans rfl
     have hfz13_0 := blk_frozen BK152.out 0
     have hfz13_1 := blk_frozen BK152.out 1
     have hfz13_2 := blk_frozen BK152.out 2
     go_wp2
     go_loopg [5] k1 (fun kq v5 w' => ∃ (x5_2 : Int) (x155002_2 : List Int) (u155002 : Value), v5 = .int .i64 x5_2 ∧ Aside0 (chequerref04_quarter.l1 kq x4_1 x5_2 a0_0 a0_1 l0_2 a0_1 a0_0 x155002_2 = some (r1, r2, r3)) ∧ Aside0 (kq ≤ k1) ∧ Aside0 (Kd.R (Kd.int .u64) 41 w' w.heap.size (fun _ => True) u155002 x155002_2) ∧ Aside0 (w'.heap[gb152]? = some (.cells #[.int .i64 a0_0, .int .i64 a0_1, (.slice A0_2 l0_2.length c0_2)] 24 (0, 0))) ∧ Aside0 (w'.heap[gb153]? = some (.cells #[.int .i64 0, .int .i64 0, (.slice none 0 0)] 24 (0, 0))) ∧ Aside0 (w'.heap[gb154]? = some (.cells #[.int .i64 a0_1, .int .i64 a0_0, u155002] 24 (0, 0))) ∧ Aside0 (Below w.heap.size w w'))
     case atStart => exact ⟨(wrap64 (a0_1 - 1)), (x155002_1), (u155002), (by first | rfl | (simp; done) | (simp [*]; done)), H', ⟨Nat.le_refl _⟩, ⟨rp_ HO_155002.out⟩, ⟨hp_ BK152.out⟩, ⟨hp_ BK153.out⟩, ⟨hp_ BK154.out⟩, ⟨bp_⟩⟩
     case round =>
      clear H'
      try clear c1
      try clear p2
      try clear c3
      try clear c4
      try clear p6
      try clear c7
      try clear c8
      try clear c10
      try clear c10b0
      try clear c11
      try clear c12
      try clear hcz13_0
      try clear hcz13_1
      try clear hcz13_2
      try clear hcz5_0
      try clear hcz5_1
      try clear hcz5_2
      try clear hcz9_0
      try clear hcz9_1
      try clear hcz9_2
      try clear hfz13_0
      try clear hfz13_1
      try clear hfz13_2
      try clear hfz5_0
      try clear hfz5_1
      try clear hfz5_2
      try clear hfz9_0
      try clear hfz9_1
      try clear hfz9_2
      try clear p2
      obtain ⟨x5_2, x155002_2, u155002, rfl, HA, HK2, HO_155002, BK152, BK153, BK154, HB⟩ := hrel
      cases gk with
      | zero => exact absurd HA.out (by simp [chequerref04_quarter.l1])
      | succ k2 =>
       have H := HA.out
       clear HA
       simp only [chequerref04_quarter.l1] at H
       by_cases c14 : x5_2 ≥ 0
       · rw [if_pos c14] at H
         have c14b0 : decide (0 ≤ x5_2) = true := decide_eq_true c14
         clear c14
         replace H := Option.bind_eq_some_iff.mp H
         obtain ⟨⟨t155, t156⟩, A150, H⟩ := H
         replace H : (if x155002_2.length < 17592186044416 then (chequerref04_quarter.l1 k2 x4_1 (wrap64 (x5_2 - 1)) a0_0 a0_1 l0_2 a0_1 a0_0 (x155002_2 ++ [t155])) else (none)) = some (r1, r2, r3) := H
         have A15 := Aside0.mk A150
         clear A150
         by_cases c16 : x155002_2.length < 17592186044416
         · rw [if_pos c16] at H
           have LMc16 := Aside0.mk c16
           clear c16
           obtain ⟨y157, hy157⟩ : ∃ y_ : List Int, y_ = (x155002_2 ++ [t155]) := ⟨_, rfl⟩
           replace H : (chequerref04_quarter.l1 k2 x4_1 (wrap64 (x5_2 - 1)) a0_0 a0_1 l0_2 a0_1 a0_0 y157) = some (r1, r2, r3) := by first | (rw [hy157]; with_reducible exact H) | (have H2_ := (Option.bind_some _ _).symm.trans H; rw [hy157]; with_reducible exact H2_) | (have H2_ := (Option.bind_some _ _).symm.trans H; with_reducible exact H2_) | with_reducible exact H | (rw [hy157]; exact H) | exact H
           have Ny157 := Aside0.mk hy157
           clear hy157
           have H' := Aside0.mk H
           clear H
           have hnb17 := NB152_153.out
           have hnc17 := NB153_152.out
           have hnb18 := NB152_154.out
           have hnc18 := NB154_152.out
           have hcz19_0 : wr.cell? ⟨gb152, 0, none⟩ = some (.int .i64 a0_0) := (blk_cell BK152.out 0).trans rfl
           have hcz19_1 : wr.cell? ⟨gb152, 1, none⟩ = some (.int .i64 a0_1) := (blk_cell BK152.out 1).trans rfl
           have hcz19_2 : wr.cell? ⟨gb152, 2, none⟩ = some (.slice A0_2 l0_2.length c0_2) := (blk_cell BK152.out 2).trans rfl
           have hfz19_0 := blk_frozen BK152.out 0
           have hfz19_1 := blk_frozen BK152.out 1
           have hfz19_2 := blk_frozen BK152.out 2
           go_wp2_with (first | ((with_reducible refine gate_callee (f := 21) rfl ?_); refine goQ_ (some 30) Try.func21 #[.agg #[.int .i64 a0_0, .int .i64 a0_1, .slice A0_2 l0_2.length c0_2], .int .i64 x4_1, .int .i64 x5_2] ?_; (with_reducible refine (chequerref03_At.calls a0_0 a0_1 _ _ l0_2 x4_1 x5_2 t155 t156 _ ?side1 ?side2 A15.out).mono ?_); (case side1 => repeat (first | exact (Kd.C_below HR0_2.out HB.out) | (with_reducible refine Kd.C_alloc ?_ _) | (with_reducible refine Kd.C_drewN ?_ _) | (with_reducible refine Kd.C_drew ?_))); (case side2 => exact HC0_2.out); rintro e w20 ⟨rfl, hb⟩; refine ⟨_, rfl, ?_⟩; replace HO_155002 := Aside0.mk (Kd.R_below (rp_ HO_155002.out) hb); replace BK152 := Aside0.mk (blk_below (hp_ BK152.out) hb); replace BK153 := Aside0.mk (blk_below (hp_ BK153.out) hb); replace BK154 := Aside0.mk (blk_below (hp_ BK154.out) hb); replace HB := Aside0.mk (below_step bp_ hb); (try clear hb); (try clear hb2); (try clear hk); (try clear hi); have hnb21 := NB154_153.out; have hnc21 := NB153_154.out; have hcz22_0 : w20.cell? ⟨gb154, 0, none⟩ = some (.int .i64 a0_1) := (blk_cell BK154.out 0).trans rfl; have hcz22_1 : w20.cell? ⟨gb154, 1, none⟩ = some (.int .i64 a0_0) := (blk_cell BK154.out 1).trans rfl; have hcz22_2 : w20.cell? ⟨gb154, 2, none⟩ = some (u155002) := (blk_cell BK154.out 2).trans rfl; have hfz22_0 := blk_frozen BK154.out 0; have hfz22_1 := blk_frozen BK154.out 1; have hfz22_2 := blk_frozen BK154.out 2) | ((with_reducible refine gate_builtin (b := .append) (xs := #[.tmp 34, .tmp 36]) rfl ?_); at_builtin; refine Kd.R_append (Kd.int .u64) (w0 := w) w.heap.size rfl (.tmp 34) (.tmp 36) 22 41 (.int .u64 0) 8 rfl Try.underlying22 info41 rfl (by decide) (by omega) u155002 x155002_2 t155 [.int .u64 t155] (fun _ => True) (fun _ => False) rfl rfl ?aP (fun _ hk => hk.elim) ?aF ?aO ?aB ?aS ?aL ?_; (case aP => exact rfl); (case aB => exact bp_); (case aF => exact (fun _ _ => trivial)); (case aO => exact (rp_ HO_155002.out)); (case aS => exact (below_size bp_)); (case aL => have := LMc16.out; omega); intro v158 w23 ho hb hg hat; rw [← Ny157.out] at ho; replace BK152 := Aside0.mk (blk_grown (g := gb152) (o := .cells #[.int .i64 a0_0, .int .i64 a0_1, .slice A0_2 l0_2.length c0_2] 24 (0, 0)) (hp_ BK152.out) hg (Kd.R_ne HO_155002.out BK152.out (by decide))); replace BK153 := Aside0.mk (blk_grown (g := gb153) (o := .cells #[.int .i64 0, .int .i64 0, .slice none 0 0] 24 (0, 0)) (hp_ BK153.out) hg (Kd.R_ne HO_155002.out BK153.out (by decide))); replace BK154 := Aside0.mk (blk_grown (g := gb154) (o := .cells #[.int .i64 a0_1, .int .i64 a0_0, u155002] 24 (0, 0)) (hp_ BK154.out) hg (Kd.R_ne HO_155002.out BK154.out (by decide))); replace HB := Aside0.mk (hb); have HO159 := Aside0.mk (ho); clear HO_155002; clear ho hb hg hat; obtain ⟨Ao24, co24, eo24⟩ := Kd.R_slice HO159.out; subst eo24; have hcz25_0 : w23.cell? ⟨gb154, 0, none⟩ = some (.int .i64 a0_1) := (blk_cell BK154.out 0).trans rfl; have hcz25_1 : w23.cell? ⟨gb154, 1, none⟩ = some (.int .i64 a0_0) := (blk_cell BK154.out 1).trans rfl; have hcz25_2 : w23.cell? ⟨gb154, 2, none⟩ = some (u155002) := (blk_cell BK154.out 2).trans rfl; have hfz25_0 := blk_frozen BK154.out 0; have hfz25_1 := blk_frozen BK154.out 1; have hfz25_2 := blk_frozen BK154.out 2))
           go_roundg k2
           case measure => have := HK1.out; have := HK2.out; omega
           case rel => exact ⟨(wrap64 (x5_2 - 1)), (y157), (.slice Ao24 y157.length co24), (by first | rfl | (simp; done) | (simp [*]; done)), H', ⟨by have := HK1.out; have := HK2.out; omega⟩, ⟨rf_ HO159.out BK154.out (by decide) (fun _ hk => trivial)⟩, ⟨hf_ BK152.out NB152_154.out⟩, ⟨hf_ BK153.out NB153_154.out⟩, ⟨by (with_reducible repeat (first | refine blk_drewN ?_ _ | refine blk_drew ?_ | refine blk_alloc ?_ _)); refine blk_put (cs := #[.int .i64 a0_1, .int .i64 a0_0, u155002]) ?_ 2 _ rfl; (with_reducible repeat (first | refine blk_drewN ?_ _ | refine blk_drew ?_ | refine blk_alloc ?_ _)); exact BK154.out⟩, ⟨bp_⟩⟩
         · rw [if_neg c16] at H
           exact absurd H (by simp)
       · rw [if_neg c14] at H
         have c14b0 : decide (0 ≤ x5_2) = false := decide_eq_false c14
         clear c14
         have H' := Aside0.mk H
         clear H
         go_wp2
         go_roundg k2
         case measure => have := HK1.out; have := HK2.out; omega
         case rel => exact ⟨(wrap64 (x4_1 + 1)), (x155002_2), (u155002), (by first | rfl | (simp; done) | (simp [*]; done)), H', ⟨by have := HK1.out; have := HK2.out; omega⟩, ⟨rp_ HO_155002.out⟩, ⟨hp_ BK152.out⟩, ⟨hp_ BK153.out⟩, ⟨hp_ BK154.out⟩, ⟨bp_⟩⟩
   · rw [if_neg c10] at H
     have c10b0 : decide (x4_1 < a0_0) = false := decide_eq_false c10
     clear c10
     simp only [Option.some.injEq, Prod.mk.injEq] at H
     obtain ⟨rfl, rfl, rfl⟩ := H
     have hnb26 := NB152_153.out
     have hnc26 := NB153_152.out
     have hnb27 := NB152_154.out
     have hnc27 := NB154_152.out
     have hcz28_0 : wr.cell? ⟨gb152, 0, none⟩ = some (.int .i64 a0_0) := (blk_cell BK152.out 0).trans rfl
     have hcz28_1 : wr.cell? ⟨gb152, 1, none⟩ = some (.int .i64 a0_1) := (blk_cell BK152.out 1).trans rfl
     have hcz28_2 : wr.cell? ⟨gb152, 2, none⟩ = some (.slice A0_2 l0_2.length c0_2) := (blk_cell BK152.out 2).trans rfl
     have hfz28_0 := blk_frozen BK152.out 0
     have hfz28_1 := blk_frozen BK152.out 1
     have hfz28_2 := blk_frozen BK152.out 2
     have hnb29 := NB154_153.out
     have hnc29 := NB153_154.out
     have hcz30_0 : wr.cell? ⟨gb154, 0, none⟩ = some (.int .i64 a0_1) := (blk_cell BK154.out 0).trans rfl
     have hcz30_1 : wr.cell? ⟨gb154, 1, none⟩ = some (.int .i64 a0_0) := (blk_cell BK154.out 1).trans rfl
     have hcz30_2 : wr.cell? ⟨gb154, 2, none⟩ = some (u155002) := (blk_cell BK154.out 2).trans rfl
     have hfz30_0 := blk_frozen BK154.out 0
     have hfz30_1 := blk_frozen BK154.out 1
     have hfz30_2 := blk_frozen BK154.out 2
     have hcz31_0 : wr.cell? ⟨gb153, 0, none⟩ = some (.int .i64 0) := (blk_cell BK153.out 0).trans rfl
     have hcz31_1 : wr.cell? ⟨gb153, 1, none⟩ = some (.int .i64 0) := (blk_cell BK153.out 1).trans rfl
     have hcz31_2 : wr.cell? ⟨gb153, 2, none⟩ = some (.slice none 0 0) := (blk_cell BK153.out 2).trans rfl
     have hfz31_0 := blk_frozen BK153.out 0
     have hfz31_1 := blk_frozen BK153.out 1
     have hfz31_2 := blk_frozen BK153.out 2
     obtain ⟨Ao32, co32, eo32⟩ := Kd.R_slice HO_155002.out
     subst eo32
     go_wp2
     refine bodyPost_ret (results_cell_row rfl _ _ gb153 24 #[.int .i64 a0_1, .int .i64 a0_0, .slice Ao32 x155002_1.length co32] (0, 0) _ rfl (by (with_reducible repeat (first | refine blk_drewN ?_ _ | refine blk_drew ?_ | refine blk_alloc ?_ _)); refine blk_put (cs := #[.int .i64 a0_1, .int .i64 a0_0, .slice none 0 0]) ?_ 2 _ rfl; (with_reducible repeat (first | refine blk_drewN ?_ _ | refine blk_drew ?_ | refine blk_alloc ?_ _)); refine blk_put (cs := #[.int .i64 a0_1, .int .i64 0, .slice none 0 0]) ?_ 1 _ rfl; (with_reducible repeat (first | refine blk_drewN ?_ _ | refine blk_drew ?_ | refine blk_alloc ?_ _)); refine blk_put (cs := #[.int .i64 0, .int .i64 0, .slice none 0 0]) ?_ 0 _ rfl; (with_reducible repeat (first | refine blk_drewN ?_ _ | refine blk_drew ?_ | refine blk_alloc ?_ _)); exact BK153.out) Try.underlying24 rfl (by kernel_rfl)) rfl ?_
     exact ⟨_, by first | rfl | (simp [errW_none, errW_some] <;> rfl) | (simp [*, errW_none, errW_some] <;> rfl), rf_ HO_155002.out BK153.out (by decide) (fun _ hk => trivial), bp_⟩

/-! ### chequerref03_Sized: function 38 -/
def chequerref03_Sized.f (a0 : Int) (a1 : Int) : Option (Bool) := if a0 < 1 then (some false) else (if a0 > 4096 then (some false) else (if a1 < 1 then (some false) else (if a1 > 65536 then (some false) else (some (decide ((wrap64 (a0 * a1)) ≤ 16777216))))))
set_option maxHeartbeats 8000000 in
set_option maxRecDepth 100000 in
theorem chequerref03_Sized.calls (a0 : Int) (a1 : Int) (r : Bool) (w : World) (h : chequerref03_Sized.f a0 a1 = some r) :
    Calls Try.prog 38 #[.int .i64 a0, .int .i64 a1] w fun e w' => e = .returned (.bool r) ∧ Drawn0 w w' := by
  have H : (if a0 < 1 then (some false) else (if a0 > 4096 then (some false) else (if a1 < 1 then (some false) else (if a1 > 65536 then (some false) else (some (decide ((wrap64 (a0 * a1)) ≤ 16777216))))))) = some r := h
  clear h
  by_cases c3 : a0 < 1
  · rw [if_pos c3] at H
    have c3b0 : decide (a0 < 1) = true := decide_eq_true c3
    clear c3
    obtain rfl := Option.some.inj H
    go_enter Try.func38, Try.ntmps38
    go_wp2
    go_ret
    exact ⟨by first | rfl | (simp; done) | (simp [*]; done), by repeat (first | exact Drawn0.refl _ | apply Drawn0.step)⟩
  · rw [if_neg c3] at H
    have c3b0 : decide (a0 < 1) = false := decide_eq_false c3
    clear c3
    by_cases c4 : a0 > 4096
    · rw [if_pos c4] at H
      have c4b0 : decide (4096 < a0) = true := decide_eq_true c4
      clear c4
      obtain rfl := Option.some.inj H
      go_enter Try.func38, Try.ntmps38
      go_wp2
      go_ret
      exact ⟨by first | rfl | (simp; done) | (simp [*]; done), by repeat (first | exact Drawn0.refl _ | apply Drawn0.step)⟩
    · rw [if_neg c4] at H
      have c4b0 : decide (4096 < a0) = false := decide_eq_false c4
      clear c4
      by_cases c5 : a1 < 1
      · rw [if_pos c5] at H
        have c5b0 : decide (a1 < 1) = true := decide_eq_true c5
        clear c5
        obtain rfl := Option.some.inj H
        go_enter Try.func38, Try.ntmps38
        go_wp2
        go_ret
        exact ⟨by first | rfl | (simp; done) | (simp [*]; done), by repeat (first | exact Drawn0.refl _ | apply Drawn0.step)⟩
      · rw [if_neg c5] at H
        have c5b0 : decide (a1 < 1) = false := decide_eq_false c5
        clear c5
        by_cases c6 : a1 > 65536
        · rw [if_pos c6] at H
          have c6b0 : decide (65536 < a1) = true := decide_eq_true c6
          clear c6
          obtain rfl := Option.some.inj H
          go_enter Try.func38, Try.ntmps38
          go_wp2
          go_ret
          exact ⟨by first | rfl | (simp; done) | (simp [*]; done), by repeat (first | exact Drawn0.refl _ | apply Drawn0.step)⟩
        · rw [if_neg c6] at H
          have c6b0 : decide (65536 < a1) = false := decide_eq_false c6
          clear c6
          obtain rfl := Option.some.inj H
          go_enter Try.func38, Try.ntmps38
          go_wp2
          go_ret
          exact ⟨by first | rfl | (simp; done) | (simp [*]; done), by repeat (first | exact Drawn0.refl _ | apply Drawn0.step)⟩

end Go.Proofs.Ytehjnekljodmgaa.Q
