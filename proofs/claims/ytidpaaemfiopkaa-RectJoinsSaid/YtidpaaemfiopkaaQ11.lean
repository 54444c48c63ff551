-- written by our own program (wip/tools/myprint.py) out of the translation, by the kit's print; Lean checks it
import Derived.Test.YtidpaaemfiopkaaQ0
import Derived.Test.YtidpaaemfiopkaaQ3
import Derived.Test.YtidpaaemfiopkaaIrect_Matrix_row
import Derived.Test.YtidpaaemfiopkaaQ5
namespace Go.Proofs.Ytidpaaemfiopkaa.Q
open Go.RowKit Go.Proofs.YtidpaaemfiopkaaW.PrintWords Go.Proofs.YtidpaaemfiopkaaW.PrintLast Go.Proofs.YtidpaaemfiopkaaW.PrintMore
attribute [local go_sem] max2_int min2_int max_two min_two max_three min_three max_four min_four   -- for this text's walks alone
set_option linter.unusedVariables false
set_option linter.unusedSimpArgs false


/-! ### rect_Matrix_Sub: function 21 -/
def rect_Matrix_Sub.l0 : Nat → Int → Int → Int → Int → Int → Int → Int → List Int → Int → Int → List Int → Option (Int × Int × List Int × Bool)
 | 0, _, _, _, _, _, _, _, _, _, _, _ => none
 | k + 1, x1, x2, x3, x25, x26, x294000, x294001, x294002, x297000, x297001, x297002 => if x26 < x25 then ((rect_Matrix_row.f x294000 x294001 x294002 x1 (wrap64 (x2 + x26)) x3).bind fun t297 => (if x297002.length + t297.length < 17592186044416 then (rect_Matrix_Sub.l0 k x1 x2 x3 x25 (wrap64 (x26 + 1)) x294000 x294001 x294002 x297000 x297001 (x297002 ++ t297)) else (none))) else (some (x297000, x297001, x297002, true))
def rect_Matrix_Sub.f (k : Nat) (a0_0 : Int) (a0_1 : Int) (l0_2 : List Int) (a1 : Int) (a2 : Int) (a3 : Int) (a4 : Int) : Option (Int × Int × List Int × Bool) := (rect_Matrix_inside.f a0_0 a0_1 l0_2 a1 a2 a3 a4).bind fun t295 => (if t295 = true then (rect_Matrix_Sub.l0 k a1 a2 a3 a4 0 a0_0 a0_1 l0_2 a3 a4 ([] : List Int)) else (some (0, 0, ([] : List Int), false)))
theorem rect_Matrix_Sub.mono_l : ∀ k, (∀ y0 y1 y2 y3 y4 y5 y6 y7 y8 y9 y10, LeO (rect_Matrix_Sub.l0 k y0 y1 y2 y3 y4 y5 y6 y7 y8 y9 y10) (rect_Matrix_Sub.l0 (k + 1) y0 y1 y2 y3 y4 y5 y6 y7 y8 y9 y10))
 | 0 => fun _ _ _ _ _ _ _ _ _ _ _ r h => by simp [rect_Matrix_Sub.l0] at h
 | k + 1 => by
  have ih0 := rect_Matrix_Sub.mono_l k
  · intro y0 y1 y2 y3 y4 y5 y6 y7 y8 y9 y10
    unfold rect_Matrix_Sub.l0
    repeat' first
    | (with_reducible exact ih0 _ _ _ _ _ _ _ _ _ _ _)
    | (with_reducible exact LeO.refl _)
    | (with_reducible exact LeO.none _)
    | (with_reducible refine LeO.ite ?_ ?_)
    | (with_reducible refine LeO.bind ?_ (fun _ => ?_))
    | exact ih0 _ _ _ _ _ _ _ _ _ _ _
    | exact LeO.none _
    | refine LeO.ite ?_ ?_
    | refine LeO.bind ?_ (fun _ => ?_)
theorem rect_Matrix_Sub.mono : ∀ a0 a1 a2 a3 a4 a5 a6 k, LeO (rect_Matrix_Sub.f k a0 a1 a2 a3 a4 a5 a6) (rect_Matrix_Sub.f (k + 1) a0 a1 a2 a3 a4 a5 a6) := by
 intro a0 a1 a2 a3 a4 a5 a6 k
 have ih0 := rect_Matrix_Sub.mono_l k
 unfold rect_Matrix_Sub.f
 repeat' first
  | (with_reducible exact ih0 _ _ _ _ _ _ _ _ _ _ _)
  | (with_reducible exact LeO.refl _)
  | (with_reducible exact LeO.none _)
  | (with_reducible refine LeO.ite ?_ ?_)
  | (with_reducible refine LeO.bind ?_ (fun _ => ?_))
  | exact ih0 _ _ _ _ _ _ _ _ _ _ _
  | exact LeO.none _
  | refine LeO.ite ?_ ?_
  | refine LeO.bind ?_ (fun _ => ?_)
def rect_Matrix_Sub.T7 : Bool × List (List Nat × List Nat) := (true, [([], []), ([0], [0]), ([], []), ([], []), ([], []), ([], []), ([4, 5], [4, 5]), ([], []), ([2, 3, 6, 7], [2, 3, 6, 7]), ([1, 8, 8], [1, 8]), ([0, 1, 2, 3, 4, 5, 6, 7, 8, 9], []), ([10, 9, 9, 0, 1, 2, 3, 4, 5, 6, 7, 8, 9], [9, 10])])
def rect_Matrix_Sub.B7 : List Nat := [0, 1, 0, 0, 0, 0, 48, 0, 252, 511, 1023, 2047]
theorem rect_Matrix_Sub.tab7 : rtab .any (opsOf Try.f21 7) = rect_Matrix_Sub.T7 := by kernel_rfl
theorem rect_Matrix_Sub.bits7 : waitsOk rect_Matrix_Sub.T7.2 rect_Matrix_Sub.B7 = true := by kernel_rfl
set_option maxHeartbeats 8000000 in
set_option maxRecDepth 100000 in
theorem rect_Matrix_Sub.calls (k : Nat) (a0_0 : Int) (a0_1 : Int) (A0_2 : Option Addr) (c0_2 : Nat) (l0_2 : List Int) (a1 : Int) (a2 : Int) (a3 : Int) (a4 : Int) (r1 : Int) (r2 : Int) (r3 : List Int) (r4 : Bool) (w : World) (hr0_2 : Kd.C (Kd.int .u64) w A0_2 l0_2.length l0_2) (hc0_2 : l0_2.length ≤ c0_2) (h : rect_Matrix_Sub.f k a0_0 a0_1 l0_2 a1 a2 a3 a4 = some (r1, r2, r3, r4)) :
 Calls Try.prog 21 #[.agg #[.int .i64 a0_0, .int .i64 a0_1, .slice A0_2 l0_2.length c0_2], .int .i64 a1, .int .i64 a2, .int .i64 a3, .int .i64 a4] w fun e w' => ∃ v2_ : Value, e = .returned (.tuple #[.agg #[.int .i64 r1, .int .i64 r2, v2_], .bool r4]) ∧ Kd.R (Kd.int .u64) 46 w' w.heap.size (fun _ => True) v2_ r3 ∧ Below w.heap.size w w' := by
 have hu32 := Try.underlying32
 have HR0_2 := Aside0.mk hr0_2
 have HC0_2 := Aside0.mk hc0_2
 clear hr0_2 hc0_2
 have HB := Aside0.mk (Below.refl w.heap.size w)
 have H : ((rect_Matrix_inside.f a0_0 a0_1 l0_2 a1 a2 a3 a4).bind fun t295 => (if t295 = true then (rect_Matrix_Sub.l0 k a1 a2 a3 a4 0 a0_0 a0_1 l0_2 a3 a4 ([] : List Int)) else (some (0, 0, ([] : List Int), false)))) = some (r1, r2, r3, r4) := h
 clear h
 replace H := Option.bind_eq_some_iff.mp H
 obtain ⟨t295, A60, H⟩ := H
 replace H : (if t295 = true then (rect_Matrix_Sub.l0 k a1 a2 a3 a4 0 a0_0 a0_1 l0_2 a3 a4 ([] : List Int)) else (some (0, 0, ([] : List Int), false))) = some (r1, r2, r3, r4) := H
 have A6 := Aside0.mk A60
 clear A60
 by_cases c7 : t295 = true
 · subst c7
   have H1 : (rect_Matrix_Sub.l0 k a1 a2 a3 a4 0 a0_0 a0_1 l0_2 a3 a4 ([] : List Int)) = some (r1, r2, r3, r4) := by rw [if_pos rfl] at H; exact H
   clear H; have H := H1; clear H1
   have H' := Aside0.mk H
   clear H
   go_enter Try.func21, Try.ntmps21
   go_wp2_with (first | ((with_reducible refine gate_dst (N := 5) rfl ?_); refine box_event ?hg (N := 5) ?hd (cs := #[.int .i64 a0_0, .int .i64 a0_1, .slice A0_2 l0_2.length c0_2]) (t := 32) ?hr ?_; (case hd => rfl); (case hg => rfl); (case hr => first | (go_simp; done) | (go_simp; rfl)); intro gb293 hg w8 hbox hb; have BK293 := Aside0.mk (hbox); have GW293 := Aside0.mk ((by rw [hg]; exact (below_size bp_) : w.heap.size ≤ gb293)); have GE293 := Aside0.mk ((by rw [hg]; exact (below_size bp_) : w.heap.size ≤ gb293)); replace HB := Aside0.mk (below_step bp_ hb); clear hb hbox hg) | ((with_reducible refine gate_dst (N := 10) rfl ?_); refine box_event ?hg (N := 10) ?hd (cs := #[.int .i64 0, .int .i64 0, .slice none 0 0]) (t := 32) ?hr ?_; (case hd => rfl); (case hg => rfl); (case hr => first | (go_simp; done) | (go_simp; rfl)); intro gb294 hg w9 hbox hb; have BK294 := Aside0.mk (hbox); have GW294 := Aside0.mk ((by rw [hg]; exact (below_size bp_) : w.heap.size ≤ gb294)); have GE294 := Aside0.mk ((by rw [hg]; exact (below_size bp_) : w.heap.size ≤ gb294)); replace HB := Aside0.mk (below_step bp_ hb); have NB293_294 := Aside0.mk ((nlt_ hg (hp_ BK293.out))); have NB294_293 := Aside0.mk ((ngt_ hg (hp_ BK293.out))); replace BK293 := kb_ BK293.out hb; clear hb hbox hg; have hnb10 := NB293_294.out; have hnc10 := NB294_293.out; have hcz11_0 : w9.cell? ⟨gb293, 0, none⟩ = some (.int .i64 a0_0) := bc_ BK293.out 0; have hcz11_1 : w9.cell? ⟨gb293, 1, none⟩ = some (.int .i64 a0_1) := bc_ BK293.out 1; have hcz11_2 : w9.cell? ⟨gb293, 2, none⟩ = some (.slice A0_2 l0_2.length c0_2) := bc_ BK293.out 2; have hfz11_0 := blk_frozen BK293.out 0; have hfz11_1 := blk_frozen BK293.out 1; have hfz11_2 := blk_frozen BK293.out 2) | ((with_reducible refine gate_callee (f := 44) rfl ?_); refine goQ_ (some 19) Try.func44 #[.agg #[.int .i64 a0_0, .int .i64 a0_1, .slice A0_2 l0_2.length c0_2], .int .i64 a1, .int .i64 a2, .int .i64 a3, .int .i64 a4] ?_; (with_reducible refine (rect_Matrix_inside.calls a0_0 a0_1 _ _ l0_2 a1 a2 a3 a4 true _ ?side1 ?side2 A6.out).mono ?_); (case side1 => repeat (first | exact (Kd.C_below HR0_2.out HB.out) | (with_reducible refine Kd.C_alloc ?_ _) | (with_reducible refine Kd.C_drewN ?_ _) | (with_reducible refine Kd.C_drew ?_))); (case side2 => exact HC0_2.out); rintro e w12 ⟨rfl, hb⟩; refine ⟨_, rfl, ?_⟩; replace BK293 := kb_ BK293.out hb; replace BK294 := kb_ BK294.out hb; replace HB := Aside0.mk (below_step bp_ hb); (try clear hb); (try clear hb2); (try clear hk); (try clear hi)) | ((with_reducible refine gate_dst (N := 12) rfl ?_); refine box_event ?hg (N := 12) ?hd (cs := #[.int .i64 0, .int .i64 0, .slice none 0 0]) (t := 32) ?hr ?_; (case hd => rfl); (case hg => rfl); (case hr => first | (go_simp; done) | (go_simp; rfl)); intro gb296 hg w13 hbox hb; have BK296 := Aside0.mk (hbox); have GW296 := Aside0.mk ((by rw [hg]; exact (below_size bp_) : w.heap.size ≤ gb296)); have GE296 := Aside0.mk ((by rw [hg]; exact (below_size bp_) : w.heap.size ≤ gb296)); replace HB := Aside0.mk (below_step bp_ hb); have NB293_296 := Aside0.mk ((nlt_ hg (hp_ BK293.out))); have NB296_293 := Aside0.mk ((ngt_ hg (hp_ BK293.out))); replace BK293 := kb_ BK293.out hb; have NB294_296 := Aside0.mk ((nlt_ hg (hp_ BK294.out))); have NB296_294 := Aside0.mk ((ngt_ hg (hp_ BK294.out))); replace BK294 := kb_ BK294.out hb; clear hb hbox hg; have hnb14 := NB296_293.out; have hnc14 := NB293_296.out; have hnb15 := NB296_294.out; have hnc15 := NB294_296.out; have hcz16_0 : w13.cell? ⟨gb296, 0, none⟩ = some (.int .i64 0) := bc_ BK296.out 0; have hcz16_1 : w13.cell? ⟨gb296, 1, none⟩ = some (.int .i64 0) := bc_ BK296.out 1; have hcz16_2 : w13.cell? ⟨gb296, 2, none⟩ = some (.slice none 0 0) := bc_ BK296.out 2; have hfz16_0 := blk_frozen BK296.out 0; have hfz16_1 := blk_frozen BK296.out 1; have hfz16_2 := blk_frozen BK296.out 2))
   go_loopg [26] k (fun kq v26 w' => ∃ (x26_1 : Int) (x297002_1 : List Int) (u297002 : Value), v26 = .int .i64 x26_1 ∧ Aside0 (rect_Matrix_Sub.l0 kq a1 a2 a3 a4 x26_1 a0_0 a0_1 l0_2 a3 a4 x297002_1 = some (r1, r2, r3, r4)) ∧ Aside0 (kq ≤ k) ∧ Aside0 (Kd.R (Kd.int .u64) 46 w' w.heap.size (fun _ => True) u297002 x297002_1) ∧ Aside0 (w'.heap[gb293]? = some (.cells #[.int .i64 a0_0, .int .i64 a0_1, (.slice A0_2 l0_2.length c0_2)] 32 (0, 0))) ∧ Aside0 (w'.heap[gb294]? = some (.cells #[.int .i64 0, .int .i64 0, (.slice none 0 0)] 32 (0, 0))) ∧ Aside0 (w'.heap[gb296]? = some (.cells #[.int .i64 a3, .int .i64 a4, u297002] 32 (0, 0))) ∧ Aside0 (Below w.heap.size w w'))
   case atStart => exact ⟨(0), (([] : List Int)), (.slice none 0 0), (by first | rfl | (simp; done) | (simp [*]; done)), H', ⟨Nat.le_refl _⟩, ⟨by first | exact Kd.R_nil _ _ _ _ _ | exact Kd.N_nil _ _ _ _ _ | exact Kd.V_nil _ _ _ _ _ | exact Kd.Q_nil _ _ _ _ _ | exact Kd.S_nil _ _ _ _ _⟩, ⟨hf_ BK293.out NB293_296.out⟩, ⟨hf_ BK294.out NB294_296.out⟩, ⟨by (with_reducible repeat (first | refine blk_drewN ?_ _ | refine blk_drew ?_ | refine blk_alloc ?_ _)); refine blk_put (cs := #[.int .i64 a3, .int .i64 a4, .slice none 0 0]) ?_ 2 _ rfl; (with_reducible repeat (first | refine blk_drewN ?_ _ | refine blk_drew ?_ | refine blk_alloc ?_ _)); refine blk_put (cs := #[.int .i64 a3, .int .i64 0, .slice none 0 0]) ?_ 1 _ rfl; (with_reducible repeat (first | refine blk_drewN ?_ _ | refine blk_drew ?_ | refine blk_alloc ?_ _)); refine blk_put (cs := #[.int .i64 0, .int .i64 0, .slice none 0 0]) ?_ 0 _ rfl; (with_reducible repeat (first | refine blk_drewN ?_ _ | refine blk_drew ?_ | refine blk_alloc ?_ _)); exact BK296.out⟩, ⟨bp_⟩⟩
   case round =>
    clear H'
    try clear c1
    try clear c2
    try clear p2
    try clear c4
    try clear c7
    try clear c10
    try clear c14
    try clear c15
    try clear hcz11_0
    try clear hcz11_1
    try clear hcz11_2
    try clear hcz16_0
    try clear hcz16_1
    try clear hcz16_2
    try clear hfz11_0
    try clear hfz11_1
    try clear hfz11_2
    try clear hfz16_0
    try clear hfz16_1
    try clear hfz16_2
    obtain ⟨x26_1, x297002_1, u297002, rfl, HA, HK1, HO_297002, BK293, BK294, BK296, HB⟩ := hrel
    cases gk with
    | zero => exact absurd HA.out (by simp [rect_Matrix_Sub.l0])
    | succ k1 =>
     have H := HA.out; clear HA; simp only [rect_Matrix_Sub.l0] at H
     by_cases c17 : x26_1 < a4
     · rw [if_pos c17] at H
       have c17b0 : decide (x26_1 < a4) = true := decide_eq_true c17
       clear c17; replace H := Option.bind_eq_some_iff.mp H; obtain ⟨t297, A180, H⟩ := H
       replace H : (if x297002_1.length + t297.length < 17592186044416 then (rect_Matrix_Sub.l0 k1 a1 a2 a3 a4 (wrap64 (x26_1 + 1)) a0_0 a0_1 l0_2 a3 a4 (x297002_1 ++ t297)) else (none)) = some (r1, r2, r3, r4) := H
       have A18 := Aside0.mk A180; clear A180
       by_cases c19 : x297002_1.length + t297.length < 17592186044416
       · rw [if_pos c19] at H; have LMc19 := Aside0.mk c19; clear c19
         obtain ⟨y300, hy300⟩ : ∃ y_ : List Int, y_ = (x297002_1 ++ t297) := ⟨_, rfl⟩
         replace H : (rect_Matrix_Sub.l0 k1 a1 a2 a3 a4 (wrap64 (x26_1 + 1)) a0_0 a0_1 l0_2 a3 a4 y300) = some (r1, r2, r3, r4) := by first | (rw [hy300]; with_reducible exact H) | (have H2_ := (Option.bind_some _ _).symm.trans H; rw [hy300]; with_reducible exact H2_) | (have H2_ := (Option.bind_some _ _).symm.trans H; with_reducible exact H2_) | with_reducible exact H | (rw [hy300]; exact H) | exact H
         have Ny300 := Aside0.mk hy300; clear hy300
         have H' := Aside0.mk H
         clear H
         try go_wp2
         (try (rw [drewN_self wr]; generalize hq_ : World.drewN wr _ = wr; have n0_ := Aside0.mk (qrp_ hq_ HO_297002.out); have n1_ := Aside0.mk (qhp_ hq_ BK293.out); have n2_ := Aside0.mk (qhp_ hq_ BK294.out); have n3_ := Aside0.mk (qhp_ hq_ BK296.out); have n4_ : Aside0 (Below w.heap.size w wr) := ⟨qbp_ hq_⟩; clear HO_297002 BK293 BK294 BK296 HB hq_; have HO_297002 := n0_; have BK293 := n1_; have BK294 := n2_; have BK296 := n3_; have HB := n4_; clear n0_ n1_ n2_ n3_ n4_))
         replace HO_297002 := Aside0.mk (Kd.R_drew HO_297002.out); replace BK293 := Aside0.mk (blk_drew BK293.out); replace BK294 := Aside0.mk (blk_drew BK294.out); replace BK296 := Aside0.mk (blk_drew BK296.out); replace HB := Aside0.mk (below_drew1 HB.out); refine start_ (n := 12) (S := fun w' => w'.cell? ⟨gb296, 0, none⟩ = some (.int .i64 a3) ∧ w'.cell? ⟨gb296, 1, none⟩ = some (.int .i64 a4) ∧ w'.cell? ⟨gb296, 2, none⟩ = some (u297002) ∧ w'.cell? ⟨gb293, 0, none⟩ = some (.int .i64 a0_0) ∧ w'.cell? ⟨gb293, 1, none⟩ = some (.int .i64 a0_1) ∧ w'.cell? ⟨gb293, 2, none⟩ = some (.slice A0_2 l0_2.length c0_2)) (ds := [11]) #[false, false, false, false, false, false, false, false, false, false, false, false] (by kernel_rfl) rfl rfl ⟨bc_ BK296.out 0, bc_ BK296.out 1, bc_ BK296.out 2, bc_ BK293.out 0, bc_ BK293.out 1, bc_ BK293.out 2⟩ (fun hHeld => ?_); refine with_tabW rect_Matrix_Sub.tab7 rect_Matrix_Sub.bits7 (fun HT_ HW_ => ?_)
         generalize wr.drew = w20 at HO_297002 BK293 BK294 BK296 HB hHeld ⊢
         refine pur_ (i := 0) (N := some 29) #[true, false, false, false, false, false, false, false, false, false, false, false] (any_of HT_.out (by kernel_rfl)) ?_; refine pur_ (i := 3) (N := some 32) #[true, false, false, true, false, false, false, false, false, false, false, false] (any_of HT_.out (by kernel_rfl)) ?_; refine pur_ (i := 4) (N := some 33) #[true, false, false, true, true, false, false, false, false, false, false, false] (any_of HT_.out (by kernel_rfl)) ?_; refine pur_ (i := 5) (N := some 34) #[true, false, false, true, true, true, false, false, false, false, false, false] (any_of HT_.out (by kernel_rfl)) ?_; refine pur_ (i := 6) (N := some 35) #[true, false, false, true, true, true, true, false, false, false, false, false] (any_of HT_.out (by kernel_rfl)) ?_; refine pur_ (i := 7) (N := some 36) #[true, false, false, true, true, true, true, true, false, false, false, false] (any_of HT_.out (by kernel_rfl)) ?_; refine tak_ (i := 1) (N := some 30) #[true, true, false, true, true, true, true, true, false, false, false, false] (take_ofW HT_.out HW_.out (by kernel_rfl)) hHeld ?_; refine tak_ (i := 2) (N := some 31) #[true, true, true, true, true, true, true, true, false, false, false, false] (take_ofW HT_.out HW_.out (by kernel_rfl)) hHeld ?_; refine one_ (i := 8) (N := some 37) #[true, true, true, true, true, true, true, true, true, false, false, false] rfl rfl (one_of HT_.out (by kernel_rfl)) (by decide) (fun K hK => ?_); refine goZ_ Try.func46 #[.agg #[.int .i64 a0_0, .int .i64 a0_1, .slice A0_2 l0_2.length c0_2], .int .i64 a1, .int .i64 (wrap64 (a2 + x26_1)), .int .i64 a3] ?_
         with_reducible refine (rect_Matrix_row.calls a0_0 a0_1 (fun k_ => k_ < w.heap.size) _ _ l0_2 a1 (wrap64 (a2 + x26_1)) a3 t297 _ ?side1 A18.out).mono ?_
         (case side1 => exact Kd.V_mk HC0_2.out (Kd.F_below (Kd.C_F (Kd.heap_int .u64) HR0_2.out) bp_))
         rintro e w21 ⟨v298, rfl, ho0, hb⟩
         refine ⟨_, rfl, ?_⟩; have HO299 := Aside0.mk (Kd.V_lower (Kd.V_mono (ok' := fun k_ => some k_ ≠ (u297002 : Value).ownBlock ∧ k_ ≠ gb293 ∧ k_ ≠ gb294 ∧ k_ ≠ gb296) ho0 (fun k_ hk_ => ⟨Or.elim hk_ (fun hs_ => fun e_ => Nat.not_le.2 hs_ (Kd.R_base HO_297002.out k_ e_.symm)) (fr_ HO_297002.out k_), Or.elim hk_ (fun hs_ => fun e_ => Nat.not_le.2 hs_ (by rw [e_]; exact GW293.out)) (fb_ BK293.out k_), Or.elim hk_ (fun hs_ => fun e_ => Nat.not_le.2 hs_ (by rw [e_]; exact GW294.out)) (fb_ BK294.out k_), Or.elim hk_ (fun hs_ => fun e_ => Nat.not_le.2 hs_ (by rw [e_]; exact GW296.out)) (fb_ BK296.out k_)⟩)) (below_size bp_)); replace HO_297002 := rb_ HO_297002.out hb; replace BK293 := kb_ BK293.out hb; replace BK294 := kb_ BK294.out hb; replace BK296 := kb_ BK296.out hb; replace HB := Aside0.mk (below_step bp_ hb)
         (try clear hb)
         (try clear hb2)
         (try clear hk)
         (try clear hi)
         (try clear ho0)
         obtain ⟨Ao23, co23, eo23⟩ := Kd.V_slice HO299.out
         (first | subst eo23 | (injection eo23 with f1_ f2_ f3_; have f4_ := f1_.symm; have f5_ := f3_.symm; clear f1_ f2_ f3_; subst f4_; subst f5_))
         refine hK.out _ _ ⟨bc_ BK296.out 0, bc_ BK296.out 1, bc_ BK296.out 2, bc_ BK293.out 0, bc_ BK293.out 1, bc_ BK293.out 2⟩ (fun hHeld => ?_); clear hK K; refine nor_ (some 37) ?_; refine one_ (i := 9) (N := some 38) #[true, true, true, true, true, true, true, true, true, true, false, false] rfl rfl (one_of HT_.out (by kernel_rfl)) (by decide) (fun K hK => ?_); refine Kd.R_append_rows_step (Kd.int .u64) (w0 := w) w.heap.size (by rfl) (.tmp 30) (.tmp 37) 22 46 (.int .u64 0) 8 rfl Try.underlying22 info46 rfl (by decide) (by omega) u297002 x297002_1 t297 _ _ _ (fun _ => True) (fun _ => False) rfl rfl ?aO ?aR (fun _ _ h => h) (fun _ h => h.elim) ?aF ?aB ?aS ?aL ?_
         (case aR => repeat (first | exact (Kd.V_reads' HO299.out).2.2 | (with_reducible refine Kd.C_alloc ?_ _) | (with_reducible refine Kd.C_drewN ?_ _) | (with_reducible refine Kd.C_drew ?_)))
         (case aB => exact bp_)
         (case aF => exact (fun _ _ => trivial))
         (case aO => exact (rp_ HO_297002.out))
         (case aS => exact (below_size bp_))
         (case aL => have := LMc19.out; omega)
         intro v301 w22 ho hb hg hat
         rw [← Ny300.out] at ho; replace BK293 := Aside0.mk (blk_grown (g := gb293) (o := .cells #[.int .i64 a0_0, .int .i64 a0_1, .slice A0_2 l0_2.length c0_2] 32 (0, 0)) (hp_ BK293.out) hg (Kd.R_ne HO_297002.out BK293.out (by decide))); replace BK294 := Aside0.mk (blk_grown (g := gb294) (o := .cells #[.int .i64 0, .int .i64 0, .slice none 0 0] 32 (0, 0)) (hp_ BK294.out) hg (Kd.R_ne HO_297002.out BK294.out (by decide))); replace BK296 := Aside0.mk (blk_grown (g := gb296) (o := .cells #[.int .i64 a3, .int .i64 a4, u297002] 32 (0, 0)) (hp_ BK296.out) hg (Kd.R_ne HO_297002.out BK296.out (by decide))); replace HO299 := Aside0.mk (Kd.V_afterv (ok := (fun k_ => k_ ≠ gb293 ∧ k_ ≠ gb294 ∧ k_ ≠ gb296)) (vm_ HO299.out) hg hat); replace HB := Aside0.mk (hb); have HO302 := Aside0.mk (ho); clear HO_297002; clear ho hb hg hat
         obtain ⟨Ao24, co24, eo24⟩ := Kd.R_slice HO302.out
         (first | subst eo24 | (injection eo24 with f1_ f2_ f3_; have f4_ := f1_.symm; have f5_ := f3_.symm; clear f1_ f2_ f3_; subst f4_; subst f5_))
         refine hK.out _ _ ⟨bc_ BK296.out 0, bc_ BK296.out 1, bc_ BK296.out 2, bc_ BK293.out 0, bc_ BK293.out 1, bc_ BK293.out 2⟩ (fun hHeld => ?_); clear hK K; refine nor_ (some 38) ?_; refine pur_ (i := 10) (N := some 39) #[true, true, true, true, true, true, true, true, true, true, true, false] (any_of HT_.out (by kernel_rfl)) ?_; refine last_ (i := 11) (N := none) #[true, true, true, true, true, true, true, true, true, true, true, true] rfl rfl (one_of HT_.out (by kernel_rfl)) (by decide) (fun K hK => ?_)
         have hs25 : w22.cell? ⟨gb296, 2, none⟩ = some (u297002) := bc_ BK296.out 2
         have hfs25 := blk_frozen BK296.out 2; have hns25_0 := NB293_296.out; have hns25_1 := NB294_296.out; have hms25_0 := NB296_293.out; have hms25_1 := NB296_294.out; refine skip_ (w1 := ?_) (by rfl) rfl ?_ ?_; rotate_left
         · go_simp; rfl
         refine hK.out _ _ ?_; clear hK K; refine done_ (done_of HT_.out (by kernel_rfl)) ?_
         try go_wp2
         go_roundg k1
         case measure => have := HK1.out; omega
         case rel => exact ⟨(wrap64 (x26_1 + 1)), (y300), (.slice Ao24 y300.length co24), (by first | rfl | (simp; done) | (simp [*]; done)), H', ⟨by have := HK1.out; omega⟩, ⟨rf_ HO302.out BK296.out (by decide) (fun _ hk => trivial)⟩, ⟨hf_ BK293.out NB293_296.out⟩, ⟨hf_ BK294.out NB294_296.out⟩, ⟨by (with_reducible repeat (first | refine blk_drewN ?_ _ | refine blk_drew ?_ | refine blk_alloc ?_ _)); refine blk_put (cs := #[.int .i64 a3, .int .i64 a4, u297002]) ?_ 2 _ rfl; (with_reducible repeat (first | refine blk_drewN ?_ _ | refine blk_drew ?_ | refine blk_alloc ?_ _)); exact BK296.out⟩, ⟨bp_⟩⟩
       rw [if_neg c19] at H
       exact absurd H (by simp)
     rw [if_neg c17] at H
     have c17b0 : decide (x26_1 < a4) = false := decide_eq_false c17
     clear c17; simp only [Option.some.injEq, Prod.mk.injEq] at H; obtain ⟨rfl, rfl, rfl, rfl⟩ := H; have hnb26 := NB296_294.out; have hnc26 := NB294_296.out
     have hcz27_0 : wr.cell? ⟨gb296, 0, none⟩ = some (.int .i64 a3) := bc_ BK296.out 0
     have hcz27_1 : wr.cell? ⟨gb296, 1, none⟩ = some (.int .i64 a4) := bc_ BK296.out 1
     have hcz27_2 : wr.cell? ⟨gb296, 2, none⟩ = some (u297002) := bc_ BK296.out 2
     have hfz27_0 := blk_frozen BK296.out 0; have hfz27_1 := blk_frozen BK296.out 1; have hfz27_2 := blk_frozen BK296.out 2
     have hcz28_0 : wr.cell? ⟨gb294, 0, none⟩ = some (.int .i64 0) := bc_ BK294.out 0
     have hcz28_1 : wr.cell? ⟨gb294, 1, none⟩ = some (.int .i64 0) := bc_ BK294.out 1
     have hcz28_2 : wr.cell? ⟨gb294, 2, none⟩ = some (.slice none 0 0) := bc_ BK294.out 2
     have hfz28_0 := blk_frozen BK294.out 0; have hfz28_1 := blk_frozen BK294.out 1; have hfz28_2 := blk_frozen BK294.out 2
     obtain ⟨Ao29, co29, eo29⟩ := Kd.R_slice HO_297002.out
     subst eo29
     go_wp2
     refine bodyPost_ret (results_ct rfl _ _ gb294 32 #[.int .i64 a3, .int .i64 a4, .slice Ao29 x297002_1.length co29] (0, 0) _ rfl (by (with_reducible repeat (first | refine blk_drewN ?_ _ | refine blk_drew ?_ | refine blk_alloc ?_ _)); refine blk_put (cs := #[.int .i64 a3, .int .i64 a4, .slice none 0 0]) ?_ 2 _ rfl; (with_reducible repeat (first | refine blk_drewN ?_ _ | refine blk_drew ?_ | refine blk_alloc ?_ _)); refine blk_put (cs := #[.int .i64 a3, .int .i64 0, .slice none 0 0]) ?_ 1 _ rfl; (with_reducible repeat (first | refine blk_drewN ?_ _ | refine blk_drew ?_ | refine blk_alloc ?_ _)); refine blk_put (cs := #[.int .i64 0, .int .i64 0, .slice none 0 0]) ?_ 0 _ rfl; (with_reducible repeat (first | refine blk_drewN ?_ _ | refine blk_drew ?_ | refine blk_alloc ?_ _)); exact BK294.out) Try.underlying32 rfl (by kernel_rfl)) rfl ?_
     exact ⟨_, by first | rfl | (simp [errW_none, errW_some] <;> rfl) | (simp [*, errW_none, errW_some] <;> rfl), rf_ HO_297002.out BK294.out (by decide) (fun _ hk => trivial), bp_⟩
 replace c7 := Bool.eq_false_iff.mpr c7
 subst c7
 have H1 : (some (0, 0, ([] : List Int), false)) = some (r1, r2, r3, r4) := by rw [if_neg (show ¬ (false = true) by decide)] at H; exact H
 clear H
 have H := H1
 clear H1
 simp only [Option.some.injEq, Prod.mk.injEq] at H
 obtain ⟨rfl, rfl, rfl, rfl⟩ := H
 go_enter Try.func21, Try.ntmps21
 go_wp2_with (first | ((with_reducible refine gate_dst (N := 5) rfl ?_); refine box_event ?hg (N := 5) ?hd (cs := #[.int .i64 a0_0, .int .i64 a0_1, .slice A0_2 l0_2.length c0_2]) (t := 32) ?hr ?_; (case hd => rfl); (case hg => rfl); (case hr => first | (go_simp; done) | (go_simp; rfl)); intro gb293 hg w30 hbox hb; have BK293 := Aside0.mk (hbox); have GW293 := Aside0.mk ((by rw [hg]; exact (below_size bp_) : w.heap.size ≤ gb293)); have GE293 := Aside0.mk ((by rw [hg]; exact (below_size bp_) : w.heap.size ≤ gb293)); replace HB := Aside0.mk (below_step bp_ hb); clear hb hbox hg) | ((with_reducible refine gate_dst (N := 10) rfl ?_); refine box_event ?hg (N := 10) ?hd (cs := #[.int .i64 0, .int .i64 0, .slice none 0 0]) (t := 32) ?hr ?_; (case hd => rfl); (case hg => rfl); (case hr => first | (go_simp; done) | (go_simp; rfl)); intro gb294 hg w31 hbox hb; have BK294 := Aside0.mk (hbox); have GW294 := Aside0.mk ((by rw [hg]; exact (below_size bp_) : w.heap.size ≤ gb294)); have GE294 := Aside0.mk ((by rw [hg]; exact (below_size bp_) : w.heap.size ≤ gb294)); replace HB := Aside0.mk (below_step bp_ hb); have NB293_294 := Aside0.mk ((nlt_ hg (hp_ BK293.out))); have NB294_293 := Aside0.mk ((ngt_ hg (hp_ BK293.out))); replace BK293 := kb_ BK293.out hb; clear hb hbox hg; have hnb32 := NB293_294.out; have hnc32 := NB294_293.out; have hcz33_0 : w31.cell? ⟨gb293, 0, none⟩ = some (.int .i64 a0_0) := bc_ BK293.out 0; have hcz33_1 : w31.cell? ⟨gb293, 1, none⟩ = some (.int .i64 a0_1) := bc_ BK293.out 1; have hcz33_2 : w31.cell? ⟨gb293, 2, none⟩ = some (.slice A0_2 l0_2.length c0_2) := bc_ BK293.out 2; have hfz33_0 := blk_frozen BK293.out 0; have hfz33_1 := blk_frozen BK293.out 1; have hfz33_2 := blk_frozen BK293.out 2) | ((with_reducible refine gate_callee (f := 44) rfl ?_); refine goQ_ (some 19) Try.func44 #[.agg #[.int .i64 a0_0, .int .i64 a0_1, .slice A0_2 l0_2.length c0_2], .int .i64 a1, .int .i64 a2, .int .i64 a3, .int .i64 a4] ?_; (with_reducible refine (rect_Matrix_inside.calls a0_0 a0_1 _ _ l0_2 a1 a2 a3 a4 false _ ?side1 ?side2 A6.out).mono ?_); (case side1 => repeat (first | exact (Kd.C_below HR0_2.out HB.out) | (with_reducible refine Kd.C_alloc ?_ _) | (with_reducible refine Kd.C_drewN ?_ _) | (with_reducible refine Kd.C_drew ?_))); (case side2 => exact HC0_2.out); rintro e w34 ⟨rfl, hb⟩; refine ⟨_, rfl, ?_⟩; replace BK294 := kb_ BK294.out hb; replace HB := Aside0.mk (below_step bp_ hb); (try clear hb); (try clear hb2); (try clear hk); (try clear hi); have hcz35_0 : w34.cell? ⟨gb294, 0, none⟩ = some (.int .i64 0) := bc_ BK294.out 0; have hcz35_1 : w34.cell? ⟨gb294, 1, none⟩ = some (.int .i64 0) := bc_ BK294.out 1; have hcz35_2 : w34.cell? ⟨gb294, 2, none⟩ = some (.slice none 0 0) := bc_ BK294.out 2; have hfz35_0 := blk_frozen BK294.out 0; have hfz35_1 := blk_frozen BK294.out 1; have hfz35_2 := blk_frozen BK294.out 2))
 refine bodyPost_ret (results_ct rfl _ _ gb294 32 #[.int .i64 0, .int .i64 0, .slice none 0 0] (0, 0) _ rfl (by (with_reducible repeat (first | refine blk_drewN ?_ _ | refine blk_drew ?_ | refine blk_alloc ?_ _)); refine blk_put (cs := #[.int .i64 0, .int .i64 0, .slice none 0 0]) ?_ 2 _ rfl; (with_reducible repeat (first | refine blk_drewN ?_ _ | refine blk_drew ?_ | refine blk_alloc ?_ _)); refine blk_put (cs := #[.int .i64 0, .int .i64 0, .slice none 0 0]) ?_ 1 _ rfl; (with_reducible repeat (first | refine blk_drewN ?_ _ | refine blk_drew ?_ | refine blk_alloc ?_ _)); refine blk_put (cs := #[.int .i64 0, .int .i64 0, .slice none 0 0]) ?_ 0 _ rfl; (with_reducible repeat (first | refine blk_drewN ?_ _ | refine blk_drew ?_ | refine blk_alloc ?_ _)); exact BK294.out) Try.underlying32 rfl (by kernel_rfl)) rfl ?_
 exact ⟨_, by first | rfl | (simp [errW_none, errW_some] <;> rfl) | (simp [*, errW_none, errW_some] <;> rfl), by first | exact Kd.R_nil _ _ _ _ _ | exact Kd.N_nil _ _ _ _ _ | exact Kd.V_nil _ _ _ _ _ | exact Kd.Q_nil _ _ _ _ _ | exact Kd.S_nil _ _ _ _ _, bp_⟩


/-! ### rect_Same: function 22 -/
def rect_Same.f (k : Nat) (a0_0 : Int) (a0_1 : Int) (l0_2 : List Int) (a1_0 : Int) (a1_1 : Int) (l1_2 : List Int) : Option (Bool) := if a0_0 = a1_0 then (if a0_1 = a1_1 then ((api_Pixel_47.f k l0_2 l1_2).bind fun t305 => (some t305)) else (some false)) else (some false)
theorem rect_Same.mono : ∀ a0 a1 a2 a3 a4 a5 k, LeO (rect_Same.f k a0 a1 a2 a3 a4 a5) (rect_Same.f (k + 1) a0 a1 a2 a3 a4 a5) := by
 intro a0 a1 a2 a3 a4 a5 k
 unfold rect_Same.f
 repeat' first
  | (with_reducible exact api_Pixel_47.mono _ _ _)
  | (with_reducible exact LeO.refl _)
  | (with_reducible exact LeO.none _)
  | (with_reducible refine LeO.ite ?_ ?_)
  | (with_reducible refine LeO.bind ?_ (fun _ => ?_))
  | exact api_Pixel_47.mono _ _ _
  | exact LeO.none _
  | refine LeO.ite ?_ ?_
  | refine LeO.bind ?_ (fun _ => ?_)
set_option maxHeartbeats 8000000 in
set_option maxRecDepth 100000 in
theorem rect_Same.calls (k : Nat) (a0_0 : Int) (a0_1 : Int) (A0_2 : Option Addr) (c0_2 : Nat) (l0_2 : List Int) (a1_0 : Int) (a1_1 : Int) (A1_2 : Option Addr) (c1_2 : Nat) (l1_2 : List Int) (r : Bool) (w : World) (hr0_2 : Kd.C (Kd.int .u64) w A0_2 l0_2.length l0_2) (hc0_2 : l0_2.length ≤ c0_2) (hr1_2 : Kd.C (Kd.int .u64) w A1_2 l1_2.length l1_2) (hc1_2 : l1_2.length ≤ c1_2) (h : rect_Same.f k a0_0 a0_1 l0_2 a1_0 a1_1 l1_2 = some r) :
 Calls Try.prog 22 #[.agg #[.int .i64 a0_0, .int .i64 a0_1, .slice A0_2 l0_2.length c0_2], .agg #[.int .i64 a1_0, .int .i64 a1_1, .slice A1_2 l1_2.length c1_2]] w fun e w' => e = .returned (.bool r) ∧ Below w.heap.size w w' := by
 have hu32 := Try.underlying32
 have HR0_2 := Aside0.mk hr0_2
 have HC0_2 := Aside0.mk hc0_2
 clear hr0_2 hc0_2
 have HR1_2 := Aside0.mk hr1_2
 have HC1_2 := Aside0.mk hc1_2
 clear hr1_2 hc1_2
 have HB := Aside0.mk (Below.refl w.heap.size w)
 have H : (if a0_0 = a1_0 then (if a0_1 = a1_1 then ((api_Pixel_47.f k l0_2 l1_2).bind fun t305 => (some t305)) else (some false)) else (some false)) = some r := h
 clear h
 by_cases c3 : a0_0 = a1_0
 · rw [if_pos c3] at H
   have c3b0 : (a0_0 == a1_0) = true := beq_iff_eq.mpr c3
   have c3b1 : (a0_0 != a1_0) = false := bne_eq_false_iff_eq.mpr c3
   clear c3
   by_cases c4 : a0_1 = a1_1
   · rw [if_pos c4] at H
     have c4b0 : (a0_1 == a1_1) = true := beq_iff_eq.mpr c4
     have c4b1 : (a0_1 != a1_1) = false := bne_eq_false_iff_eq.mpr c4
     clear c4; replace H := Option.bind_eq_some_iff.mp H; obtain ⟨t305, A50, H⟩ := H
     replace H : (some t305) = some r := H
     have A5 := Aside0.mk A50; clear A50
     obtain rfl := Option.some.inj H
     go_enter Try.func22, Try.ntmps22
     go_wp2_with (first | ((with_reducible refine gate_dst (N := 2) rfl ?_); refine box_event ?hg (N := 2) ?hd (cs := #[.int .i64 a0_0, .int .i64 a0_1, .slice A0_2 l0_2.length c0_2]) (t := 32) ?hr ?_; (case hd => rfl); (case hg => rfl); (case hr => first | (go_simp; done) | (go_simp; rfl)); intro gb303 hg w6 hbox hb; have BK303 := Aside0.mk (hbox); have GW303 := Aside0.mk ((by rw [hg]; exact (below_size bp_) : w.heap.size ≤ gb303)); have GE303 := Aside0.mk ((by rw [hg]; exact (below_size bp_) : w.heap.size ≤ gb303)); replace HB := Aside0.mk (below_step bp_ hb); clear hb hbox hg) | ((with_reducible refine gate_dst (N := 3) rfl ?_); refine box_event ?hg (N := 3) ?hd (cs := #[.int .i64 a1_0, .int .i64 a1_1, .slice A1_2 l1_2.length c1_2]) (t := 32) ?hr ?_; (case hd => rfl); (case hg => rfl); (case hr => first | (go_simp; done) | (go_simp; rfl)); intro gb304 hg w7 hbox hb; have BK304 := Aside0.mk (hbox); have GW304 := Aside0.mk ((by rw [hg]; exact (below_size bp_) : w.heap.size ≤ gb304)); have GE304 := Aside0.mk ((by rw [hg]; exact (below_size bp_) : w.heap.size ≤ gb304)); replace HB := Aside0.mk (below_step bp_ hb); have NB303_304 := Aside0.mk ((nlt_ hg (hp_ BK303.out))); have NB304_303 := Aside0.mk ((ngt_ hg (hp_ BK303.out))); replace BK303 := kb_ BK303.out hb; clear hb hbox hg; have hnb8 := NB303_304.out; have hnc8 := NB304_303.out; have hcz9_0 : w7.cell? ⟨gb303, 0, none⟩ = some (.int .i64 a0_0) := bc_ BK303.out 0; have hcz9_1 : w7.cell? ⟨gb303, 1, none⟩ = some (.int .i64 a0_1) := bc_ BK303.out 1; have hcz9_2 : w7.cell? ⟨gb303, 2, none⟩ = some (.slice A0_2 l0_2.length c0_2) := bc_ BK303.out 2; have hfz9_0 := blk_frozen BK303.out 0; have hfz9_1 := blk_frozen BK303.out 1; have hfz9_2 := blk_frozen BK303.out 2; have hcz10_0 : w7.cell? ⟨gb304, 0, none⟩ = some (.int .i64 a1_0) := bc_ BK304.out 0; have hcz10_1 : w7.cell? ⟨gb304, 1, none⟩ = some (.int .i64 a1_1) := bc_ BK304.out 1; have hcz10_2 : w7.cell? ⟨gb304, 2, none⟩ = some (.slice A1_2 l1_2.length c1_2) := bc_ BK304.out 2; have hfz10_0 := blk_frozen BK304.out 0; have hfz10_1 := blk_frozen BK304.out 1; have hfz10_2 := blk_frozen BK304.out 2) | (go_at_call 47; (with_reducible refine (api_Pixel_47.calls k _ _ l0_2 _ _ l1_2 t305 _ ?side1 ?side2 ?side3 ?side4 A5.out).mono ?_); (case side1 => repeat (first | exact (Kd.C_below HR0_2.out HB.out) | (with_reducible refine Kd.C_alloc ?_ _) | (with_reducible refine Kd.C_drewN ?_ _) | (with_reducible refine Kd.C_drew ?_))); (case side2 => exact HC0_2.out); (case side3 => repeat (first | exact (Kd.C_below HR1_2.out HB.out) | (with_reducible refine Kd.C_alloc ?_ _) | (with_reducible refine Kd.C_drewN ?_ _) | (with_reducible refine Kd.C_drew ?_))); (case side4 => exact HC1_2.out); rintro e w' ⟨rfl, ⟨nd, rfl⟩⟩))
     go_ret
     exact ⟨by first | rfl | (simp [errW_none, errW_some] <;> rfl) | (simp [*, errW_none, errW_some] <;> rfl), bp_⟩
   rw [if_neg c4] at H
   have c4b0 : (a0_1 == a1_1) = false := beq_eq_false_iff_ne.mpr c4
   have c4b1 : (a0_1 != a1_1) = true := bne_iff_ne.mpr c4
   obtain rfl := Option.some.inj H
   go_enter Try.func22, Try.ntmps22
   go_wp2_with (first | ((with_reducible refine gate_dst (N := 2) rfl ?_); refine box_event ?hg (N := 2) ?hd (cs := #[.int .i64 a0_0, .int .i64 a0_1, .slice A0_2 l0_2.length c0_2]) (t := 32) ?hr ?_; (case hd => rfl); (case hg => rfl); (case hr => first | (go_simp; done) | (go_simp; rfl)); intro gb303 hg w11 hbox hb; have BK303 := Aside0.mk (hbox); have GW303 := Aside0.mk ((by rw [hg]; exact (below_size bp_) : w.heap.size ≤ gb303)); have GE303 := Aside0.mk ((by rw [hg]; exact (below_size bp_) : w.heap.size ≤ gb303)); replace HB := Aside0.mk (below_step bp_ hb); clear hb hbox hg) | ((with_reducible refine gate_dst (N := 3) rfl ?_); refine box_event ?hg (N := 3) ?hd (cs := #[.int .i64 a1_0, .int .i64 a1_1, .slice A1_2 l1_2.length c1_2]) (t := 32) ?hr ?_; (case hd => rfl); (case hg => rfl); (case hr => first | (go_simp; done) | (go_simp; rfl)); intro gb304 hg w12 hbox hb; have BK304 := Aside0.mk (hbox); have GW304 := Aside0.mk ((by rw [hg]; exact (below_size bp_) : w.heap.size ≤ gb304)); have GE304 := Aside0.mk ((by rw [hg]; exact (below_size bp_) : w.heap.size ≤ gb304)); replace HB := Aside0.mk (below_step bp_ hb); have NB303_304 := Aside0.mk ((nlt_ hg (hp_ BK303.out))); have NB304_303 := Aside0.mk ((ngt_ hg (hp_ BK303.out))); replace BK303 := kb_ BK303.out hb; clear hb hbox hg; have hnb13 := NB303_304.out; have hnc13 := NB304_303.out; have hcz14_0 : w12.cell? ⟨gb303, 0, none⟩ = some (.int .i64 a0_0) := bc_ BK303.out 0; have hcz14_1 : w12.cell? ⟨gb303, 1, none⟩ = some (.int .i64 a0_1) := bc_ BK303.out 1; have hcz14_2 : w12.cell? ⟨gb303, 2, none⟩ = some (.slice A0_2 l0_2.length c0_2) := bc_ BK303.out 2; have hfz14_0 := blk_frozen BK303.out 0; have hfz14_1 := blk_frozen BK303.out 1; have hfz14_2 := blk_frozen BK303.out 2; have hcz15_0 : w12.cell? ⟨gb304, 0, none⟩ = some (.int .i64 a1_0) := bc_ BK304.out 0; have hcz15_1 : w12.cell? ⟨gb304, 1, none⟩ = some (.int .i64 a1_1) := bc_ BK304.out 1; have hcz15_2 : w12.cell? ⟨gb304, 2, none⟩ = some (.slice A1_2 l1_2.length c1_2) := bc_ BK304.out 2; have hfz15_0 := blk_frozen BK304.out 0; have hfz15_1 := blk_frozen BK304.out 1; have hfz15_2 := blk_frozen BK304.out 2))
   go_ret
   exact ⟨by first | rfl | (simp [errW_none, errW_some] <;> rfl) | (simp [*, errW_none, errW_some] <;> rfl), bp_⟩
 rw [if_neg c3] at H
 have c3b0 : (a0_0 == a1_0) = false := beq_eq_false_iff_ne.mpr c3
 have c3b1 : (a0_0 != a1_0) = true := bne_iff_ne.mpr c3
 obtain rfl := Option.some.inj H
 go_enter Try.func22, Try.ntmps22
 go_wp2_with (first | ((with_reducible refine gate_dst (N := 2) rfl ?_); refine box_event ?hg (N := 2) ?hd (cs := #[.int .i64 a0_0, .int .i64 a0_1, .slice A0_2 l0_2.length c0_2]) (t := 32) ?hr ?_; (case hd => rfl); (case hg => rfl); (case hr => first | (go_simp; done) | (go_simp; rfl)); intro gb303 hg w16 hbox hb; have BK303 := Aside0.mk (hbox); have GW303 := Aside0.mk ((by rw [hg]; exact (below_size bp_) : w.heap.size ≤ gb303)); have GE303 := Aside0.mk ((by rw [hg]; exact (below_size bp_) : w.heap.size ≤ gb303)); replace HB := Aside0.mk (below_step bp_ hb); clear hb hbox hg) | ((with_reducible refine gate_dst (N := 3) rfl ?_); refine box_event ?hg (N := 3) ?hd (cs := #[.int .i64 a1_0, .int .i64 a1_1, .slice A1_2 l1_2.length c1_2]) (t := 32) ?hr ?_; (case hd => rfl); (case hg => rfl); (case hr => first | (go_simp; done) | (go_simp; rfl)); intro gb304 hg w17 hbox hb; have BK304 := Aside0.mk (hbox); have GW304 := Aside0.mk ((by rw [hg]; exact (below_size bp_) : w.heap.size ≤ gb304)); have GE304 := Aside0.mk ((by rw [hg]; exact (below_size bp_) : w.heap.size ≤ gb304)); replace HB := Aside0.mk (below_step bp_ hb); have NB303_304 := Aside0.mk ((nlt_ hg (hp_ BK303.out))); have NB304_303 := Aside0.mk ((ngt_ hg (hp_ BK303.out))); replace BK303 := kb_ BK303.out hb; clear hb hbox hg; have hnb18 := NB303_304.out; have hnc18 := NB304_303.out; have hcz19_0 : w17.cell? ⟨gb303, 0, none⟩ = some (.int .i64 a0_0) := bc_ BK303.out 0; have hcz19_1 : w17.cell? ⟨gb303, 1, none⟩ = some (.int .i64 a0_1) := bc_ BK303.out 1; have hcz19_2 : w17.cell? ⟨gb303, 2, none⟩ = some (.slice A0_2 l0_2.length c0_2) := bc_ BK303.out 2; have hfz19_0 := blk_frozen BK303.out 0; have hfz19_1 := blk_frozen BK303.out 1; have hfz19_2 := blk_frozen BK303.out 2; have hcz20_0 : w17.cell? ⟨gb304, 0, none⟩ = some (.int .i64 a1_0) := bc_ BK304.out 0; have hcz20_1 : w17.cell? ⟨gb304, 1, none⟩ = some (.int .i64 a1_1) := bc_ BK304.out 1; have hcz20_2 : w17.cell? ⟨gb304, 2, none⟩ = some (.slice A1_2 l1_2.length c1_2) := bc_ BK304.out 2; have hfz20_0 := blk_frozen BK304.out 0; have hfz20_1 := blk_frozen BK304.out 1; have hfz20_2 := blk_frozen BK304.out 2))
 go_ret
 exact ⟨by first | rfl | (simp [errW_none, errW_some] <;> rfl) | (simp [*, errW_none, errW_some] <;> rfl), bp_⟩

end Go.Proofs.Ytidpaaemfiopkaa.Q
