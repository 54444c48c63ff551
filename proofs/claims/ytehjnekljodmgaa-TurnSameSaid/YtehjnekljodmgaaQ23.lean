-- written by our own program (wip/tools/myprint.py) out of the translation, by the kit's print; Lean checks it
import Derived.Test.YtehjnekljodmgaaQ0
import Derived.Test.YtehjnekljodmgaaQ3
import Derived.Test.YtehjnekljodmgaaQ11
namespace Go.Proofs.Ytehjnekljodmgaa.Q
open Go.RowKit Go.Proofs.YtehjnekljodmgaaW.PrintWords Go.Proofs.YtehjnekljodmgaaW.PrintLast Go.Proofs.YtehjnekljodmgaaW.PrintMore
attribute [local go_sem] max2_int min2_int max_two min_two max_three min_three max_four min_four   -- for this text's walks alone
set_option linter.unusedVariables false
set_option linter.unusedSimpArgs false


/-! ### turn_Same: function 33 -/
def turn_Same.l0 : Nat → List Int → Int → Int → Int → List Int → Option (List Int)
 | 0, _, _, _, _, _ => none
 | k + 1, x3, x7, x593000, x593001, x593002 => if x7 < 8 then ((turn_Lay.f k x593000 x593001 x593002 x7).bind fun bt593 => (if bt593.2.2.2 = 0 then ((rect_Same.f k x593000 x593001 x593002 bt593.1 bt593.2.1 bt593.2.2.1).bind fun t600 => (if t600 = true then (if x3.length < 17592186044416 then (turn_Same.l0 k (x3 ++ [x7]) (wrap64 (x7 + 1)) x593000 x593001 x593002) else (none)) else (turn_Same.l0 k x3 (wrap64 (x7 + 1)) x593000 x593001 x593002))) else (turn_Same.l0 k x3 (wrap64 (x7 + 1)) x593000 x593001 x593002))) else (some x3)
def turn_Same.f (k : Nat) (a0_0 : Int) (a0_1 : Int) (l0_2 : List Int) : Option (List Int) := turn_Same.l0 k ([] : List Int) 0 a0_0 a0_1 l0_2
theorem turn_Same.mono_l : ∀ k, (∀ y0 y1 y2 y3 y4, LeO (turn_Same.l0 k y0 y1 y2 y3 y4) (turn_Same.l0 (k + 1) y0 y1 y2 y3 y4))
 | 0 => fun _ _ _ _ _ r h => by simp [turn_Same.l0] at h
 | k + 1 => by
  have ih0 := turn_Same.mono_l k
  · intro y0 y1 y2 y3 y4
    unfold turn_Same.l0
    repeat' first
    | (with_reducible exact ih0 _ _ _ _ _)
    | (with_reducible exact rect_Same.mono _ _ _ _ _ _ _)
    | (with_reducible exact turn_Lay.mono _ _ _ _ _)
    | (with_reducible exact LeO.refl _)
    | (with_reducible exact LeO.none _)
    | (with_reducible refine LeO.ite ?_ ?_)
    | (with_reducible refine LeO.bind ?_ (fun _ => ?_))
    | exact ih0 _ _ _ _ _
    | exact rect_Same.mono _ _ _ _ _ _ _
    | exact turn_Lay.mono _ _ _ _ _
    | exact LeO.none _
    | refine LeO.ite ?_ ?_
    | refine LeO.bind ?_ (fun _ => ?_)
theorem turn_Same.mono : ∀ a0 a1 a2 k, LeO (turn_Same.f k a0 a1 a2) (turn_Same.f (k + 1) a0 a1 a2) := by
 intro a0 a1 a2 k
 have ih0 := turn_Same.mono_l k
 unfold turn_Same.f
 repeat' first
  | (with_reducible exact ih0 _ _ _ _ _)
  | (with_reducible exact rect_Same.mono _ _ _ _ _ _ _)
  | (with_reducible exact turn_Lay.mono _ _ _ _ _)
  | (with_reducible exact LeO.refl _)
  | (with_reducible exact LeO.none _)
  | (with_reducible refine LeO.ite ?_ ?_)
  | (with_reducible refine LeO.bind ?_ (fun _ => ?_))
  | exact ih0 _ _ _ _ _
  | exact rect_Same.mono _ _ _ _ _ _ _
  | exact turn_Lay.mono _ _ _ _ _
  | exact LeO.none _
  | refine LeO.ite ?_ ?_
  | refine LeO.bind ?_ (fun _ => ?_)
set_option maxHeartbeats 8000000 in
set_option maxRecDepth 100000 in
theorem turn_Same.calls (k : Nat) (a0_0 : Int) (a0_1 : Int) (A0_2 : Option Addr) (c0_2 : Nat) (l0_2 : List Int) (r : List Int) (w : World) (hr0_2 : Kd.C (Kd.int .u64) w A0_2 l0_2.length l0_2) (hc0_2 : l0_2.length ≤ c0_2) (h : turn_Same.f k a0_0 a0_1 l0_2 = some r) :
 Calls Try.prog 33 #[.agg #[.int .i64 a0_0, .int .i64 a0_1, .slice A0_2 l0_2.length c0_2]] w fun e w' => ∃ v0_ : Value, e = .returned (v0_) ∧ Kd.R (Kd.int .i64) 3 w' w.heap.size (fun _ => True) v0_ r ∧ Below w.heap.size w w' := by
 have hu26 := Try.underlying26
 have HR0_2 := Aside0.mk hr0_2
 have HC0_2 := Aside0.mk hc0_2
 clear hr0_2 hc0_2
 have HB := Aside0.mk (Below.refl w.heap.size w)
 have H : (turn_Same.l0 k ([] : List Int) 0 a0_0 a0_1 l0_2) = some r := h
 clear h
 have H' := Aside0.mk H
 clear H
 go_enter Try.func33, Try.ntmps33
 go_wp2_with (first | ((with_reducible refine gate_dst (N := 1) rfl ?_); refine box_event ?hg (N := 1) ?hd (cs := #[.int .i64 a0_0, .int .i64 a0_1, .slice A0_2 l0_2.length c0_2]) (t := 26) ?hr ?_; (case hd => rfl); (case hg => rfl); (case hr => first | (go_simp; done) | (go_simp; rfl)); intro gb592 hg w2 hbox hb; have BK592 := Aside0.mk (hbox); have GW592 := Aside0.mk ((by rw [hg]; exact (below_size bp_) : w.heap.size ≤ gb592)); have GE592 := Aside0.mk ((by rw [hg]; exact (below_size bp_) : w.heap.size ≤ gb592)); replace HB := Aside0.mk (below_step bp_ hb); clear hb hbox hg))
 go_loopg [3, 7] k (fun kq v3 v7 w' => ∃ (x3_1 : List Int) (x7_1 : Int), v7 = .int .i64 x7_1 ∧ Aside0 (turn_Same.l0 kq x3_1 x7_1 a0_0 a0_1 l0_2 = some r) ∧ Aside0 (kq ≤ k) ∧ Aside0 (Kd.R (Kd.int .i64) 3 w' w.heap.size (fun _ => True) v3 x3_1) ∧ Aside0 (w'.heap[gb592]? = some (.cells #[.int .i64 a0_0, .int .i64 a0_1, (.slice A0_2 l0_2.length c0_2)] 26 (0, 0))) ∧ Aside0 (Below w.heap.size w w'))
 case atStart => exact ⟨(([] : List Int)), (0), (by first | rfl | (simp; done) | (simp [*]; done)), H', ⟨Nat.le_refl _⟩, ⟨by first | exact Kd.R_nil _ _ _ _ _ | exact Kd.N_nil _ _ _ _ _ | exact Kd.V_nil _ _ _ _ _ | exact Kd.Q_nil _ _ _ _ _ | exact Kd.S_nil _ _ _ _ _⟩, ⟨hp_ BK592.out⟩, ⟨bp_⟩⟩
 case round =>
  clear H'
  try clear p2
  obtain ⟨x3_1, x7_1, rfl, HA, HK1, HO_3, BK592, HB⟩ := hrel
  cases gk with
  | zero => exact absurd HA.out (by simp [turn_Same.l0])
  | succ k1 =>
   have H := HA.out
   clear HA
   simp only [turn_Same.l0] at H
   by_cases c3 : x7_1 < 8
   · rw [if_pos c3] at H
     have c3b0 : decide (x7_1 < 8) = true := decide_eq_true c3
     clear c3
     replace H := Option.bind_eq_some_iff.mp H
     obtain ⟨⟨t593, t594, t595, t598⟩, A40, H⟩ := H
     replace H : (if t598 = 0 then ((rect_Same.f k1 a0_0 a0_1 l0_2 t593 t594 t595).bind fun t600 => (if t600 = true then (if x3_1.length < 17592186044416 then (turn_Same.l0 k1 (x3_1 ++ [x7_1]) (wrap64 (x7_1 + 1)) a0_0 a0_1 l0_2) else (none)) else (turn_Same.l0 k1 x3_1 (wrap64 (x7_1 + 1)) a0_0 a0_1 l0_2))) else (turn_Same.l0 k1 x3_1 (wrap64 (x7_1 + 1)) a0_0 a0_1 l0_2)) = some r := H
     have A4 := Aside0.mk A40
     clear A40
     by_cases c5 : t598 = 0
     · rw [if_pos c5] at H
       have c5b0 : (t598 == 0) = true := beq_iff_eq.mpr c5
       have c5b1 : (t598 != 0) = false := bne_eq_false_iff_eq.mpr c5
       clear c5
       replace H := Option.bind_eq_some_iff.mp H
       obtain ⟨t600, A60, H⟩ := H
       replace H : (if t600 = true then (if x3_1.length < 17592186044416 then (turn_Same.l0 k1 (x3_1 ++ [x7_1]) (wrap64 (x7_1 + 1)) a0_0 a0_1 l0_2) else (none)) else (turn_Same.l0 k1 x3_1 (wrap64 (x7_1 + 1)) a0_0 a0_1 l0_2)) = some r := H
       have A6 := Aside0.mk A60
       clear A60
       by_cases c7 : t600 = true
       · subst c7
         have H1 : (if x3_1.length < 17592186044416 then (turn_Same.l0 k1 (x3_1 ++ [x7_1]) (wrap64 (x7_1 + 1)) a0_0 a0_1 l0_2) else (none)) = some r := by rw [if_pos rfl] at H; exact H
         clear H
         have H := H1
         clear H1
         by_cases c8 : x3_1.length < 17592186044416
         · rw [if_pos c8] at H
           have LMc8 := Aside0.mk c8
           clear c8
           obtain ⟨y601, hy601⟩ : ∃ y_ : List Int, y_ = (x3_1 ++ [x7_1]) := ⟨_, rfl⟩
           replace H : (turn_Same.l0 k1 y601 (wrap64 (x7_1 + 1)) a0_0 a0_1 l0_2) = some r := by first | (rw [hy601]; with_reducible exact H) | (have H2_ := (Option.bind_some _ _).symm.trans H; rw [hy601]; with_reducible exact H2_) | (have H2_ := (Option.bind_some _ _).symm.trans H; with_reducible exact H2_) | with_reducible exact H | (rw [hy601]; exact H) | exact H
           have Ny601 := Aside0.mk hy601
           clear hy601
           have H' := Aside0.mk H
           clear H
           have hcz9_0 : wr.cell? ⟨gb592, 0, none⟩ = some (.int .i64 a0_0) := (blk_cell BK592.out 0).trans rfl
           have hcz9_1 : wr.cell? ⟨gb592, 1, none⟩ = some (.int .i64 a0_1) := (blk_cell BK592.out 1).trans rfl
           have hcz9_2 : wr.cell? ⟨gb592, 2, none⟩ = some (.slice A0_2 l0_2.length c0_2) := (blk_cell BK592.out 2).trans rfl
           have hfz9_0 := blk_frozen BK592.out 0
           have hfz9_1 := blk_frozen BK592.out 1
           have hfz9_2 := blk_frozen BK592.out 2
           go_wp2_with (first | ((with_reducible refine gate_callee (f := 12) rfl ?_); refine goQ_ (some 13) Try.func12 #[.agg #[.int .i64 a0_0, .int .i64 a0_1, .slice A0_2 l0_2.length c0_2], .int .i64 x7_1] ?_; (with_reducible refine (turn_Lay.calls k1 a0_0 a0_1 _ _ l0_2 x7_1 t593 t594 t595 t598 _ ?side1 ?side2 A4.out).mono ?_); (case side1 => repeat (first | exact (Kd.C_below HR0_2.out HB.out) | (with_reducible refine Kd.C_alloc ?_ _) | (with_reducible refine Kd.C_drewN ?_ _) | (with_reducible refine Kd.C_drew ?_))); (case side2 => exact HC0_2.out); rintro e w10 ⟨v596, rfl, ho0, hb⟩; refine ⟨_, rfl, ?_⟩; replace HO_3 := Aside0.mk (Kd.R_below (rp_ HO_3.out) hb); have HO597 := Aside0.mk (Kd.R_lower ho0 (below_size bp_)); replace BK592 := Aside0.mk (blk_below (hp_ BK592.out) hb); replace HB := Aside0.mk (below_step bp_ hb); (try clear hb); (try clear hb2); (try clear hk); (try clear hi); (try clear ho0)) | ((with_reducible refine gate_dst (N := 5) rfl ?_); refine box_event ?hg (N := 5) ?hd (cs := #[.int .i64 0, .int .i64 0, .slice none 0 0]) (t := 26) ?hr ?_; (case hd => rfl); (case hg => rfl); (case hr => first | (go_simp; done) | (go_simp; rfl)); intro gb599 hg w11 hbox hb; replace HO_3 := Aside0.mk (Kd.R_below (rp_ HO_3.out) hb); replace HO597 := Aside0.mk (Kd.R_below (rp_ HO597.out) hb); have BK599 := Aside0.mk (hbox); have GW599 := Aside0.mk ((by rw [hg]; exact (below_size bp_) : w.heap.size ≤ gb599)); have GE599 := Aside0.mk ((by rw [hg]; exact (below_size bp_) : w.heap.size ≤ gb599)); replace HB := Aside0.mk (below_step bp_ hb); have NB592_599 := Aside0.mk ((nlt_ hg (hp_ BK592.out))); have NB599_592 := Aside0.mk ((ngt_ hg (hp_ BK592.out))); replace BK592 := Aside0.mk (blk_below (hp_ BK592.out) hb); clear hb hbox hg; have hnb12 := NB599_592.out; have hnc12 := NB592_599.out; have hcz13_0 : w11.cell? ⟨gb599, 0, none⟩ = some (.int .i64 0) := (blk_cell BK599.out 0).trans rfl; have hcz13_1 : w11.cell? ⟨gb599, 1, none⟩ = some (.int .i64 0) := (blk_cell BK599.out 1).trans rfl; have hcz13_2 : w11.cell? ⟨gb599, 2, none⟩ = some (.slice none 0 0) := (blk_cell BK599.out 2).trans rfl; have hfz13_0 := blk_frozen BK599.out 0; have hfz13_1 := blk_frozen BK599.out 1; have hfz13_2 := blk_frozen BK599.out 2; obtain ⟨Ao14, co14, eo14⟩ := Kd.R_slice HO597.out; subst eo14; have hcz15_0 : w11.cell? ⟨gb592, 0, none⟩ = some (.int .i64 a0_0) := (blk_cell BK592.out 0).trans rfl; have hcz15_1 : w11.cell? ⟨gb592, 1, none⟩ = some (.int .i64 a0_1) := (blk_cell BK592.out 1).trans rfl; have hcz15_2 : w11.cell? ⟨gb592, 2, none⟩ = some (.slice A0_2 l0_2.length c0_2) := (blk_cell BK592.out 2).trans rfl; have hfz15_0 := blk_frozen BK592.out 0; have hfz15_1 := blk_frozen BK592.out 1; have hfz15_2 := blk_frozen BK592.out 2) | (go_at_call 47; (with_reducible refine (rect_Same.calls k1 a0_0 a0_1 _ _ l0_2 t593 t594 _ _ t595 true _ ?side1 ?side2 ?side3 ?side4 A6.out).mono ?_); (case side1 => exact Kd.C_below HR0_2.out bp_); (case side2 => exact HC0_2.out); (case side3 => refine (Kd.R_reads' (e := 41) (base := w.heap.size) (ok := fun k_ => True) (n := t595.length) (c := co14) ?_).2.2; exact (by (with_reducible repeat (first | apply Kd.R_alloc | apply Kd.R_drewN | apply Kd.R_drew)); exact (Kd.R_mono (Kd.R_far (p := ⟨gb599, 2, none⟩) (Kd.R_far (p := ⟨gb599, 1, none⟩) (Kd.R_far (p := ⟨gb599, 0, none⟩) (Kd.R_types HO597.out BK599.out (by decide)) (fun _ hk => hk.2) (.int .i64 t593)) (fun _ hk => hk.2) (.int .i64 t594)) (fun _ hk => hk.2) (.slice Ao14 t595.length co14)) (fun _ h_ => h_.1)))); (case side4 => exact (Kd.R_reads' HO597.out).2.1); rintro e w16 ⟨rfl, hb⟩; replace HO_3 := Aside0.mk (Kd.R_below (by (with_reducible repeat (first | apply Kd.R_alloc | apply Kd.R_drewN | apply Kd.R_drew)); exact (Kd.R_mono (Kd.R_far (p := ⟨gb599, 2, none⟩) (Kd.R_far (p := ⟨gb599, 1, none⟩) (Kd.R_far (p := ⟨gb599, 0, none⟩) (Kd.R_types HO_3.out BK599.out (by decide)) (fun _ hk => hk.2) (.int .i64 t593)) (fun _ hk => hk.2) (.int .i64 t594)) (fun _ hk => hk.2) (.slice Ao14 t595.length co14)) (fun _ h_ => h_.1))) hb); replace HO597 := Aside0.mk (Kd.R_below (by (with_reducible repeat (first | apply Kd.R_alloc | apply Kd.R_drewN | apply Kd.R_drew)); exact (Kd.R_mono (Kd.R_far (p := ⟨gb599, 2, none⟩) (Kd.R_far (p := ⟨gb599, 1, none⟩) (Kd.R_far (p := ⟨gb599, 0, none⟩) (Kd.R_types HO597.out BK599.out (by decide)) (fun _ hk => hk.2) (.int .i64 t593)) (fun _ hk => hk.2) (.int .i64 t594)) (fun _ hk => hk.2) (.slice Ao14 t595.length co14)) (fun _ h_ => h_.1))) hb); replace BK592 := Aside0.mk (blk_below (hf_ BK592.out NB592_599.out) hb); replace BK599 := Aside0.mk (blk_below (g := gb599) (o := .cells #[.int .i64 t593, .int .i64 t594, .slice Ao14 t595.length co14] 26 (0, 0)) (by (with_reducible repeat (first | refine blk_drewN ?_ _ | refine blk_drew ?_ | refine blk_alloc ?_ _)); refine blk_put (cs := #[.int .i64 t593, .int .i64 t594, .slice none 0 0]) ?_ 2 _ rfl; (with_reducible repeat (first | refine blk_drewN ?_ _ | refine blk_drew ?_ | refine blk_alloc ?_ _)); refine blk_put (cs := #[.int .i64 t593, .int .i64 0, .slice none 0 0]) ?_ 1 _ rfl; (with_reducible repeat (first | refine blk_drewN ?_ _ | refine blk_drew ?_ | refine blk_alloc ?_ _)); refine blk_put (cs := #[.int .i64 0, .int .i64 0, .slice none 0 0]) ?_ 0 _ rfl; (with_reducible repeat (first | refine blk_drewN ?_ _ | refine blk_drew ?_ | refine blk_alloc ?_ _)); exact BK599.out) hb); replace HB := Aside0.mk (below_step bp_ hb); (try clear hb); (try clear hb2); (try clear hk); (try clear hi)) | ((with_reducible refine gate_builtin (b := .append) (xs := #[.tmp 23, .tmp 25]) rfl ?_); at_builtin; refine Kd.R_append (Kd.int .i64) (w0 := w) w.heap.size rfl (.tmp 23) (.tmp 25) 51 3 (.int .i64 0) 8 rfl Try.underlying51 info3 rfl (by decide) (by omega) u3 x3_1 x7_1 [.int .i64 x7_1] (fun _ => True) (fun _ => False) rfl rfl ?aP (fun _ hk => hk.elim) ?aF ?aO ?aB ?aS ?aL ?_; (case aP => exact rfl); (case aB => exact bp_); (case aF => exact (fun _ _ => trivial)); (case aO => exact (rp_ HO_3.out)); (case aS => exact (below_size bp_)); (case aL => have := LMc8.out; omega); intro v602 w17 ho hb hg hat; rw [← Ny601.out] at ho; replace BK592 := Aside0.mk (blk_grown (g := gb592) (o := .cells #[.int .i64 a0_0, .int .i64 a0_1, .slice A0_2 l0_2.length c0_2] 26 (0, 0)) (hp_ BK592.out) hg (Kd.R_ne HO_3.out BK592.out (by decide))); replace HO597 := Aside0.mk (Kd.R_over' (rp_ HO597.out) (Kd.R_typed (rp_ HO_3.out)) (by decide) hg); replace BK599 := Aside0.mk (blk_grown (g := gb599) (o := .cells #[.int .i64 t593, .int .i64 t594, .slice Ao14 t595.length co14] 26 (0, 0)) (hp_ BK599.out) hg (Kd.R_ne HO_3.out BK599.out (by decide))); replace HB := Aside0.mk (hb); have HO603 := Aside0.mk (ho); clear HO_3; clear ho hb hg hat))
           go_roundg k1
           case measure => have := HK1.out; omega
           case rel => exact ⟨(y601), (wrap64 (x7_1 + 1)), (by first | rfl | (simp; done) | (simp [*]; done)), H', ⟨by have := HK1.out; omega⟩, ⟨rp_ HO603.out⟩, ⟨hp_ BK592.out⟩, ⟨bp_⟩⟩
         · rw [if_neg c8] at H
           exact absurd H (by simp)
       · replace c7 := Bool.eq_false_iff.mpr c7
         subst c7
         have H1 : (turn_Same.l0 k1 x3_1 (wrap64 (x7_1 + 1)) a0_0 a0_1 l0_2) = some r := by rw [if_neg (show ¬ (false = true) by decide)] at H; exact H
         clear H
         have H := H1
         clear H1
         have H' := Aside0.mk H
         clear H
         have hcz18_0 : wr.cell? ⟨gb592, 0, none⟩ = some (.int .i64 a0_0) := (blk_cell BK592.out 0).trans rfl
         have hcz18_1 : wr.cell? ⟨gb592, 1, none⟩ = some (.int .i64 a0_1) := (blk_cell BK592.out 1).trans rfl
         have hcz18_2 : wr.cell? ⟨gb592, 2, none⟩ = some (.slice A0_2 l0_2.length c0_2) := (blk_cell BK592.out 2).trans rfl
         have hfz18_0 := blk_frozen BK592.out 0
         have hfz18_1 := blk_frozen BK592.out 1
         have hfz18_2 := blk_frozen BK592.out 2
         go_wp2_with (first | ((with_reducible refine gate_callee (f := 12) rfl ?_); refine goQ_ (some 13) Try.func12 #[.agg #[.int .i64 a0_0, .int .i64 a0_1, .slice A0_2 l0_2.length c0_2], .int .i64 x7_1] ?_; (with_reducible refine (turn_Lay.calls k1 a0_0 a0_1 _ _ l0_2 x7_1 t593 t594 t595 t598 _ ?side1 ?side2 A4.out).mono ?_); (case side1 => repeat (first | exact (Kd.C_below HR0_2.out HB.out) | (with_reducible refine Kd.C_alloc ?_ _) | (with_reducible refine Kd.C_drewN ?_ _) | (with_reducible refine Kd.C_drew ?_))); (case side2 => exact HC0_2.out); rintro e w19 ⟨v596, rfl, ho0, hb⟩; refine ⟨_, rfl, ?_⟩; replace HO_3 := Aside0.mk (Kd.R_below (rp_ HO_3.out) hb); have HO597 := Aside0.mk (Kd.R_lower ho0 (below_size bp_)); replace BK592 := Aside0.mk (blk_below (hp_ BK592.out) hb); replace HB := Aside0.mk (below_step bp_ hb); (try clear hb); (try clear hb2); (try clear hk); (try clear hi); (try clear ho0)) | ((with_reducible refine gate_dst (N := 5) rfl ?_); refine box_event ?hg (N := 5) ?hd (cs := #[.int .i64 0, .int .i64 0, .slice none 0 0]) (t := 26) ?hr ?_; (case hd => rfl); (case hg => rfl); (case hr => first | (go_simp; done) | (go_simp; rfl)); intro gb599 hg w20 hbox hb; replace HO_3 := Aside0.mk (Kd.R_below (rp_ HO_3.out) hb); replace HO597 := Aside0.mk (Kd.R_below (rp_ HO597.out) hb); have BK599 := Aside0.mk (hbox); have GW599 := Aside0.mk ((by rw [hg]; exact (below_size bp_) : w.heap.size ≤ gb599)); have GE599 := Aside0.mk ((by rw [hg]; exact (below_size bp_) : w.heap.size ≤ gb599)); replace HB := Aside0.mk (below_step bp_ hb); have NB592_599 := Aside0.mk ((nlt_ hg (hp_ BK592.out))); have NB599_592 := Aside0.mk ((ngt_ hg (hp_ BK592.out))); replace BK592 := Aside0.mk (blk_below (hp_ BK592.out) hb); clear hb hbox hg; have hnb21 := NB599_592.out; have hnc21 := NB592_599.out; have hcz22_0 : w20.cell? ⟨gb599, 0, none⟩ = some (.int .i64 0) := (blk_cell BK599.out 0).trans rfl; have hcz22_1 : w20.cell? ⟨gb599, 1, none⟩ = some (.int .i64 0) := (blk_cell BK599.out 1).trans rfl; have hcz22_2 : w20.cell? ⟨gb599, 2, none⟩ = some (.slice none 0 0) := (blk_cell BK599.out 2).trans rfl; have hfz22_0 := blk_frozen BK599.out 0; have hfz22_1 := blk_frozen BK599.out 1; have hfz22_2 := blk_frozen BK599.out 2; obtain ⟨Ao23, co23, eo23⟩ := Kd.R_slice HO597.out; subst eo23; have hcz24_0 : w20.cell? ⟨gb592, 0, none⟩ = some (.int .i64 a0_0) := (blk_cell BK592.out 0).trans rfl; have hcz24_1 : w20.cell? ⟨gb592, 1, none⟩ = some (.int .i64 a0_1) := (blk_cell BK592.out 1).trans rfl; have hcz24_2 : w20.cell? ⟨gb592, 2, none⟩ = some (.slice A0_2 l0_2.length c0_2) := (blk_cell BK592.out 2).trans rfl; have hfz24_0 := blk_frozen BK592.out 0; have hfz24_1 := blk_frozen BK592.out 1; have hfz24_2 := blk_frozen BK592.out 2) | (go_at_call 47; (with_reducible refine (rect_Same.calls k1 a0_0 a0_1 _ _ l0_2 t593 t594 _ _ t595 false _ ?side1 ?side2 ?side3 ?side4 A6.out).mono ?_); (case side1 => exact Kd.C_below HR0_2.out bp_); (case side2 => exact HC0_2.out); (case side3 => refine (Kd.R_reads' (e := 41) (base := w.heap.size) (ok := fun k_ => True) (n := t595.length) (c := co23) ?_).2.2; exact (by (with_reducible repeat (first | apply Kd.R_alloc | apply Kd.R_drewN | apply Kd.R_drew)); exact (Kd.R_mono (Kd.R_far (p := ⟨gb599, 2, none⟩) (Kd.R_far (p := ⟨gb599, 1, none⟩) (Kd.R_far (p := ⟨gb599, 0, none⟩) (Kd.R_types HO597.out BK599.out (by decide)) (fun _ hk => hk.2) (.int .i64 t593)) (fun _ hk => hk.2) (.int .i64 t594)) (fun _ hk => hk.2) (.slice Ao23 t595.length co23)) (fun _ h_ => h_.1)))); (case side4 => exact (Kd.R_reads' HO597.out).2.1); rintro e w25 ⟨rfl, hb⟩; replace HO_3 := Aside0.mk (Kd.R_below (by (with_reducible repeat (first | apply Kd.R_alloc | apply Kd.R_drewN | apply Kd.R_drew)); exact (Kd.R_mono (Kd.R_far (p := ⟨gb599, 2, none⟩) (Kd.R_far (p := ⟨gb599, 1, none⟩) (Kd.R_far (p := ⟨gb599, 0, none⟩) (Kd.R_types HO_3.out BK599.out (by decide)) (fun _ hk => hk.2) (.int .i64 t593)) (fun _ hk => hk.2) (.int .i64 t594)) (fun _ hk => hk.2) (.slice Ao23 t595.length co23)) (fun _ h_ => h_.1))) hb); replace HO597 := Aside0.mk (Kd.R_below (by (with_reducible repeat (first | apply Kd.R_alloc | apply Kd.R_drewN | apply Kd.R_drew)); exact (Kd.R_mono (Kd.R_far (p := ⟨gb599, 2, none⟩) (Kd.R_far (p := ⟨gb599, 1, none⟩) (Kd.R_far (p := ⟨gb599, 0, none⟩) (Kd.R_types HO597.out BK599.out (by decide)) (fun _ hk => hk.2) (.int .i64 t593)) (fun _ hk => hk.2) (.int .i64 t594)) (fun _ hk => hk.2) (.slice Ao23 t595.length co23)) (fun _ h_ => h_.1))) hb); replace BK592 := Aside0.mk (blk_below (hf_ BK592.out NB592_599.out) hb); replace BK599 := Aside0.mk (blk_below (g := gb599) (o := .cells #[.int .i64 t593, .int .i64 t594, .slice Ao23 t595.length co23] 26 (0, 0)) (by (with_reducible repeat (first | refine blk_drewN ?_ _ | refine blk_drew ?_ | refine blk_alloc ?_ _)); refine blk_put (cs := #[.int .i64 t593, .int .i64 t594, .slice none 0 0]) ?_ 2 _ rfl; (with_reducible repeat (first | refine blk_drewN ?_ _ | refine blk_drew ?_ | refine blk_alloc ?_ _)); refine blk_put (cs := #[.int .i64 t593, .int .i64 0, .slice none 0 0]) ?_ 1 _ rfl; (with_reducible repeat (first | refine blk_drewN ?_ _ | refine blk_drew ?_ | refine blk_alloc ?_ _)); refine blk_put (cs := #[.int .i64 0, .int .i64 0, .slice none 0 0]) ?_ 0 _ rfl; (with_reducible repeat (first | refine blk_drewN ?_ _ | refine blk_drew ?_ | refine blk_alloc ?_ _)); exact BK599.out) hb); replace HB := Aside0.mk (below_step bp_ hb); (try clear hb); (try clear hb2); (try clear hk); (try clear hi)))
         go_roundg k1
         case measure => have := HK1.out; omega
         case rel => exact ⟨(x3_1), (wrap64 (x7_1 + 1)), (by first | rfl | (simp; done) | (simp [*]; done)), H', ⟨by have := HK1.out; omega⟩, ⟨rp_ HO_3.out⟩, ⟨hp_ BK592.out⟩, ⟨bp_⟩⟩
     · rw [if_neg c5] at H
       have c5b0 : (t598 == 0) = false := beq_eq_false_iff_ne.mpr c5
       have c5b1 : (t598 != 0) = true := bne_iff_ne.mpr c5
       have H' := Aside0.mk H
       clear H
       have hcz26_0 : wr.cell? ⟨gb592, 0, none⟩ = some (.int .i64 a0_0) := (blk_cell BK592.out 0).trans rfl
       have hcz26_1 : wr.cell? ⟨gb592, 1, none⟩ = some (.int .i64 a0_1) := (blk_cell BK592.out 1).trans rfl
       have hcz26_2 : wr.cell? ⟨gb592, 2, none⟩ = some (.slice A0_2 l0_2.length c0_2) := (blk_cell BK592.out 2).trans rfl
       have hfz26_0 := blk_frozen BK592.out 0
       have hfz26_1 := blk_frozen BK592.out 1
       have hfz26_2 := blk_frozen BK592.out 2
       go_wp2_with (first | ((with_reducible refine gate_callee (f := 12) rfl ?_); refine goQ_ (some 13) Try.func12 #[.agg #[.int .i64 a0_0, .int .i64 a0_1, .slice A0_2 l0_2.length c0_2], .int .i64 x7_1] ?_; (with_reducible refine (turn_Lay.calls k1 a0_0 a0_1 _ _ l0_2 x7_1 t593 t594 t595 t598 _ ?side1 ?side2 A4.out).mono ?_); (case side1 => repeat (first | exact (Kd.C_below HR0_2.out HB.out) | (with_reducible refine Kd.C_alloc ?_ _) | (with_reducible refine Kd.C_drewN ?_ _) | (with_reducible refine Kd.C_drew ?_))); (case side2 => exact HC0_2.out); rintro e w27 ⟨v596, rfl, ho0, hb⟩; refine ⟨_, rfl, ?_⟩; replace HO_3 := Aside0.mk (Kd.R_below (rp_ HO_3.out) hb); have HO597 := Aside0.mk (Kd.R_lower ho0 (below_size bp_)); replace BK592 := Aside0.mk (blk_below (hp_ BK592.out) hb); replace HB := Aside0.mk (below_step bp_ hb); (try clear hb); (try clear hb2); (try clear hk); (try clear hi); (try clear ho0)) | ((with_reducible refine gate_dst (N := 5) rfl ?_); refine box_event ?hg (N := 5) ?hd (cs := #[.int .i64 0, .int .i64 0, .slice none 0 0]) (t := 26) ?hr ?_; (case hd => rfl); (case hg => rfl); (case hr => first | (go_simp; done) | (go_simp; rfl)); intro gb599 hg w28 hbox hb; replace HO_3 := Aside0.mk (Kd.R_below (rp_ HO_3.out) hb); replace HO597 := Aside0.mk (Kd.R_below (rp_ HO597.out) hb); have BK599 := Aside0.mk (hbox); have GW599 := Aside0.mk ((by rw [hg]; exact (below_size bp_) : w.heap.size ≤ gb599)); have GE599 := Aside0.mk ((by rw [hg]; exact (below_size bp_) : w.heap.size ≤ gb599)); replace HB := Aside0.mk (below_step bp_ hb); have NB592_599 := Aside0.mk ((nlt_ hg (hp_ BK592.out))); have NB599_592 := Aside0.mk ((ngt_ hg (hp_ BK592.out))); replace BK592 := Aside0.mk (blk_below (hp_ BK592.out) hb); clear hb hbox hg; have hnb29 := NB599_592.out; have hnc29 := NB592_599.out; have hcz30_0 : w28.cell? ⟨gb599, 0, none⟩ = some (.int .i64 0) := (blk_cell BK599.out 0).trans rfl; have hcz30_1 : w28.cell? ⟨gb599, 1, none⟩ = some (.int .i64 0) := (blk_cell BK599.out 1).trans rfl; have hcz30_2 : w28.cell? ⟨gb599, 2, none⟩ = some (.slice none 0 0) := (blk_cell BK599.out 2).trans rfl; have hfz30_0 := blk_frozen BK599.out 0; have hfz30_1 := blk_frozen BK599.out 1; have hfz30_2 := blk_frozen BK599.out 2; obtain ⟨Ao31, co31, eo31⟩ := Kd.R_slice HO597.out; subst eo31))
       go_roundg k1
       case measure => have := HK1.out; omega
       case rel => exact ⟨(x3_1), (wrap64 (x7_1 + 1)), (by first | rfl | (simp; done) | (simp [*]; done)), H', ⟨by have := HK1.out; omega⟩, ⟨rf_ HO_3.out BK599.out (by decide) (fun _ hk => trivial)⟩, ⟨hf_ BK592.out NB592_599.out⟩, ⟨bp_⟩⟩
   · rw [if_neg c3] at H
     have c3b0 : decide (x7_1 < 8) = false := decide_eq_false c3
     clear c3
     obtain rfl := Option.some.inj H
     go_wp2
     go_ret
     exact ⟨_, by first | rfl | (simp [errW_none, errW_some] <;> rfl) | (simp [*, errW_none, errW_some] <;> rfl), by (with_reducible repeat (first | apply Kd.R_alloc | apply Kd.R_drewN | apply Kd.R_drew)); exact HO_3.out, bp_⟩

end Go.Proofs.Ytehjnekljodmgaa.Q
