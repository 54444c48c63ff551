-- written by our own program (wip/tools/myprint.py) out of the translation, by the kit's print; Lean checks it
import Derived.Test.YtidpaaemfiopkaaQ0
import Derived.Test.YtidpaaemfiopkaaQ2
import Derived.Test.YtidpaaemfiopkaaIrect_Matrix_row
import Derived.Test.YtidpaaemfiopkaaQ13
import Derived.Test.YtidpaaemfiopkaaIapi_Pixel_49
namespace Go.Proofs.Ytidpaaemfiopkaa.Q
open Go.RowKit Go.Proofs.YtidpaaemfiopkaaW.PrintWords Go.Proofs.YtidpaaemfiopkaaW.PrintLast Go.Proofs.YtidpaaemfiopkaaW.PrintMore
attribute [local go_sem] max2_int min2_int max_two min_two max_three min_three max_four min_four   -- for this text's walks alone
set_option linter.unusedVariables false
set_option linter.unusedSimpArgs false


/-! ### rect_Matrix_Row: function 33 -/
def rect_Matrix_Row.f (a0_0 : Int) (a0_1 : Int) (l0_2 : List Int) (a1 : Int) : Option (List Int) := (rect_in.f a1 a0_1).bind fun t469 => (if t469 = true then ((rect_Matrix_row.f a0_0 a0_1 l0_2 0 a1 a0_0).bind fun t470 => ((api_Pixel_49.f t470).bind fun t473 => (some t473))) else (some ([] : List Int)))
set_option maxHeartbeats 8000000 in
set_option maxRecDepth 100000 in
theorem rect_Matrix_Row.calls (a0_0 : Int) (a0_1 : Int) (A0_2 : Option Addr) (c0_2 : Nat) (l0_2 : List Int) (a1 : Int) (r : List Int) (w : World) (hr0_2 : Kd.C (Kd.int .u64) w A0_2 l0_2.length l0_2) (hc0_2 : l0_2.length ≤ c0_2) (h : rect_Matrix_Row.f a0_0 a0_1 l0_2 a1 = some r) :
 Calls Try.prog 33 #[.agg #[.int .i64 a0_0, .int .i64 a0_1, .slice A0_2 l0_2.length c0_2], .int .i64 a1] w fun e w' => ∃ v0_ : Value, e = .returned (v0_) ∧ Kd.R (Kd.int .u64) 46 w' w.heap.size (fun _ => True) v0_ r ∧ Below w.heap.size w w' := by
 have hu32 := Try.underlying32
 have HR0_2 := Aside0.mk hr0_2
 have HC0_2 := Aside0.mk hc0_2
 clear hr0_2 hc0_2
 have HB := Aside0.mk (Below.refl w.heap.size w)
 have H : ((rect_in.f a1 a0_1).bind fun t469 => (if t469 = true then ((rect_Matrix_row.f a0_0 a0_1 l0_2 0 a1 a0_0).bind fun t470 => ((api_Pixel_49.f t470).bind fun t473 => (some t473))) else (some ([] : List Int)))) = some r := h
 clear h
 replace H := Option.bind_eq_some_iff.mp H
 obtain ⟨t469, A30, H⟩ := H
 replace H : (if t469 = true then ((rect_Matrix_row.f a0_0 a0_1 l0_2 0 a1 a0_0).bind fun t470 => ((api_Pixel_49.f t470).bind fun t473 => (some t473))) else (some ([] : List Int))) = some r := H
 have A3 := Aside0.mk A30
 clear A30
 by_cases c4 : t469 = true
 · subst c4
   have H1 : ((rect_Matrix_row.f a0_0 a0_1 l0_2 0 a1 a0_0).bind fun t470 => ((api_Pixel_49.f t470).bind fun t473 => (some t473))) = some r := by rw [if_pos rfl] at H; exact H
   clear H
   have H := H1
   clear H1
   replace H := Option.bind_eq_some_iff.mp H
   obtain ⟨t470, A50, H⟩ := H
   replace H : ((api_Pixel_49.f t470).bind fun t473 => (some t473)) = some r := H
   have A5 := Aside0.mk A50
   clear A50
   replace H := Option.bind_eq_some_iff.mp H
   obtain ⟨t473, A60, H⟩ := H
   replace H : (some t473) = some r := H
   have A6 := Aside0.mk A60
   clear A60
   obtain rfl := Option.some.inj H
   go_enter Try.func33, Try.ntmps33
   go_wp2_with (first | ((with_reducible refine gate_dst (N := 2) rfl ?_); refine box_event ?hg (N := 2) ?hd (cs := #[.int .i64 a0_0, .int .i64 a0_1, .slice A0_2 l0_2.length c0_2]) (t := 32) ?hr ?_; (case hd => rfl); (case hg => rfl); (case hr => first | (go_simp; done) | (go_simp; rfl)); intro gb468 hg w7 hbox hb; have BK468 := Aside0.mk (hbox); have GW468 := Aside0.mk ((by rw [hg]; exact (below_size bp_) : w.heap.size ≤ gb468)); have GE468 := Aside0.mk ((by rw [hg]; exact (below_size bp_) : w.heap.size ≤ gb468)); replace HB := Aside0.mk (below_step bp_ hb); clear hb hbox hg; have hcz8_0 : w7.cell? ⟨gb468, 0, none⟩ = some (.int .i64 a0_0) := (blk_cell BK468.out 0).trans rfl; have hcz8_1 : w7.cell? ⟨gb468, 1, none⟩ = some (.int .i64 a0_1) := (blk_cell BK468.out 1).trans rfl; have hcz8_2 : w7.cell? ⟨gb468, 2, none⟩ = some (.slice A0_2 l0_2.length c0_2) := (blk_cell BK468.out 2).trans rfl; have hfz8_0 := blk_frozen BK468.out 0; have hfz8_1 := blk_frozen BK468.out 1; have hfz8_2 := blk_frozen BK468.out 2) | ((with_reducible refine gate_callee (f := 48) rfl ?_); refine goQ_ (some 8) Try.func48 #[.int .i64 a1, .int .i64 a0_1] ?_; (with_reducible refine (rect_in.calls a1 a0_1 true _ A3.out).mono ?_); rintro e w' ⟨rfl, ⟨nd, rfl⟩⟩; refine ⟨_, rfl, ?_⟩) | ((with_reducible refine gate_callee (f := 46) rfl ?_); refine goQ_ (some 14) Try.func46 #[.agg #[.int .i64 a0_0, .int .i64 a0_1, .slice A0_2 l0_2.length c0_2], .int .i64 0, .int .i64 a1, .int .i64 a0_0] ?_; (with_reducible refine (rect_Matrix_row.calls a0_0 a0_1 (fun k_ => k_ < w.heap.size) _ _ l0_2 0 a1 a0_0 t470 _ ?side1 A5.out).mono ?_); (case side1 => exact Kd.V_mk HC0_2.out (Kd.F_below (Kd.C_F (Kd.heap_int .u64) HR0_2.out) bp_)); rintro e w9 ⟨v471, rfl, ho0, hb⟩; refine ⟨_, rfl, ?_⟩; have HO472 := Aside0.mk (Kd.V_lower (Kd.V_mono (ok' := fun k_ => True) ho0 (fun k_ hk_ => trivial)) (below_size bp_)); replace HB := Aside0.mk (below_step bp_ hb); (try clear hb); (try clear hb2); (try clear hk); (try clear hi); (try clear ho0); obtain ⟨Ao10, co10, eo10⟩ := Kd.V_slice HO472.out; subst eo10) | ((with_reducible refine gate_callee (f := 49) rfl ?_); refine goQ_ (some 15) Try.func49 #[.slice Ao10 t470.length co10] ?_; (with_reducible refine (api_Pixel_49.calls _ _ t470 t473 _ ?side1 ?side2 A6.out).mono ?_); (case side1 => exact cp_ (Kd.V_reads' HO472.out).2.2); (case side2 => exact (Kd.V_reads' HO472.out).2.1); rintro e w11 ⟨v474, rfl, ho0, hb⟩; refine ⟨_, rfl, ?_⟩; replace HO472 := Aside0.mk (Kd.V_elder' (vp_ HO472.out) (Kd.R_base ho0) hb); have HO475 := Aside0.mk (Kd.R_lower ho0 (below_size bp_)); replace HB := Aside0.mk (below_step bp_ hb); (try clear hb); (try clear hb2); (try clear hk); (try clear hi); (try clear ho0)))
   go_ret
   exact ⟨_, by first | rfl | (simp [errW_none, errW_some] <;> rfl) | (simp [*, errW_none, errW_some] <;> rfl), by (with_reducible repeat (first | apply Kd.R_alloc | apply Kd.R_drewN | apply Kd.R_drew)); exact HO475.out, bp_⟩
 · replace c4 := Bool.eq_false_iff.mpr c4
   subst c4
   have H1 : (some ([] : List Int)) = some r := by rw [if_neg (show ¬ (false = true) by decide)] at H; exact H
   clear H
   have H := H1
   clear H1
   obtain rfl := Option.some.inj H
   go_enter Try.func33, Try.ntmps33
   go_wp2_with (first | ((with_reducible refine gate_dst (N := 2) rfl ?_); refine box_event ?hg (N := 2) ?hd (cs := #[.int .i64 a0_0, .int .i64 a0_1, .slice A0_2 l0_2.length c0_2]) (t := 32) ?hr ?_; (case hd => rfl); (case hg => rfl); (case hr => first | (go_simp; done) | (go_simp; rfl)); intro gb468 hg w12 hbox hb; have BK468 := Aside0.mk (hbox); have GW468 := Aside0.mk ((by rw [hg]; exact (below_size bp_) : w.heap.size ≤ gb468)); have GE468 := Aside0.mk ((by rw [hg]; exact (below_size bp_) : w.heap.size ≤ gb468)); replace HB := Aside0.mk (below_step bp_ hb); clear hb hbox hg; have hcz13_0 : w12.cell? ⟨gb468, 0, none⟩ = some (.int .i64 a0_0) := (blk_cell BK468.out 0).trans rfl; have hcz13_1 : w12.cell? ⟨gb468, 1, none⟩ = some (.int .i64 a0_1) := (blk_cell BK468.out 1).trans rfl; have hcz13_2 : w12.cell? ⟨gb468, 2, none⟩ = some (.slice A0_2 l0_2.length c0_2) := (blk_cell BK468.out 2).trans rfl; have hfz13_0 := blk_frozen BK468.out 0; have hfz13_1 := blk_frozen BK468.out 1; have hfz13_2 := blk_frozen BK468.out 2) | ((with_reducible refine gate_callee (f := 48) rfl ?_); refine goQ_ (some 8) Try.func48 #[.int .i64 a1, .int .i64 a0_1] ?_; (with_reducible refine (rect_in.calls a1 a0_1 false _ A3.out).mono ?_); rintro e w' ⟨rfl, ⟨nd, rfl⟩⟩; refine ⟨_, rfl, ?_⟩))
   go_ret
   exact ⟨_, by first | rfl | (simp [errW_none, errW_some] <;> rfl) | (simp [*, errW_none, errW_some] <;> rfl), by first | exact Kd.R_nil _ _ _ _ _ | exact Kd.N_nil _ _ _ _ _ | exact Kd.V_nil _ _ _ _ _ | exact Kd.Q_nil _ _ _ _ _ | exact Kd.S_nil _ _ _ _ _, bp_⟩


/-! ### rect_Matrix_Col: function 34 -/
def rect_Matrix_Col.l0 : Nat → Int → List Int → Int → Int → Int → Int → List Int → Option (List Int)
 | 0, _, _, _, _, _, _, _ => none
 | k + 1, x1, x5, x13, x14, x477000, x477001, x477002 => if x14 < x13 then (if 0 ≤ (wrap64 ((wrap64 (x14 * x477000)) + x1)) then (if (wrap64 ((wrap64 (x14 * x477000)) + x1)) < (x477002.length : Int) then (if x5.length < 17592186044416 then (rect_Matrix_Col.l0 k x1 (x5 ++ [rd x477002 (wrap64 ((wrap64 (x14 * x477000)) + x1))]) x13 (wrap64 (x14 + 1)) x477000 x477001 x477002) else (none)) else (none)) else (none)) else (some x5)
def rect_Matrix_Col.f (k : Nat) (a0_0 : Int) (a0_1 : Int) (l0_2 : List Int) (a1 : Int) : Option (List Int) := (rect_in.f a1 a0_0).bind fun t477 => (if t477 = true then (rect_Matrix_Col.l0 k a1 ([] : List Int) a0_1 0 a0_0 a0_1 l0_2) else (some ([] : List Int)))
theorem rect_Matrix_Col.mono_l : ∀ k, (∀ y0 y1 y2 y3 y4 y5 y6, LeO (rect_Matrix_Col.l0 k y0 y1 y2 y3 y4 y5 y6) (rect_Matrix_Col.l0 (k + 1) y0 y1 y2 y3 y4 y5 y6))
 | 0 => fun _ _ _ _ _ _ _ r h => by simp [rect_Matrix_Col.l0] at h
 | k + 1 => by
  have ih0 := rect_Matrix_Col.mono_l k
  · intro y0 y1 y2 y3 y4 y5 y6
    unfold rect_Matrix_Col.l0
    repeat' first
    | (with_reducible exact ih0 _ _ _ _ _ _ _)
    | (with_reducible exact LeO.refl _)
    | (with_reducible exact LeO.none _)
    | (with_reducible refine LeO.ite ?_ ?_)
    | (with_reducible refine LeO.bind ?_ (fun _ => ?_))
    | exact ih0 _ _ _ _ _ _ _
    | exact LeO.none _
    | refine LeO.ite ?_ ?_
    | refine LeO.bind ?_ (fun _ => ?_)
theorem rect_Matrix_Col.mono : ∀ a0 a1 a2 a3 k, LeO (rect_Matrix_Col.f k a0 a1 a2 a3) (rect_Matrix_Col.f (k + 1) a0 a1 a2 a3) := by
 intro a0 a1 a2 a3 k
 have ih0 := rect_Matrix_Col.mono_l k
 unfold rect_Matrix_Col.f
 repeat' first
  | (with_reducible exact ih0 _ _ _ _ _ _ _)
  | (with_reducible exact LeO.refl _)
  | (with_reducible exact LeO.none _)
  | (with_reducible refine LeO.ite ?_ ?_)
  | (with_reducible refine LeO.bind ?_ (fun _ => ?_))
  | exact ih0 _ _ _ _ _ _ _
  | exact LeO.none _
  | refine LeO.ite ?_ ?_
  | refine LeO.bind ?_ (fun _ => ?_)
set_option maxHeartbeats 8000000 in
set_option maxRecDepth 100000 in
theorem rect_Matrix_Col.calls (k : Nat) (a0_0 : Int) (a0_1 : Int) (A0_2 : Option Addr) (c0_2 : Nat) (l0_2 : List Int) (a1 : Int) (r : List Int) (w : World) (hr0_2 : Kd.C (Kd.int .u64) w A0_2 l0_2.length l0_2) (hc0_2 : l0_2.length ≤ c0_2) (h : rect_Matrix_Col.f k a0_0 a0_1 l0_2 a1 = some r) :
 Calls Try.prog 34 #[.agg #[.int .i64 a0_0, .int .i64 a0_1, .slice A0_2 l0_2.length c0_2], .int .i64 a1] w fun e w' => ∃ v0_ : Value, e = .returned (v0_) ∧ Kd.R (Kd.int .u64) 46 w' w.heap.size (fun _ => True) v0_ r ∧ Below w.heap.size w w' := by
 have hu32 := Try.underlying32
 have HR0_2 := Aside0.mk hr0_2
 have HC0_2 := Aside0.mk hc0_2
 clear hr0_2 hc0_2
 have HB := Aside0.mk (Below.refl w.heap.size w)
 have H : ((rect_in.f a1 a0_0).bind fun t477 => (if t477 = true then (rect_Matrix_Col.l0 k a1 ([] : List Int) a0_1 0 a0_0 a0_1 l0_2) else (some ([] : List Int)))) = some r := h
 clear h
 replace H := Option.bind_eq_some_iff.mp H
 obtain ⟨t477, A30, H⟩ := H
 replace H : (if t477 = true then (rect_Matrix_Col.l0 k a1 ([] : List Int) a0_1 0 a0_0 a0_1 l0_2) else (some ([] : List Int))) = some r := H
 have A3 := Aside0.mk A30
 clear A30
 by_cases c4 : t477 = true
 · subst c4
   have H1 : (rect_Matrix_Col.l0 k a1 ([] : List Int) a0_1 0 a0_0 a0_1 l0_2) = some r := by rw [if_pos rfl] at H; exact H
   clear H
   have H := H1
   clear H1
   have H' := Aside0.mk H
   clear H
   go_enter Try.func34, Try.ntmps34
   go_wp2_with (first | ((with_reducible refine gate_dst (N := 2) rfl ?_); refine box_event ?hg (N := 2) ?hd (cs := #[.int .i64 a0_0, .int .i64 a0_1, .slice A0_2 l0_2.length c0_2]) (t := 32) ?hr ?_; (case hd => rfl); (case hg => rfl); (case hr => first | (go_simp; done) | (go_simp; rfl)); intro gb476 hg w5 hbox hb; have BK476 := Aside0.mk (hbox); have GW476 := Aside0.mk ((by rw [hg]; exact (below_size bp_) : w.heap.size ≤ gb476)); have GE476 := Aside0.mk ((by rw [hg]; exact (below_size bp_) : w.heap.size ≤ gb476)); replace HB := Aside0.mk (below_step bp_ hb); clear hb hbox hg; have hcz6_0 : w5.cell? ⟨gb476, 0, none⟩ = some (.int .i64 a0_0) := (blk_cell BK476.out 0).trans rfl; have hcz6_1 : w5.cell? ⟨gb476, 1, none⟩ = some (.int .i64 a0_1) := (blk_cell BK476.out 1).trans rfl; have hcz6_2 : w5.cell? ⟨gb476, 2, none⟩ = some (.slice A0_2 l0_2.length c0_2) := (blk_cell BK476.out 2).trans rfl; have hfz6_0 := blk_frozen BK476.out 0; have hfz6_1 := blk_frozen BK476.out 1; have hfz6_2 := blk_frozen BK476.out 2) | ((with_reducible refine gate_callee (f := 48) rfl ?_); refine goQ_ (some 10) Try.func48 #[.int .i64 a1, .int .i64 a0_0] ?_; (with_reducible refine (rect_in.calls a1 a0_0 true _ A3.out).mono ?_); rintro e w' ⟨rfl, ⟨nd, rfl⟩⟩; refine ⟨_, rfl, ?_⟩))
   go_loopg [5, 14] k (fun kq v5 v14 w' => ∃ (x5_1 : List Int) (x14_1 : Int), v14 = .int .i64 x14_1 ∧ Aside0 (rect_Matrix_Col.l0 kq a1 x5_1 a0_1 x14_1 a0_0 a0_1 l0_2 = some r) ∧ Aside0 (kq ≤ k) ∧ Aside0 (Kd.R (Kd.int .u64) 46 w' w.heap.size (fun _ => True) v5 x5_1) ∧ Aside0 (w'.heap[gb476]? = some (.cells #[.int .i64 a0_0, .int .i64 a0_1, (.slice A0_2 l0_2.length c0_2)] 32 (0, 0))) ∧ Aside0 (Below w.heap.size w w'))
   case atStart => exact ⟨(([] : List Int)), (0), (by first | rfl | (simp; done) | (simp [*]; done)), H', ⟨Nat.le_refl _⟩, ⟨by first | exact Kd.R_nil _ _ _ _ _ | exact Kd.N_nil _ _ _ _ _ | exact Kd.V_nil _ _ _ _ _ | exact Kd.Q_nil _ _ _ _ _ | exact Kd.S_nil _ _ _ _ _⟩, ⟨hp_ BK476.out⟩, ⟨bp_⟩⟩
   case round =>
    clear H'
    try clear p2
    try clear c3
    try clear c4
    try clear hcz6_0
    try clear hcz6_1
    try clear hcz6_2
    try clear hfz6_0
    try clear hfz6_1
    try clear hfz6_2
    obtain ⟨x5_1, x14_1, rfl, HA, HK1, HO_5, BK476, HB⟩ := hrel
    cases gk with
    | zero => exact absurd HA.out (by simp [rect_Matrix_Col.l0])
    | succ k1 =>
     have H := HA.out
     clear HA
     simp only [rect_Matrix_Col.l0] at H
     by_cases c7 : x14_1 < a0_1
     · rw [if_pos c7] at H
       have c7b0 : decide (x14_1 < a0_1) = true := decide_eq_true c7
       clear c7
       obtain ⟨ji8, hji8⟩ : ∃ j_ : Int, (wrap64 ((wrap64 (x14_1 * a0_0)) + a1)) = j_ := ⟨_, rfl⟩
       replace H : (if 0 ≤ (ji8) then (if (ji8) < (l0_2.length : Int) then (if x5_1.length < 17592186044416 then (rect_Matrix_Col.l0 k1 a1 (x5_1 ++ [rd l0_2 (ji8)]) a0_1 (wrap64 (x14_1 + 1)) a0_0 a0_1 l0_2) else (none)) else (none)) else (none)) = some r := by first | (rw [hji8] at H; exact H) | (simp only [hji8] at H ⊢; exact H)
       have hji8w : (IntKind.i64.wrap ((wrap64 (x14_1 * a0_0)) + a1)) = ji8 := (i64_w _).trans hji8
       by_cases c9 : 0 ≤ (ji8)
       · rw [if_pos c9] at H
         have c9b0 : decide (0 ≤ (ji8)) = true := decide_eq_true c9
         clear c9
         by_cases c10 : (ji8) < (l0_2.length : Int)
         · rw [if_pos c10] at H
           have c10b0 : decide ((ji8) < (l0_2.length : Int)) = true := decide_eq_true c10
           clear c10
           by_cases c11 : x5_1.length < 17592186044416
           · rw [if_pos c11] at H
             have LMc11 := Aside0.mk c11
             clear c11
             obtain ⟨y479, hy479⟩ : ∃ y_ : List Int, y_ = (x5_1 ++ [rd l0_2 (ji8)]) := ⟨_, rfl⟩
             replace H : (rect_Matrix_Col.l0 k1 a1 y479 a0_1 (wrap64 (x14_1 + 1)) a0_0 a0_1 l0_2) = some r := by first | (rw [hy479]; with_reducible exact H) | (have H2_ := (Option.bind_some _ _).symm.trans H; rw [hy479]; with_reducible exact H2_) | (have H2_ := (Option.bind_some _ _).symm.trans H; with_reducible exact H2_) | with_reducible exact H | (rw [hy479]; exact H) | exact H
             have Ny479 := Aside0.mk hy479
             clear hy479
             have H' := Aside0.mk H
             clear H
             have hcz12_0 : wr.cell? ⟨gb476, 0, none⟩ = some (.int .i64 a0_0) := (blk_cell BK476.out 0).trans rfl
             have hcz12_1 : wr.cell? ⟨gb476, 1, none⟩ = some (.int .i64 a0_1) := (blk_cell BK476.out 1).trans rfl
             have hcz12_2 : wr.cell? ⟨gb476, 2, none⟩ = some (.slice A0_2 l0_2.length c0_2) := (blk_cell BK476.out 2).trans rfl
             have hfz12_0 := blk_frozen BK476.out 0
             have hfz12_1 := blk_frozen BK476.out 1
             have hfz12_2 := blk_frozen BK476.out 2
             have p478 : 0 ≤ ((ji8) : Int) := of_decide_eq_true (by first | (with_reducible assumption) | assumption)
             have q478 : (ji8) < (l0_2.length : Int) := of_decide_eq_true (by first | (with_reducible assumption) | assumption)
             obtain ⟨ad478, e478, hx478_0⟩ := Kd.at_int HR0_2.out (ji8) p478 q478
             cases e478
             replace hx478_0 := (HB.out.cell (World.block_lt_of_cell? w _ hx478_0)).trans hx478_0
             replace p478 := eq_true p478
             replace q478 := eq_true q478
             go_wp2_with (first | ((with_reducible refine gate_builtin (b := .append) (xs := #[.tmp 17, .tmp 28]) rfl ?_); at_builtin; refine Kd.R_append (Kd.int .u64) (w0 := w) w.heap.size rfl (.tmp 17) (.tmp 28) 22 46 (.int .u64 0) 8 rfl Try.underlying22 info46 rfl (by decide) (by omega) u5 x5_1 (rd l0_2 (ji8)) [.int .u64 (rd l0_2 (ji8))] (fun _ => True) (fun _ => False) rfl rfl ?aP (fun _ hk => hk.elim) ?aF ?aO ?aB ?aS ?aL ?_; (case aP => exact rfl); (case aB => exact bp_); (case aF => exact (fun _ _ => trivial)); (case aO => exact (rp_ HO_5.out)); (case aS => exact (below_size bp_)); (case aL => have := LMc11.out; omega); intro v480 w13 ho hb hg hat; rw [← Ny479.out] at ho; replace BK476 := Aside0.mk (blk_grown (g := gb476) (o := .cells #[.int .i64 a0_0, .int .i64 a0_1, .slice (some ad478) l0_2.length c0_2] 32 (0, 0)) (hp_ BK476.out) hg (Kd.R_ne HO_5.out BK476.out (by decide))); replace HB := Aside0.mk (hb); have HO481 := Aside0.mk (ho); clear HO_5; clear ho hb hg hat))
             go_roundg k1
             case measure => have := HK1.out; omega
             case rel => exact ⟨(y479), (wrap64 (x14_1 + 1)), (by first | rfl | (simp; done) | (simp [*]; done)), H', ⟨by have := HK1.out; omega⟩, ⟨rp_ HO481.out⟩, ⟨hp_ BK476.out⟩, ⟨bp_⟩⟩
           · rw [if_neg c11] at H
             exact absurd H (by simp)
         · rw [if_neg c10] at H
           exact absurd H (by simp)
       · rw [if_neg c9] at H
         exact absurd H (by simp)
     · rw [if_neg c7] at H
       have c7b0 : decide (x14_1 < a0_1) = false := decide_eq_false c7
       clear c7
       obtain rfl := Option.some.inj H
       go_wp2
       go_ret
       exact ⟨_, by first | rfl | (simp [errW_none, errW_some] <;> rfl) | (simp [*, errW_none, errW_some] <;> rfl), by (with_reducible repeat (first | apply Kd.R_alloc | apply Kd.R_drewN | apply Kd.R_drew)); exact HO_5.out, bp_⟩
 · replace c4 := Bool.eq_false_iff.mpr c4
   subst c4
   have H1 : (some ([] : List Int)) = some r := by rw [if_neg (show ¬ (false = true) by decide)] at H; exact H
   clear H
   have H := H1
   clear H1
   obtain rfl := Option.some.inj H
   go_enter Try.func34, Try.ntmps34
   go_wp2_with (first | ((with_reducible refine gate_dst (N := 2) rfl ?_); refine box_event ?hg (N := 2) ?hd (cs := #[.int .i64 a0_0, .int .i64 a0_1, .slice A0_2 l0_2.length c0_2]) (t := 32) ?hr ?_; (case hd => rfl); (case hg => rfl); (case hr => first | (go_simp; done) | (go_simp; rfl)); intro gb476 hg w14 hbox hb; have BK476 := Aside0.mk (hbox); have GW476 := Aside0.mk ((by rw [hg]; exact (below_size bp_) : w.heap.size ≤ gb476)); have GE476 := Aside0.mk ((by rw [hg]; exact (below_size bp_) : w.heap.size ≤ gb476)); replace HB := Aside0.mk (below_step bp_ hb); clear hb hbox hg; have hcz15_0 : w14.cell? ⟨gb476, 0, none⟩ = some (.int .i64 a0_0) := (blk_cell BK476.out 0).trans rfl; have hcz15_1 : w14.cell? ⟨gb476, 1, none⟩ = some (.int .i64 a0_1) := (blk_cell BK476.out 1).trans rfl; have hcz15_2 : w14.cell? ⟨gb476, 2, none⟩ = some (.slice A0_2 l0_2.length c0_2) := (blk_cell BK476.out 2).trans rfl; have hfz15_0 := blk_frozen BK476.out 0; have hfz15_1 := blk_frozen BK476.out 1; have hfz15_2 := blk_frozen BK476.out 2) | ((with_reducible refine gate_callee (f := 48) rfl ?_); refine goQ_ (some 10) Try.func48 #[.int .i64 a1, .int .i64 a0_0] ?_; (with_reducible refine (rect_in.calls a1 a0_0 false _ A3.out).mono ?_); rintro e w' ⟨rfl, ⟨nd, rfl⟩⟩; refine ⟨_, rfl, ?_⟩))
   go_ret
   exact ⟨_, by first | rfl | (simp [errW_none, errW_some] <;> rfl) | (simp [*, errW_none, errW_some] <;> rfl), by first | exact Kd.R_nil _ _ _ _ _ | exact Kd.N_nil _ _ _ _ _ | exact Kd.V_nil _ _ _ _ _ | exact Kd.Q_nil _ _ _ _ _ | exact Kd.S_nil _ _ _ _ _, bp_⟩


/-! ### chequerref03_Col: function 35 -/
def chequerref03_Col.l0 : Nat → Int → List Int → Int → Int → Int → List Int → Option (List Int)
 | 0, _, _, _, _, _, _ => none
 | k + 1, x1, x5, x6, x483000, x483001, x483002 => if x6 < x483001 then ((chequerref03_At.f x483000 x483001 x483002 x1 x6).bind fun bt483 => (if bt483.2 = true then (if x5.length < 17592186044416 then (chequerref03_Col.l0 k x1 (x5 ++ [bt483.1]) (wrap64 (x6 + 1)) x483000 x483001 x483002) else (none)) else (chequerref03_Col.l0 k x1 x5 (wrap64 (x6 + 1)) x483000 x483001 x483002))) else (some x5)
def chequerref03_Col.f (k : Nat) (a0_0 : Int) (a0_1 : Int) (l0_2 : List Int) (a1 : Int) : Option (List Int) := chequerref03_Col.l0 k a1 ([] : List Int) 0 a0_0 a0_1 l0_2
theorem chequerref03_Col.mono_l : ∀ k, (∀ y0 y1 y2 y3 y4 y5, LeO (chequerref03_Col.l0 k y0 y1 y2 y3 y4 y5) (chequerref03_Col.l0 (k + 1) y0 y1 y2 y3 y4 y5))
 | 0 => fun _ _ _ _ _ _ r h => by simp [chequerref03_Col.l0] at h
 | k + 1 => by
  have ih0 := chequerref03_Col.mono_l k
  · intro y0 y1 y2 y3 y4 y5
    unfold chequerref03_Col.l0
    repeat' first
    | (with_reducible exact ih0 _ _ _ _ _ _)
    | (with_reducible exact LeO.refl _)
    | (with_reducible exact LeO.none _)
    | (with_reducible refine LeO.ite ?_ ?_)
    | (with_reducible refine LeO.bind ?_ (fun _ => ?_))
    | exact ih0 _ _ _ _ _ _
    | exact LeO.none _
    | refine LeO.ite ?_ ?_
    | refine LeO.bind ?_ (fun _ => ?_)
theorem chequerref03_Col.mono : ∀ a0 a1 a2 a3 k, LeO (chequerref03_Col.f k a0 a1 a2 a3) (chequerref03_Col.f (k + 1) a0 a1 a2 a3) := by
 intro a0 a1 a2 a3 k
 have ih0 := chequerref03_Col.mono_l k
 unfold chequerref03_Col.f
 repeat' first
  | (with_reducible exact ih0 _ _ _ _ _ _)
  | (with_reducible exact LeO.refl _)
  | (with_reducible exact LeO.none _)
  | (with_reducible refine LeO.ite ?_ ?_)
  | (with_reducible refine LeO.bind ?_ (fun _ => ?_))
  | exact ih0 _ _ _ _ _ _
  | exact LeO.none _
  | refine LeO.ite ?_ ?_
  | refine LeO.bind ?_ (fun _ => ?_)
set_option maxHeartbeats 8000000 in
set_option maxRecDepth 100000 in
theorem chequerref03_Col.calls (k : Nat) (a0_0 : Int) (a0_1 : Int) (A0_2 : Option Addr) (c0_2 : Nat) (l0_2 : List Int) (a1 : Int) (r : List Int) (w : World) (hr0_2 : Kd.C (Kd.int .u64) w A0_2 l0_2.length l0_2) (hc0_2 : l0_2.length ≤ c0_2) (h : chequerref03_Col.f k a0_0 a0_1 l0_2 a1 = some r) :
 Calls Try.prog 35 #[.agg #[.int .i64 a0_0, .int .i64 a0_1, .slice A0_2 l0_2.length c0_2], .int .i64 a1] w fun e w' => ∃ v0_ : Value, e = .returned (v0_) ∧ Kd.R (Kd.int .u64) 46 w' w.heap.size (fun _ => True) v0_ r ∧ Below w.heap.size w w' := by
 have hu24 := Try.underlying24
 have HR0_2 := Aside0.mk hr0_2
 have HC0_2 := Aside0.mk hc0_2
 clear hr0_2 hc0_2
 have HB := Aside0.mk (Below.refl w.heap.size w)
 have H : (chequerref03_Col.l0 k a1 ([] : List Int) 0 a0_0 a0_1 l0_2) = some r := h
 clear h
 have H' := Aside0.mk H
 clear H
 go_enter Try.func35, Try.ntmps35
 go_wp2_with (first | ((with_reducible refine gate_dst (N := 2) rfl ?_); refine box_event ?hg (N := 2) ?hd (cs := #[.int .i64 a0_0, .int .i64 a0_1, .slice A0_2 l0_2.length c0_2]) (t := 24) ?hr ?_; (case hd => rfl); (case hg => rfl); (case hr => first | (go_simp; done) | (go_simp; rfl)); intro gb482 hg w3 hbox hb; have BK482 := Aside0.mk (hbox); have GW482 := Aside0.mk ((by rw [hg]; exact (below_size bp_) : w.heap.size ≤ gb482)); have GE482 := Aside0.mk ((by rw [hg]; exact (below_size bp_) : w.heap.size ≤ gb482)); replace HB := Aside0.mk (below_step bp_ hb); clear hb hbox hg))
 go_loopg [5, 6] k (fun kq v5 v6 w' => ∃ (x5_1 : List Int) (x6_1 : Int), v6 = .int .i64 x6_1 ∧ Aside0 (chequerref03_Col.l0 kq a1 x5_1 x6_1 a0_0 a0_1 l0_2 = some r) ∧ Aside0 (kq ≤ k) ∧ Aside0 (Kd.R (Kd.int .u64) 46 w' w.heap.size (fun _ => True) v5 x5_1) ∧ Aside0 (w'.heap[gb482]? = some (.cells #[.int .i64 a0_0, .int .i64 a0_1, (.slice A0_2 l0_2.length c0_2)] 24 (0, 0))) ∧ Aside0 (Below w.heap.size w w'))
 case atStart => exact ⟨(([] : List Int)), (0), (by first | rfl | (simp; done) | (simp [*]; done)), H', ⟨Nat.le_refl _⟩, ⟨by first | exact Kd.R_nil _ _ _ _ _ | exact Kd.N_nil _ _ _ _ _ | exact Kd.V_nil _ _ _ _ _ | exact Kd.Q_nil _ _ _ _ _ | exact Kd.S_nil _ _ _ _ _⟩, ⟨hp_ BK482.out⟩, ⟨bp_⟩⟩
 case round =>
  clear H'
  try clear p2
  try clear c3
  obtain ⟨x5_1, x6_1, rfl, HA, HK1, HO_5, BK482, HB⟩ := hrel
  cases gk with
  | zero => exact absurd HA.out (by simp [chequerref03_Col.l0])
  | succ k1 =>
   have H := HA.out
   clear HA
   simp only [chequerref03_Col.l0] at H
   by_cases c4 : x6_1 < a0_1
   · rw [if_pos c4] at H
     have c4b0 : decide (x6_1 < a0_1) = true := decide_eq_true c4
     clear c4
     replace H := Option.bind_eq_some_iff.mp H
     obtain ⟨⟨t483, t484⟩, A50, H⟩ := H
     replace H : (if t484 = true then (if x5_1.length < 17592186044416 then (chequerref03_Col.l0 k1 a1 (x5_1 ++ [t483]) (wrap64 (x6_1 + 1)) a0_0 a0_1 l0_2) else (none)) else (chequerref03_Col.l0 k1 a1 x5_1 (wrap64 (x6_1 + 1)) a0_0 a0_1 l0_2)) = some r := H
     have A5 := Aside0.mk A50
     clear A50
     by_cases c6 : t484 = true
     · subst c6
       have H1 : (if x5_1.length < 17592186044416 then (chequerref03_Col.l0 k1 a1 (x5_1 ++ [t483]) (wrap64 (x6_1 + 1)) a0_0 a0_1 l0_2) else (none)) = some r := by rw [if_pos rfl] at H; exact H
       clear H
       have H := H1
       clear H1
       by_cases c7 : x5_1.length < 17592186044416
       · rw [if_pos c7] at H
         have LMc7 := Aside0.mk c7
         clear c7
         obtain ⟨y485, hy485⟩ : ∃ y_ : List Int, y_ = (x5_1 ++ [t483]) := ⟨_, rfl⟩
         replace H : (chequerref03_Col.l0 k1 a1 y485 (wrap64 (x6_1 + 1)) a0_0 a0_1 l0_2) = some r := by first | (rw [hy485]; with_reducible exact H) | (have H2_ := (Option.bind_some _ _).symm.trans H; rw [hy485]; with_reducible exact H2_) | (have H2_ := (Option.bind_some _ _).symm.trans H; with_reducible exact H2_) | with_reducible exact H | (rw [hy485]; exact H) | exact H
         have Ny485 := Aside0.mk hy485
         clear hy485
         have H' := Aside0.mk H
         clear H
         have hcz8_0 : wr.cell? ⟨gb482, 0, none⟩ = some (.int .i64 a0_0) := (blk_cell BK482.out 0).trans rfl
         have hcz8_1 : wr.cell? ⟨gb482, 1, none⟩ = some (.int .i64 a0_1) := (blk_cell BK482.out 1).trans rfl
         have hcz8_2 : wr.cell? ⟨gb482, 2, none⟩ = some (.slice A0_2 l0_2.length c0_2) := (blk_cell BK482.out 2).trans rfl
         have hfz8_0 := blk_frozen BK482.out 0
         have hfz8_1 := blk_frozen BK482.out 1
         have hfz8_2 := blk_frozen BK482.out 2
         go_wp2_with (first | ((with_reducible refine gate_callee (f := 25) rfl ?_); refine goQ_ (some 19) Try.func25 #[.agg #[.int .i64 a0_0, .int .i64 a0_1, .slice A0_2 l0_2.length c0_2], .int .i64 a1, .int .i64 x6_1] ?_; (with_reducible refine (chequerref03_At.calls a0_0 a0_1 _ _ l0_2 a1 x6_1 t483 true _ ?side1 ?side2 A5.out).mono ?_); (case side1 => repeat (first | exact (Kd.C_below HR0_2.out HB.out) | (with_reducible refine Kd.C_alloc ?_ _) | (with_reducible refine Kd.C_drewN ?_ _) | (with_reducible refine Kd.C_drew ?_))); (case side2 => exact HC0_2.out); rintro e w9 ⟨rfl, hb⟩; refine ⟨_, rfl, ?_⟩; replace HO_5 := Aside0.mk (Kd.R_below (rp_ HO_5.out) hb); replace BK482 := Aside0.mk (blk_below (hp_ BK482.out) hb); replace HB := Aside0.mk (below_step bp_ hb); (try clear hb); (try clear hb2); (try clear hk); (try clear hi)) | ((with_reducible refine gate_builtin (b := .append) (xs := #[.tmp 23, .tmp 25]) rfl ?_); at_builtin; refine Kd.R_append (Kd.int .u64) (w0 := w) w.heap.size rfl (.tmp 23) (.tmp 25) 22 46 (.int .u64 0) 8 rfl Try.underlying22 info46 rfl (by decide) (by omega) u5 x5_1 t483 [.int .u64 t483] (fun _ => True) (fun _ => False) rfl rfl ?aP (fun _ hk => hk.elim) ?aF ?aO ?aB ?aS ?aL ?_; (case aP => exact rfl); (case aB => exact bp_); (case aF => exact (fun _ _ => trivial)); (case aO => exact (rp_ HO_5.out)); (case aS => exact (below_size bp_)); (case aL => have := LMc7.out; omega); intro v486 w10 ho hb hg hat; rw [← Ny485.out] at ho; replace BK482 := Aside0.mk (blk_grown (g := gb482) (o := .cells #[.int .i64 a0_0, .int .i64 a0_1, .slice A0_2 l0_2.length c0_2] 24 (0, 0)) (hp_ BK482.out) hg (Kd.R_ne HO_5.out BK482.out (by decide))); replace HB := Aside0.mk (hb); have HO487 := Aside0.mk (ho); clear HO_5; clear ho hb hg hat))
         go_roundg k1
         case measure => have := HK1.out; omega
         case rel => exact ⟨(y485), (wrap64 (x6_1 + 1)), (by first | rfl | (simp; done) | (simp [*]; done)), H', ⟨by have := HK1.out; omega⟩, ⟨rp_ HO487.out⟩, ⟨hp_ BK482.out⟩, ⟨bp_⟩⟩
       · rw [if_neg c7] at H
         exact absurd H (by simp)
     · replace c6 := Bool.eq_false_iff.mpr c6
       subst c6
       have H1 : (chequerref03_Col.l0 k1 a1 x5_1 (wrap64 (x6_1 + 1)) a0_0 a0_1 l0_2) = some r := by rw [if_neg (show ¬ (false = true) by decide)] at H; exact H
       clear H
       have H := H1
       clear H1
       have H' := Aside0.mk H
       clear H
       have hcz11_0 : wr.cell? ⟨gb482, 0, none⟩ = some (.int .i64 a0_0) := (blk_cell BK482.out 0).trans rfl
       have hcz11_1 : wr.cell? ⟨gb482, 1, none⟩ = some (.int .i64 a0_1) := (blk_cell BK482.out 1).trans rfl
       have hcz11_2 : wr.cell? ⟨gb482, 2, none⟩ = some (.slice A0_2 l0_2.length c0_2) := (blk_cell BK482.out 2).trans rfl
       have hfz11_0 := blk_frozen BK482.out 0
       have hfz11_1 := blk_frozen BK482.out 1
       have hfz11_2 := blk_frozen BK482.out 2
       go_wp2_with (first | ((with_reducible refine gate_callee (f := 25) rfl ?_); refine goQ_ (some 19) Try.func25 #[.agg #[.int .i64 a0_0, .int .i64 a0_1, .slice A0_2 l0_2.length c0_2], .int .i64 a1, .int .i64 x6_1] ?_; (with_reducible refine (chequerref03_At.calls a0_0 a0_1 _ _ l0_2 a1 x6_1 t483 false _ ?side1 ?side2 A5.out).mono ?_); (case side1 => repeat (first | exact (Kd.C_below HR0_2.out HB.out) | (with_reducible refine Kd.C_alloc ?_ _) | (with_reducible refine Kd.C_drewN ?_ _) | (with_reducible refine Kd.C_drew ?_))); (case side2 => exact HC0_2.out); rintro e w12 ⟨rfl, hb⟩; refine ⟨_, rfl, ?_⟩; replace HO_5 := Aside0.mk (Kd.R_below (rp_ HO_5.out) hb); replace BK482 := Aside0.mk (blk_below (hp_ BK482.out) hb); replace HB := Aside0.mk (below_step bp_ hb); (try clear hb); (try clear hb2); (try clear hk); (try clear hi)))
       go_roundg k1
       case measure => have := HK1.out; omega
       case rel => exact ⟨(x5_1), (wrap64 (x6_1 + 1)), (by first | rfl | (simp; done) | (simp [*]; done)), H', ⟨by have := HK1.out; omega⟩, ⟨rp_ HO_5.out⟩, ⟨hp_ BK482.out⟩, ⟨bp_⟩⟩
   · rw [if_neg c4] at H
     have c4b0 : decide (x6_1 < a0_1) = false := decide_eq_false c4
     clear c4
     obtain rfl := Option.some.inj H
     have hcz13_0 : wr.cell? ⟨gb482, 0, none⟩ = some (.int .i64 a0_0) := (blk_cell BK482.out 0).trans rfl
     have hcz13_1 : wr.cell? ⟨gb482, 1, none⟩ = some (.int .i64 a0_1) := (blk_cell BK482.out 1).trans rfl
     have hcz13_2 : wr.cell? ⟨gb482, 2, none⟩ = some (.slice A0_2 l0_2.length c0_2) := (blk_cell BK482.out 2).trans rfl
     have hfz13_0 := blk_frozen BK482.out 0
     have hfz13_1 := blk_frozen BK482.out 1
     have hfz13_2 := blk_frozen BK482.out 2
     go_wp2
     go_ret
     exact ⟨_, by first | rfl | (simp [errW_none, errW_some] <;> rfl) | (simp [*, errW_none, errW_some] <;> rfl), by (with_reducible repeat (first | apply Kd.R_alloc | apply Kd.R_drewN | apply Kd.R_drew)); exact HO_5.out, bp_⟩

end Go.Proofs.Ytidpaaemfiopkaa.Q
