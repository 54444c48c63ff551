-- written by our own program (wip/tools/myprint.py) out of the translation, by the kit's print; Lean checks it
import Derived.Test.YtehjnekljodmgaaQ0
import Derived.Test.YtehjnekljodmgaaQ3
import Derived.Test.YtehjnekljodmgaaIrect_Matrix
namespace Go.Proofs.Ytehjnekljodmgaa.Q
open Go.RowKit Go.Proofs.YtehjnekljodmgaaW.PrintWords Go.Proofs.YtehjnekljodmgaaW.PrintLast Go.Proofs.YtehjnekljodmgaaW.PrintMore
attribute [local go_sem] max2_int min2_int max_two min_two max_three min_three max_four min_four   -- for this text's walks alone
set_option linter.unusedVariables false
set_option linter.unusedSimpArgs false


/-! ### turn_Orbit: function 28 -/
def turn_Orbit.l0 : Nat → List (S26) → List Int → List Int → Int → Int → Int → Int → List Int → Option ((List (S26)) × List Int)
 | 0, _, _, _, _, _, _, _, _ => none
 | k + 1, x6, x7, x13, x14, x15, x386000, x386001, x386002 => if x15 < x14 then (if 0 ≤ x15 then (if x15 < (x13.length : Int) then ((turn_Lay.f k x386000 x386001 x386002 (rd x13 x15)).bind fun bt387 => (if bt387.2.2.2 = 0 then ((slices_IndexFunc_Same.f x6 bt387.1 bt387.2.1 bt387.2.2.1).bind fun t394 => (if t394 < 0 then (if x6.length < 3518437208883 then (if x7.length < 17592186044416 then (turn_Orbit.l0 k (x6 ++ [(⟨bt387.1, bt387.2.1, bt387.2.2.1⟩ : S26)]) (x7 ++ [(x6.length : Int)]) x13 x14 (wrap64 (x15 + 1)) x386000 x386001 x386002) else (none)) else (none)) else (if x7.length < 17592186044416 then (turn_Orbit.l0 k x6 (x7 ++ [t394]) x13 x14 (wrap64 (x15 + 1)) x386000 x386001 x386002) else (none)))) else (if x7.length < 17592186044416 then (turn_Orbit.l0 k x6 (x7 ++ [(-1)]) x13 x14 (wrap64 (x15 + 1)) x386000 x386001 x386002) else (none)))) else (none)) else (none)) else (some (x6, x7))
def turn_Orbit.f (k : Nat) (a0_0 : Int) (a0_1 : Int) (l0_2 : List Int) (l1 : List Int) : Option ((List (S26)) × List Int) := turn_Orbit.l0 k ([] : List (S26)) ([] : List Int) l1 (l1.length : Int) 0 a0_0 a0_1 l0_2
theorem turn_Orbit.mono_l : ∀ k, (∀ y0 y1 y2 y3 y4 y5 y6 y7, LeO (turn_Orbit.l0 k y0 y1 y2 y3 y4 y5 y6 y7) (turn_Orbit.l0 (k + 1) y0 y1 y2 y3 y4 y5 y6 y7))
 | 0 => fun _ _ _ _ _ _ _ _ r h => by simp [turn_Orbit.l0] at h
 | k + 1 => by
  have ih0 := turn_Orbit.mono_l k
  · intro y0 y1 y2 y3 y4 y5 y6 y7
    unfold turn_Orbit.l0
    repeat' first
    | (with_reducible exact ih0 _ _ _ _ _ _ _ _)
    | (with_reducible exact turn_Lay.mono _ _ _ _ _)
    | (with_reducible exact LeO.refl _)
    | (with_reducible exact LeO.none _)
    | (with_reducible refine LeO.ite ?_ ?_)
    | (with_reducible refine LeO.bind ?_ (fun _ => ?_))
    | exact ih0 _ _ _ _ _ _ _ _
    | exact turn_Lay.mono _ _ _ _ _
    | exact LeO.none _
    | refine LeO.ite ?_ ?_
    | refine LeO.bind ?_ (fun _ => ?_)
theorem turn_Orbit.mono : ∀ a0 a1 a2 a3 k, LeO (turn_Orbit.f k a0 a1 a2 a3) (turn_Orbit.f (k + 1) a0 a1 a2 a3) := by
 intro a0 a1 a2 a3 k
 have ih0 := turn_Orbit.mono_l k
 unfold turn_Orbit.f
 repeat' first
  | (with_reducible exact ih0 _ _ _ _ _ _ _ _)
  | (with_reducible exact turn_Lay.mono _ _ _ _ _)
  | (with_reducible exact LeO.refl _)
  | (with_reducible exact LeO.none _)
  | (with_reducible refine LeO.ite ?_ ?_)
  | (with_reducible refine LeO.bind ?_ (fun _ => ?_))
  | exact ih0 _ _ _ _ _ _ _ _
  | exact turn_Lay.mono _ _ _ _ _
  | exact LeO.none _
  | refine LeO.ite ?_ ?_
  | refine LeO.bind ?_ (fun _ => ?_)
set_option maxHeartbeats 8000000 in
set_option maxRecDepth 100000 in
theorem turn_Orbit.calls (k : Nat) (a0_0 : Int) (a0_1 : Int) (A0_2 : Option Addr) (c0_2 : Nat) (l0_2 : List Int) (A1 : Option Addr) (c1 : Nat) (l1 : List Int) (r1 : List (S26)) (r2 : List Int) (w : World) (hr0_2 : Kd.C (Kd.int .u64) w A0_2 l0_2.length l0_2) (hc0_2 : l0_2.length ≤ c0_2) (hr1 : Kd.C (Kd.int .i64) w A1 l1.length l1) (hc1 : l1.length ≤ c1) (h : turn_Orbit.f k a0_0 a0_1 l0_2 l1 = some (r1, r2)) :
 Calls Try.prog 28 #[.agg #[.int .i64 a0_0, .int .i64 a0_1, .slice A0_2 l0_2.length c0_2], .slice A1 l1.length c1] w fun e w' => ∃ v0_ v1_ : Value, e = .returned (.tuple #[v0_, v1_]) ∧ Kd.S k26 26 w' w.heap.size (fun _ => True) v0_ r1 ∧ Kd.R (Kd.int .i64) 3 w' w.heap.size (fun _ => True) v1_ r2 ∧ Below w.heap.size w w' := by
 have hu26 := Try.underlying26
 have hmf_ : ∀ (fn_ : Fn) (first cap : Array Value) (w_ : World), (Instr.makeFunc fn_ first cap).run Try.prog w_ = .ok (.func fn_ first cap) w_ := fun _ _ _ _ => rfl
 have HR0_2 := Aside0.mk hr0_2
 have HC0_2 := Aside0.mk hc0_2
 clear hr0_2 hc0_2
 have HR1 := Aside0.mk hr1
 have HC1 := Aside0.mk hc1
 clear hr1 hc1
 have HB := Aside0.mk (Below.refl w.heap.size w)
 have H : (turn_Orbit.l0 k ([] : List (S26)) ([] : List Int) l1 (l1.length : Int) 0 a0_0 a0_1 l0_2) = some (r1, r2) := h
 clear h
 have H' := Aside0.mk H
 clear H
 go_enter Try.func28, Try.ntmps28
 go_wp2_with (first | ((with_reducible refine gate_dst (N := 2) rfl ?_); refine box_event ?hg (N := 2) ?hd (cs := #[.int .i64 a0_0, .int .i64 a0_1, .slice A0_2 l0_2.length c0_2]) (t := 26) ?hr ?_; (case hd => rfl); (case hg => rfl); (case hr => first | (go_simp; done) | (go_simp; rfl)); intro gb385 hg w3 hbox hb; have BK385 := Aside0.mk (hbox); have GW385 := Aside0.mk ((by rw [hg]; exact (below_size bp_) : w.heap.size ≤ gb385)); have GE385 := Aside0.mk ((by rw [hg]; exact (below_size bp_) : w.heap.size ≤ gb385)); replace HB := Aside0.mk (below_step bp_ hb); clear hb hbox hg))
 go_loopg [6, 7, 15] k (fun kq v6 v7 v15 w' => ∃ (x6_1 : List (S26)) (x7_1 : List Int) (x15_1 : Int), v15 = .int .i64 x15_1 ∧ Aside0 (turn_Orbit.l0 kq x6_1 x7_1 l1 (l1.length : Int) x15_1 a0_0 a0_1 l0_2 = some (r1, r2)) ∧ Aside0 (kq ≤ k) ∧ Aside0 (Kd.S k26 26 w' w.heap.size (fun k_ => k_ ≠ gb385) v6 x6_1) ∧ Aside0 (Kd.R (Kd.int .i64) 3 w' w.heap.size (fun _ => True) v7 x7_1) ∧ Aside0 (w'.heap[gb385]? = some (.cells #[.int .i64 a0_0, .int .i64 a0_1, (.slice A0_2 l0_2.length c0_2)] 26 (0, 0))) ∧ Aside0 (Below w.heap.size w w'))
 case atStart => exact ⟨(([] : List (S26))), (([] : List Int)), (0), (by first | rfl | (simp; done) | (simp [*]; done)), H', ⟨Nat.le_refl _⟩, ⟨by first | exact Kd.S_nil _ _ _ _ _ | exact Kd.N_nil _ _ _ _ _ | exact Kd.V_nil _ _ _ _ _ | exact Kd.Q_nil _ _ _ _ _ | exact Kd.R_nil _ _ _ _ _⟩, ⟨by first | exact Kd.R_nil _ _ _ _ _ | exact Kd.N_nil _ _ _ _ _ | exact Kd.V_nil _ _ _ _ _ | exact Kd.Q_nil _ _ _ _ _ | exact Kd.S_nil _ _ _ _ _⟩, ⟨hp_ BK385.out⟩, ⟨bp_⟩⟩
 case round =>
  clear H'
  try clear c1
  try clear c2
  try clear p2
  obtain ⟨x6_1, x7_1, x15_1, rfl, HA, HK1, HO_6, HO_7, BK385, HB⟩ := hrel
  cases gk with
  | zero => exact absurd HA.out (by simp [turn_Orbit.l0])
  | succ k1 =>
   have H := HA.out
   clear HA
   simp only [turn_Orbit.l0] at H
   by_cases c4 : x15_1 < (l1.length : Int)
   · rw [if_pos c4] at H
     have c4b0 : decide (x15_1 < (l1.length : Int)) = true := decide_eq_true c4
     clear c4
     by_cases c5 : 0 ≤ x15_1
     · rw [if_pos c5] at H
       have c5b0 : decide (0 ≤ x15_1) = true := decide_eq_true c5
       clear c5
       by_cases c6 : x15_1 < (l1.length : Int)
       · rw [if_pos c6] at H
         have c6b0 : decide (x15_1 < (l1.length : Int)) = true := decide_eq_true c6
         clear c6
         replace H := Option.bind_eq_some_iff.mp H
         obtain ⟨⟨t387, t388, t389, t392⟩, A70, H⟩ := H
         replace H : (if t392 = 0 then ((slices_IndexFunc_Same.f x6_1 t387 t388 t389).bind fun t394 => (if t394 < 0 then (if x6_1.length < 3518437208883 then (if x7_1.length < 17592186044416 then (turn_Orbit.l0 k1 (x6_1 ++ [(⟨t387, t388, t389⟩ : S26)]) (x7_1 ++ [(x6_1.length : Int)]) l1 (l1.length : Int) (wrap64 (x15_1 + 1)) a0_0 a0_1 l0_2) else (none)) else (none)) else (if x7_1.length < 17592186044416 then (turn_Orbit.l0 k1 x6_1 (x7_1 ++ [t394]) l1 (l1.length : Int) (wrap64 (x15_1 + 1)) a0_0 a0_1 l0_2) else (none)))) else (if x7_1.length < 17592186044416 then (turn_Orbit.l0 k1 x6_1 (x7_1 ++ [(-1)]) l1 (l1.length : Int) (wrap64 (x15_1 + 1)) a0_0 a0_1 l0_2) else (none))) = some (r1, r2) := H
         have A7 := Aside0.mk A70
         clear A70
         by_cases c8 : t392 = 0
         · rw [if_pos c8] at H
           have c8b0 : (t392 == 0) = true := beq_iff_eq.mpr c8
           have c8b1 : (t392 != 0) = false := bne_eq_false_iff_eq.mpr c8
           clear c8
           replace H := Option.bind_eq_some_iff.mp H
           obtain ⟨t394, A90, H⟩ := H
           replace H : (if t394 < 0 then (if x6_1.length < 3518437208883 then (if x7_1.length < 17592186044416 then (turn_Orbit.l0 k1 (x6_1 ++ [(⟨t387, t388, t389⟩ : S26)]) (x7_1 ++ [(x6_1.length : Int)]) l1 (l1.length : Int) (wrap64 (x15_1 + 1)) a0_0 a0_1 l0_2) else (none)) else (none)) else (if x7_1.length < 17592186044416 then (turn_Orbit.l0 k1 x6_1 (x7_1 ++ [t394]) l1 (l1.length : Int) (wrap64 (x15_1 + 1)) a0_0 a0_1 l0_2) else (none))) = some (r1, r2) := H
           have A9 := Aside0.mk A90
           clear A90
           by_cases c10 : t394 < 0
           · rw [if_pos c10] at H
             have c10b0 : decide (t394 < 0) = true := decide_eq_true c10
             clear c10
             by_cases c11 : x6_1.length < 3518437208883
             · rw [if_pos c11] at H
               have LMc11 := Aside0.mk c11
               clear c11
               obtain ⟨y395, hy395⟩ : ∃ y_ : List (S26), y_ = (x6_1 ++ [(⟨t387, t388, t389⟩ : S26)]) := ⟨_, rfl⟩
               replace H : (if x7_1.length < 17592186044416 then (turn_Orbit.l0 k1 y395 (x7_1 ++ [(x6_1.length : Int)]) l1 (l1.length : Int) (wrap64 (x15_1 + 1)) a0_0 a0_1 l0_2) else (none)) = some (r1, r2) := by first | (rw [hy395]; with_reducible exact H) | (have H2_ := (Option.bind_some _ _).symm.trans H; rw [hy395]; with_reducible exact H2_) | (have H2_ := (Option.bind_some _ _).symm.trans H; with_reducible exact H2_) | with_reducible exact H | (rw [hy395]; exact H) | exact H
               have Ny395 := Aside0.mk hy395
               clear hy395
               by_cases c12 : x7_1.length < 17592186044416
               · rw [if_pos c12] at H
                 have LMc12 := Aside0.mk c12
                 clear c12
                 obtain ⟨y398, hy398⟩ : ∃ y_ : List Int, y_ = (x7_1 ++ [(x6_1.length : Int)]) := ⟨_, rfl⟩
                 replace H : (turn_Orbit.l0 k1 y395 y398 l1 (l1.length : Int) (wrap64 (x15_1 + 1)) a0_0 a0_1 l0_2) = some (r1, r2) := by first | (rw [hy398]; with_reducible exact H) | (have H2_ := (Option.bind_some _ _).symm.trans H; rw [hy398]; with_reducible exact H2_) | (have H2_ := (Option.bind_some _ _).symm.trans H; with_reducible exact H2_) | with_reducible exact H | (rw [hy398]; exact H) | exact H
                 have Ny398 := Aside0.mk hy398
                 clear hy398
                 have H' := Aside0.mk H
                 clear H
                 have p386 : 0 ≤ (x15_1 : Int) := of_decide_eq_true (by first | (with_reducible assumption) | assumption)
                 have q386 : x15_1 < (l1.length : Int) := of_decide_eq_true (by first | (with_reducible assumption) | assumption)
                 obtain ⟨ad386, e386, hx386_0⟩ := Kd.at_int HR1.out x15_1 p386 q386
                 cases e386
                 replace hx386_0 := (HB.out.cell (World.block_lt_of_cell? w _ hx386_0)).trans hx386_0
                 replace p386 := eq_true p386
                 replace q386 := eq_true q386
                 have hcz13_0 : wr.cell? ⟨gb385, 0, none⟩ = some (.int .i64 a0_0) := (blk_cell BK385.out 0).trans rfl
                 have hcz13_1 : wr.cell? ⟨gb385, 1, none⟩ = some (.int .i64 a0_1) := (blk_cell BK385.out 1).trans rfl
                 have hcz13_2 : wr.cell? ⟨gb385, 2, none⟩ = some (.slice A0_2 l0_2.length c0_2) := (blk_cell BK385.out 2).trans rfl
                 have hfz13_0 := blk_frozen BK385.out 0
                 have hfz13_1 := blk_frozen BK385.out 1
                 have hfz13_2 := blk_frozen BK385.out 2
                 go_wp2_with (first | ((with_reducible refine gate_callee (f := 12) rfl ?_); refine goQ_ (some 22) Try.func12 #[.agg #[.int .i64 a0_0, .int .i64 a0_1, .slice A0_2 l0_2.length c0_2], .int .i64 (rd l1 x15_1)] ?_; (with_reducible refine (turn_Lay.calls k1 a0_0 a0_1 _ _ l0_2 (rd l1 x15_1) t387 t388 t389 t392 _ ?side1 ?side2 A7.out).mono ?_); (case side1 => repeat (first | exact (Kd.C_below HR0_2.out HB.out) | (with_reducible refine Kd.C_alloc ?_ _) | (with_reducible refine Kd.C_drewN ?_ _) | (with_reducible refine Kd.C_drew ?_))); (case side2 => exact HC0_2.out); rintro e w14 ⟨v390, rfl, ho0, hb⟩; refine ⟨_, rfl, ?_⟩; replace HO_6 := Aside0.mk (Kd.S_elder' (by (with_reducible repeat (first | apply Kd.S_alloc | apply Kd.S_drewN | apply Kd.S_drew)); exact HO_6.out) (Kd.R_base ho0) hb); replace HO_7 := Aside0.mk (Kd.R_below (rp_ HO_7.out) hb); have HO391 := Aside0.mk (Kd.R_lower ho0 (below_size bp_)); replace BK385 := Aside0.mk (blk_below (hp_ BK385.out) hb); replace HB := Aside0.mk (below_step bp_ hb); (try clear hb); (try clear hb2); (try clear hk); (try clear hi); (try clear ho0)) | ((with_reducible refine gate_dst (N := 10) rfl ?_); refine box_event ?hg (N := 10) ?hd (cs := #[.int .i64 0, .int .i64 0, .slice none 0 0]) (t := 26) ?hr ?_; (case hd => rfl); (case hg => rfl); (case hr => first | (go_simp; done) | (go_simp; rfl)); intro gb393 hg w15 hbox hb; replace HO_6 := Aside0.mk (Kd.S_below (Kd.S_elderB (by (with_reducible repeat (first | apply Kd.S_alloc | apply Kd.S_drewN | apply Kd.S_drew)); exact HO_6.out) gb393 (Nat.le_of_eq hg.symm)) hb); replace HO_7 := Aside0.mk (Kd.R_below (rp_ HO_7.out) hb); replace HO391 := Aside0.mk (Kd.R_below (rp_ HO391.out) hb); have BK393 := Aside0.mk (hbox); have GW393 := Aside0.mk ((by rw [hg]; exact (below_size bp_) : w.heap.size ≤ gb393)); have GE393 := Aside0.mk ((by rw [hg]; exact (below_size bp_) : w.heap.size ≤ gb393)); replace HB := Aside0.mk (below_step bp_ hb); have NB385_393 := Aside0.mk ((nlt_ hg (hp_ BK385.out))); have NB393_385 := Aside0.mk ((ngt_ hg (hp_ BK385.out))); replace BK385 := Aside0.mk (blk_below (hp_ BK385.out) hb); clear hb hbox hg; have hnb16 := NB393_385.out; have hnc16 := NB385_393.out; have hcz17_0 : w15.cell? ⟨gb393, 0, none⟩ = some (.int .i64 0) := (blk_cell BK393.out 0).trans rfl; have hcz17_1 : w15.cell? ⟨gb393, 1, none⟩ = some (.int .i64 0) := (blk_cell BK393.out 1).trans rfl; have hcz17_2 : w15.cell? ⟨gb393, 2, none⟩ = some (.slice none 0 0) := (blk_cell BK393.out 2).trans rfl; have hfz17_0 := blk_frozen BK393.out 0; have hfz17_1 := blk_frozen BK393.out 1; have hfz17_2 := blk_frozen BK393.out 2; obtain ⟨Ao18, co18, eo18⟩ := Kd.R_slice HO391.out; subst eo18; obtain ⟨Ao19, co19, eo19⟩ := Kd.S_slice HO_6.out; subst eo19) | ((with_reducible refine gate_callee (f := 45) rfl ?_); refine goQ_ (some 32) Try.func45 #[.slice Ao19 x6_1.length co19, .func (.func 46) #[] #[.pointer (some ⟨gb393, 0, none⟩)]] ?_; (with_reducible refine (slices_IndexFunc_Same.calls _ _ x6_1 t387 t388 Ao18 co18 t389 _ t394 _ ?side1 ?side2 ?side3 ?side4 ?side5 A9.out).mono ?_); (case side1 => refine (Kd.S_reads' (e := 26) (base := w.heap.size) (ok := fun k_ => ((k_ ≠ gb385 ∧ some k_ ≠ (.slice Ao18 t389.length co18 : Value).ownBlock) ∧ k_ ≠ gb393)) (n := x6_1.length) (c := co19) ?_).2.2; exact (by (with_reducible repeat (first | apply Kd.S_alloc | apply Kd.S_drewN | apply Kd.S_drew)); exact (Kd.S_mono (Kd.S_far (p := ⟨gb393, 2, none⟩) (Kd.S_far (p := ⟨gb393, 1, none⟩) (Kd.S_far (p := ⟨gb393, 0, none⟩) (Kd.S_mono HO_6.out (fun k_ hk => (⟨hk, hk.2⟩ : _ ∧ k_ ≠ gb393))) (fun _ hk => hk.2) (.int .i64 t387)) (fun _ hk => hk.2) (.int .i64 t388)) (fun _ hk => hk.2) (.slice Ao18 t389.length co18)) (fun _ h_ => h_.1)))); (case side2 => exact (Kd.S_reads' HO_6.out).2.1); (case side3 => refine (Kd.R_reads' (e := 41) (base := w.heap.size) (ok := fun k_ => True) (n := t389.length) (c := co18) ?_).2.2; exact (by (with_reducible repeat (first | apply Kd.R_alloc | apply Kd.R_drewN | apply Kd.R_drew)); exact (Kd.R_mono (Kd.R_far (p := ⟨gb393, 2, none⟩) (Kd.R_far (p := ⟨gb393, 1, none⟩) (Kd.R_far (p := ⟨gb393, 0, none⟩) (Kd.R_types HO391.out BK393.out (by decide)) (fun _ hk => hk.2) (.int .i64 t387)) (fun _ hk => hk.2) (.int .i64 t388)) (fun _ hk => hk.2) (.slice Ao18 t389.length co18)) (fun _ h_ => h_.1)))); (case side4 => exact (Kd.R_reads' HO391.out).2.1); (case side5 => first | ((with_reducible repeat (first | refine blk_drewN ?_ _ | refine blk_drew ?_ | refine blk_alloc ?_ _)); exact BK393.out) | exact (by (with_reducible repeat (first | refine blk_drewN ?_ _ | refine blk_drew ?_ | refine blk_alloc ?_ _)); refine blk_put (cs := #[.int .i64 t387, .int .i64 t388, .slice none 0 0]) ?_ 2 _ rfl; (with_reducible repeat (first | refine blk_drewN ?_ _ | refine blk_drew ?_ | refine blk_alloc ?_ _)); refine blk_put (cs := #[.int .i64 t387, .int .i64 0, .slice none 0 0]) ?_ 1 _ rfl; (with_reducible repeat (first | refine blk_drewN ?_ _ | refine blk_drew ?_ | refine blk_alloc ?_ _)); refine blk_put (cs := #[.int .i64 0, .int .i64 0, .slice none 0 0]) ?_ 0 _ rfl; (with_reducible repeat (first | refine blk_drewN ?_ _ | refine blk_drew ?_ | refine blk_alloc ?_ _)); exact BK393.out)); rintro e w20 ⟨rfl, hb⟩; refine ⟨_, rfl, ?_⟩; replace HO_6 := Aside0.mk (Kd.S_below (by (with_reducible repeat (first | apply Kd.S_alloc | apply Kd.S_drewN | apply Kd.S_drew)); exact (Kd.S_mono (Kd.S_far (p := ⟨gb393, 2, none⟩) (Kd.S_far (p := ⟨gb393, 1, none⟩) (Kd.S_far (p := ⟨gb393, 0, none⟩) (Kd.S_mono HO_6.out (fun k_ hk => (⟨hk, hk.2⟩ : _ ∧ k_ ≠ gb393))) (fun _ hk => hk.2) (.int .i64 t387)) (fun _ hk => hk.2) (.int .i64 t388)) (fun _ hk => hk.2) (.slice Ao18 t389.length co18)) (fun _ h_ => h_.1))) hb); replace HO_7 := Aside0.mk (Kd.R_below (by (with_reducible repeat (first | apply Kd.R_alloc | apply Kd.R_drewN | apply Kd.R_drew)); exact (Kd.R_mono (Kd.R_far (p := ⟨gb393, 2, none⟩) (Kd.R_far (p := ⟨gb393, 1, none⟩) (Kd.R_far (p := ⟨gb393, 0, none⟩) (Kd.R_types HO_7.out BK393.out (by decide)) (fun _ hk => hk.2) (.int .i64 t387)) (fun _ hk => hk.2) (.int .i64 t388)) (fun _ hk => hk.2) (.slice Ao18 t389.length co18)) (fun _ h_ => h_.1))) hb); replace HO391 := Aside0.mk (Kd.R_below (by (with_reducible repeat (first | apply Kd.R_alloc | apply Kd.R_drewN | apply Kd.R_drew)); exact (Kd.R_mono (Kd.R_far (p := ⟨gb393, 2, none⟩) (Kd.R_far (p := ⟨gb393, 1, none⟩) (Kd.R_far (p := ⟨gb393, 0, none⟩) (Kd.R_types HO391.out BK393.out (by decide)) (fun _ hk => hk.2) (.int .i64 t387)) (fun _ hk => hk.2) (.int .i64 t388)) (fun _ hk => hk.2) (.slice Ao18 t389.length co18)) (fun _ h_ => h_.1))) hb); replace BK385 := Aside0.mk (blk_below (hf_ BK385.out NB385_393.out) hb); replace BK393 := Aside0.mk (blk_below (g := gb393) (o := .cells #[.int .i64 t387, .int .i64 t388, .slice Ao18 t389.length co18] 26 (0, 0)) (by (with_reducible repeat (first | refine blk_drewN ?_ _ | refine blk_drew ?_ | refine blk_alloc ?_ _)); refine blk_put (cs := #[.int .i64 t387, .int .i64 t388, .slice none 0 0]) ?_ 2 _ rfl; (with_reducible repeat (first | refine blk_drewN ?_ _ | refine blk_drew ?_ | refine blk_alloc ?_ _)); refine blk_put (cs := #[.int .i64 t387, .int .i64 0, .slice none 0 0]) ?_ 1 _ rfl; (with_reducible repeat (first | refine blk_drewN ?_ _ | refine blk_drew ?_ | refine blk_alloc ?_ _)); refine blk_put (cs := #[.int .i64 0, .int .i64 0, .slice none 0 0]) ?_ 0 _ rfl; (with_reducible repeat (first | refine blk_drewN ?_ _ | refine blk_drew ?_ | refine blk_alloc ?_ _)); exact BK393.out) hb); replace HB := Aside0.mk (below_step bp_ hb); (try clear hb); (try clear hb2); (try clear hk); (try clear hi); have hcz21_0 : w20.cell? ⟨gb393, 0, none⟩ = some (.int .i64 t387) := (blk_cell BK393.out 0).trans rfl; have hcz21_1 : w20.cell? ⟨gb393, 1, none⟩ = some (.int .i64 t388) := (blk_cell BK393.out 1).trans rfl; have hcz21_2 : w20.cell? ⟨gb393, 2, none⟩ = some (.slice Ao18 t389.length co18) := (blk_cell BK393.out 2).trans rfl; have hfz21_0 := blk_frozen BK393.out 0; have hfz21_1 := blk_frozen BK393.out 1; have hfz21_2 := blk_frozen BK393.out 2) | ((with_reducible refine gate_builtin (b := .append) (xs := #[.tmp 37, .tmp 39]) rfl ?_); at_builtin; refine Kd.S_append k26 (w0 := w) w.heap.size rfl (.tmp 37) (.tmp 39) 53 26 (.agg #[(.int .i64 0), (.int .i64 0), (.slice none 0 0)]) 40 rfl Try.underlying53 info26 rfl (by decide) (by omega) (.slice Ao19 x6_1.length co19) x6_1 (⟨t387, t388, t389⟩ : S26) [.int .i64 t387, .int .i64 t388, .slice Ao18 t389.length co18] (fun k_ => k_ ≠ gb385 ∧ k_ ≠ gb393) (fun k_ => some k_ = (.slice Ao18 t389.length co18 : Value).ownBlock) rfl rfl ?aP (fun k_ hk_ => ((Kd.R_mono (ok' := fun k_ => ((fun k_ => k_ ≠ gb385 ∧ k_ ≠ gb393)) k_ ∧ some k_ ≠ (.slice Ao19 x6_1.length co19 : Value).ownBlock) (Kd.R_types (Kd.R_types (Kd.R_apart' (HO391.out) (Kd.S_typed HO_6.out) (by decide)) BK385.out (by decide)) BK393.out (by decide)) (fun k_ hk => ⟨⟨hk.1.2, hk.2⟩, hk.1.1.2⟩))).1 k_ hk_.symm) ?aF ?aO ?aB ?aS ?aL ?_; (case aP => exact k26_mkM _ _ _ (⟨t387, t388, t389⟩ : S26) (Kd.R_mono (Kd.R_tight rfl (Kd.R_mono (ok' := fun k_ => ((fun k_ => k_ ≠ gb385 ∧ k_ ≠ gb393)) k_ ∧ some k_ ≠ (.slice Ao19 x6_1.length co19 : Value).ownBlock) (Kd.R_types (Kd.R_types (Kd.R_apart' (HO391.out) (Kd.S_typed HO_6.out) (by decide)) BK385.out (by decide)) BK393.out (by decide)) (fun k_ hk => ⟨⟨hk.1.2, hk.2⟩, hk.1.1.2⟩))) (fun _ h_ => h_))); (case aB => exact bp_); (case aF => exact (fun k_ hk => ⟨Kd.freshB (g := gb385) (o := .cells #[.int .i64 a0_0, .int .i64 a0_1, .slice A0_2 l0_2.length c0_2] 26 (0, 0)) (hp_ BK385.out) k_ hk, Kd.freshB (g := gb393) (o := .cells #[.int .i64 t387, .int .i64 t388, .slice Ao18 t389.length co18] 26 (0, 0)) (hp_ BK393.out) k_ hk⟩)); (case aO => exact (by (with_reducible repeat (first | apply Kd.S_alloc | apply Kd.S_drewN | apply Kd.S_drew)); exact Kd.S_mono HO_6.out (fun k_ hk => ⟨⟨hk.1.1, hk.2⟩, fun e_ => hk.1.2 e_⟩))); (case aS => exact (below_size bp_)); (case aL => have := LMc11.out; omega); intro v396 w22 ho hb hg hat; rw [← Ny395.out] at ho; replace HO_7 := Aside0.mk (Kd.R_over' (rp_ HO_7.out) (Kd.S_typed (by (with_reducible repeat (first | apply Kd.S_alloc | apply Kd.S_drewN | apply Kd.S_drew)); exact HO_6.out)) (by decide) hg); replace BK385 := Aside0.mk (blk_grown (g := gb385) (o := .cells #[.int .i64 a0_0, .int .i64 a0_1, .slice A0_2 l0_2.length c0_2] 26 (0, 0)) (hp_ BK385.out) hg (Kd.S_away HO_6.out (fun _ hk => hk.1.1))); replace BK393 := Aside0.mk (blk_grown (g := gb393) (o := .cells #[.int .i64 t387, .int .i64 t388, .slice Ao18 t389.length co18] 26 (0, 0)) (hp_ BK393.out) hg (Kd.S_away HO_6.out (fun _ hk => hk.2))); replace HB := Aside0.mk (hb); have HO397 := Aside0.mk (ho); clear HO_6 HO391; clear ho hb hg hat) | ((with_reducible refine gate_builtin (b := .append) (xs := #[.tmp 41, .tmp 43]) rfl ?_); at_builtin; refine Kd.R_append (Kd.int .i64) (w0 := w) w.heap.size rfl (.tmp 41) (.tmp 43) 51 3 (.int .i64 0) 8 rfl Try.underlying51 info3 rfl (by decide) (by omega) u7 x7_1 (x6_1.length : Int) [.int .i64 (x6_1.length : Int)] (fun _ => True) (fun _ => False) rfl rfl ?aP (fun _ hk => hk.elim) ?aF ?aO ?aB ?aS ?aL ?_; (case aP => exact rfl); (case aB => exact bp_); (case aF => exact (fun _ _ => trivial)); (case aO => exact (rp_ HO_7.out)); (case aS => exact (below_size bp_)); (case aL => have := LMc12.out; omega); intro v399 w23 ho hb hg hat; rw [← Ny398.out] at ho; replace BK385 := Aside0.mk (blk_grown (g := gb385) (o := .cells #[.int .i64 a0_0, .int .i64 a0_1, .slice A0_2 l0_2.length c0_2] 26 (0, 0)) (hp_ BK385.out) hg (Kd.R_ne HO_7.out BK385.out (by decide))); replace BK393 := Aside0.mk (blk_grown (g := gb393) (o := .cells #[.int .i64 t387, .int .i64 t388, .slice Ao18 t389.length co18] 26 (0, 0)) (hp_ BK393.out) hg (Kd.R_ne HO_7.out BK393.out (by decide))); replace HO397 := Aside0.mk (Kd.S_over' (by (with_reducible repeat (first | apply Kd.S_alloc | apply Kd.S_drewN | apply Kd.S_drew)); exact HO397.out) (Kd.R_typed (rp_ HO_7.out)) (by decide) hg); replace HB := Aside0.mk (hb); have HO400 := Aside0.mk (ho); clear HO_7; clear ho hb hg hat))
                 go_roundg k1
                 case measure => have := HK1.out; omega
                 case rel => exact ⟨(y395), (y398), (wrap64 (x15_1 + 1)), (by first | rfl | (simp; done) | (simp [*]; done)), H', ⟨by have := HK1.out; omega⟩, ⟨by (with_reducible repeat (first | apply Kd.S_alloc | apply Kd.S_drewN | apply Kd.S_drew)); exact Kd.S_mono HO397.out (fun _ hk => hk.1)⟩, ⟨rp_ HO400.out⟩, ⟨hp_ BK385.out⟩, ⟨bp_⟩⟩
               · rw [if_neg c12] at H
                 exact absurd H (by simp)
             · rw [if_neg c11] at H
               exact absurd H (by simp)
           · rw [if_neg c10] at H
             have c10b0 : decide (t394 < 0) = false := decide_eq_false c10
             clear c10
             by_cases c24 : x7_1.length < 17592186044416
             · rw [if_pos c24] at H
               have LMc24 := Aside0.mk c24
               clear c24
               obtain ⟨y401, hy401⟩ : ∃ y_ : List Int, y_ = (x7_1 ++ [t394]) := ⟨_, rfl⟩
               replace H : (turn_Orbit.l0 k1 x6_1 y401 l1 (l1.length : Int) (wrap64 (x15_1 + 1)) a0_0 a0_1 l0_2) = some (r1, r2) := by first | (rw [hy401]; with_reducible exact H) | (have H2_ := (Option.bind_some _ _).symm.trans H; rw [hy401]; with_reducible exact H2_) | (have H2_ := (Option.bind_some _ _).symm.trans H; with_reducible exact H2_) | with_reducible exact H | (rw [hy401]; exact H) | exact H
               have Ny401 := Aside0.mk hy401
               clear hy401
               have H' := Aside0.mk H
               clear H
               have p386 : 0 ≤ (x15_1 : Int) := of_decide_eq_true (by first | (with_reducible assumption) | assumption)
               have q386 : x15_1 < (l1.length : Int) := of_decide_eq_true (by first | (with_reducible assumption) | assumption)
               obtain ⟨ad386, e386, hx386_0⟩ := Kd.at_int HR1.out x15_1 p386 q386
               cases e386
               replace hx386_0 := (HB.out.cell (World.block_lt_of_cell? w _ hx386_0)).trans hx386_0
               replace p386 := eq_true p386
               replace q386 := eq_true q386
               have hcz25_0 : wr.cell? ⟨gb385, 0, none⟩ = some (.int .i64 a0_0) := (blk_cell BK385.out 0).trans rfl
               have hcz25_1 : wr.cell? ⟨gb385, 1, none⟩ = some (.int .i64 a0_1) := (blk_cell BK385.out 1).trans rfl
               have hcz25_2 : wr.cell? ⟨gb385, 2, none⟩ = some (.slice A0_2 l0_2.length c0_2) := (blk_cell BK385.out 2).trans rfl
               have hfz25_0 := blk_frozen BK385.out 0
               have hfz25_1 := blk_frozen BK385.out 1
               have hfz25_2 := blk_frozen BK385.out 2
               go_wp2_with (first | ((with_reducible refine gate_callee (f := 12) rfl ?_); refine goQ_ (some 22) Try.func12 #[.agg #[.int .i64 a0_0, .int .i64 a0_1, .slice A0_2 l0_2.length c0_2], .int .i64 (rd l1 x15_1)] ?_; (with_reducible refine (turn_Lay.calls k1 a0_0 a0_1 _ _ l0_2 (rd l1 x15_1) t387 t388 t389 t392 _ ?side1 ?side2 A7.out).mono ?_); (case side1 => repeat (first | exact (Kd.C_below HR0_2.out HB.out) | (with_reducible refine Kd.C_alloc ?_ _) | (with_reducible refine Kd.C_drewN ?_ _) | (with_reducible refine Kd.C_drew ?_))); (case side2 => exact HC0_2.out); rintro e w26 ⟨v390, rfl, ho0, hb⟩; refine ⟨_, rfl, ?_⟩; replace HO_6 := Aside0.mk (Kd.S_elder' (by (with_reducible repeat (first | apply Kd.S_alloc | apply Kd.S_drewN | apply Kd.S_drew)); exact HO_6.out) (Kd.R_base ho0) hb); replace HO_7 := Aside0.mk (Kd.R_below (rp_ HO_7.out) hb); have HO391 := Aside0.mk (Kd.R_lower ho0 (below_size bp_)); replace BK385 := Aside0.mk (blk_below (hp_ BK385.out) hb); replace HB := Aside0.mk (below_step bp_ hb); (try clear hb); (try clear hb2); (try clear hk); (try clear hi); (try clear ho0)) | ((with_reducible refine gate_dst (N := 10) rfl ?_); refine box_event ?hg (N := 10) ?hd (cs := #[.int .i64 0, .int .i64 0, .slice none 0 0]) (t := 26) ?hr ?_; (case hd => rfl); (case hg => rfl); (case hr => first | (go_simp; done) | (go_simp; rfl)); intro gb393 hg w27 hbox hb; replace HO_6 := Aside0.mk (Kd.S_below (Kd.S_elderB (by (with_reducible repeat (first | apply Kd.S_alloc | apply Kd.S_drewN | apply Kd.S_drew)); exact HO_6.out) gb393 (Nat.le_of_eq hg.symm)) hb); replace HO_7 := Aside0.mk (Kd.R_below (rp_ HO_7.out) hb); replace HO391 := Aside0.mk (Kd.R_below (rp_ HO391.out) hb); have BK393 := Aside0.mk (hbox); have GW393 := Aside0.mk ((by rw [hg]; exact (below_size bp_) : w.heap.size ≤ gb393)); have GE393 := Aside0.mk ((by rw [hg]; exact (below_size bp_) : w.heap.size ≤ gb393)); replace HB := Aside0.mk (below_step bp_ hb); have NB385_393 := Aside0.mk ((nlt_ hg (hp_ BK385.out))); have NB393_385 := Aside0.mk ((ngt_ hg (hp_ BK385.out))); replace BK385 := Aside0.mk (blk_below (hp_ BK385.out) hb); clear hb hbox hg; have hnb28 := NB393_385.out; have hnc28 := NB385_393.out; have hcz29_0 : w27.cell? ⟨gb393, 0, none⟩ = some (.int .i64 0) := (blk_cell BK393.out 0).trans rfl; have hcz29_1 : w27.cell? ⟨gb393, 1, none⟩ = some (.int .i64 0) := (blk_cell BK393.out 1).trans rfl; have hcz29_2 : w27.cell? ⟨gb393, 2, none⟩ = some (.slice none 0 0) := (blk_cell BK393.out 2).trans rfl; have hfz29_0 := blk_frozen BK393.out 0; have hfz29_1 := blk_frozen BK393.out 1; have hfz29_2 := blk_frozen BK393.out 2; obtain ⟨Ao30, co30, eo30⟩ := Kd.R_slice HO391.out; subst eo30; obtain ⟨Ao31, co31, eo31⟩ := Kd.S_slice HO_6.out; subst eo31) | ((with_reducible refine gate_callee (f := 45) rfl ?_); refine goQ_ (some 32) Try.func45 #[.slice Ao31 x6_1.length co31, .func (.func 46) #[] #[.pointer (some ⟨gb393, 0, none⟩)]] ?_; (with_reducible refine (slices_IndexFunc_Same.calls _ _ x6_1 t387 t388 Ao30 co30 t389 _ t394 _ ?side1 ?side2 ?side3 ?side4 ?side5 A9.out).mono ?_); (case side1 => refine (Kd.S_reads' (e := 26) (base := w.heap.size) (ok := fun k_ => ((k_ ≠ gb385 ∧ some k_ ≠ (.slice Ao30 t389.length co30 : Value).ownBlock) ∧ k_ ≠ gb393)) (n := x6_1.length) (c := co31) ?_).2.2; exact (by (with_reducible repeat (first | apply Kd.S_alloc | apply Kd.S_drewN | apply Kd.S_drew)); exact (Kd.S_mono (Kd.S_far (p := ⟨gb393, 2, none⟩) (Kd.S_far (p := ⟨gb393, 1, none⟩) (Kd.S_far (p := ⟨gb393, 0, none⟩) (Kd.S_mono HO_6.out (fun k_ hk => (⟨hk, hk.2⟩ : _ ∧ k_ ≠ gb393))) (fun _ hk => hk.2) (.int .i64 t387)) (fun _ hk => hk.2) (.int .i64 t388)) (fun _ hk => hk.2) (.slice Ao30 t389.length co30)) (fun _ h_ => h_.1)))); (case side2 => exact (Kd.S_reads' HO_6.out).2.1); (case side3 => refine (Kd.R_reads' (e := 41) (base := w.heap.size) (ok := fun k_ => True) (n := t389.length) (c := co30) ?_).2.2; exact (by (with_reducible repeat (first | apply Kd.R_alloc | apply Kd.R_drewN | apply Kd.R_drew)); exact (Kd.R_mono (Kd.R_far (p := ⟨gb393, 2, none⟩) (Kd.R_far (p := ⟨gb393, 1, none⟩) (Kd.R_far (p := ⟨gb393, 0, none⟩) (Kd.R_types HO391.out BK393.out (by decide)) (fun _ hk => hk.2) (.int .i64 t387)) (fun _ hk => hk.2) (.int .i64 t388)) (fun _ hk => hk.2) (.slice Ao30 t389.length co30)) (fun _ h_ => h_.1)))); (case side4 => exact (Kd.R_reads' HO391.out).2.1); (case side5 => first | ((with_reducible repeat (first | refine blk_drewN ?_ _ | refine blk_drew ?_ | refine blk_alloc ?_ _)); exact BK393.out) | exact (by (with_reducible repeat (first | refine blk_drewN ?_ _ | refine blk_drew ?_ | refine blk_alloc ?_ _)); refine blk_put (cs := #[.int .i64 t387, .int .i64 t388, .slice none 0 0]) ?_ 2 _ rfl; (with_reducible repeat (first | refine blk_drewN ?_ _ | refine blk_drew ?_ | refine blk_alloc ?_ _)); refine blk_put (cs := #[.int .i64 t387, .int .i64 0, .slice none 0 0]) ?_ 1 _ rfl; (with_reducible repeat (first | refine blk_drewN ?_ _ | refine blk_drew ?_ | refine blk_alloc ?_ _)); refine blk_put (cs := #[.int .i64 0, .int .i64 0, .slice none 0 0]) ?_ 0 _ rfl; (with_reducible repeat (first | refine blk_drewN ?_ _ | refine blk_drew ?_ | refine blk_alloc ?_ _)); exact BK393.out)); rintro e w32 ⟨rfl, hb⟩; refine ⟨_, rfl, ?_⟩; replace HO_6 := Aside0.mk (Kd.S_below (by (with_reducible repeat (first | apply Kd.S_alloc | apply Kd.S_drewN | apply Kd.S_drew)); exact (Kd.S_mono (Kd.S_far (p := ⟨gb393, 2, none⟩) (Kd.S_far (p := ⟨gb393, 1, none⟩) (Kd.S_far (p := ⟨gb393, 0, none⟩) (Kd.S_mono HO_6.out (fun k_ hk => (⟨hk, hk.2⟩ : _ ∧ k_ ≠ gb393))) (fun _ hk => hk.2) (.int .i64 t387)) (fun _ hk => hk.2) (.int .i64 t388)) (fun _ hk => hk.2) (.slice Ao30 t389.length co30)) (fun _ h_ => h_.1))) hb); replace HO_7 := Aside0.mk (Kd.R_below (by (with_reducible repeat (first | apply Kd.R_alloc | apply Kd.R_drewN | apply Kd.R_drew)); exact (Kd.R_mono (Kd.R_far (p := ⟨gb393, 2, none⟩) (Kd.R_far (p := ⟨gb393, 1, none⟩) (Kd.R_far (p := ⟨gb393, 0, none⟩) (Kd.R_types HO_7.out BK393.out (by decide)) (fun _ hk => hk.2) (.int .i64 t387)) (fun _ hk => hk.2) (.int .i64 t388)) (fun _ hk => hk.2) (.slice Ao30 t389.length co30)) (fun _ h_ => h_.1))) hb); replace HO391 := Aside0.mk (Kd.R_below (by (with_reducible repeat (first | apply Kd.R_alloc | apply Kd.R_drewN | apply Kd.R_drew)); exact (Kd.R_mono (Kd.R_far (p := ⟨gb393, 2, none⟩) (Kd.R_far (p := ⟨gb393, 1, none⟩) (Kd.R_far (p := ⟨gb393, 0, none⟩) (Kd.R_types HO391.out BK393.out (by decide)) (fun _ hk => hk.2) (.int .i64 t387)) (fun _ hk => hk.2) (.int .i64 t388)) (fun _ hk => hk.2) (.slice Ao30 t389.length co30)) (fun _ h_ => h_.1))) hb); replace BK385 := Aside0.mk (blk_below (hf_ BK385.out NB385_393.out) hb); replace BK393 := Aside0.mk (blk_below (g := gb393) (o := .cells #[.int .i64 t387, .int .i64 t388, .slice Ao30 t389.length co30] 26 (0, 0)) (by (with_reducible repeat (first | refine blk_drewN ?_ _ | refine blk_drew ?_ | refine blk_alloc ?_ _)); refine blk_put (cs := #[.int .i64 t387, .int .i64 t388, .slice none 0 0]) ?_ 2 _ rfl; (with_reducible repeat (first | refine blk_drewN ?_ _ | refine blk_drew ?_ | refine blk_alloc ?_ _)); refine blk_put (cs := #[.int .i64 t387, .int .i64 0, .slice none 0 0]) ?_ 1 _ rfl; (with_reducible repeat (first | refine blk_drewN ?_ _ | refine blk_drew ?_ | refine blk_alloc ?_ _)); refine blk_put (cs := #[.int .i64 0, .int .i64 0, .slice none 0 0]) ?_ 0 _ rfl; (with_reducible repeat (first | refine blk_drewN ?_ _ | refine blk_drew ?_ | refine blk_alloc ?_ _)); exact BK393.out) hb); replace HB := Aside0.mk (below_step bp_ hb); (try clear hb); (try clear hb2); (try clear hk); (try clear hi)) | ((with_reducible refine gate_builtin (b := .append) (xs := #[.tmp 41, .tmp 43]) rfl ?_); at_builtin; refine Kd.R_append (Kd.int .i64) (w0 := w) w.heap.size rfl (.tmp 41) (.tmp 43) 51 3 (.int .i64 0) 8 rfl Try.underlying51 info3 rfl (by decide) (by omega) u7 x7_1 t394 [.int .i64 t394] (fun _ => True) (fun _ => False) rfl rfl ?aP (fun _ hk => hk.elim) ?aF ?aO ?aB ?aS ?aL ?_; (case aP => exact rfl); (case aB => exact bp_); (case aF => exact (fun _ _ => trivial)); (case aO => exact (rp_ HO_7.out)); (case aS => exact (below_size bp_)); (case aL => have := LMc24.out; omega); intro v402 w33 ho hb hg hat; rw [← Ny401.out] at ho; replace HO_6 := Aside0.mk (Kd.S_over' (by (with_reducible repeat (first | apply Kd.S_alloc | apply Kd.S_drewN | apply Kd.S_drew)); exact HO_6.out) (Kd.R_typed (rp_ HO_7.out)) (by decide) hg); replace BK385 := Aside0.mk (blk_grown (g := gb385) (o := .cells #[.int .i64 a0_0, .int .i64 a0_1, .slice A0_2 l0_2.length c0_2] 26 (0, 0)) (hp_ BK385.out) hg (Kd.R_ne HO_7.out BK385.out (by decide))); replace HO391 := Aside0.mk (Kd.R_over' (rp_ HO391.out) (Kd.R_typed (rp_ HO_7.out)) (by decide) hg); replace BK393 := Aside0.mk (blk_grown (g := gb393) (o := .cells #[.int .i64 t387, .int .i64 t388, .slice Ao30 t389.length co30] 26 (0, 0)) (hp_ BK393.out) hg (Kd.R_ne HO_7.out BK393.out (by decide))); replace HB := Aside0.mk (hb); have HO403 := Aside0.mk (ho); clear HO_7; clear ho hb hg hat))
               go_roundg k1
               case measure => have := HK1.out; omega
               case rel => exact ⟨(x6_1), (y401), (wrap64 (x15_1 + 1)), (by first | rfl | (simp; done) | (simp [*]; done)), H', ⟨by have := HK1.out; omega⟩, ⟨by (with_reducible repeat (first | apply Kd.S_alloc | apply Kd.S_drewN | apply Kd.S_drew)); exact Kd.S_mono HO_6.out (fun _ hk => hk.1.1)⟩, ⟨rp_ HO403.out⟩, ⟨hp_ BK385.out⟩, ⟨bp_⟩⟩
             · rw [if_neg c24] at H
               exact absurd H (by simp)
         · rw [if_neg c8] at H
           have c8b0 : (t392 == 0) = false := beq_eq_false_iff_ne.mpr c8
           have c8b1 : (t392 != 0) = true := bne_iff_ne.mpr c8
           by_cases c34 : x7_1.length < 17592186044416
           · rw [if_pos c34] at H
             have LMc34 := Aside0.mk c34
             clear c34
             obtain ⟨y404, hy404⟩ : ∃ y_ : List Int, y_ = (x7_1 ++ [(-1)]) := ⟨_, rfl⟩
             replace H : (turn_Orbit.l0 k1 x6_1 y404 l1 (l1.length : Int) (wrap64 (x15_1 + 1)) a0_0 a0_1 l0_2) = some (r1, r2) := by first | (rw [hy404]; with_reducible exact H) | (have H2_ := (Option.bind_some _ _).symm.trans H; rw [hy404]; with_reducible exact H2_) | (have H2_ := (Option.bind_some _ _).symm.trans H; with_reducible exact H2_) | with_reducible exact H | (rw [hy404]; exact H) | exact H
             have Ny404 := Aside0.mk hy404
             clear hy404
             have H' := Aside0.mk H
             clear H
             have p386 : 0 ≤ (x15_1 : Int) := of_decide_eq_true (by first | (with_reducible assumption) | assumption)
             have q386 : x15_1 < (l1.length : Int) := of_decide_eq_true (by first | (with_reducible assumption) | assumption)
             obtain ⟨ad386, e386, hx386_0⟩ := Kd.at_int HR1.out x15_1 p386 q386
             cases e386
             replace hx386_0 := (HB.out.cell (World.block_lt_of_cell? w _ hx386_0)).trans hx386_0
             replace p386 := eq_true p386
             replace q386 := eq_true q386
             have hcz35_0 : wr.cell? ⟨gb385, 0, none⟩ = some (.int .i64 a0_0) := (blk_cell BK385.out 0).trans rfl
             have hcz35_1 : wr.cell? ⟨gb385, 1, none⟩ = some (.int .i64 a0_1) := (blk_cell BK385.out 1).trans rfl
             have hcz35_2 : wr.cell? ⟨gb385, 2, none⟩ = some (.slice A0_2 l0_2.length c0_2) := (blk_cell BK385.out 2).trans rfl
             have hfz35_0 := blk_frozen BK385.out 0
             have hfz35_1 := blk_frozen BK385.out 1
             have hfz35_2 := blk_frozen BK385.out 2
             go_wp2_with (first | ((with_reducible refine gate_callee (f := 12) rfl ?_); refine goQ_ (some 22) Try.func12 #[.agg #[.int .i64 a0_0, .int .i64 a0_1, .slice A0_2 l0_2.length c0_2], .int .i64 (rd l1 x15_1)] ?_; (with_reducible refine (turn_Lay.calls k1 a0_0 a0_1 _ _ l0_2 (rd l1 x15_1) t387 t388 t389 t392 _ ?side1 ?side2 A7.out).mono ?_); (case side1 => repeat (first | exact (Kd.C_below HR0_2.out HB.out) | (with_reducible refine Kd.C_alloc ?_ _) | (with_reducible refine Kd.C_drewN ?_ _) | (with_reducible refine Kd.C_drew ?_))); (case side2 => exact HC0_2.out); rintro e w36 ⟨v390, rfl, ho0, hb⟩; refine ⟨_, rfl, ?_⟩; replace HO_6 := Aside0.mk (Kd.S_elder' (by (with_reducible repeat (first | apply Kd.S_alloc | apply Kd.S_drewN | apply Kd.S_drew)); exact HO_6.out) (Kd.R_base ho0) hb); replace HO_7 := Aside0.mk (Kd.R_below (rp_ HO_7.out) hb); have HO391 := Aside0.mk (Kd.R_lower ho0 (below_size bp_)); replace BK385 := Aside0.mk (blk_below (hp_ BK385.out) hb); replace HB := Aside0.mk (below_step bp_ hb); (try clear hb); (try clear hb2); (try clear hk); (try clear hi); (try clear ho0)) | ((with_reducible refine gate_dst (N := 10) rfl ?_); refine box_event ?hg (N := 10) ?hd (cs := #[.int .i64 0, .int .i64 0, .slice none 0 0]) (t := 26) ?hr ?_; (case hd => rfl); (case hg => rfl); (case hr => first | (go_simp; done) | (go_simp; rfl)); intro gb393 hg w37 hbox hb; replace HO_6 := Aside0.mk (Kd.S_below (Kd.S_elderB (by (with_reducible repeat (first | apply Kd.S_alloc | apply Kd.S_drewN | apply Kd.S_drew)); exact HO_6.out) gb393 (Nat.le_of_eq hg.symm)) hb); replace HO_7 := Aside0.mk (Kd.R_below (rp_ HO_7.out) hb); replace HO391 := Aside0.mk (Kd.R_below (rp_ HO391.out) hb); have BK393 := Aside0.mk (hbox); have GW393 := Aside0.mk ((by rw [hg]; exact (below_size bp_) : w.heap.size ≤ gb393)); have GE393 := Aside0.mk ((by rw [hg]; exact (below_size bp_) : w.heap.size ≤ gb393)); replace HB := Aside0.mk (below_step bp_ hb); have NB385_393 := Aside0.mk ((nlt_ hg (hp_ BK385.out))); have NB393_385 := Aside0.mk ((ngt_ hg (hp_ BK385.out))); replace BK385 := Aside0.mk (blk_below (hp_ BK385.out) hb); clear hb hbox hg; have hnb38 := NB393_385.out; have hnc38 := NB385_393.out; have hcz39_0 : w37.cell? ⟨gb393, 0, none⟩ = some (.int .i64 0) := (blk_cell BK393.out 0).trans rfl; have hcz39_1 : w37.cell? ⟨gb393, 1, none⟩ = some (.int .i64 0) := (blk_cell BK393.out 1).trans rfl; have hcz39_2 : w37.cell? ⟨gb393, 2, none⟩ = some (.slice none 0 0) := (blk_cell BK393.out 2).trans rfl; have hfz39_0 := blk_frozen BK393.out 0; have hfz39_1 := blk_frozen BK393.out 1; have hfz39_2 := blk_frozen BK393.out 2; obtain ⟨Ao40, co40, eo40⟩ := Kd.R_slice HO391.out; subst eo40) | ((with_reducible refine gate_builtin (b := .append) (xs := #[.tmp 27, .tmp 28]) rfl ?_); at_builtin; refine Kd.R_append (Kd.int .i64) (w0 := w) w.heap.size rfl (.tmp 27) (.tmp 28) 51 3 (.int .i64 0) 8 rfl Try.underlying51 info3 rfl (by decide) (by omega) u7 x7_1 (-1) [.int .i64 (-1)] (fun _ => True) (fun _ => False) rfl (by first | (go_simp; done) | (go_simp; rfl)) ?aP (fun _ hk => hk.elim) ?aF ?aO ?aB ?aS ?aL ?_; (case aP => exact rfl); (case aB => exact bp_); (case aF => exact (fun _ _ => trivial)); (case aO => exact (rf_ HO_7.out BK393.out (by decide) (fun _ hk => trivial))); (case aS => exact (below_size bp_)); (case aL => have := LMc34.out; omega); intro v405 w41 ho hb hg hat; rw [← Ny404.out] at ho; replace HO_6 := Aside0.mk (Kd.S_over' (by (with_reducible repeat (first | apply Kd.S_alloc | apply Kd.S_drewN | apply Kd.S_drew)); exact (Kd.S_mono (Kd.S_far (p := ⟨gb393, 2, none⟩) (Kd.S_far (p := ⟨gb393, 1, none⟩) (Kd.S_far (p := ⟨gb393, 0, none⟩) (Kd.S_mono HO_6.out (fun k_ hk => (⟨hk, hk.2⟩ : _ ∧ k_ ≠ gb393))) (fun _ hk => hk.2) (.int .i64 t387)) (fun _ hk => hk.2) (.int .i64 t388)) (fun _ hk => hk.2) (.slice Ao40 t389.length co40)) (fun _ h_ => h_.1))) (Kd.R_typed (by (with_reducible repeat (first | apply Kd.R_alloc | apply Kd.R_drewN | apply Kd.R_drew)); exact (Kd.R_mono (Kd.R_far (p := ⟨gb393, 2, none⟩) (Kd.R_far (p := ⟨gb393, 1, none⟩) (Kd.R_far (p := ⟨gb393, 0, none⟩) (Kd.R_types HO_7.out BK393.out (by decide)) (fun _ hk => hk.2) (.int .i64 t387)) (fun _ hk => hk.2) (.int .i64 t388)) (fun _ hk => hk.2) (.slice Ao40 t389.length co40)) (fun _ h_ => h_.1)))) (by decide) hg); replace BK385 := Aside0.mk (blk_grown (g := gb385) (o := .cells #[.int .i64 a0_0, .int .i64 a0_1, .slice A0_2 l0_2.length c0_2] 26 (0, 0)) (hf_ BK385.out NB385_393.out) hg (Kd.R_ne HO_7.out BK385.out (by decide))); replace HO391 := Aside0.mk (Kd.R_over' (by (with_reducible repeat (first | apply Kd.R_alloc | apply Kd.R_drewN | apply Kd.R_drew)); exact (Kd.R_mono (Kd.R_far (p := ⟨gb393, 2, none⟩) (Kd.R_far (p := ⟨gb393, 1, none⟩) (Kd.R_far (p := ⟨gb393, 0, none⟩) (Kd.R_types HO391.out BK393.out (by decide)) (fun _ hk => hk.2) (.int .i64 t387)) (fun _ hk => hk.2) (.int .i64 t388)) (fun _ hk => hk.2) (.slice Ao40 t389.length co40)) (fun _ h_ => h_.1))) (Kd.R_typed (by (with_reducible repeat (first | apply Kd.R_alloc | apply Kd.R_drewN | apply Kd.R_drew)); exact (Kd.R_mono (Kd.R_far (p := ⟨gb393, 2, none⟩) (Kd.R_far (p := ⟨gb393, 1, none⟩) (Kd.R_far (p := ⟨gb393, 0, none⟩) (Kd.R_types HO_7.out BK393.out (by decide)) (fun _ hk => hk.2) (.int .i64 t387)) (fun _ hk => hk.2) (.int .i64 t388)) (fun _ hk => hk.2) (.slice Ao40 t389.length co40)) (fun _ h_ => h_.1)))) (by decide) hg); replace BK393 := Aside0.mk (blk_grown (g := gb393) (o := .cells #[.int .i64 t387, .int .i64 t388, .slice Ao40 t389.length co40] 26 (0, 0)) (by (with_reducible repeat (first | refine blk_drewN ?_ _ | refine blk_drew ?_ | refine blk_alloc ?_ _)); refine blk_put (cs := #[.int .i64 t387, .int .i64 t388, .slice none 0 0]) ?_ 2 _ rfl; (with_reducible repeat (first | refine blk_drewN ?_ _ | refine blk_drew ?_ | refine blk_alloc ?_ _)); refine blk_put (cs := #[.int .i64 t387, .int .i64 0, .slice none 0 0]) ?_ 1 _ rfl; (with_reducible repeat (first | refine blk_drewN ?_ _ | refine blk_drew ?_ | refine blk_alloc ?_ _)); refine blk_put (cs := #[.int .i64 0, .int .i64 0, .slice none 0 0]) ?_ 0 _ rfl; (with_reducible repeat (first | refine blk_drewN ?_ _ | refine blk_drew ?_ | refine blk_alloc ?_ _)); exact BK393.out) hg (Kd.R_ne HO_7.out BK393.out (by decide))); replace HB := Aside0.mk (hb); have HO406 := Aside0.mk (ho); clear HO_7; clear ho hb hg hat))
             go_roundg k1
             case measure => have := HK1.out; omega
             case rel => exact ⟨(x6_1), (y404), (wrap64 (x15_1 + 1)), (by first | rfl | (simp; done) | (simp [*]; done)), H', ⟨by have := HK1.out; omega⟩, ⟨by (with_reducible repeat (first | apply Kd.S_alloc | apply Kd.S_drewN | apply Kd.S_drew)); exact Kd.S_mono HO_6.out (fun _ hk => hk.1.1)⟩, ⟨rp_ HO406.out⟩, ⟨hp_ BK385.out⟩, ⟨bp_⟩⟩
           · rw [if_neg c34] at H
             exact absurd H (by simp)
       · rw [if_neg c6] at H
         exact absurd H (by simp)
     · rw [if_neg c5] at H
       exact absurd H (by simp)
   · rw [if_neg c4] at H
     have c4b0 : decide (x15_1 < (l1.length : Int)) = false := decide_eq_false c4
     clear c4
     simp only [Option.some.injEq, Prod.mk.injEq] at H
     obtain ⟨rfl, rfl⟩ := H
     go_wp2
     go_ret2
     exact ⟨_, _, by first | rfl | (simp [errW_none, errW_some] <;> rfl) | (simp [*, errW_none, errW_some] <;> rfl), by (with_reducible repeat (first | apply Kd.S_alloc | apply Kd.S_drewN | apply Kd.S_drew)); exact Kd.S_mono HO_6.out (fun _ hk => trivial), by (with_reducible repeat (first | apply Kd.R_alloc | apply Kd.R_drewN | apply Kd.R_drew)); exact HO_7.out, bp_⟩

end Go.Proofs.Ytehjnekljodmgaa.Q
