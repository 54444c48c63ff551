-- written by our own program (wip/tools/myprint.py) out of the translation, by the kit's print; Lean checks it
import Derived.Test.YtidpaaemfiopkaaQ0
import Derived.Test.YtidpaaemfiopkaaQ9
import Derived.Test.YtidpaaemfiopkaaIapi_Pixel_51
namespace Go.Proofs.Ytidpaaemfiopkaa.Q
open Go.RowKit Go.Proofs.YtidpaaemfiopkaaW.PrintWords Go.Proofs.YtidpaaemfiopkaaW.PrintLast Go.Proofs.YtidpaaemfiopkaaW.PrintMore
attribute [local go_sem] max2_int min2_int max_two min_two max_three min_three max_four min_four   -- for this text's walks alone
set_option linter.unusedVariables false
set_option linter.unusedSimpArgs false


/-! ### rect_Fits: function 38 -/
def rect_Fits.f (a0_0 : Int) (a0_1 : Int) (l0_2 : List Int) (a1_0 : Int) (a1_1 : Int) : Option (Bool) := (rect_May.f a0_0 a0_1 l0_2).bind fun t589 => (if t589 = true then ((slices_ContainsFunc_Fits.f l0_2 a1_0 a1_1).bind fun t590 => (some (!t590))) else (some false))
set_option maxHeartbeats 8000000 in
set_option maxRecDepth 100000 in
theorem rect_Fits.calls (a0_0 : Int) (a0_1 : Int) (A0_2 : Option Addr) (c0_2 : Nat) (l0_2 : List Int) (a1_0 : Int) (a1_1 : Int) (r : Bool) (w : World) (hr0_2 : Kd.C (Kd.int .u64) w A0_2 l0_2.length l0_2) (hc0_2 : l0_2.length ≤ c0_2) (h : rect_Fits.f a0_0 a0_1 l0_2 a1_0 a1_1 = some r) :
 Calls Try.prog 38 #[.agg #[.int .i64 a0_0, .int .i64 a0_1, .slice A0_2 l0_2.length c0_2], .agg #[.int .i64 a1_0, .int .i64 a1_1]] w fun e w' => e = .returned (.bool r) ∧ Below w.heap.size w w' := by
 have hu32 := Try.underlying32
 have hu70 := Try.underlying70
 have hmf_ : ∀ (fn_ : Fn) (first cap : Array Value) (w_ : World), (Instr.makeFunc fn_ first cap).run Try.prog w_ = .ok (.func fn_ first cap) w_ := fun _ _ _ _ => rfl
 have HR0_2 := Aside0.mk hr0_2
 have HC0_2 := Aside0.mk hc0_2
 clear hr0_2 hc0_2
 have HB := Aside0.mk (Below.refl w.heap.size w)
 have H : ((rect_May.f a0_0 a0_1 l0_2).bind fun t589 => (if t589 = true then ((slices_ContainsFunc_Fits.f l0_2 a1_0 a1_1).bind fun t590 => (some (!t590))) else (some false))) = some r := h
 clear h
 replace H := Option.bind_eq_some_iff.mp H
 obtain ⟨t589, A30, H⟩ := H
 replace H : (if t589 = true then ((slices_ContainsFunc_Fits.f l0_2 a1_0 a1_1).bind fun t590 => (some (!t590))) else (some false)) = some r := H
 have A3 := Aside0.mk A30
 clear A30
 by_cases c4 : t589 = true
 · subst c4
   have H1 : ((slices_ContainsFunc_Fits.f l0_2 a1_0 a1_1).bind fun t590 => (some (!t590))) = some r := by rw [if_pos rfl] at H; exact H
   clear H
   have H := H1
   clear H1
   replace H := Option.bind_eq_some_iff.mp H
   obtain ⟨t590, A50, H⟩ := H
   replace H : (some (!t590)) = some r := H
   have A5 := Aside0.mk A50
   clear A50
   obtain rfl := Option.some.inj H
   go_enter Try.func38, Try.ntmps38
   go_wp2_with (first | ((with_reducible refine gate_dst (N := 2) rfl ?_); refine box_event ?hg (N := 2) ?hd (cs := #[.int .i64 a0_0, .int .i64 a0_1, .slice A0_2 l0_2.length c0_2]) (t := 32) ?hr ?_; (case hd => rfl); (case hg => rfl); (case hr => first | (go_simp; done) | (go_simp; rfl)); intro gb587 hg w6 hbox hb; have BK587 := Aside0.mk (hbox); have GW587 := Aside0.mk ((by rw [hg]; exact (below_size bp_) : w.heap.size ≤ gb587)); have GE587 := Aside0.mk ((by rw [hg]; exact (below_size bp_) : w.heap.size ≤ gb587)); replace HB := Aside0.mk (below_step bp_ hb); clear hb hbox hg) | ((with_reducible refine gate_dst (N := 3) rfl ?_); refine box_event ?hg (N := 3) ?hd (cs := #[.int .i64 a1_0, .int .i64 a1_1]) (t := 70) ?hr ?_; (case hd => rfl); (case hg => rfl); (case hr => first | (go_simp; done) | (go_simp; rfl)); intro gb588 hg w7 hbox hb; have BK588 := Aside0.mk (hbox); have GW588 := Aside0.mk ((by rw [hg]; exact (below_size bp_) : w.heap.size ≤ gb588)); have GE588 := Aside0.mk ((by rw [hg]; exact (below_size bp_) : w.heap.size ≤ gb588)); replace HB := Aside0.mk (below_step bp_ hb); have NB587_588 := Aside0.mk ((nlt_ hg (hp_ BK587.out))); have NB588_587 := Aside0.mk ((ngt_ hg (hp_ BK587.out))); replace BK587 := Aside0.mk (blk_below (hp_ BK587.out) hb); clear hb hbox hg; have hnb8 := NB587_588.out; have hnc8 := NB588_587.out; have hcz9_0 : w7.cell? ⟨gb587, 0, none⟩ = some (.int .i64 a0_0) := (blk_cell BK587.out 0).trans rfl; have hcz9_1 : w7.cell? ⟨gb587, 1, none⟩ = some (.int .i64 a0_1) := (blk_cell BK587.out 1).trans rfl; have hcz9_2 : w7.cell? ⟨gb587, 2, none⟩ = some (.slice A0_2 l0_2.length c0_2) := (blk_cell BK587.out 2).trans rfl; have hfz9_0 := blk_frozen BK587.out 0; have hfz9_1 := blk_frozen BK587.out 1; have hfz9_2 := blk_frozen BK587.out 2) | ((with_reducible refine gate_callee (f := 19) rfl ?_); refine goQ_ (some 6) Try.func19 #[.agg #[.int .i64 a0_0, .int .i64 a0_1, .slice A0_2 l0_2.length c0_2]] ?_; (with_reducible refine (rect_May.calls a0_0 a0_1 _ _ l0_2 true _ ?side1 ?side2 A3.out).mono ?_); (case side1 => repeat (first | exact (Kd.C_below HR0_2.out HB.out) | (with_reducible refine Kd.C_alloc ?_ _) | (with_reducible refine Kd.C_drewN ?_ _) | (with_reducible refine Kd.C_drew ?_))); (case side2 => exact HC0_2.out); rintro e w10 ⟨rfl, hb⟩; refine ⟨_, rfl, ?_⟩; replace BK587 := Aside0.mk (blk_below (hp_ BK587.out) hb); replace BK588 := Aside0.mk (blk_below (hp_ BK588.out) hb); replace HB := Aside0.mk (below_step bp_ hb); (try clear hb); (try clear hb2); (try clear hk); (try clear hi); have hcz11_0 : w10.cell? ⟨gb587, 0, none⟩ = some (.int .i64 a0_0) := (blk_cell BK587.out 0).trans rfl; have hcz11_1 : w10.cell? ⟨gb587, 1, none⟩ = some (.int .i64 a0_1) := (blk_cell BK587.out 1).trans rfl; have hcz11_2 : w10.cell? ⟨gb587, 2, none⟩ = some (.slice A0_2 l0_2.length c0_2) := (blk_cell BK587.out 2).trans rfl; have hfz11_0 := blk_frozen BK587.out 0; have hfz11_1 := blk_frozen BK587.out 1; have hfz11_2 := blk_frozen BK587.out 2) | (go_at_call 51; (with_reducible refine (slices_ContainsFunc_Fits.calls _ _ l0_2 a1_0 a1_1 _ t590 _ ?side1 ?side2 ?side3 A5.out).mono ?_); (case side1 => repeat (first | exact (Kd.C_below HR0_2.out HB.out) | (with_reducible refine Kd.C_alloc ?_ _) | (with_reducible refine Kd.C_drewN ?_ _) | (with_reducible refine Kd.C_drew ?_))); (case side2 => exact HC0_2.out); (case side3 => (with_reducible repeat (first | refine blk_drewN ?_ _ | refine blk_drew ?_ | refine blk_alloc ?_ _)); exact BK588.out); rintro e w12 ⟨rfl, hb⟩; replace BK588 := Aside0.mk (blk_below (hp_ BK588.out) hb); replace HB := Aside0.mk (below_step bp_ hb); (try clear hb); (try clear hb2); (try clear hk); (try clear hi)))
   go_ret
   exact ⟨by first | rfl | (simp [errW_none, errW_some] <;> rfl) | (simp [*, errW_none, errW_some] <;> rfl), bp_⟩
 · replace c4 := Bool.eq_false_iff.mpr c4
   subst c4
   have H1 : (some false) = some r := by rw [if_neg (show ¬ (false = true) by decide)] at H; exact H
   clear H
   have H := H1
   clear H1
   obtain rfl := Option.some.inj H
   go_enter Try.func38, Try.ntmps38
   go_wp2_with (first | ((with_reducible refine gate_dst (N := 2) rfl ?_); refine box_event ?hg (N := 2) ?hd (cs := #[.int .i64 a0_0, .int .i64 a0_1, .slice A0_2 l0_2.length c0_2]) (t := 32) ?hr ?_; (case hd => rfl); (case hg => rfl); (case hr => first | (go_simp; done) | (go_simp; rfl)); intro gb587 hg w13 hbox hb; have BK587 := Aside0.mk (hbox); have GW587 := Aside0.mk ((by rw [hg]; exact (below_size bp_) : w.heap.size ≤ gb587)); have GE587 := Aside0.mk ((by rw [hg]; exact (below_size bp_) : w.heap.size ≤ gb587)); replace HB := Aside0.mk (below_step bp_ hb); clear hb hbox hg) | ((with_reducible refine gate_dst (N := 3) rfl ?_); refine box_event ?hg (N := 3) ?hd (cs := #[.int .i64 a1_0, .int .i64 a1_1]) (t := 70) ?hr ?_; (case hd => rfl); (case hg => rfl); (case hr => first | (go_simp; done) | (go_simp; rfl)); intro gb588 hg w14 hbox hb; have BK588 := Aside0.mk (hbox); have GW588 := Aside0.mk ((by rw [hg]; exact (below_size bp_) : w.heap.size ≤ gb588)); have GE588 := Aside0.mk ((by rw [hg]; exact (below_size bp_) : w.heap.size ≤ gb588)); replace HB := Aside0.mk (below_step bp_ hb); have NB587_588 := Aside0.mk ((nlt_ hg (hp_ BK587.out))); have NB588_587 := Aside0.mk ((ngt_ hg (hp_ BK587.out))); replace BK587 := Aside0.mk (blk_below (hp_ BK587.out) hb); clear hb hbox hg; have hcz15_0 : w14.cell? ⟨gb587, 0, none⟩ = some (.int .i64 a0_0) := (blk_cell BK587.out 0).trans rfl; have hcz15_1 : w14.cell? ⟨gb587, 1, none⟩ = some (.int .i64 a0_1) := (blk_cell BK587.out 1).trans rfl; have hcz15_2 : w14.cell? ⟨gb587, 2, none⟩ = some (.slice A0_2 l0_2.length c0_2) := (blk_cell BK587.out 2).trans rfl; have hfz15_0 := blk_frozen BK587.out 0; have hfz15_1 := blk_frozen BK587.out 1; have hfz15_2 := blk_frozen BK587.out 2) | ((with_reducible refine gate_callee (f := 19) rfl ?_); refine goQ_ (some 6) Try.func19 #[.agg #[.int .i64 a0_0, .int .i64 a0_1, .slice A0_2 l0_2.length c0_2]] ?_; (with_reducible refine (rect_May.calls a0_0 a0_1 _ _ l0_2 false _ ?side1 ?side2 A3.out).mono ?_); (case side1 => repeat (first | exact (Kd.C_below HR0_2.out HB.out) | (with_reducible refine Kd.C_alloc ?_ _) | (with_reducible refine Kd.C_drewN ?_ _) | (with_reducible refine Kd.C_drew ?_))); (case side2 => exact HC0_2.out); rintro e w16 ⟨rfl, hb⟩; refine ⟨_, rfl, ?_⟩; replace HB := Aside0.mk (below_step bp_ hb); (try clear hb); (try clear hb2); (try clear hk); (try clear hi)))
   go_ret
   exact ⟨by first | rfl | (simp [errW_none, errW_some] <;> rfl) | (simp [*, errW_none, errW_some] <;> rfl), bp_⟩


/-! ### chequerref01_Unpack: function 61 -/
def chequerref01_Unpack.f (a0 : Int) : Option (List Int) := if (IntKind.u64.wrap (Int.tdiv a0 281474976710656)) = 3 then (some (([wrap64 (Int.tdiv (wrap64 (Int.tmod a0 281474976710656)) 4294967296), Int.tmod (wrap64 (Int.tdiv (wrap64 (Int.tmod a0 281474976710656)) 65536)) 65536, Int.tmod (wrap64 (Int.tmod a0 281474976710656)) 65536] : List Int))) else (if (IntKind.u64.wrap (Int.tdiv a0 281474976710656)) = 1 then (if (wrap64 (Int.tmod a0 281474976710656)) < 65536 then (some (([wrap64 (Int.tmod a0 281474976710656)] : List Int))) else (some ([] : List Int))) else (some ([] : List Int)))
set_option maxHeartbeats 8000000 in
set_option maxRecDepth 100000 in
theorem chequerref01_Unpack.calls (a0 : Int) (r : List Int) (w : World) (h : chequerref01_Unpack.f a0 = some r) :
 Calls Try.prog 61 #[.int .u64 a0] w fun e w' => ∃ v0_ : Value, e = .returned (v0_) ∧ Kd.R (Kd.int .i64) 3 w' w.heap.size (fun _ => True) v0_ r ∧ Below w.heap.size w w' := by
 have HB := Aside0.mk (Below.refl w.heap.size w)
 have H : (if (IntKind.u64.wrap (Int.tdiv a0 281474976710656)) = 3 then (some (([wrap64 (Int.tdiv (wrap64 (Int.tmod a0 281474976710656)) 4294967296), Int.tmod (wrap64 (Int.tdiv (wrap64 (Int.tmod a0 281474976710656)) 65536)) 65536, Int.tmod (wrap64 (Int.tmod a0 281474976710656)) 65536] : List Int))) else (if (IntKind.u64.wrap (Int.tdiv a0 281474976710656)) = 1 then (if (wrap64 (Int.tmod a0 281474976710656)) < 65536 then (some (([wrap64 (Int.tmod a0 281474976710656)] : List Int))) else (some ([] : List Int))) else (some ([] : List Int)))) = some r := h
 clear h
 by_cases c2 : (IntKind.u64.wrap (Int.tdiv a0 281474976710656)) = 3
 · rw [if_pos c2] at H
   have c2b0 : ((IntKind.u64.wrap (Int.tdiv a0 281474976710656)) == 3) = true := beq_iff_eq.mpr c2
   have c2b1 : ((IntKind.u64.wrap (Int.tdiv a0 281474976710656)) != 3) = false := bne_eq_false_iff_eq.mpr c2
   clear c2
   obtain ⟨y591, hy591⟩ : ∃ y_ : List Int, y_ = (([wrap64 (Int.tdiv (wrap64 (Int.tmod a0 281474976710656)) 4294967296), Int.tmod (wrap64 (Int.tdiv (wrap64 (Int.tmod a0 281474976710656)) 65536)) 65536, Int.tmod (wrap64 (Int.tmod a0 281474976710656)) 65536] : List Int)) := ⟨_, rfl⟩
   replace H : (some y591) = some r := by first | (rw [hy591]; with_reducible exact H) | (have H2_ := (Option.bind_some _ _).symm.trans H; rw [hy591]; with_reducible exact H2_) | (have H2_ := (Option.bind_some _ _).symm.trans H; with_reducible exact H2_) | with_reducible exact H | (rw [hy591]; exact H) | exact H
   have Ny591 := Aside0.mk hy591
   clear hy591
   obtain rfl := Option.some.inj H
   go_enter Try.func61, Try.ntmps61
   go_wp2_with (first | ((with_reducible refine gate_dst (N := 19) rfl ?_); refine Kd.R_lit (Kd.int .i64) _ 3 ?hg (N := 19) ?hd (xs := ([wrap64 (Int.tdiv (wrap64 (Int.tmod a0 281474976710656)) 4294967296), Int.tmod (wrap64 (Int.tdiv (wrap64 (Int.tmod a0 281474976710656)) 65536)) 65536, Int.tmod (wrap64 (Int.tmod a0 281474976710656)) 65536] : List Int)) (inner := [.int .i64 (wrap64 (Int.tdiv (wrap64 (Int.tmod a0 281474976710656)) 4294967296)), .int .i64 (Int.tmod (wrap64 (Int.tdiv (wrap64 (Int.tmod a0 281474976710656)) 65536)) 65536), .int .i64 (Int.tmod (wrap64 (Int.tmod a0 281474976710656)) 65536)]) (ok := fun _ => True) (okp := fun _ => True) ?hr ?hp (fun _ hk => hk) trivial (Below.refl _ _) (Nat.le_refl _) (by simp) ?_; (case hd => rfl); (case hg => rfl); (case hr => first | (go_simp; done) | (go_simp; rfl)); (case hp => exact (Reps.one (show Kd.M (Kd.int .i64) _ _ _ (wrap64 (Int.tdiv (wrap64 (Int.tmod a0 281474976710656)) 4294967296)) [.int .i64 (wrap64 (Int.tdiv (wrap64 (Int.tmod a0 281474976710656)) 4294967296))] from rfl) (Reps.one (show Kd.M (Kd.int .i64) _ _ _ (Int.tmod (wrap64 (Int.tdiv (wrap64 (Int.tmod a0 281474976710656)) 65536)) 65536) [.int .i64 (Int.tmod (wrap64 (Int.tdiv (wrap64 (Int.tmod a0 281474976710656)) 65536)) 65536)] from rfl) (Reps.one (show Kd.M (Kd.int .i64) _ _ _ (Int.tmod (wrap64 (Int.tmod a0 281474976710656)) 65536) [.int .i64 (Int.tmod (wrap64 (Int.tmod a0 281474976710656)) 65536)] from rfl) (Reps.none _ _))))); intro v592 w3 ho4 hb hg_ hnew_; clear hg_ hnew_; (first | rw [← Ny591.out] at ho4 | (simp only [Int.reduceToNat] at ho4; rw [← Ny591.out] at ho4)); have HO593 := Aside0.mk (Kd.R_lower ho4 (below_size bp_)); replace HB := Aside0.mk (below_step bp_ hb); clear hb ho4))
   go_ret
   exact ⟨_, by first | rfl | (simp [errW_none, errW_some] <;> rfl) | (simp [*, errW_none, errW_some] <;> rfl), by (with_reducible repeat (first | apply Kd.R_alloc | apply Kd.R_drewN | apply Kd.R_drew)); exact HO593.out, bp_⟩
 · rw [if_neg c2] at H
   have c2b0 : ((IntKind.u64.wrap (Int.tdiv a0 281474976710656)) == 3) = false := beq_eq_false_iff_ne.mpr c2
   have c2b1 : ((IntKind.u64.wrap (Int.tdiv a0 281474976710656)) != 3) = true := bne_iff_ne.mpr c2
   by_cases c5 : (IntKind.u64.wrap (Int.tdiv a0 281474976710656)) = 1
   · rw [if_pos c5] at H
     have c5b0 : ((IntKind.u64.wrap (Int.tdiv a0 281474976710656)) == 1) = true := beq_iff_eq.mpr c5
     have c5b1 : ((IntKind.u64.wrap (Int.tdiv a0 281474976710656)) != 1) = false := bne_eq_false_iff_eq.mpr c5
     clear c5
     by_cases c6 : (wrap64 (Int.tmod a0 281474976710656)) < 65536
     · rw [if_pos c6] at H
       have c6b0 : decide ((wrap64 (Int.tmod a0 281474976710656)) < 65536) = true := decide_eq_true c6
       clear c6
       obtain ⟨y594, hy594⟩ : ∃ y_ : List Int, y_ = (([wrap64 (Int.tmod a0 281474976710656)] : List Int)) := ⟨_, rfl⟩
       replace H : (some y594) = some r := by first | (rw [hy594]; with_reducible exact H) | (have H2_ := (Option.bind_some _ _).symm.trans H; rw [hy594]; with_reducible exact H2_) | (have H2_ := (Option.bind_some _ _).symm.trans H; with_reducible exact H2_) | with_reducible exact H | (rw [hy594]; exact H) | exact H
       have Ny594 := Aside0.mk hy594
       clear hy594
       obtain rfl := Option.some.inj H
       go_enter Try.func61, Try.ntmps61
       go_wp2_with (first | ((with_reducible refine gate_dst (N := 27) rfl ?_); refine Kd.R_lit (Kd.int .i64) _ 3 ?hg (N := 27) ?hd (xs := ([wrap64 (Int.tmod a0 281474976710656)] : List Int)) (inner := [.int .i64 (wrap64 (Int.tmod a0 281474976710656))]) (ok := fun _ => True) (okp := fun _ => True) ?hr ?hp (fun _ hk => hk) trivial (Below.refl _ _) (Nat.le_refl _) (by simp) ?_; (case hd => rfl); (case hg => rfl); (case hr => first | (go_simp; done) | (go_simp; rfl)); (case hp => exact (Reps.one (show Kd.M (Kd.int .i64) _ _ _ (wrap64 (Int.tmod a0 281474976710656)) [.int .i64 (wrap64 (Int.tmod a0 281474976710656))] from rfl) (Reps.none _ _))); intro v595 w7 ho8 hb hg_ hnew_; clear hg_ hnew_; (first | rw [← Ny594.out] at ho8 | (simp only [Int.reduceToNat] at ho8; rw [← Ny594.out] at ho8)); have HO596 := Aside0.mk (Kd.R_lower ho8 (below_size bp_)); replace HB := Aside0.mk (below_step bp_ hb); clear hb ho8))
       go_ret
       exact ⟨_, by first | rfl | (simp [errW_none, errW_some] <;> rfl) | (simp [*, errW_none, errW_some] <;> rfl), by (with_reducible repeat (first | apply Kd.R_alloc | apply Kd.R_drewN | apply Kd.R_drew)); exact HO596.out, bp_⟩
     · rw [if_neg c6] at H
       have c6b0 : decide ((wrap64 (Int.tmod a0 281474976710656)) < 65536) = false := decide_eq_false c6
       clear c6
       obtain rfl := Option.some.inj H
       go_enter Try.func61, Try.ntmps61
       go_wp2
       go_ret
       exact ⟨_, by first | rfl | (simp [errW_none, errW_some] <;> rfl) | (simp [*, errW_none, errW_some] <;> rfl), by first | exact Kd.R_nil _ _ _ _ _ | exact Kd.N_nil _ _ _ _ _ | exact Kd.V_nil _ _ _ _ _ | exact Kd.Q_nil _ _ _ _ _ | exact Kd.S_nil _ _ _ _ _, bp_⟩
   · rw [if_neg c5] at H
     have c5b0 : ((IntKind.u64.wrap (Int.tdiv a0 281474976710656)) == 1) = false := beq_eq_false_iff_ne.mpr c5
     have c5b1 : ((IntKind.u64.wrap (Int.tdiv a0 281474976710656)) != 1) = true := bne_iff_ne.mpr c5
     obtain rfl := Option.some.inj H
     go_enter Try.func61, Try.ntmps61
     go_wp2
     go_ret
     exact ⟨_, by first | rfl | (simp [errW_none, errW_some] <;> rfl) | (simp [*, errW_none, errW_some] <;> rfl), by first | exact Kd.R_nil _ _ _ _ _ | exact Kd.N_nil _ _ _ _ _ | exact Kd.V_nil _ _ _ _ _ | exact Kd.Q_nil _ _ _ _ _ | exact Kd.S_nil _ _ _ _ _, bp_⟩


/-! ### chequerref01_Format: function 62 -/
def chequerref01_Format.f (a0_0 : Int) (a0_1 : Int) : Option (Bool) := if a0_0 = 1 then (if a0_1 > 0 then (some (decide (a0_1 < 65536))) else (some false)) else (if a0_0 = 3 then (if a0_1 > 0 then (some (decide (a0_1 < 65536))) else (some false)) else (some false))
set_option maxHeartbeats 8000000 in
set_option maxRecDepth 100000 in
theorem chequerref01_Format.calls (a0_0 : Int) (a0_1 : Int) (r : Bool) (w : World) (h : chequerref01_Format.f a0_0 a0_1 = some r) :
 Calls Try.prog 62 #[.agg #[.int .i64 a0_0, .int .i64 a0_1]] w fun e w' => e = .returned (.bool r) ∧ Below w.heap.size w w' := by
 have hu70 := Try.underlying70
 have HB := Aside0.mk (Below.refl w.heap.size w)
 have H : (if a0_0 = 1 then (if a0_1 > 0 then (some (decide (a0_1 < 65536))) else (some false)) else (if a0_0 = 3 then (if a0_1 > 0 then (some (decide (a0_1 < 65536))) else (some false)) else (some false))) = some r := h
 clear h
 by_cases c2 : a0_0 = 1
 · rw [if_pos c2] at H
   have c2b0 : (a0_0 == 1) = true := beq_iff_eq.mpr c2
   have c2b1 : (a0_0 != 1) = false := bne_eq_false_iff_eq.mpr c2
   clear c2
   by_cases c3 : a0_1 > 0
   · rw [if_pos c3] at H
     have c3b0 : decide (0 < a0_1) = true := decide_eq_true c3
     clear c3
     obtain rfl := Option.some.inj H
     go_enter Try.func62, Try.ntmps62
     go_wp2_with (first | ((with_reducible refine gate_dst (N := 1) rfl ?_); refine box_event ?hg (N := 1) ?hd (cs := #[.int .i64 a0_0, .int .i64 a0_1]) (t := 70) ?hr ?_; (case hd => rfl); (case hg => rfl); (case hr => first | (go_simp; done) | (go_simp; rfl)); intro gb597 hg w4 hbox hb; have BK597 := Aside0.mk (hbox); have GW597 := Aside0.mk ((by rw [hg]; exact (below_size bp_) : w.heap.size ≤ gb597)); have GE597 := Aside0.mk ((by rw [hg]; exact (below_size bp_) : w.heap.size ≤ gb597)); replace HB := Aside0.mk (below_step bp_ hb); clear hb hbox hg; have hcz5_0 : w4.cell? ⟨gb597, 0, none⟩ = some (.int .i64 a0_0) := (blk_cell BK597.out 0).trans rfl; have hcz5_1 : w4.cell? ⟨gb597, 1, none⟩ = some (.int .i64 a0_1) := (blk_cell BK597.out 1).trans rfl; have hfz5_0 := blk_frozen BK597.out 0; have hfz5_1 := blk_frozen BK597.out 1))
     go_ret
     exact ⟨by first | rfl | (simp [errW_none, errW_some] <;> rfl) | (simp [*, errW_none, errW_some] <;> rfl), bp_⟩
   · rw [if_neg c3] at H
     have c3b0 : decide (0 < a0_1) = false := decide_eq_false c3
     clear c3
     obtain rfl := Option.some.inj H
     go_enter Try.func62, Try.ntmps62
     go_wp2_with (first | ((with_reducible refine gate_dst (N := 1) rfl ?_); refine box_event ?hg (N := 1) ?hd (cs := #[.int .i64 a0_0, .int .i64 a0_1]) (t := 70) ?hr ?_; (case hd => rfl); (case hg => rfl); (case hr => first | (go_simp; done) | (go_simp; rfl)); intro gb597 hg w6 hbox hb; have BK597 := Aside0.mk (hbox); have GW597 := Aside0.mk ((by rw [hg]; exact (below_size bp_) : w.heap.size ≤ gb597)); have GE597 := Aside0.mk ((by rw [hg]; exact (below_size bp_) : w.heap.size ≤ gb597)); replace HB := Aside0.mk (below_step bp_ hb); clear hb hbox hg; have hcz7_0 : w6.cell? ⟨gb597, 0, none⟩ = some (.int .i64 a0_0) := (blk_cell BK597.out 0).trans rfl; have hcz7_1 : w6.cell? ⟨gb597, 1, none⟩ = some (.int .i64 a0_1) := (blk_cell BK597.out 1).trans rfl; have hfz7_0 := blk_frozen BK597.out 0; have hfz7_1 := blk_frozen BK597.out 1))
     go_ret
     exact ⟨by first | rfl | (simp [errW_none, errW_some] <;> rfl) | (simp [*, errW_none, errW_some] <;> rfl), bp_⟩
 · rw [if_neg c2] at H
   have c2b0 : (a0_0 == 1) = false := beq_eq_false_iff_ne.mpr c2
   have c2b1 : (a0_0 != 1) = true := bne_iff_ne.mpr c2
   by_cases c8 : a0_0 = 3
   · rw [if_pos c8] at H
     have c8b0 : (a0_0 == 3) = true := beq_iff_eq.mpr c8
     have c8b1 : (a0_0 != 3) = false := bne_eq_false_iff_eq.mpr c8
     clear c8
     by_cases c9 : a0_1 > 0
     · rw [if_pos c9] at H
       have c9b0 : decide (0 < a0_1) = true := decide_eq_true c9
       clear c9
       obtain rfl := Option.some.inj H
       go_enter Try.func62, Try.ntmps62
       go_wp2_with (first | ((with_reducible refine gate_dst (N := 1) rfl ?_); refine box_event ?hg (N := 1) ?hd (cs := #[.int .i64 a0_0, .int .i64 a0_1]) (t := 70) ?hr ?_; (case hd => rfl); (case hg => rfl); (case hr => first | (go_simp; done) | (go_simp; rfl)); intro gb597 hg w10 hbox hb; have BK597 := Aside0.mk (hbox); have GW597 := Aside0.mk ((by rw [hg]; exact (below_size bp_) : w.heap.size ≤ gb597)); have GE597 := Aside0.mk ((by rw [hg]; exact (below_size bp_) : w.heap.size ≤ gb597)); replace HB := Aside0.mk (below_step bp_ hb); clear hb hbox hg; have hcz11_0 : w10.cell? ⟨gb597, 0, none⟩ = some (.int .i64 a0_0) := (blk_cell BK597.out 0).trans rfl; have hcz11_1 : w10.cell? ⟨gb597, 1, none⟩ = some (.int .i64 a0_1) := (blk_cell BK597.out 1).trans rfl; have hfz11_0 := blk_frozen BK597.out 0; have hfz11_1 := blk_frozen BK597.out 1))
       go_ret
       exact ⟨by first | rfl | (simp [errW_none, errW_some] <;> rfl) | (simp [*, errW_none, errW_some] <;> rfl), bp_⟩
     · rw [if_neg c9] at H
       have c9b0 : decide (0 < a0_1) = false := decide_eq_false c9
       clear c9
       obtain rfl := Option.some.inj H
       go_enter Try.func62, Try.ntmps62
       go_wp2_with (first | ((with_reducible refine gate_dst (N := 1) rfl ?_); refine box_event ?hg (N := 1) ?hd (cs := #[.int .i64 a0_0, .int .i64 a0_1]) (t := 70) ?hr ?_; (case hd => rfl); (case hg => rfl); (case hr => first | (go_simp; done) | (go_simp; rfl)); intro gb597 hg w12 hbox hb; have BK597 := Aside0.mk (hbox); have GW597 := Aside0.mk ((by rw [hg]; exact (below_size bp_) : w.heap.size ≤ gb597)); have GE597 := Aside0.mk ((by rw [hg]; exact (below_size bp_) : w.heap.size ≤ gb597)); replace HB := Aside0.mk (below_step bp_ hb); clear hb hbox hg; have hcz13_0 : w12.cell? ⟨gb597, 0, none⟩ = some (.int .i64 a0_0) := (blk_cell BK597.out 0).trans rfl; have hcz13_1 : w12.cell? ⟨gb597, 1, none⟩ = some (.int .i64 a0_1) := (blk_cell BK597.out 1).trans rfl; have hfz13_0 := blk_frozen BK597.out 0; have hfz13_1 := blk_frozen BK597.out 1))
       go_ret
       exact ⟨by first | rfl | (simp [errW_none, errW_some] <;> rfl) | (simp [*, errW_none, errW_some] <;> rfl), bp_⟩
   · rw [if_neg c8] at H
     have c8b0 : (a0_0 == 3) = false := beq_eq_false_iff_ne.mpr c8
     have c8b1 : (a0_0 != 3) = true := bne_iff_ne.mpr c8
     obtain rfl := Option.some.inj H
     go_enter Try.func62, Try.ntmps62
     go_wp2_with (first | ((with_reducible refine gate_dst (N := 1) rfl ?_); refine box_event ?hg (N := 1) ?hd (cs := #[.int .i64 a0_0, .int .i64 a0_1]) (t := 70) ?hr ?_; (case hd => rfl); (case hg => rfl); (case hr => first | (go_simp; done) | (go_simp; rfl)); intro gb597 hg w14 hbox hb; have BK597 := Aside0.mk (hbox); have GW597 := Aside0.mk ((by rw [hg]; exact (below_size bp_) : w.heap.size ≤ gb597)); have GE597 := Aside0.mk ((by rw [hg]; exact (below_size bp_) : w.heap.size ≤ gb597)); replace HB := Aside0.mk (below_step bp_ hb); clear hb hbox hg; have hcz15_0 : w14.cell? ⟨gb597, 0, none⟩ = some (.int .i64 a0_0) := (blk_cell BK597.out 0).trans rfl; have hcz15_1 : w14.cell? ⟨gb597, 1, none⟩ = some (.int .i64 a0_1) := (blk_cell BK597.out 1).trans rfl; have hfz15_0 := blk_frozen BK597.out 0; have hfz15_1 := blk_frozen BK597.out 1))
     go_ret
     exact ⟨by first | rfl | (simp [errW_none, errW_some] <;> rfl) | (simp [*, errW_none, errW_some] <;> rfl), bp_⟩


/-! ### chequerref01_Fits: function 54 -/
def chequerref01_Fits.l0 : Nat → List Int → Int → Int → Int → Option (Bool)
 | 0, _, _, _, _ => none
 | k + 1, x5, x6, x599000, x599001 => if x6 < (x5.length : Int) then (if 0 ≤ x6 then (if (rd x5 x6) > x599001 then (some false) else (chequerref01_Fits.l0 k x5 (wrap64 (x6 + 1)) x599000 x599001)) else (none)) else ((chequerref01_Format.f x599000 x599001).bind fun t603 => (if t603 = true then (some ((x5.length : Int) == x599000)) else (some false)))
def chequerref01_Fits.f (k : Nat) (a0 : Int) (a1_0 : Int) (a1_1 : Int) : Option (Bool) := (chequerref01_Unpack.f a0).bind fun t599 => (chequerref01_Fits.l0 k t599 0 a1_0 a1_1)
theorem chequerref01_Fits.mono_l : ∀ k, (∀ y0 y1 y2 y3, LeO (chequerref01_Fits.l0 k y0 y1 y2 y3) (chequerref01_Fits.l0 (k + 1) y0 y1 y2 y3))
 | 0 => fun _ _ _ _ r h => by simp [chequerref01_Fits.l0] at h
 | k + 1 => by
  have ih0 := chequerref01_Fits.mono_l k
  · intro y0 y1 y2 y3
    unfold chequerref01_Fits.l0
    repeat' first
    | (with_reducible exact ih0 _ _ _ _)
    | (with_reducible exact LeO.refl _)
    | (with_reducible exact LeO.none _)
    | (with_reducible refine LeO.ite ?_ ?_)
    | (with_reducible refine LeO.bind ?_ (fun _ => ?_))
    | exact ih0 _ _ _ _
    | exact LeO.none _
    | refine LeO.ite ?_ ?_
    | refine LeO.bind ?_ (fun _ => ?_)
theorem chequerref01_Fits.mono : ∀ a0 a1 a2 k, LeO (chequerref01_Fits.f k a0 a1 a2) (chequerref01_Fits.f (k + 1) a0 a1 a2) := by
 intro a0 a1 a2 k
 have ih0 := chequerref01_Fits.mono_l k
 unfold chequerref01_Fits.f
 repeat' first
  | (with_reducible exact ih0 _ _ _ _)
  | (with_reducible exact LeO.refl _)
  | (with_reducible exact LeO.none _)
  | (with_reducible refine LeO.ite ?_ ?_)
  | (with_reducible refine LeO.bind ?_ (fun _ => ?_))
  | exact ih0 _ _ _ _
  | exact LeO.none _
  | refine LeO.ite ?_ ?_
  | refine LeO.bind ?_ (fun _ => ?_)
set_option maxHeartbeats 8000000 in
set_option maxRecDepth 100000 in
theorem chequerref01_Fits.calls (k : Nat) (a0 : Int) (a1_0 : Int) (a1_1 : Int) (r : Bool) (w : World) (h : chequerref01_Fits.f k a0 a1_0 a1_1 = some r) :
 Calls Try.prog 54 #[.int .u64 a0, .agg #[.int .i64 a1_0, .int .i64 a1_1]] w fun e w' => e = .returned (.bool r) ∧ Below w.heap.size w w' := by
 have hu70 := Try.underlying70
 have HB := Aside0.mk (Below.refl w.heap.size w)
 have H : ((chequerref01_Unpack.f a0).bind fun t599 => (chequerref01_Fits.l0 k t599 0 a1_0 a1_1)) = some r := h
 clear h
 replace H := Option.bind_eq_some_iff.mp H
 obtain ⟨t599, A30, H⟩ := H
 replace H : (chequerref01_Fits.l0 k t599 0 a1_0 a1_1) = some r := H
 have A3 := Aside0.mk A30
 clear A30
 have H' := Aside0.mk H
 clear H
 go_enter Try.func54, Try.ntmps54
 go_wp2_with (first | ((with_reducible refine gate_dst (N := 3) rfl ?_); (try (refine gate_guard (by rfl) ?_; dsimp only)); refine box_event ?hg (N := 3) ?hd (cs := #[.int .i64 a1_0, .int .i64 a1_1]) (t := 70) ?hr ?_; (case hd => rfl); (case hg => rfl); (case hr => first | (go_simp; done) | (go_simp; rfl)); intro gb598 hg w4 hbox hb; have BK598 := Aside0.mk (hbox); have GW598 := Aside0.mk ((by rw [hg]; exact (below_size bp_) : w.heap.size ≤ gb598)); have GE598 := Aside0.mk ((by rw [hg]; exact (below_size bp_) : w.heap.size ≤ gb598)); replace HB := Aside0.mk (below_step bp_ hb); clear hb hbox hg) | (go_at_call 61; (with_reducible refine (chequerref01_Unpack.calls a0 t599 _ A3.out).mono ?_); rintro e w5 ⟨v600, rfl, ho0, hb⟩; have HO601 := Aside0.mk (Kd.R_lower ho0 (below_size bp_)); replace BK598 := Aside0.mk (blk_below (hp_ BK598.out) hb); replace HB := Aside0.mk (below_step bp_ hb); (try clear hb); (try clear hb2); (try clear hk); (try clear hi); (try clear ho0)))
 repeat (go_quiet (first | ((with_reducible refine gate_dst (N := 3) rfl ?_); (try (refine gate_guard (by rfl) ?_; dsimp only)); refine box_event ?hg (N := 3) ?hd (cs := #[.int .i64 a1_0, .int .i64 a1_1]) (t := 70) ?hr ?_; (case hd => rfl); (case hg => rfl); (case hr => first | (go_simp; done) | (go_simp; rfl)); intro gb598 hg w4 hbox hb; have n0_ := Aside0.mk (below_step bp_ hb); have n1_ := Aside0.mk (hbox); have n2_ := Aside0.mk ((by rw [hg]; exact (below_size bp_) : w.heap.size ≤ gb598)); have n3_ := Aside0.mk ((by rw [hg]; exact (below_size bp_) : w.heap.size ≤ gb598)); clear HB; have HB := n0_; have BK598 := n1_; have GW598 := n2_; have GE598 := n3_; clear n0_ n1_ n2_ n3_; clear hb hbox hg) | (go_at_call 61; (with_reducible refine (chequerref01_Unpack.calls a0 t599 _ A3.out).mono ?_); rintro e w5 ⟨v600, rfl, ho0, hb⟩; have n0_ := Aside0.mk (Kd.R_lower ho0 (below_size bp_)); have n1_ := Aside0.mk (blk_below (hp_ BK598.out) hb); have n2_ := Aside0.mk (below_step bp_ hb); clear BK598; clear HB; have HO601 := n0_; have BK598 := n1_; have HB := n2_; clear n0_ n1_ n2_; (try clear hb); (try clear hb2); (try clear hk); (try clear hi); (try clear ho0))); try go_wp2_with (first | ((with_reducible refine gate_dst (N := 3) rfl ?_); (try (refine gate_guard (by rfl) ?_; dsimp only)); refine box_event ?hg (N := 3) ?hd (cs := #[.int .i64 a1_0, .int .i64 a1_1]) (t := 70) ?hr ?_; (case hd => rfl); (case hg => rfl); (case hr => first | (go_simp; done) | (go_simp; rfl)); intro gb598 hg w4 hbox hb; have n0_ := Aside0.mk (below_step bp_ hb); have n1_ := Aside0.mk (hbox); have n2_ := Aside0.mk ((by rw [hg]; exact (below_size bp_) : w.heap.size ≤ gb598)); have n3_ := Aside0.mk ((by rw [hg]; exact (below_size bp_) : w.heap.size ≤ gb598)); clear HB; have HB := n0_; have BK598 := n1_; have GW598 := n2_; have GE598 := n3_; clear n0_ n1_ n2_ n3_; clear hb hbox hg) | (go_at_call 61; (with_reducible refine (chequerref01_Unpack.calls a0 t599 _ A3.out).mono ?_); rintro e w5 ⟨v600, rfl, ho0, hb⟩; have n0_ := Aside0.mk (Kd.R_lower ho0 (below_size bp_)); have n1_ := Aside0.mk (blk_below (hp_ BK598.out) hb); have n2_ := Aside0.mk (below_step bp_ hb); clear BK598; clear HB; have HO601 := n0_; have BK598 := n1_; have HB := n2_; clear n0_ n1_ n2_; (try clear hb); (try clear hb2); (try clear hk); (try clear hi); (try clear ho0))))
 go_loopg [6] k (fun kq v6 w' => ∃ (x6_1 : Int), v6 = .int .i64 x6_1 ∧ Aside0 (chequerref01_Fits.l0 kq t599 x6_1 a1_0 a1_1 = some r) ∧ Aside0 (kq ≤ k) ∧ Aside0 (Kd.R (Kd.int .i64) 3 w' w.heap.size (fun _ => True) v600 t599) ∧ Aside0 (w'.heap[gb598]? = some (.cells #[.int .i64 a1_0, .int .i64 a1_1] 70 (0, 0))) ∧ Aside0 (Below w.heap.size w w'))
 case atStart => exact ⟨(0), (by first | rfl | (simp; done) | (simp [*]; done)), H', ⟨Nat.le_refl _⟩, ⟨rp_ HO601.out⟩, ⟨hp_ BK598.out⟩, ⟨bp_⟩⟩
 case round =>
  clear H'
  try clear p2
  try clear c5
  obtain ⟨x6_1, rfl, HA, HK1, HO_5, BK598, HB⟩ := hrel
  cases gk with
  | zero => exact absurd HA.out (by simp [chequerref01_Fits.l0])
  | succ k1 =>
   have H := HA.out
   clear HA
   simp only [chequerref01_Fits.l0] at H
   by_cases c6 : x6_1 < (t599.length : Int)
   · rw [if_pos c6] at H
     have c6b0 : decide (x6_1 < (t599.length : Int)) = true := decide_eq_true c6
     clear c6
     by_cases c7 : 0 ≤ x6_1
     · rw [if_pos c7] at H
       have c7b0 : decide (0 ≤ x6_1) = true := decide_eq_true c7
       clear c7
       by_cases c8 : (rd t599 x6_1) > a1_1
       · rw [if_pos c8] at H
         have c8b0 : decide (a1_1 < (rd t599 x6_1)) = true := decide_eq_true c8
         clear c8
         obtain rfl := Option.some.inj H
         obtain ⟨Ao9, co9, eo9⟩ := Kd.R_slice HO_5.out
         subst eo9
         have p602 : 0 ≤ (x6_1 : Int) := of_decide_eq_true (by first | (with_reducible assumption) | assumption)
         have q602 : x6_1 < (t599.length : Int) := of_decide_eq_true (by first | (with_reducible assumption) | assumption)
         obtain ⟨ad602, e602, hx602_0⟩ := Kd.at_int (Kd.R_reads' HO_5.out).2.2 x6_1 p602 q602
         cases e602
         replace p602 := eq_true p602
         replace q602 := eq_true q602
         have hcz10_0 : wr.cell? ⟨gb598, 0, none⟩ = some (.int .i64 a1_0) := (blk_cell BK598.out 0).trans rfl
         have hcz10_1 : wr.cell? ⟨gb598, 1, none⟩ = some (.int .i64 a1_1) := (blk_cell BK598.out 1).trans rfl
         have hfz10_0 := blk_frozen BK598.out 0
         have hfz10_1 := blk_frozen BK598.out 1
         go_wp2
         repeat (go_quiet (fail); try go_wp2)
         go_ret
         exact ⟨by first | rfl | (simp [errW_none, errW_some] <;> rfl) | (simp [*, errW_none, errW_some] <;> rfl), bp_⟩
       · rw [if_neg c8] at H
         have c8b0 : decide (a1_1 < (rd t599 x6_1)) = false := decide_eq_false c8
         clear c8
         have H' := Aside0.mk H
         clear H
         obtain ⟨Ao11, co11, eo11⟩ := Kd.R_slice HO_5.out
         subst eo11
         have p602 : 0 ≤ (x6_1 : Int) := of_decide_eq_true (by first | (with_reducible assumption) | assumption)
         have q602 : x6_1 < (t599.length : Int) := of_decide_eq_true (by first | (with_reducible assumption) | assumption)
         obtain ⟨ad602, e602, hx602_0⟩ := Kd.at_int (Kd.R_reads' HO_5.out).2.2 x6_1 p602 q602
         cases e602
         replace p602 := eq_true p602
         replace q602 := eq_true q602
         have hcz12_0 : wr.cell? ⟨gb598, 0, none⟩ = some (.int .i64 a1_0) := (blk_cell BK598.out 0).trans rfl
         have hcz12_1 : wr.cell? ⟨gb598, 1, none⟩ = some (.int .i64 a1_1) := (blk_cell BK598.out 1).trans rfl
         have hfz12_0 := blk_frozen BK598.out 0
         have hfz12_1 := blk_frozen BK598.out 1
         go_wp2
         repeat (go_quiet (fail); try go_wp2)
         go_roundg k1
         case measure => have := HK1.out; omega
         case rel => exact ⟨(wrap64 (x6_1 + 1)), (by first | rfl | (simp; done) | (simp [*]; done)), H', ⟨by have := HK1.out; omega⟩, ⟨rp_ HO_5.out⟩, ⟨hp_ BK598.out⟩, ⟨bp_⟩⟩
     · rw [if_neg c7] at H
       exact absurd H (by simp)
   · rw [if_neg c6] at H
     have c6b0 : decide (x6_1 < (t599.length : Int)) = false := decide_eq_false c6
     clear c6
     replace H := Option.bind_eq_some_iff.mp H
     obtain ⟨t603, A130, H⟩ := H
     replace H : (if t603 = true then (some ((t599.length : Int) == a1_0)) else (some false)) = some r := H
     have A13 := Aside0.mk A130
     clear A130
     by_cases c14 : t603 = true
     · subst c14
       have H1 : (some ((t599.length : Int) == a1_0)) = some r := by rw [if_pos rfl] at H; exact H
       clear H
       have H := H1
       clear H1
       obtain rfl := Option.some.inj H
       obtain ⟨Ao15, co15, eo15⟩ := Kd.R_slice HO_5.out
       subst eo15
       have hcz16_0 : wr.cell? ⟨gb598, 0, none⟩ = some (.int .i64 a1_0) := (blk_cell BK598.out 0).trans rfl
       have hcz16_1 : wr.cell? ⟨gb598, 1, none⟩ = some (.int .i64 a1_1) := (blk_cell BK598.out 1).trans rfl
       have hfz16_0 := blk_frozen BK598.out 0
       have hfz16_1 := blk_frozen BK598.out 1
       go_wp2_with (first | (go_at_call 62; (with_reducible refine (chequerref01_Format.calls a1_0 a1_1 true _ A13.out).mono ?_); rintro e w17 ⟨rfl, hb⟩; replace HO_5 := Aside0.mk (Kd.R_below (rp_ HO_5.out) hb); replace BK598 := Aside0.mk (blk_below (hp_ BK598.out) hb); replace HB := Aside0.mk (below_step bp_ hb); (try clear hb); (try clear hb2); (try clear hk); (try clear hi); have hcz18_0 : w17.cell? ⟨gb598, 0, none⟩ = some (.int .i64 a1_0) := (blk_cell BK598.out 0).trans rfl; have hcz18_1 : w17.cell? ⟨gb598, 1, none⟩ = some (.int .i64 a1_1) := (blk_cell BK598.out 1).trans rfl; have hfz18_0 := blk_frozen BK598.out 0; have hfz18_1 := blk_frozen BK598.out 1))
       repeat (go_quiet (first | (go_at_call 62; (with_reducible refine (chequerref01_Format.calls a1_0 a1_1 true _ A13.out).mono ?_); rintro e w17 ⟨rfl, hb⟩; have n0_ := Aside0.mk (Kd.R_below (rp_ HO_5.out) hb); have n1_ := Aside0.mk (blk_below (hp_ BK598.out) hb); have n2_ := Aside0.mk (below_step bp_ hb); clear HO_5; clear BK598; clear HB; have HO_5 := n0_; have BK598 := n1_; have HB := n2_; clear n0_ n1_ n2_; (try clear hb); (try clear hb2); (try clear hk); (try clear hi); have hcz18_0 : w17.cell? ⟨gb598, 0, none⟩ = some (.int .i64 a1_0) := (blk_cell BK598.out 0).trans rfl; have hcz18_1 : w17.cell? ⟨gb598, 1, none⟩ = some (.int .i64 a1_1) := (blk_cell BK598.out 1).trans rfl; have hfz18_0 := blk_frozen BK598.out 0; have hfz18_1 := blk_frozen BK598.out 1)); try go_wp2_with (first | (go_at_call 62; (with_reducible refine (chequerref01_Format.calls a1_0 a1_1 true _ A13.out).mono ?_); rintro e w17 ⟨rfl, hb⟩; have n0_ := Aside0.mk (Kd.R_below (rp_ HO_5.out) hb); have n1_ := Aside0.mk (blk_below (hp_ BK598.out) hb); have n2_ := Aside0.mk (below_step bp_ hb); clear HO_5; clear BK598; clear HB; have HO_5 := n0_; have BK598 := n1_; have HB := n2_; clear n0_ n1_ n2_; (try clear hb); (try clear hb2); (try clear hk); (try clear hi); have hcz18_0 : w17.cell? ⟨gb598, 0, none⟩ = some (.int .i64 a1_0) := (blk_cell BK598.out 0).trans rfl; have hcz18_1 : w17.cell? ⟨gb598, 1, none⟩ = some (.int .i64 a1_1) := (blk_cell BK598.out 1).trans rfl; have hfz18_0 := blk_frozen BK598.out 0; have hfz18_1 := blk_frozen BK598.out 1)))
       go_ret
       exact ⟨by first | rfl | (simp [errW_none, errW_some] <;> rfl) | (simp [*, errW_none, errW_some] <;> rfl), bp_⟩
     · replace c14 := Bool.eq_false_iff.mpr c14
       subst c14
       have H1 : (some false) = some r := by rw [if_neg (show ¬ (false = true) by decide)] at H; exact H
       clear H
       have H := H1
       clear H1
       obtain rfl := Option.some.inj H
       obtain ⟨Ao19, co19, eo19⟩ := Kd.R_slice HO_5.out
       subst eo19
       have hcz20_0 : wr.cell? ⟨gb598, 0, none⟩ = some (.int .i64 a1_0) := (blk_cell BK598.out 0).trans rfl
       have hcz20_1 : wr.cell? ⟨gb598, 1, none⟩ = some (.int .i64 a1_1) := (blk_cell BK598.out 1).trans rfl
       have hfz20_0 := blk_frozen BK598.out 0
       have hfz20_1 := blk_frozen BK598.out 1
       go_wp2_with (first | (go_at_call 62; (with_reducible refine (chequerref01_Format.calls a1_0 a1_1 false _ A13.out).mono ?_); rintro e w21 ⟨rfl, hb⟩; replace HO_5 := Aside0.mk (Kd.R_below (rp_ HO_5.out) hb); replace HB := Aside0.mk (below_step bp_ hb); (try clear hb); (try clear hb2); (try clear hk); (try clear hi)))
       repeat (go_quiet (first | (go_at_call 62; (with_reducible refine (chequerref01_Format.calls a1_0 a1_1 false _ A13.out).mono ?_); rintro e w21 ⟨rfl, hb⟩; have n0_ := Aside0.mk (Kd.R_below (rp_ HO_5.out) hb); have n1_ := Aside0.mk (below_step bp_ hb); clear HO_5; clear HB; have HO_5 := n0_; have HB := n1_; clear n0_ n1_; (try clear hb); (try clear hb2); (try clear hk); (try clear hi))); try go_wp2_with (first | (go_at_call 62; (with_reducible refine (chequerref01_Format.calls a1_0 a1_1 false _ A13.out).mono ?_); rintro e w21 ⟨rfl, hb⟩; have n0_ := Aside0.mk (Kd.R_below (rp_ HO_5.out) hb); have n1_ := Aside0.mk (below_step bp_ hb); clear HO_5; clear HB; have HO_5 := n0_; have HB := n1_; clear n0_ n1_; (try clear hb); (try clear hb2); (try clear hk); (try clear hi))))
       go_ret
       exact ⟨by first | rfl | (simp [errW_none, errW_some] <;> rfl) | (simp [*, errW_none, errW_some] <;> rfl), bp_⟩


/-! ### chequerref03_Fits: function 39 -/
def chequerref03_Fits.l0 : Nat → Int → Int → Int → List Int → Int → Int → Option (Bool)
 | 0, _, _, _, _, _, _ => none
 | k + 1, x6, x605000, x605001, x605002, x606000, x606001 => if x6 < (x605002.length : Int) then (if 0 ≤ x6 then ((chequerref01_Fits.f k (rd x605002 x6) x606000 x606001).bind fun t608 => (if t608 = true then (chequerref03_Fits.l0 k (wrap64 (x6 + 1)) x605000 x605001 x605002 x606000 x606001) else (some false))) else (none)) else (some true)
def chequerref03_Fits.f (k : Nat) (a0_0 : Int) (a0_1 : Int) (l0_2 : List Int) (a1_0 : Int) (a1_1 : Int) : Option (Bool) := (chequerref03_May.f a0_0 a0_1 l0_2).bind fun t606 => (if t606 = true then (chequerref03_Fits.l0 k 0 a0_0 a0_1 l0_2 a1_0 a1_1) else (some false))
theorem chequerref03_Fits.mono_l : ∀ k, (∀ y0 y1 y2 y3 y4 y5, LeO (chequerref03_Fits.l0 k y0 y1 y2 y3 y4 y5) (chequerref03_Fits.l0 (k + 1) y0 y1 y2 y3 y4 y5))
 | 0 => fun _ _ _ _ _ _ r h => by simp [chequerref03_Fits.l0] at h
 | k + 1 => by
  have ih0 := chequerref03_Fits.mono_l k
  · intro y0 y1 y2 y3 y4 y5
    unfold chequerref03_Fits.l0
    repeat' first
    | (with_reducible exact ih0 _ _ _ _ _ _)
    | (with_reducible exact chequerref01_Fits.mono _ _ _ _)
    | (with_reducible exact LeO.refl _)
    | (with_reducible exact LeO.none _)
    | (with_reducible refine LeO.ite ?_ ?_)
    | (with_reducible refine LeO.bind ?_ (fun _ => ?_))
    | exact ih0 _ _ _ _ _ _
    | exact chequerref01_Fits.mono _ _ _ _
    | exact LeO.none _
    | refine LeO.ite ?_ ?_
    | refine LeO.bind ?_ (fun _ => ?_)
theorem chequerref03_Fits.mono : ∀ a0 a1 a2 a3 a4 k, LeO (chequerref03_Fits.f k a0 a1 a2 a3 a4) (chequerref03_Fits.f (k + 1) a0 a1 a2 a3 a4) := by
 intro a0 a1 a2 a3 a4 k
 have ih0 := chequerref03_Fits.mono_l k
 unfold chequerref03_Fits.f
 repeat' first
  | (with_reducible exact ih0 _ _ _ _ _ _)
  | (with_reducible exact chequerref01_Fits.mono _ _ _ _)
  | (with_reducible exact LeO.refl _)
  | (with_reducible exact LeO.none _)
  | (with_reducible refine LeO.ite ?_ ?_)
  | (with_reducible refine LeO.bind ?_ (fun _ => ?_))
  | exact ih0 _ _ _ _ _ _
  | exact chequerref01_Fits.mono _ _ _ _
  | exact LeO.none _
  | refine LeO.ite ?_ ?_
  | refine LeO.bind ?_ (fun _ => ?_)
def chequerref03_Fits.T7 : Bool × List (List Nat × List Nat) := (true, [([], []), ([0], [0]), ([], []), ([1, 2], [1, 2]), ([3], [3]), ([], []), ([4, 5], [4, 5]), ([6, 6, 0, 1, 2, 3, 4, 5, 6], [6])])
def chequerref03_Fits.B7 : List Nat := [0, 1, 0, 7, 15, 0, 63, 127]
theorem chequerref03_Fits.tab7 : rtab .any (opsOf Try.f39 7) = chequerref03_Fits.T7 := by kernel_rfl
theorem chequerref03_Fits.bits7 : waitsOk chequerref03_Fits.T7.2 chequerref03_Fits.B7 = true := by kernel_rfl
set_option maxHeartbeats 8000000 in
set_option maxRecDepth 100000 in
theorem chequerref03_Fits.calls (k : Nat) (a0_0 : Int) (a0_1 : Int) (A0_2 : Option Addr) (c0_2 : Nat) (l0_2 : List Int) (a1_0 : Int) (a1_1 : Int) (r : Bool) (w : World) (hr0_2 : Kd.C (Kd.int .u64) w A0_2 l0_2.length l0_2) (hc0_2 : l0_2.length ≤ c0_2) (h : chequerref03_Fits.f k a0_0 a0_1 l0_2 a1_0 a1_1 = some r) :
 Calls Try.prog 39 #[.agg #[.int .i64 a0_0, .int .i64 a0_1, .slice A0_2 l0_2.length c0_2], .agg #[.int .i64 a1_0, .int .i64 a1_1]] w fun e w' => e = .returned (.bool r) ∧ Below w.heap.size w w' := by
 have hu24 := Try.underlying24
 have hu70 := Try.underlying70
 have HR0_2 := Aside0.mk hr0_2
 have HC0_2 := Aside0.mk hc0_2
 clear hr0_2 hc0_2
 have HB := Aside0.mk (Below.refl w.heap.size w)
 have H : ((chequerref03_May.f a0_0 a0_1 l0_2).bind fun t606 => (if t606 = true then (chequerref03_Fits.l0 k 0 a0_0 a0_1 l0_2 a1_0 a1_1) else (some false))) = some r := h
 clear h
 replace H := Option.bind_eq_some_iff.mp H
 obtain ⟨t606, A30, H⟩ := H
 replace H : (if t606 = true then (chequerref03_Fits.l0 k 0 a0_0 a0_1 l0_2 a1_0 a1_1) else (some false)) = some r := H
 have A3 := Aside0.mk A30
 clear A30
 by_cases c4 : t606 = true
 · subst c4
   have H1 : (chequerref03_Fits.l0 k 0 a0_0 a0_1 l0_2 a1_0 a1_1) = some r := by rw [if_pos rfl] at H; exact H
   clear H
   have H := H1
   clear H1
   have H' := Aside0.mk H
   clear H
   go_enter Try.func39, Try.ntmps39
   go_wp2_with (first | ((with_reducible refine gate_dst (N := 2) rfl ?_); refine box_event ?hg (N := 2) ?hd (cs := #[.int .i64 a0_0, .int .i64 a0_1, .slice A0_2 l0_2.length c0_2]) (t := 24) ?hr ?_; (case hd => rfl); (case hg => rfl); (case hr => first | (go_simp; done) | (go_simp; rfl)); intro gb604 hg w5 hbox hb; have BK604 := Aside0.mk (hbox); have GW604 := Aside0.mk ((by rw [hg]; exact (below_size bp_) : w.heap.size ≤ gb604)); have GE604 := Aside0.mk ((by rw [hg]; exact (below_size bp_) : w.heap.size ≤ gb604)); replace HB := Aside0.mk (below_step bp_ hb); clear hb hbox hg) | ((with_reducible refine gate_dst (N := 3) rfl ?_); refine box_event ?hg (N := 3) ?hd (cs := #[.int .i64 a1_0, .int .i64 a1_1]) (t := 70) ?hr ?_; (case hd => rfl); (case hg => rfl); (case hr => first | (go_simp; done) | (go_simp; rfl)); intro gb605 hg w6 hbox hb; have BK605 := Aside0.mk (hbox); have GW605 := Aside0.mk ((by rw [hg]; exact (below_size bp_) : w.heap.size ≤ gb605)); have GE605 := Aside0.mk ((by rw [hg]; exact (below_size bp_) : w.heap.size ≤ gb605)); replace HB := Aside0.mk (below_step bp_ hb); have NB604_605 := Aside0.mk ((nlt_ hg (hp_ BK604.out))); have NB605_604 := Aside0.mk ((ngt_ hg (hp_ BK604.out))); replace BK604 := Aside0.mk (blk_below (hp_ BK604.out) hb); clear hb hbox hg; have hnb7 := NB604_605.out; have hnc7 := NB605_604.out; have hcz8_0 : w6.cell? ⟨gb604, 0, none⟩ = some (.int .i64 a0_0) := (blk_cell BK604.out 0).trans rfl; have hcz8_1 : w6.cell? ⟨gb604, 1, none⟩ = some (.int .i64 a0_1) := (blk_cell BK604.out 1).trans rfl; have hcz8_2 : w6.cell? ⟨gb604, 2, none⟩ = some (.slice A0_2 l0_2.length c0_2) := (blk_cell BK604.out 2).trans rfl; have hfz8_0 := blk_frozen BK604.out 0; have hfz8_1 := blk_frozen BK604.out 1; have hfz8_2 := blk_frozen BK604.out 2) | ((with_reducible refine gate_callee (f := 20) rfl ?_); refine goQ_ (some 9) Try.func20 #[.agg #[.int .i64 a0_0, .int .i64 a0_1, .slice A0_2 l0_2.length c0_2]] ?_; (with_reducible refine (chequerref03_May.calls a0_0 a0_1 _ _ l0_2 true _ ?side1 ?side2 A3.out).mono ?_); (case side1 => repeat (first | exact (Kd.C_below HR0_2.out HB.out) | (with_reducible refine Kd.C_alloc ?_ _) | (with_reducible refine Kd.C_drewN ?_ _) | (with_reducible refine Kd.C_drew ?_))); (case side2 => exact HC0_2.out); rintro e w9 ⟨rfl, hb⟩; refine ⟨_, rfl, ?_⟩; replace BK604 := Aside0.mk (blk_below (hp_ BK604.out) hb); replace BK605 := Aside0.mk (blk_below (hp_ BK605.out) hb); replace HB := Aside0.mk (below_step bp_ hb); (try clear hb); (try clear hb2); (try clear hk); (try clear hi)))
   go_loopg [6] k (fun kq v6 w' => ∃ (x6_1 : Int), v6 = .int .i64 x6_1 ∧ Aside0 (chequerref03_Fits.l0 kq x6_1 a0_0 a0_1 l0_2 a1_0 a1_1 = some r) ∧ Aside0 (kq ≤ k) ∧ Aside0 (w'.heap[gb604]? = some (.cells #[.int .i64 a0_0, .int .i64 a0_1, (.slice A0_2 l0_2.length c0_2)] 24 (0, 0))) ∧ Aside0 (w'.heap[gb605]? = some (.cells #[.int .i64 a1_0, .int .i64 a1_1] 70 (0, 0))) ∧ Aside0 (Below w.heap.size w w'))
   case atStart => exact ⟨(0), (by first | rfl | (simp; done) | (simp [*]; done)), H', ⟨Nat.le_refl _⟩, ⟨hp_ BK604.out⟩, ⟨hp_ BK605.out⟩, ⟨bp_⟩⟩
   case round =>
    clear H'
    try clear c2
    try clear p2
    try clear c3
    try clear c4
    try clear c7
    try clear hcz8_0
    try clear hcz8_1
    try clear hcz8_2
    try clear hfz8_0
    try clear hfz8_1
    try clear hfz8_2
    obtain ⟨x6_1, rfl, HA, HK1, BK604, BK605, HB⟩ := hrel
    cases gk with
    | zero => exact absurd HA.out (by simp [chequerref03_Fits.l0])
    | succ k1 =>
     have H := HA.out
     clear HA
     simp only [chequerref03_Fits.l0] at H
     by_cases c10 : x6_1 < (l0_2.length : Int)
     · rw [if_pos c10] at H
       have c10b0 : decide (x6_1 < (l0_2.length : Int)) = true := decide_eq_true c10
       clear c10
       by_cases c11 : 0 ≤ x6_1
       · rw [if_pos c11] at H
         have c11b0 : decide (0 ≤ x6_1) = true := decide_eq_true c11
         clear c11
         replace H := Option.bind_eq_some_iff.mp H
         obtain ⟨t608, A120, H⟩ := H
         replace H : (if t608 = true then (chequerref03_Fits.l0 k1 (wrap64 (x6_1 + 1)) a0_0 a0_1 l0_2 a1_0 a1_1) else (some false)) = some r := H
         have A12 := Aside0.mk A120
         clear A120
         by_cases c13 : t608 = true
         · subst c13
           have H1 : (chequerref03_Fits.l0 k1 (wrap64 (x6_1 + 1)) a0_0 a0_1 l0_2 a1_0 a1_1) = some r := by rw [if_pos rfl] at H; exact H
           clear H
           have H := H1
           clear H1
           have H' := Aside0.mk H
           clear H
           have hnb14 := NB604_605.out
           have hnc14 := NB605_604.out
           have hcz15_0 : wr.cell? ⟨gb604, 0, none⟩ = some (.int .i64 a0_0) := (blk_cell BK604.out 0).trans rfl
           have hcz15_1 : wr.cell? ⟨gb604, 1, none⟩ = some (.int .i64 a0_1) := (blk_cell BK604.out 1).trans rfl
           have hcz15_2 : wr.cell? ⟨gb604, 2, none⟩ = some (.slice A0_2 l0_2.length c0_2) := (blk_cell BK604.out 2).trans rfl
           have hfz15_0 := blk_frozen BK604.out 0
           have hfz15_1 := blk_frozen BK604.out 1
           have hfz15_2 := blk_frozen BK604.out 2
           try go_wp2
           (try (rw [drewN_self wr]; generalize hq_ : World.drewN wr _ = wr; have n0_ := Aside0.mk (qhp_ hq_ BK604.out); have n1_ := Aside0.mk (qhp_ hq_ BK605.out); have n2_ : Aside0 (Below w.heap.size w wr) := ⟨qbp_ hq_⟩; clear BK604 BK605 HB hq_; have BK604 := n0_; have BK605 := n1_; have HB := n2_; clear n0_ n1_ n2_))
           replace BK604 := Aside0.mk (blk_drew BK604.out)
           replace BK605 := Aside0.mk (blk_drew BK605.out)
           replace HB := Aside0.mk (below_drew1 HB.out)
           have p607 : 0 ≤ (x6_1 : Int) := of_decide_eq_true (by first | (with_reducible assumption) | assumption)
           have q607 : x6_1 < (l0_2.length : Int) := of_decide_eq_true (by first | (with_reducible assumption) | assumption)
           obtain ⟨ad607, e607, hx607_0⟩ := Kd.at_int HR0_2.out x6_1 p607 q607
           have hw607_0 := hx607_0
           cases e607
           replace hx607_0 := (HB.out.cell (World.block_lt_of_cell? w _ hx607_0)).trans hx607_0
           replace p607 := eq_true p607
           replace q607 := eq_true q607
           refine start_ (n := 8) (S := fun w' => w'.cell? ⟨gb604, 0, none⟩ = some (.int .i64 a0_0) ∧ w'.cell? ⟨gb604, 1, none⟩ = some (.int .i64 a0_1) ∧ w'.cell? ⟨gb604, 2, none⟩ = some (.slice (some ad607) l0_2.length c0_2) ∧ w'.cell? ⟨gb605, 0, none⟩ = some (.int .i64 a1_0) ∧ w'.cell? ⟨gb605, 1, none⟩ = some (.int .i64 a1_1) ∧ w'.cell? (ad607.add (x6_1).toNat) = some (.int .u64 (rd l0_2 x6_1))) (ds := []) #[false, false, false, false, false, false, false, false] (by kernel_rfl) rfl rfl ⟨(blk_cell BK604.out 0).trans rfl, (blk_cell BK604.out 1).trans rfl, (blk_cell BK604.out 2).trans rfl, (blk_cell BK605.out 0).trans rfl, (blk_cell BK605.out 1).trans rfl, ((HB.out.cell (World.block_lt_of_cell? w _ hw607_0)).trans hw607_0)⟩ (fun hHeld => ?_); refine with_tabW chequerref03_Fits.tab7 chequerref03_Fits.bits7 (fun HT_ HW_ => ?_)
           generalize wr.drew = w16 at BK604 BK605 HB hx607_0 hHeld ⊢
           refine pur_ (i := 0) (N := some 19) #[true, false, false, false, false, false, false, false] (any_of HT_.out (by kernel_rfl)) ?_
           refine pur_ (i := 2) (N := some 21) #[true, false, true, false, false, false, false, false] (any_of HT_.out (by kernel_rfl)) ?_
           refine take_ (i := 1) (N := some 20) (v := ?_) (a' := ?_) #[true, true, true, false, false, false, false, false] rfl rfl (take_ofW HT_.out HW_.out (by kernel_rfl)) (fun _ _ _ h => h) (Or.inl ⟨by rfl, ?_⟩) hHeld ?_ ?_
           rotate_left
           · rintro w' ⟨s0, s1, s2, s3, s4, s5⟩
             go_simp
             with_reducible rfl
           rotate_left
           · simp only [Act.put, List.setIfInBounds_toArray, List.set_cons_zero, List.set_cons_succ, i64_w, i32_w]
             rfl
           refine pur_ (i := 3) (N := some 22) #[true, true, true, true, false, false, false, false] (any_of HT_.out (by kernel_rfl)) ?_
           refine take_ (i := 4) (N := some 23) (v := ?_) (a' := ?_) #[true, true, true, true, true, false, false, false] rfl rfl (take_ofW HT_.out HW_.out (by kernel_rfl)) (fun _ _ _ h => h) (Or.inl ⟨by rfl, ?_⟩) hHeld ?_ ?_
           rotate_left
           · rintro w' ⟨s0, s1, s2, s3, s4, s5⟩
             go_simp
             with_reducible rfl
           rotate_left
           · simp only [Act.put, List.setIfInBounds_toArray, List.set_cons_zero, List.set_cons_succ, i64_w, i32_w]
             rfl
           refine take_ (i := 5) (N := some 24) (v := ?_) (a' := ?_) #[true, true, true, true, true, true, false, false] rfl rfl (take_ofW HT_.out HW_.out (by kernel_rfl)) (fun _ _ _ h => h) (Or.inl ⟨by rfl, ?_⟩) hHeld ?_ ?_
           rotate_left
           · rintro w' ⟨s0, s1, s2, s3, s4, s5⟩
             go_simp
             with_reducible rfl
           rotate_left
           · simp only [Act.put, List.setIfInBounds_toArray, List.set_cons_zero, List.set_cons_succ, i64_w, i32_w]
             rfl
           refine one_ (i := 6) (N := some 25) #[true, true, true, true, true, true, true, false] rfl rfl (one_of HT_.out (by kernel_rfl)) (by decide) (fun K hK => ?_)
           refine goes_ Try.func54 (by kernel_rfl) rfl #[.int .u64 (rd l0_2 x6_1), .agg #[.int .i64 a1_0, .int .i64 a1_1]] (by rfl) rfl rfl (by (try simp only [List.map_toArray, List.map_cons, List.map_nil]); first | done | rfl | (simp only [List.length_drop, List.length_take]; rfl)) ?_
           with_reducible refine (chequerref01_Fits.calls k1 (rd l0_2 x6_1) a1_0 a1_1 true _ A12.out).mono ?_
           rintro e w17 ⟨rfl, hb⟩
           refine ⟨_, rfl, ?_⟩
           replace BK604 := Aside0.mk (blk_below (hp_ BK604.out) hb)
           replace BK605 := Aside0.mk (blk_below (hp_ BK605.out) hb)
           replace HB := Aside0.mk (below_step bp_ hb)
           (try clear hb)
           (try clear hb2)
           (try clear hk)
           (try clear hi)
           refine hK.out _ _ ⟨(blk_cell BK604.out 0).trans rfl, (blk_cell BK604.out 1).trans rfl, (blk_cell BK604.out 2).trans rfl, (blk_cell BK605.out 0).trans rfl, (blk_cell BK605.out 1).trans rfl, ((HB.out.cell (World.block_lt_of_cell? w _ hw607_0)).trans hw607_0)⟩ (fun hHeld => ?_)
           clear hK K
           refine norm_ (a' := ?_) ?_ ?_
           rotate_left
           · show Act.put _ (some 25) _ = _
             simp only [Act.put, List.setIfInBounds_toArray, List.set_cons_zero, List.set_cons_succ, i64_w, i32_w]
             rfl
           refine pur_ (i := 7) (N := some 7) #[true, true, true, true, true, true, true, true] (any_of HT_.out (by kernel_rfl)) ?_
           refine done_ (done_of HT_.out (by kernel_rfl)) ?_
           try go_wp2
           go_roundg k1
           case measure => have := HK1.out; omega
           case rel => exact ⟨(wrap64 (x6_1 + 1)), (by first | rfl | (simp; done) | (simp [*]; done)), H', ⟨by have := HK1.out; omega⟩, ⟨hp_ BK604.out⟩, ⟨hp_ BK605.out⟩, ⟨bp_⟩⟩
         · replace c13 := Bool.eq_false_iff.mpr c13
           subst c13
           have H1 : (some false) = some r := by rw [if_neg (show ¬ (false = true) by decide)] at H; exact H
           clear H
           have H := H1
           clear H1
           obtain rfl := Option.some.inj H
           have hnb18 := NB604_605.out
           have hnc18 := NB605_604.out
           have hcz19_0 : wr.cell? ⟨gb604, 0, none⟩ = some (.int .i64 a0_0) := (blk_cell BK604.out 0).trans rfl
           have hcz19_1 : wr.cell? ⟨gb604, 1, none⟩ = some (.int .i64 a0_1) := (blk_cell BK604.out 1).trans rfl
           have hcz19_2 : wr.cell? ⟨gb604, 2, none⟩ = some (.slice A0_2 l0_2.length c0_2) := (blk_cell BK604.out 2).trans rfl
           have hfz19_0 := blk_frozen BK604.out 0
           have hfz19_1 := blk_frozen BK604.out 1
           have hfz19_2 := blk_frozen BK604.out 2
           try go_wp2
           (try (rw [drewN_self wr]; generalize hq_ : World.drewN wr _ = wr; have n0_ := Aside0.mk (qhp_ hq_ BK604.out); have n1_ := Aside0.mk (qhp_ hq_ BK605.out); have n2_ : Aside0 (Below w.heap.size w wr) := ⟨qbp_ hq_⟩; clear BK604 BK605 HB hq_; have BK604 := n0_; have BK605 := n1_; have HB := n2_; clear n0_ n1_ n2_))
           replace BK604 := Aside0.mk (blk_drew BK604.out)
           replace BK605 := Aside0.mk (blk_drew BK605.out)
           replace HB := Aside0.mk (below_drew1 HB.out)
           have p607 : 0 ≤ (x6_1 : Int) := of_decide_eq_true (by first | (with_reducible assumption) | assumption)
           have q607 : x6_1 < (l0_2.length : Int) := of_decide_eq_true (by first | (with_reducible assumption) | assumption)
           obtain ⟨ad607, e607, hx607_0⟩ := Kd.at_int HR0_2.out x6_1 p607 q607
           have hw607_0 := hx607_0
           cases e607
           replace hx607_0 := (HB.out.cell (World.block_lt_of_cell? w _ hx607_0)).trans hx607_0
           replace p607 := eq_true p607
           replace q607 := eq_true q607
           refine start_ (n := 8) (S := fun w' => w'.cell? ⟨gb604, 0, none⟩ = some (.int .i64 a0_0) ∧ w'.cell? ⟨gb604, 1, none⟩ = some (.int .i64 a0_1) ∧ w'.cell? ⟨gb604, 2, none⟩ = some (.slice (some ad607) l0_2.length c0_2) ∧ w'.cell? ⟨gb605, 0, none⟩ = some (.int .i64 a1_0) ∧ w'.cell? ⟨gb605, 1, none⟩ = some (.int .i64 a1_1) ∧ w'.cell? (ad607.add (x6_1).toNat) = some (.int .u64 (rd l0_2 x6_1))) (ds := []) #[false, false, false, false, false, false, false, false] (by kernel_rfl) rfl rfl ⟨(blk_cell BK604.out 0).trans rfl, (blk_cell BK604.out 1).trans rfl, (blk_cell BK604.out 2).trans rfl, (blk_cell BK605.out 0).trans rfl, (blk_cell BK605.out 1).trans rfl, ((HB.out.cell (World.block_lt_of_cell? w _ hw607_0)).trans hw607_0)⟩ (fun hHeld => ?_); refine with_tabW chequerref03_Fits.tab7 chequerref03_Fits.bits7 (fun HT_ HW_ => ?_)
           generalize wr.drew = w20 at BK604 BK605 HB hx607_0 hHeld ⊢
           refine pur_ (i := 0) (N := some 19) #[true, false, false, false, false, false, false, false] (any_of HT_.out (by kernel_rfl)) ?_
           refine pur_ (i := 2) (N := some 21) #[true, false, true, false, false, false, false, false] (any_of HT_.out (by kernel_rfl)) ?_
           refine take_ (i := 1) (N := some 20) (v := ?_) (a' := ?_) #[true, true, true, false, false, false, false, false] rfl rfl (take_ofW HT_.out HW_.out (by kernel_rfl)) (fun _ _ _ h => h) (Or.inl ⟨by rfl, ?_⟩) hHeld ?_ ?_
           rotate_left
           · rintro w' ⟨s0, s1, s2, s3, s4, s5⟩
             go_simp
             with_reducible rfl
           rotate_left
           · simp only [Act.put, List.setIfInBounds_toArray, List.set_cons_zero, List.set_cons_succ, i64_w, i32_w]
             rfl
           refine pur_ (i := 3) (N := some 22) #[true, true, true, true, false, false, false, false] (any_of HT_.out (by kernel_rfl)) ?_
           refine take_ (i := 4) (N := some 23) (v := ?_) (a' := ?_) #[true, true, true, true, true, false, false, false] rfl rfl (take_ofW HT_.out HW_.out (by kernel_rfl)) (fun _ _ _ h => h) (Or.inl ⟨by rfl, ?_⟩) hHeld ?_ ?_
           rotate_left
           · rintro w' ⟨s0, s1, s2, s3, s4, s5⟩
             go_simp
             with_reducible rfl
           rotate_left
           · simp only [Act.put, List.setIfInBounds_toArray, List.set_cons_zero, List.set_cons_succ, i64_w, i32_w]
             rfl
           refine take_ (i := 5) (N := some 24) (v := ?_) (a' := ?_) #[true, true, true, true, true, true, false, false] rfl rfl (take_ofW HT_.out HW_.out (by kernel_rfl)) (fun _ _ _ h => h) (Or.inl ⟨by rfl, ?_⟩) hHeld ?_ ?_
           rotate_left
           · rintro w' ⟨s0, s1, s2, s3, s4, s5⟩
             go_simp
             with_reducible rfl
           rotate_left
           · simp only [Act.put, List.setIfInBounds_toArray, List.set_cons_zero, List.set_cons_succ, i64_w, i32_w]
             rfl
           refine one_ (i := 6) (N := some 25) #[true, true, true, true, true, true, true, false] rfl rfl (one_of HT_.out (by kernel_rfl)) (by decide) (fun K hK => ?_)
           refine goes_ Try.func54 (by kernel_rfl) rfl #[.int .u64 (rd l0_2 x6_1), .agg #[.int .i64 a1_0, .int .i64 a1_1]] (by rfl) rfl rfl (by (try simp only [List.map_toArray, List.map_cons, List.map_nil]); first | done | rfl | (simp only [List.length_drop, List.length_take]; rfl)) ?_
           with_reducible refine (chequerref01_Fits.calls k1 (rd l0_2 x6_1) a1_0 a1_1 false _ A12.out).mono ?_
           rintro e w21 ⟨rfl, hb⟩
           refine ⟨_, rfl, ?_⟩
           replace BK604 := Aside0.mk (blk_below (hp_ BK604.out) hb)
           replace BK605 := Aside0.mk (blk_below (hp_ BK605.out) hb)
           replace HB := Aside0.mk (below_step bp_ hb)
           (try clear hb)
           (try clear hb2)
           (try clear hk)
           (try clear hi)
           refine hK.out _ _ ⟨(blk_cell BK604.out 0).trans rfl, (blk_cell BK604.out 1).trans rfl, (blk_cell BK604.out 2).trans rfl, (blk_cell BK605.out 0).trans rfl, (blk_cell BK605.out 1).trans rfl, ((HB.out.cell (World.block_lt_of_cell? w _ hw607_0)).trans hw607_0)⟩ (fun hHeld => ?_)
           clear hK K
           refine norm_ (a' := ?_) ?_ ?_
           rotate_left
           · show Act.put _ (some 25) _ = _
             simp only [Act.put, List.setIfInBounds_toArray, List.set_cons_zero, List.set_cons_succ, i64_w, i32_w]
             rfl
           refine pur_ (i := 7) (N := some 7) #[true, true, true, true, true, true, true, true] (any_of HT_.out (by kernel_rfl)) ?_
           refine done_ (done_of HT_.out (by kernel_rfl)) ?_
           try go_wp2
           go_ret
           exact ⟨by first | rfl | (simp [errW_none, errW_some] <;> rfl) | (simp [*, errW_none, errW_some] <;> rfl), bp_⟩
       · rw [if_neg c11] at H
         exact absurd H (by simp)
     · rw [if_neg c10] at H
       have c10b0 : decide (x6_1 < (l0_2.length : Int)) = false := decide_eq_false c10
       clear c10
       obtain rfl := Option.some.inj H
       have hcz22_0 : wr.cell? ⟨gb604, 0, none⟩ = some (.int .i64 a0_0) := (blk_cell BK604.out 0).trans rfl
       have hcz22_1 : wr.cell? ⟨gb604, 1, none⟩ = some (.int .i64 a0_1) := (blk_cell BK604.out 1).trans rfl
       have hcz22_2 : wr.cell? ⟨gb604, 2, none⟩ = some (.slice A0_2 l0_2.length c0_2) := (blk_cell BK604.out 2).trans rfl
       have hfz22_0 := blk_frozen BK604.out 0
       have hfz22_1 := blk_frozen BK604.out 1
       have hfz22_2 := blk_frozen BK604.out 2
       go_wp2
       go_ret
       exact ⟨by first | rfl | (simp [errW_none, errW_some] <;> rfl) | (simp [*, errW_none, errW_some] <;> rfl), bp_⟩
 · replace c4 := Bool.eq_false_iff.mpr c4
   subst c4
   have H1 : (some false) = some r := by rw [if_neg (show ¬ (false = true) by decide)] at H; exact H
   clear H
   have H := H1
   clear H1
   obtain rfl := Option.some.inj H
   go_enter Try.func39, Try.ntmps39
   go_wp2_with (first | ((with_reducible refine gate_dst (N := 2) rfl ?_); refine box_event ?hg (N := 2) ?hd (cs := #[.int .i64 a0_0, .int .i64 a0_1, .slice A0_2 l0_2.length c0_2]) (t := 24) ?hr ?_; (case hd => rfl); (case hg => rfl); (case hr => first | (go_simp; done) | (go_simp; rfl)); intro gb604 hg w23 hbox hb; have BK604 := Aside0.mk (hbox); have GW604 := Aside0.mk ((by rw [hg]; exact (below_size bp_) : w.heap.size ≤ gb604)); have GE604 := Aside0.mk ((by rw [hg]; exact (below_size bp_) : w.heap.size ≤ gb604)); replace HB := Aside0.mk (below_step bp_ hb); clear hb hbox hg) | ((with_reducible refine gate_dst (N := 3) rfl ?_); refine box_event ?hg (N := 3) ?hd (cs := #[.int .i64 a1_0, .int .i64 a1_1]) (t := 70) ?hr ?_; (case hd => rfl); (case hg => rfl); (case hr => first | (go_simp; done) | (go_simp; rfl)); intro gb605 hg w24 hbox hb; have BK605 := Aside0.mk (hbox); have GW605 := Aside0.mk ((by rw [hg]; exact (below_size bp_) : w.heap.size ≤ gb605)); have GE605 := Aside0.mk ((by rw [hg]; exact (below_size bp_) : w.heap.size ≤ gb605)); replace HB := Aside0.mk (below_step bp_ hb); have NB604_605 := Aside0.mk ((nlt_ hg (hp_ BK604.out))); have NB605_604 := Aside0.mk ((ngt_ hg (hp_ BK604.out))); replace BK604 := Aside0.mk (blk_below (hp_ BK604.out) hb); clear hb hbox hg; have hcz25_0 : w24.cell? ⟨gb604, 0, none⟩ = some (.int .i64 a0_0) := (blk_cell BK604.out 0).trans rfl; have hcz25_1 : w24.cell? ⟨gb604, 1, none⟩ = some (.int .i64 a0_1) := (blk_cell BK604.out 1).trans rfl; have hcz25_2 : w24.cell? ⟨gb604, 2, none⟩ = some (.slice A0_2 l0_2.length c0_2) := (blk_cell BK604.out 2).trans rfl; have hfz25_0 := blk_frozen BK604.out 0; have hfz25_1 := blk_frozen BK604.out 1; have hfz25_2 := blk_frozen BK604.out 2) | ((with_reducible refine gate_callee (f := 20) rfl ?_); refine goQ_ (some 9) Try.func20 #[.agg #[.int .i64 a0_0, .int .i64 a0_1, .slice A0_2 l0_2.length c0_2]] ?_; (with_reducible refine (chequerref03_May.calls a0_0 a0_1 _ _ l0_2 false _ ?side1 ?side2 A3.out).mono ?_); (case side1 => repeat (first | exact (Kd.C_below HR0_2.out HB.out) | (with_reducible refine Kd.C_alloc ?_ _) | (with_reducible refine Kd.C_drewN ?_ _) | (with_reducible refine Kd.C_drew ?_))); (case side2 => exact HC0_2.out); rintro e w26 ⟨rfl, hb⟩; refine ⟨_, rfl, ?_⟩; replace HB := Aside0.mk (below_step bp_ hb); (try clear hb); (try clear hb2); (try clear hk); (try clear hi)))
   go_ret
   exact ⟨by first | rfl | (simp [errW_none, errW_some] <;> rfl) | (simp [*, errW_none, errW_some] <;> rfl), bp_⟩

end Go.Proofs.Ytidpaaemfiopkaa.Q
