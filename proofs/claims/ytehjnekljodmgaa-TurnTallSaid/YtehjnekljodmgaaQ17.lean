-- written by our own program (wip/tools/myprint.py) out of the translation, by the kit's print; Lean checks it
import Derived.Test.YtehjnekljodmgaaQ0
import Derived.Test.YtehjnekljodmgaaQ1
import Derived.Test.YtehjnekljodmgaaQ3
import Derived.Test.YtehjnekljodmgaaQ6
import Derived.Test.YtehjnekljodmgaaQ13
namespace Go.Proofs.Ytehjnekljodmgaa.Q
open Go.RowKit Go.Proofs.YtehjnekljodmgaaW.PrintWords Go.Proofs.YtehjnekljodmgaaW.PrintLast Go.Proofs.YtehjnekljodmgaaW.PrintMore
attribute [local go_sem] max2_int min2_int max_two min_two max_three min_three max_four min_four   -- for this text's walks alone
set_option linter.unusedVariables false
set_option linter.unusedSimpArgs false


/-! ### chequerlaw04_TurnTall: function 8 -/
mutual
def chequerlaw04_TurnTall.l0 : Nat → Int → List Int → Int → Int → Int → List Int → Option (Bool)
 | 0, _, _, _, _, _, _ => none
 | k + 1, x3, x6, x7, x484000, x484001, x484002 => if x7 < 8 then ((turn_Lay.f k x484000 x484001 x484002 x7).bind fun bt494 => (if (Int.tmod x7 2) = 1 then (chequerlaw04_TurnTall.j1 k x3 x6 x7 bt494.2.2.2 (decide (x3 > 4096)) x484000 x484001 x484002 bt494.1 bt494.2.1 bt494.2.2.1) else (chequerlaw04_TurnTall.j1 k x3 x6 x7 bt494.2.2.2 false x484000 x484001 x484002 bt494.1 bt494.2.1 bt494.2.2.1))) else ((chequerlaw04_lives.f k).bind fun t493 => (some t493))
def chequerlaw04_TurnTall.j1 : Nat → Int → List Int → Int → Int → Bool → Int → Int → List Int → Int → Int → List Int → Option (Bool)
 | 0, _, _, _, _, _, _, _, _, _, _, _ => none
 | k + 1, x3, x6, x7, x9, x43, x484000, x484001, x484002, x501000, x501001, x501002 => if x43 = true then (if x9 = 4 then (if (x501002.length : Int) = 0 then (if x501000 = 0 then (if 0 ≤ x7 then (if x7 < (x6.length : Int) then (if (rd x6 x7) = (-1) then (chequerlaw04_TurnTall.l0 k x3 x6 (wrap64 (x7 + 1)) x484000 x484001 x484002) else (some false)) else (none)) else (none)) else (some false)) else (some false)) else (some false)) else (if (Int.tmod x7 2) = 1 then (if x9 = 0 then (if x501000 = x3 then (if (x501002.length : Int) = x3 then (if 0 ≤ x7 then (if x7 < (x6.length : Int) then (if (rd x6 x7) = (Int.tmod x7 2) then (chequerlaw04_TurnTall.l0 k x3 x6 (wrap64 (x7 + 1)) x484000 x484001 x484002) else (some false)) else (none)) else (none)) else (some false)) else (some false)) else (some false)) else (if x9 = 0 then (if x501000 = 1 then (if (x501002.length : Int) = x3 then (if 0 ≤ x7 then (if x7 < (x6.length : Int) then (if (rd x6 x7) = (Int.tmod x7 2) then (chequerlaw04_TurnTall.l0 k x3 x6 (wrap64 (x7 + 1)) x484000 x484001 x484002) else (some false)) else (none)) else (none)) else (some false)) else (some false)) else (some false)))
end
def chequerlaw04_TurnTall.f (k : Nat) (a0 : Int) : Option (Bool) := (chequerref01_Around.f a0 14).bind fun t479 => (if 0 ≤ (wrap64 (4090 + t479)) then (if (wrap64 (4090 + t479) : Int).toNat ≤ 35184372088832 then ((some (List.replicate (wrap64 (4090 + t479) : Int).toNat 0 : List Int)).bind fun y480 => ((turn_Orbit.f k 1 (wrap64 (4090 + t479)) y480 (([0, 1, 2, 3, 4, 5, 6, 7] : List Int))).bind fun bt487 => (if (bt487.2.length : Int) = 8 then (chequerlaw04_TurnTall.l0 k (wrap64 (4090 + t479)) bt487.2 0 1 (wrap64 (4090 + t479)) y480) else (some false)))) else (none)) else (none))
theorem chequerlaw04_TurnTall.mono_l : ∀ k, (∀ y0 y1 y2 y3 y4 y5, LeO (chequerlaw04_TurnTall.l0 k y0 y1 y2 y3 y4 y5) (chequerlaw04_TurnTall.l0 (k + 1) y0 y1 y2 y3 y4 y5)) ∧ (∀ y0 y1 y2 y3 y4 y5 y6 y7 y8 y9 y10, LeO (chequerlaw04_TurnTall.j1 k y0 y1 y2 y3 y4 y5 y6 y7 y8 y9 y10) (chequerlaw04_TurnTall.j1 (k + 1) y0 y1 y2 y3 y4 y5 y6 y7 y8 y9 y10))
 | 0 => ⟨fun _ _ _ _ _ _ r h => by simp [chequerlaw04_TurnTall.l0] at h, fun _ _ _ _ _ _ _ _ _ _ _ r h => by simp [chequerlaw04_TurnTall.j1] at h⟩
 | k + 1 => by
  obtain ⟨ih0, ih1⟩ := chequerlaw04_TurnTall.mono_l k
  refine ⟨?_, ?_⟩
  · intro y0 y1 y2 y3 y4 y5
    unfold chequerlaw04_TurnTall.l0
    repeat' first
    | (with_reducible exact ih0 _ _ _ _ _ _)
    | (with_reducible exact ih1 _ _ _ _ _ _ _ _ _ _ _)
    | (with_reducible exact chequerlaw04_lives.mono _)
    | (with_reducible exact turn_Lay.mono _ _ _ _ _)
    | (with_reducible exact turn_Orbit.mono _ _ _ _ _)
    | (with_reducible exact LeO.refl _)
    | (with_reducible exact LeO.none _)
    | (with_reducible refine LeO.ite ?_ ?_)
    | (with_reducible refine LeO.bind ?_ (fun _ => ?_))
    | exact ih0 _ _ _ _ _ _
    | exact ih1 _ _ _ _ _ _ _ _ _ _ _
    | exact chequerlaw04_lives.mono _
    | exact turn_Lay.mono _ _ _ _ _
    | exact turn_Orbit.mono _ _ _ _ _
    | exact LeO.none _
    | refine LeO.ite ?_ ?_
    | refine LeO.bind ?_ (fun _ => ?_)
  · intro y0 y1 y2 y3 y4 y5 y6 y7 y8 y9 y10
    unfold chequerlaw04_TurnTall.j1
    repeat' first
    | (with_reducible exact ih0 _ _ _ _ _ _)
    | (with_reducible exact ih1 _ _ _ _ _ _ _ _ _ _ _)
    | (with_reducible exact chequerlaw04_lives.mono _)
    | (with_reducible exact turn_Lay.mono _ _ _ _ _)
    | (with_reducible exact turn_Orbit.mono _ _ _ _ _)
    | (with_reducible exact LeO.refl _)
    | (with_reducible exact LeO.none _)
    | (with_reducible refine LeO.ite ?_ ?_)
    | (with_reducible refine LeO.bind ?_ (fun _ => ?_))
    | exact ih0 _ _ _ _ _ _
    | exact ih1 _ _ _ _ _ _ _ _ _ _ _
    | exact chequerlaw04_lives.mono _
    | exact turn_Lay.mono _ _ _ _ _
    | exact turn_Orbit.mono _ _ _ _ _
    | exact LeO.none _
    | refine LeO.ite ?_ ?_
    | refine LeO.bind ?_ (fun _ => ?_)
theorem chequerlaw04_TurnTall.mono : ∀ a0 k, LeO (chequerlaw04_TurnTall.f k a0) (chequerlaw04_TurnTall.f (k + 1) a0) := by
 intro a0 k
 obtain ⟨ih0, ih1⟩ := chequerlaw04_TurnTall.mono_l k
 unfold chequerlaw04_TurnTall.f
 repeat' first
  | (with_reducible exact ih0 _ _ _ _ _ _)
  | (with_reducible exact ih1 _ _ _ _ _ _ _ _ _ _ _)
  | (with_reducible exact chequerlaw04_lives.mono _)
  | (with_reducible exact turn_Lay.mono _ _ _ _ _)
  | (with_reducible exact turn_Orbit.mono _ _ _ _ _)
  | (with_reducible exact LeO.refl _)
  | (with_reducible exact LeO.none _)
  | (with_reducible refine LeO.ite ?_ ?_)
  | (with_reducible refine LeO.bind ?_ (fun _ => ?_))
  | exact ih0 _ _ _ _ _ _
  | exact ih1 _ _ _ _ _ _ _ _ _ _ _
  | exact chequerlaw04_lives.mono _
  | exact turn_Lay.mono _ _ _ _ _
  | exact turn_Orbit.mono _ _ _ _ _
  | exact LeO.none _
  | refine LeO.ite ?_ ?_
  | refine LeO.bind ?_ (fun _ => ?_)
set_option maxHeartbeats 8000000 in
set_option maxRecDepth 100000 in
theorem chequerlaw04_TurnTall.calls (k : Nat) (a0 : Int) (r : Bool) (w : World) (h : chequerlaw04_TurnTall.f k a0 = some r) :
 Calls Try.prog 8 #[.int .i64 a0] w fun e w' => e = .returned (.bool r) ∧ Below w.heap.size w w' := by
 have hu26 := Try.underlying26
 have HB := Aside0.mk (Below.refl w.heap.size w)
 have H : ((chequerref01_Around.f a0 14).bind fun t479 => (if 0 ≤ (wrap64 (4090 + t479)) then (if (wrap64 (4090 + t479) : Int).toNat ≤ 35184372088832 then ((some (List.replicate (wrap64 (4090 + t479) : Int).toNat 0 : List Int)).bind fun y480 => ((turn_Orbit.f k 1 (wrap64 (4090 + t479)) y480 (([0, 1, 2, 3, 4, 5, 6, 7] : List Int))).bind fun bt487 => (if (bt487.2.length : Int) = 8 then (chequerlaw04_TurnTall.l0 k (wrap64 (4090 + t479)) bt487.2 0 1 (wrap64 (4090 + t479)) y480) else (some false)))) else (none)) else (none))) = some r := h
 clear h
 replace H := Option.bind_eq_some_iff.mp H
 obtain ⟨t479, A20, H⟩ := H
 replace H : (if 0 ≤ (wrap64 (4090 + t479)) then (if (wrap64 (4090 + t479) : Int).toNat ≤ 35184372088832 then ((some (List.replicate (wrap64 (4090 + t479) : Int).toNat 0 : List Int)).bind fun y480 => ((turn_Orbit.f k 1 (wrap64 (4090 + t479)) y480 (([0, 1, 2, 3, 4, 5, 6, 7] : List Int))).bind fun bt487 => (if (bt487.2.length : Int) = 8 then (chequerlaw04_TurnTall.l0 k (wrap64 (4090 + t479)) bt487.2 0 1 (wrap64 (4090 + t479)) y480) else (some false)))) else (none)) else (none)) = some r := H
 have A2 := Aside0.mk A20
 clear A20
 obtain ⟨ji3, hji3⟩ : ∃ j_ : Int, (wrap64 (4090 + t479)) = j_ := ⟨_, rfl⟩
 replace H : (if 0 ≤ (ji3) then (if (ji3 : Int).toNat ≤ 35184372088832 then ((some (List.replicate (ji3 : Int).toNat 0 : List Int)).bind fun y480 => ((turn_Orbit.f k 1 (ji3) y480 (([0, 1, 2, 3, 4, 5, 6, 7] : List Int))).bind fun bt487 => (if (bt487.2.length : Int) = 8 then (chequerlaw04_TurnTall.l0 k ji3 bt487.2 0 1 ji3 y480) else (some false)))) else (none)) else (none)) = some r := by first | (rw [hji3] at H; exact H) | (simp only [hji3] at H ⊢; exact H)
 (try rw [hji3] at A2)
 have hji3w : (IntKind.i64.wrap (4090 + t479)) = ji3 := (i64_w _).trans hji3
 by_cases c4 : 0 ≤ (ji3)
 · rw [if_pos c4] at H
   have c4b0 := eq_true c4
   have c4b1 : decide (0 ≤ (ji3)) = true := decide_eq_true c4
   clear c4
   by_cases c5 : (ji3 : Int).toNat ≤ 35184372088832
   · rw [if_pos c5] at H
     have c5b0 := eq_true c5
     have c5b1 : decide ((ji3 : Int).toNat ≤ 35184372088832) = true := decide_eq_true c5
     clear c5
     obtain ⟨y480, hy480⟩ : ∃ y_ : List Int, y_ = (List.replicate (ji3 : Int).toNat 0) := ⟨_, rfl⟩
     replace H : ((turn_Orbit.f k 1 (ji3) y480 (([0, 1, 2, 3, 4, 5, 6, 7] : List Int))).bind fun bt487 => (if (bt487.2.length : Int) = 8 then (chequerlaw04_TurnTall.l0 k ji3 bt487.2 0 1 ji3 y480) else (some false))) = some r := by first | (rw [hy480]; with_reducible exact H) | (have H2_ := (Option.bind_some _ _).symm.trans H; rw [hy480]; with_reducible exact H2_) | (have H2_ := (Option.bind_some _ _).symm.trans H; with_reducible exact H2_) | with_reducible exact H | (rw [hy480]; exact H) | exact H
     have Ny480 := Aside0.mk hy480
     clear hy480
     obtain ⟨y484, hy484⟩ : ∃ y_ : List Int, y_ = (([0, 1, 2, 3, 4, 5, 6, 7] : List Int)) := ⟨_, rfl⟩
     replace H : ((turn_Orbit.f k 1 (ji3) y480 y484).bind fun bt487 => (if (bt487.2.length : Int) = 8 then (chequerlaw04_TurnTall.l0 k ji3 bt487.2 0 1 ji3 y480) else (some false))) = some r := by first | (rw [hy484]; with_reducible exact H) | (have H2_ := (Option.bind_some _ _).symm.trans H; rw [hy484]; with_reducible exact H2_) | (have H2_ := (Option.bind_some _ _).symm.trans H; with_reducible exact H2_) | with_reducible exact H | (rw [hy484]; exact H) | exact H
     have Ny484 := Aside0.mk hy484
     clear hy484
     replace H := Option.bind_eq_some_iff.mp H
     obtain ⟨⟨t487, t490⟩, A60, H⟩ := H
     replace H : (if (t490.length : Int) = 8 then (chequerlaw04_TurnTall.l0 k ji3 t490 0 1 ji3 y480) else (some false)) = some r := H
     have A6 := Aside0.mk A60
     clear A60
     by_cases c7 : (t490.length : Int) = 8
     · rw [if_pos c7] at H
       have c7b0 : ((t490.length : Int) == 8) = true := beq_iff_eq.mpr c7
       have c7b1 : ((t490.length : Int) != 8) = false := bne_eq_false_iff_eq.mpr c7
       clear c7
       have H' := Aside0.mk H
       clear H
       go_enter Try.func8, Try.ntmps8
       go_wp2_with (first | ((with_reducible refine gate_callee (f := 23) rfl ?_); refine goQ_ (some 12) Try.func23 #[.int .i64 a0, .int .i64 14] ?_; (with_reducible refine (chequerref01_Around.calls a0 14 t479 _ A2.out).mono ?_); rintro e w' ⟨rfl, ⟨nd, rfl⟩⟩; refine ⟨_, rfl, ?_⟩) | ((with_reducible refine gate_dst (N := 16) rfl ?_); (try (refine gate_guard (by rfl) ?_; dsimp only)); refine Kd.R_make (Kd.int .u64) _ 41 rfl (N := 16) rfl 22 _ _ rfl ji3 rfl rfl Try.underlying22 (.int .u64 0) 8 info41 rfl (by decide) (by omega) 0 (ok := fun _ => True) (okp := fun _ => True) rfl (fun _ hk => hk) trivial (of_decide_eq_true (by first | (with_reducible assumption) | assumption)) (Nat.le_trans (Nat.mul_le_mul_right _ (of_decide_eq_true (by first | (with_reducible assumption) | assumption) : ji3.toNat ≤ 35184372088832)) (by omega)) (Below.refl _ _) (Nat.le_refl _) ?_; intro v481 w8 ho9 hb hg_ hnew_; clear hg_ hnew_; (first | rw [← Ny480.out] at ho9 | (simp only [Int.reduceToNat] at ho9; rw [← Ny480.out] at ho9)); have HO482 := Aside0.mk (Kd.R_lower ho9 (below_size bp_)); replace HB := Aside0.mk (below_step bp_ hb); clear hb ho9; obtain ⟨Ao10, co10, eo10⟩ := Kd.R_slice HO482.out; subst eo10) | ((with_reducible refine gate_dst (N := 4) rfl ?_); (try (refine gate_guard (by rfl) ?_; dsimp only)); refine box_event ?hg (N := 4) ?hd (cs := #[.int .i64 0, .int .i64 0, .slice none 0 0]) (t := 26) ?hr ?_; (case hd => rfl); (case hg => rfl); (case hr => first | (go_simp; done) | (go_simp; rfl)); intro gb483 hg w11 hbox hb; replace HO482 := Aside0.mk (Kd.R_below (rp_ HO482.out) hb); have BK483 := Aside0.mk (hbox); have GW483 := Aside0.mk ((by rw [hg]; exact (below_size bp_) : w.heap.size ≤ gb483)); have GE483 := Aside0.mk ((by rw [hg]; exact (below_size bp_) : w.heap.size ≤ gb483)); replace HB := Aside0.mk (below_step bp_ hb); clear hb hbox hg; have hcz12_0 : w11.cell? ⟨gb483, 0, none⟩ = some (.int .i64 0) := (blk_cell BK483.out 0).trans rfl; have hcz12_1 : w11.cell? ⟨gb483, 1, none⟩ = some (.int .i64 0) := (blk_cell BK483.out 1).trans rfl; have hcz12_2 : w11.cell? ⟨gb483, 2, none⟩ = some (.slice none 0 0) := (blk_cell BK483.out 2).trans rfl; have hfz12_0 := blk_frozen BK483.out 0; have hfz12_1 := blk_frozen BK483.out 1; have hfz12_2 := blk_frozen BK483.out 2) | ((with_reducible refine gate_dst (N := 20) rfl ?_); (try (refine gate_guard (by rfl) ?_; dsimp only)); refine Kd.R_lit (Kd.int .i64) _ 3 ?hg (N := 20) ?hd (xs := ([0, 1, 2, 3, 4, 5, 6, 7] : List Int)) (inner := [.int .i64 0, .int .i64 1, .int .i64 2, .int .i64 3, .int .i64 4, .int .i64 5, .int .i64 6, .int .i64 7]) (ok := fun _ => True) (okp := fun _ => True) ?hr ?hp (fun _ hk => hk) trivial (Below.refl _ _) (Nat.le_refl _) (by simp) ?_; (case hd => rfl); (case hg => rfl); (case hr => first | (go_simp; done) | (go_simp; rfl)); (case hp => exact (Reps.one (show Kd.M (Kd.int .i64) _ _ _ 0 [.int .i64 0] from rfl) (Reps.one (show Kd.M (Kd.int .i64) _ _ _ 1 [.int .i64 1] from rfl) (Reps.one (show Kd.M (Kd.int .i64) _ _ _ 2 [.int .i64 2] from rfl) (Reps.one (show Kd.M (Kd.int .i64) _ _ _ 3 [.int .i64 3] from rfl) (Reps.one (show Kd.M (Kd.int .i64) _ _ _ 4 [.int .i64 4] from rfl) (Reps.one (show Kd.M (Kd.int .i64) _ _ _ 5 [.int .i64 5] from rfl) (Reps.one (show Kd.M (Kd.int .i64) _ _ _ 6 [.int .i64 6] from rfl) (Reps.one (show Kd.M (Kd.int .i64) _ _ _ 7 [.int .i64 7] from rfl) (Reps.none _ _)))))))))); intro v485 w13 ho14 hb hg_ hnew_; clear hg_ hnew_; (first | rw [← Ny484.out] at ho14 | (simp only [Int.reduceToNat] at ho14; rw [← Ny484.out] at ho14)); replace HO482 := Aside0.mk (Kd.R_below (by (with_reducible repeat (first | apply Kd.R_alloc | apply Kd.R_drewN | apply Kd.R_drew)); exact (Kd.R_mono (Kd.R_far (p := ⟨gb483, 2, none⟩) (Kd.R_far (p := ⟨gb483, 1, none⟩) (Kd.R_far (p := ⟨gb483, 0, none⟩) (Kd.R_types HO482.out BK483.out (by decide)) (fun _ hk => hk.2) (.int .i64 1)) (fun _ hk => hk.2) (.int .i64 ji3)) (fun _ hk => hk.2) (.slice Ao10 y480.length co10)) (fun _ h_ => h_.1))) hb); have HO486 := Aside0.mk (Kd.R_lower ho14 (below_size bp_)); replace BK483 := Aside0.mk (blk_below (g := gb483) (o := .cells #[.int .i64 1, .int .i64 ji3, .slice Ao10 y480.length co10] 26 (0, 0)) (by (with_reducible repeat (first | refine blk_drewN ?_ _ | refine blk_drew ?_ | refine blk_alloc ?_ _)); refine blk_put (cs := #[.int .i64 1, .int .i64 ji3, .slice none 0 0]) ?_ 2 _ rfl; (with_reducible repeat (first | refine blk_drewN ?_ _ | refine blk_drew ?_ | refine blk_alloc ?_ _)); refine blk_put (cs := #[.int .i64 1, .int .i64 0, .slice none 0 0]) ?_ 1 _ rfl; (with_reducible repeat (first | refine blk_drewN ?_ _ | refine blk_drew ?_ | refine blk_alloc ?_ _)); refine blk_put (cs := #[.int .i64 0, .int .i64 0, .slice none 0 0]) ?_ 0 _ rfl; (with_reducible repeat (first | refine blk_drewN ?_ _ | refine blk_drew ?_ | refine blk_alloc ?_ _)); exact BK483.out) hb); replace HB := Aside0.mk (below_step bp_ hb); clear hb ho14; obtain ⟨Ao15, co15, eo15⟩ := Kd.R_slice HO486.out; subst eo15) | ((with_reducible refine gate_callee (f := 28) rfl ?_); refine goesL_ (some 21) rfl rfl Try.func28 (by kernel_rfl) rfl #[.agg #[.int .i64 1, .int .i64 ji3, .slice Ao10 y480.length co10], .slice Ao15 y484.length co15] rfl (by (try simp only [List.map_toArray, List.map_cons, List.map_nil]); first | done | (simp only [hji3]; rfl) | rfl | (simp only [List.length_drop, List.length_take]; rfl)) ?_; (with_reducible refine (turn_Orbit.calls k 1 ji3 _ _ y480 _ _ y484 t487 t490 _ ?side1 ?side2 ?side3 ?side4 A6.out).mono ?_); (case side1 => exact cp_ (Kd.R_reads' HO482.out).2.2); (case side2 => exact (Kd.R_reads' HO482.out).2.1); (case side3 => exact cp_ (Kd.R_reads' HO486.out).2.2); (case side4 => exact (Kd.R_reads' HO486.out).2.1); rintro e w16 ⟨v488, v491, rfl, ho0, ho1, hb⟩; refine ⟨_, rfl, ?_⟩; have HO489 := Aside0.mk (Kd.S_lower (Kd.S_newB (Kd.S_new' ho0 (Kd.R_lt (rp_ HO482.out))) (g := gb483) (o := .cells #[.int .i64 1, .int .i64 ji3, .slice Ao10 y480.length co10] 26 (0, 0)) (hp_ BK483.out)) (below_size bp_)); replace HO482 := Aside0.mk (Kd.R_below (rp_ HO482.out) hb); have HO492 := Aside0.mk (Kd.R_lower (Kd.R_new' ho1 (Kd.R_lt (rp_ HO486.out))) (below_size bp_)); replace HO486 := Aside0.mk (Kd.R_elder' (rp_ HO486.out) (Kd.R_base ho1) hb); replace BK483 := Aside0.mk (blk_below (hp_ BK483.out) hb); replace HB := Aside0.mk (below_step bp_ hb); (try clear hb); (try clear hb2); (try clear hk); (try clear hi); (try clear ho0); (try clear ho1); obtain ⟨Ao17, co17, eo17⟩ := Kd.R_slice HO492.out; subst eo17))
       go_loopg [7] k (fun kq v7 w' => ∃ (x7_1 : Int), v7 = .int .i64 x7_1 ∧ Aside0 (chequerlaw04_TurnTall.l0 kq ji3 t490 x7_1 1 ji3 y480 = some r) ∧ Aside0 (kq ≤ k) ∧ Aside0 (Kd.R (Kd.int .i64) 3 w' w.heap.size (fun _ => True) (.slice Ao17 t490.length co17) t490) ∧ Aside0 (Kd.R (Kd.int .u64) 41 w' w.heap.size (fun _ => True) (.slice Ao10 y480.length co10) y480) ∧ Aside0 (w'.heap[gb483]? = some (.cells #[.int .i64 1, .int .i64 ji3, (.slice Ao10 y480.length co10)] 26 (0, 0))) ∧ Aside0 (Below w.heap.size w w'))
       case atStart => exact ⟨(0), (by first | rfl | (simp; done) | (simp [*]; done)), H', ⟨Nat.le_refl _⟩, ⟨by (with_reducible repeat (first | apply Kd.R_alloc | apply Kd.R_drewN | apply Kd.R_drew)); exact Kd.R_mono HO492.out (fun _ hk => trivial)⟩, ⟨rp_ HO482.out⟩, ⟨hp_ BK483.out⟩, ⟨bp_⟩⟩
       case round =>
        clear H'
        try clear c2
        try clear p2
        try clear c4
        try clear c4b0
        try clear c4b1
        try clear c5
        try clear c5b0
        try clear c5b1
        try clear p6
        try clear c7
        try clear c7b0
        try clear c7b1
        try clear c8
        try clear hcz12_0
        try clear hcz12_1
        try clear hcz12_2
        try clear hfz12_0
        try clear hfz12_1
        try clear hfz12_2
        obtain ⟨x7_1, rfl, HA, HK1, HO_6, HO_484002, BK483, HB⟩ := hrel
        cases gk with
        | zero => exact absurd HA.out (by simp [chequerlaw04_TurnTall.l0])
        | succ k1 =>
         have H := HA.out
         clear HA
         simp only [chequerlaw04_TurnTall.l0] at H
         by_cases c18 : x7_1 < 8
         · rw [if_pos c18] at H
           have c18b0 : decide (x7_1 < 8) = true := decide_eq_true c18
           clear c18
           replace H := Option.bind_eq_some_iff.mp H
           obtain ⟨⟨t494, t495, t496, t499⟩, A190, H⟩ := H
           replace H : (if (Int.tmod x7_1 2) = 1 then (chequerlaw04_TurnTall.j1 k1 ji3 t490 x7_1 t499 (decide (ji3 > 4096)) 1 ji3 y480 t494 t495 t496) else (chequerlaw04_TurnTall.j1 k1 ji3 t490 x7_1 t499 false 1 ji3 y480 t494 t495 t496)) = some r := H
           have A19 := Aside0.mk A190
           clear A190
           have HC20 := Aside0.mk H
           clear H
           have hcz21_0 : wr.cell? ⟨gb483, 0, none⟩ = some (.int .i64 1) := (blk_cell BK483.out 0).trans rfl
           have hcz21_1 : wr.cell? ⟨gb483, 1, none⟩ = some (.int .i64 ji3) := (blk_cell BK483.out 1).trans rfl
           have hcz21_2 : wr.cell? ⟨gb483, 2, none⟩ = some (.slice Ao10 y480.length co10) := (blk_cell BK483.out 2).trans rfl
           have hfz21_0 := blk_frozen BK483.out 0
           have hfz21_1 := blk_frozen BK483.out 1
           have hfz21_2 := blk_frozen BK483.out 2
           go_upto_region 10 with (first | ((with_reducible refine gate_callee (f := 12) rfl ?_); refine goesL_ (some 34) rfl rfl Try.func12 (by kernel_rfl) rfl #[.agg #[.int .i64 1, .int .i64 ji3, .slice Ao10 y480.length co10], .int .i64 x7_1] rfl (by (try simp only [List.map_toArray, List.map_cons, List.map_nil]); first | done | (simp only [hji3]; rfl) | rfl | (simp only [List.length_drop, List.length_take]; rfl)) ?_; (with_reducible refine (turn_Lay.calls k1 1 ji3 _ _ y480 x7_1 t494 t495 t496 t499 _ ?side1 ?side2 A19.out).mono ?_); (case side1 => exact cp_ (Kd.R_reads' HO_484002.out).2.2); (case side2 => exact (Kd.R_reads' HO_484002.out).2.1); rintro e w22 ⟨v497, rfl, ho0, hb⟩; refine ⟨_, rfl, ?_⟩; replace HO_6 := Aside0.mk (Kd.R_below (rp_ HO_6.out) hb); have HO498 := Aside0.mk (Kd.R_lower (Kd.R_new' ho0 (Kd.R_lt (rp_ HO_484002.out))) (below_size bp_)); replace HO_484002 := Aside0.mk (Kd.R_elder' (rp_ HO_484002.out) (Kd.R_base ho0) hb); replace BK483 := Aside0.mk (blk_below (hp_ BK483.out) hb); replace HB := Aside0.mk (below_step bp_ hb); (try clear hb); (try clear hb2); (try clear hk); (try clear hi); (try clear ho0)) | ((with_reducible refine gate_dst (N := 8) rfl ?_); (try (refine gate_guard (by rfl) ?_; dsimp only)); refine box_event ?hg (N := 8) ?hd (cs := #[.int .i64 0, .int .i64 0, .slice none 0 0]) (t := 26) ?hr ?_; (case hd => rfl); (case hg => rfl); (case hr => first | (go_simp; done) | (go_simp; rfl)); intro gb500 hg w23 hbox hb; replace HO_6 := Aside0.mk (Kd.R_below (rp_ HO_6.out) hb); replace HO_484002 := Aside0.mk (Kd.R_below (rp_ HO_484002.out) hb); replace HO498 := Aside0.mk (Kd.R_below (rp_ HO498.out) hb); have BK500 := Aside0.mk (hbox); have GW500 := Aside0.mk ((by rw [hg]; exact (below_size bp_) : w.heap.size ≤ gb500)); have GE500 := Aside0.mk ((by rw [hg]; exact (below_size bp_) : w.heap.size ≤ gb500)); replace HB := Aside0.mk (below_step bp_ hb); have NB483_500 := Aside0.mk ((nlt_ hg (hp_ BK483.out))); have NB500_483 := Aside0.mk ((ngt_ hg (hp_ BK483.out))); replace BK483 := Aside0.mk (blk_below (hp_ BK483.out) hb); clear hb hbox hg; have hnb24 := NB500_483.out; have hnc24 := NB483_500.out; have hcz25_0 : w23.cell? ⟨gb500, 0, none⟩ = some (.int .i64 0) := (blk_cell BK500.out 0).trans rfl; have hcz25_1 : w23.cell? ⟨gb500, 1, none⟩ = some (.int .i64 0) := (blk_cell BK500.out 1).trans rfl; have hcz25_2 : w23.cell? ⟨gb500, 2, none⟩ = some (.slice none 0 0) := (blk_cell BK500.out 2).trans rfl; have hfz25_0 := blk_frozen BK500.out 0; have hfz25_1 := blk_frozen BK500.out 1; have hfz25_2 := blk_frozen BK500.out 2; obtain ⟨Ao26, co26, eo26⟩ := Kd.R_slice HO498.out; subst eo26))
           (try simp only [Act.put, List.setIfInBounds_toArray, List.set_cons_zero, List.set_cons_succ])
           go_cut [43] (fun v43 wc => ∃ (kq : Nat) (x43_19 : Bool), v43 = .bool x43_19 ∧ Aside0 (chequerlaw04_TurnTall.j1 kq ji3 t490 x7_1 t499 x43_19 1 ji3 y480 t494 t495 t496 = some r) ∧ Aside0 (kq ≤ k1) ∧ Aside0 (Kd.R (Kd.int .i64) 3 wc w.heap.size (fun _ => True) (.slice Ao17 t490.length co17) t490) ∧ Aside0 (Kd.R (Kd.int .u64) 41 wc w.heap.size (fun k_ => some k_ ≠ ((.slice Ao26 t496.length co26) : Value).ownBlock) (.slice Ao10 y480.length co10) y480) ∧ Aside0 (Kd.R (Kd.int .u64) 41 wc w.heap.size (fun k_ => some k_ ≠ ((.slice Ao10 y480.length co10) : Value).ownBlock) (.slice Ao26 t496.length co26) t496) ∧ Aside0 (wc.heap[gb483]? = some (.cells #[.int .i64 1, .int .i64 ji3, (.slice Ao10 y480.length co10)] 26 (0, 0))) ∧ Aside0 (wc.heap[gb500]? = some (.cells #[.int .i64 t494, .int .i64 t495, (.slice Ao26 t496.length co26)] 26 (0, 0))) ∧ Aside0 (Below w.heap.size w wc))
           case first =>
            have H := HC20.out
            clear HC20
            by_cases c27 : (Int.tmod x7_1 2) = 1
            · rw [if_pos c27] at H
              have c27b0 : ((Int.tmod x7_1 2) == 1) = true := beq_iff_eq.mpr c27
              have c27b1 : ((Int.tmod x7_1 2) != 1) = false := bne_eq_false_iff_eq.mpr c27
              clear c27
              (first | rw [c27b0] | (simp only [i64_w, i32_w]; rw [c27b0]) | skip)
              have H' := Aside0.mk H
              clear H
              go_wp2
              go_meet
              case rel => exact ⟨_, (decide (ji3 > 4096)), (by first | rfl | (simp; done) | (simp only [← hji3] <;> (first | rfl | simp)) | (simp [*]; done)), H', ⟨by have := HK1.out; first | omega | exact Nat.le_refl _⟩, ⟨rf_ HO_6.out BK500.out (by decide) (fun _ hk => trivial)⟩, ⟨rf_ HO_484002.out BK500.out (by decide) (fun _ hk => hk.1.2)⟩, ⟨rf_ HO498.out BK500.out (by decide) (fun _ hk => hk.1.2)⟩, ⟨hf_ BK483.out NB483_500.out⟩, ⟨by (with_reducible repeat (first | refine blk_drewN ?_ _ | refine blk_drew ?_ | refine blk_alloc ?_ _)); refine blk_put (cs := #[.int .i64 t494, .int .i64 t495, .slice none 0 0]) ?_ 2 _ rfl; (with_reducible repeat (first | refine blk_drewN ?_ _ | refine blk_drew ?_ | refine blk_alloc ?_ _)); refine blk_put (cs := #[.int .i64 t494, .int .i64 0, .slice none 0 0]) ?_ 1 _ rfl; (with_reducible repeat (first | refine blk_drewN ?_ _ | refine blk_drew ?_ | refine blk_alloc ?_ _)); refine blk_put (cs := #[.int .i64 0, .int .i64 0, .slice none 0 0]) ?_ 0 _ rfl; (with_reducible repeat (first | refine blk_drewN ?_ _ | refine blk_drew ?_ | refine blk_alloc ?_ _)); exact BK500.out⟩, ⟨bp_⟩⟩
            · rw [if_neg c27] at H
              have c27b0 : ((Int.tmod x7_1 2) == 1) = false := beq_eq_false_iff_ne.mpr c27
              have c27b1 : ((Int.tmod x7_1 2) != 1) = true := bne_iff_ne.mpr c27
              (first | rw [c27b0] | (simp only [i64_w, i32_w]; rw [c27b0]) | skip)
              have H' := Aside0.mk H
              clear H
              go_wp2
              go_meet
              case rel => exact ⟨_, (false), (by first | rfl | (simp; done) | (simp [*]; done)), H', ⟨by have := HK1.out; first | omega | exact Nat.le_refl _⟩, ⟨rf_ HO_6.out BK500.out (by decide) (fun _ hk => trivial)⟩, ⟨rf_ HO_484002.out BK500.out (by decide) (fun _ hk => hk.1.2)⟩, ⟨rf_ HO498.out BK500.out (by decide) (fun _ hk => hk.1.2)⟩, ⟨hf_ BK483.out NB483_500.out⟩, ⟨by (with_reducible repeat (first | refine blk_drewN ?_ _ | refine blk_drew ?_ | refine blk_alloc ?_ _)); refine blk_put (cs := #[.int .i64 t494, .int .i64 t495, .slice none 0 0]) ?_ 2 _ rfl; (with_reducible repeat (first | refine blk_drewN ?_ _ | refine blk_drew ?_ | refine blk_alloc ?_ _)); refine blk_put (cs := #[.int .i64 t494, .int .i64 0, .slice none 0 0]) ?_ 1 _ rfl; (with_reducible repeat (first | refine blk_drewN ?_ _ | refine blk_drew ?_ | refine blk_alloc ?_ _)); refine blk_put (cs := #[.int .i64 0, .int .i64 0, .slice none 0 0]) ?_ 0 _ rfl; (with_reducible repeat (first | refine blk_drewN ?_ _ | refine blk_drew ?_ | refine blk_alloc ?_ _)); exact BK500.out⟩, ⟨bp_⟩⟩
           case rest =>
            clear HC20
            try clear c1
            try clear c2
            try clear p2
            try clear c4
            try clear c4b0
            try clear c4b1
            try clear c5
            try clear c5b0
            try clear c5b1
            try clear p6
            try clear c7
            try clear c7b0
            try clear c7b1
            try clear c8
            try clear c12
            try clear c18
            try clear c18b0
            try clear c23
            try clear c24
            try clear c27
            try clear c27b0
            try clear c27b1
            try clear hcz12_0
            try clear hcz12_1
            try clear hcz12_2
            try clear hcz21_0
            try clear hcz21_1
            try clear hcz21_2
            try clear hcz25_0
            try clear hcz25_1
            try clear hcz25_2
            try clear hfz12_0
            try clear hfz12_1
            try clear hfz12_2
            try clear hfz21_0
            try clear hfz21_1
            try clear hfz21_2
            try clear hfz25_0
            try clear hfz25_1
            try clear hfz25_2
            try clear p2
            try clear p6
            obtain ⟨kq, x43_19, rfl, HA, HJ19, HO_6, HO_484002, HO_501002, BK483, BK500, HB⟩ := hcut
            cases kq with
            | zero => exact absurd HA.out (by simp [chequerlaw04_TurnTall.j1])
            | succ kj19 =>
             have H := HA.out
             clear HA
             simp only [chequerlaw04_TurnTall.j1] at H
             by_cases c28 : x43_19 = true
             · subst c28
               have H1 : (if t499 = 4 then (if (t496.length : Int) = 0 then (if t494 = 0 then (if 0 ≤ x7_1 then (if x7_1 < (t490.length : Int) then (if (rd t490 x7_1) = (-1) then (chequerlaw04_TurnTall.l0 kj19 ji3 t490 (wrap64 (x7_1 + 1)) 1 ji3 y480) else (some false)) else (none)) else (none)) else (some false)) else (some false)) else (some false)) = some r := by rw [if_pos rfl] at H; exact H
               clear H
               have H := H1
               clear H1
               by_cases c29 : t499 = 4
               · rw [if_pos c29] at H
                 have c29b0 : (t499 == 4) = true := beq_iff_eq.mpr c29
                 have c29b1 : (t499 != 4) = false := bne_eq_false_iff_eq.mpr c29
                 clear c29
                 by_cases c30 : (t496.length : Int) = 0
                 · rw [if_pos c30] at H
                   have c30b0 : ((t496.length : Int) == 0) = true := beq_iff_eq.mpr c30
                   have c30b1 : ((t496.length : Int) != 0) = false := bne_eq_false_iff_eq.mpr c30
                   clear c30
                   by_cases c31 : t494 = 0
                   · rw [if_pos c31] at H
                     have c31b0 : (t494 == 0) = true := beq_iff_eq.mpr c31
                     have c31b1 : (t494 != 0) = false := bne_eq_false_iff_eq.mpr c31
                     clear c31
                     by_cases c32 : 0 ≤ x7_1
                     · rw [if_pos c32] at H
                       have c32b0 : decide (0 ≤ x7_1) = true := decide_eq_true c32
                       clear c32
                       by_cases c33 : x7_1 < (t490.length : Int)
                       · rw [if_pos c33] at H
                         have c33b0 : decide (x7_1 < (t490.length : Int)) = true := decide_eq_true c33
                         clear c33
                         by_cases c34 : (rd t490 x7_1) = (-1)
                         · rw [if_pos c34] at H
                           have c34b0 : ((rd t490 x7_1) == (-1)) = true := beq_iff_eq.mpr c34
                           have c34b1 : ((rd t490 x7_1) != (-1)) = false := bne_eq_false_iff_eq.mpr c34
                           clear c34
                           have H' := Aside0.mk H
                           clear H
                           have hnb35 := NB500_483.out
                           have hnc35 := NB483_500.out
                           have hcz36_0 : wc.cell? ⟨gb500, 0, none⟩ = some (.int .i64 t494) := (blk_cell BK500.out 0).trans rfl
                           have hcz36_1 : wc.cell? ⟨gb500, 1, none⟩ = some (.int .i64 t495) := (blk_cell BK500.out 1).trans rfl
                           have hcz36_2 : wc.cell? ⟨gb500, 2, none⟩ = some (.slice Ao26 t496.length co26) := (blk_cell BK500.out 2).trans rfl
                           have hfz36_0 := blk_frozen BK500.out 0
                           have hfz36_1 := blk_frozen BK500.out 1
                           have hfz36_2 := blk_frozen BK500.out 2
                           have p501 : 0 ≤ (x7_1 : Int) := of_decide_eq_true (by first | (with_reducible assumption) | assumption)
                           have q501 : x7_1 < (t490.length : Int) := of_decide_eq_true (by first | (with_reducible assumption) | assumption)
                           obtain ⟨ad501, e501, hx501_0⟩ := Kd.at_int (Kd.R_reads' HO_6.out).2.2 x7_1 p501 q501
                           cases e501
                           replace p501 := eq_true p501
                           replace q501 := eq_true q501
                           go_wp2
                           go_roundg kj19
                           case measure => have := HK1.out; have := HJ19.out; omega
                           case rel => exact ⟨(wrap64 (x7_1 + 1)), (by first | rfl | (simp; done) | (simp [*]; done)), H', ⟨by have := HK1.out; have := HJ19.out; omega⟩, ⟨rp_ HO_6.out⟩, ⟨by (with_reducible repeat (first | apply Kd.R_alloc | apply Kd.R_drewN | apply Kd.R_drew)); exact Kd.R_mono HO_484002.out (fun _ hk => trivial)⟩, ⟨hp_ BK483.out⟩, ⟨bp_⟩⟩
                         · rw [if_neg c34] at H
                           have c34b0 : ((rd t490 x7_1) == (-1)) = false := beq_eq_false_iff_ne.mpr c34
                           have c34b1 : ((rd t490 x7_1) != (-1)) = true := bne_iff_ne.mpr c34
                           obtain rfl := Option.some.inj H
                           have hcz37_0 : wc.cell? ⟨gb500, 0, none⟩ = some (.int .i64 t494) := (blk_cell BK500.out 0).trans rfl
                           have hcz37_1 : wc.cell? ⟨gb500, 1, none⟩ = some (.int .i64 t495) := (blk_cell BK500.out 1).trans rfl
                           have hcz37_2 : wc.cell? ⟨gb500, 2, none⟩ = some (.slice Ao26 t496.length co26) := (blk_cell BK500.out 2).trans rfl
                           have hfz37_0 := blk_frozen BK500.out 0
                           have hfz37_1 := blk_frozen BK500.out 1
                           have hfz37_2 := blk_frozen BK500.out 2
                           have p501 : 0 ≤ (x7_1 : Int) := of_decide_eq_true (by first | (with_reducible assumption) | assumption)
                           have q501 : x7_1 < (t490.length : Int) := of_decide_eq_true (by first | (with_reducible assumption) | assumption)
                           obtain ⟨ad501, e501, hx501_0⟩ := Kd.at_int (Kd.R_reads' HO_6.out).2.2 x7_1 p501 q501
                           cases e501
                           replace p501 := eq_true p501
                           replace q501 := eq_true q501
                           go_wp2
                           go_ret
                           exact ⟨by first | rfl | (simp [errW_none, errW_some] <;> rfl) | (simp only [← hji3]; first | rfl | (simp [errW_none, errW_some] <;> rfl)) | (simp [*, errW_none, errW_some] <;> rfl), bp_⟩
                       · rw [if_neg c33] at H
                         exact absurd H (by simp)
                     · rw [if_neg c32] at H
                       exact absurd H (by simp)
                   · rw [if_neg c31] at H
                     have c31b0 : (t494 == 0) = false := beq_eq_false_iff_ne.mpr c31
                     have c31b1 : (t494 != 0) = true := bne_iff_ne.mpr c31
                     obtain rfl := Option.some.inj H
                     have hcz38_0 : wc.cell? ⟨gb500, 0, none⟩ = some (.int .i64 t494) := (blk_cell BK500.out 0).trans rfl
                     have hcz38_1 : wc.cell? ⟨gb500, 1, none⟩ = some (.int .i64 t495) := (blk_cell BK500.out 1).trans rfl
                     have hcz38_2 : wc.cell? ⟨gb500, 2, none⟩ = some (.slice Ao26 t496.length co26) := (blk_cell BK500.out 2).trans rfl
                     have hfz38_0 := blk_frozen BK500.out 0
                     have hfz38_1 := blk_frozen BK500.out 1
                     have hfz38_2 := blk_frozen BK500.out 2
                     go_wp2
                     go_ret
                     exact ⟨by first | rfl | (simp [errW_none, errW_some] <;> rfl) | (simp only [← hji3]; first | rfl | (simp [errW_none, errW_some] <;> rfl)) | (simp [*, errW_none, errW_some] <;> rfl), bp_⟩
                 · rw [if_neg c30] at H
                   have c30b0 : ((t496.length : Int) == 0) = false := beq_eq_false_iff_ne.mpr c30
                   have c30b1 : ((t496.length : Int) != 0) = true := bne_iff_ne.mpr c30
                   have c30b2 : ¬ (t496 = []) := fun h_ => c30 (by rw [h_]; rfl)
                   obtain rfl := Option.some.inj H
                   have hcz39_0 : wc.cell? ⟨gb500, 0, none⟩ = some (.int .i64 t494) := (blk_cell BK500.out 0).trans rfl
                   have hcz39_1 : wc.cell? ⟨gb500, 1, none⟩ = some (.int .i64 t495) := (blk_cell BK500.out 1).trans rfl
                   have hcz39_2 : wc.cell? ⟨gb500, 2, none⟩ = some (.slice Ao26 t496.length co26) := (blk_cell BK500.out 2).trans rfl
                   have hfz39_0 := blk_frozen BK500.out 0
                   have hfz39_1 := blk_frozen BK500.out 1
                   have hfz39_2 := blk_frozen BK500.out 2
                   go_wp2
                   go_ret
                   exact ⟨by first | rfl | (simp [errW_none, errW_some] <;> rfl) | (simp only [← hji3]; first | rfl | (simp [errW_none, errW_some] <;> rfl)) | (simp [*, errW_none, errW_some] <;> rfl), bp_⟩
               · rw [if_neg c29] at H
                 have c29b0 : (t499 == 4) = false := beq_eq_false_iff_ne.mpr c29
                 have c29b1 : (t499 != 4) = true := bne_iff_ne.mpr c29
                 obtain rfl := Option.some.inj H
                 go_wp2
                 go_ret
                 exact ⟨by first | rfl | (simp [errW_none, errW_some] <;> rfl) | (simp only [← hji3]; first | rfl | (simp [errW_none, errW_some] <;> rfl)) | (simp [*, errW_none, errW_some] <;> rfl), bp_⟩
             · replace c28 := Bool.eq_false_iff.mpr c28
               subst c28
               have H1 : (if (Int.tmod x7_1 2) = 1 then (if t499 = 0 then (if t494 = ji3 then (if (t496.length : Int) = ji3 then (if 0 ≤ x7_1 then (if x7_1 < (t490.length : Int) then (if (rd t490 x7_1) = (Int.tmod x7_1 2) then (chequerlaw04_TurnTall.l0 kj19 ji3 t490 (wrap64 (x7_1 + 1)) 1 ji3 y480) else (some false)) else (none)) else (none)) else (some false)) else (some false)) else (some false)) else (if t499 = 0 then (if t494 = 1 then (if (t496.length : Int) = ji3 then (if 0 ≤ x7_1 then (if x7_1 < (t490.length : Int) then (if (rd t490 x7_1) = (Int.tmod x7_1 2) then (chequerlaw04_TurnTall.l0 kj19 ji3 t490 (wrap64 (x7_1 + 1)) 1 ji3 y480) else (some false)) else (none)) else (none)) else (some false)) else (some false)) else (some false))) = some r := by rw [if_neg (show ¬ (false = true) by decide)] at H; exact H
               clear H
               have H := H1
               clear H1
               by_cases c40 : (Int.tmod x7_1 2) = 1
               · rw [if_pos c40] at H
                 have c40b0 : ((Int.tmod x7_1 2) == 1) = true := beq_iff_eq.mpr c40
                 have c40b1 : ((Int.tmod x7_1 2) != 1) = false := bne_eq_false_iff_eq.mpr c40
                 clear c40
                 by_cases c41 : t499 = 0
                 · rw [if_pos c41] at H
                   have c41b0 : (t499 == 0) = true := beq_iff_eq.mpr c41
                   have c41b1 : (t499 != 0) = false := bne_eq_false_iff_eq.mpr c41
                   clear c41
                   by_cases c42 : t494 = ji3
                   · rw [if_pos c42] at H
                     have c42b0 : (t494 == ji3) = true := beq_iff_eq.mpr c42
                     have c42b1 : (t494 != ji3) = false := bne_eq_false_iff_eq.mpr c42
                     clear c42
                     by_cases c43 : (t496.length : Int) = ji3
                     · rw [if_pos c43] at H
                       have c43b0 : ((t496.length : Int) == ji3) = true := beq_iff_eq.mpr c43
                       have c43b1 : ((t496.length : Int) != ji3) = false := bne_eq_false_iff_eq.mpr c43
                       clear c43
                       by_cases c44 : 0 ≤ x7_1
                       · rw [if_pos c44] at H
                         have c44b0 : decide (0 ≤ x7_1) = true := decide_eq_true c44
                         clear c44
                         by_cases c45 : x7_1 < (t490.length : Int)
                         · rw [if_pos c45] at H
                           have c45b0 : decide (x7_1 < (t490.length : Int)) = true := decide_eq_true c45
                           clear c45
                           by_cases c46 : (rd t490 x7_1) = (Int.tmod x7_1 2)
                           · rw [if_pos c46] at H
                             have c46b0 : ((rd t490 x7_1) == (Int.tmod x7_1 2)) = true := beq_iff_eq.mpr c46
                             have c46b1 : ((rd t490 x7_1) != (Int.tmod x7_1 2)) = false := bne_eq_false_iff_eq.mpr c46
                             clear c46
                             have H' := Aside0.mk H
                             clear H
                             have hnb47 := NB500_483.out
                             have hnc47 := NB483_500.out
                             have hcz48_0 : wc.cell? ⟨gb500, 0, none⟩ = some (.int .i64 t494) := (blk_cell BK500.out 0).trans rfl
                             have hcz48_1 : wc.cell? ⟨gb500, 1, none⟩ = some (.int .i64 t495) := (blk_cell BK500.out 1).trans rfl
                             have hcz48_2 : wc.cell? ⟨gb500, 2, none⟩ = some (.slice Ao26 t496.length co26) := (blk_cell BK500.out 2).trans rfl
                             have hfz48_0 := blk_frozen BK500.out 0
                             have hfz48_1 := blk_frozen BK500.out 1
                             have hfz48_2 := blk_frozen BK500.out 2
                             have p502 : 0 ≤ (x7_1 : Int) := of_decide_eq_true (by first | (with_reducible assumption) | assumption)
                             have q502 : x7_1 < (t490.length : Int) := of_decide_eq_true (by first | (with_reducible assumption) | assumption)
                             obtain ⟨ad502, e502, hx502_0⟩ := Kd.at_int (Kd.R_reads' HO_6.out).2.2 x7_1 p502 q502
                             cases e502
                             replace p502 := eq_true p502
                             replace q502 := eq_true q502
                             go_wp2
                             go_roundg kj19
                             case measure => have := HK1.out; have := HJ19.out; omega
                             case rel => exact ⟨(wrap64 (x7_1 + 1)), (by first | rfl | (simp; done) | (simp [*]; done)), H', ⟨by have := HK1.out; have := HJ19.out; omega⟩, ⟨rp_ HO_6.out⟩, ⟨by (with_reducible repeat (first | apply Kd.R_alloc | apply Kd.R_drewN | apply Kd.R_drew)); exact Kd.R_mono HO_484002.out (fun _ hk => trivial)⟩, ⟨hp_ BK483.out⟩, ⟨bp_⟩⟩
                           · rw [if_neg c46] at H
                             have c46b0 : ((rd t490 x7_1) == (Int.tmod x7_1 2)) = false := beq_eq_false_iff_ne.mpr c46
                             have c46b1 : ((rd t490 x7_1) != (Int.tmod x7_1 2)) = true := bne_iff_ne.mpr c46
                             obtain rfl := Option.some.inj H
                             have hcz49_0 : wc.cell? ⟨gb500, 0, none⟩ = some (.int .i64 t494) := (blk_cell BK500.out 0).trans rfl
                             have hcz49_1 : wc.cell? ⟨gb500, 1, none⟩ = some (.int .i64 t495) := (blk_cell BK500.out 1).trans rfl
                             have hcz49_2 : wc.cell? ⟨gb500, 2, none⟩ = some (.slice Ao26 t496.length co26) := (blk_cell BK500.out 2).trans rfl
                             have hfz49_0 := blk_frozen BK500.out 0
                             have hfz49_1 := blk_frozen BK500.out 1
                             have hfz49_2 := blk_frozen BK500.out 2
                             have p502 : 0 ≤ (x7_1 : Int) := of_decide_eq_true (by first | (with_reducible assumption) | assumption)
                             have q502 : x7_1 < (t490.length : Int) := of_decide_eq_true (by first | (with_reducible assumption) | assumption)
                             obtain ⟨ad502, e502, hx502_0⟩ := Kd.at_int (Kd.R_reads' HO_6.out).2.2 x7_1 p502 q502
                             cases e502
                             replace p502 := eq_true p502
                             replace q502 := eq_true q502
                             go_wp2
                             go_ret
                             exact ⟨by first | rfl | (simp [errW_none, errW_some] <;> rfl) | (simp only [← hji3]; first | rfl | (simp [errW_none, errW_some] <;> rfl)) | (simp [*, errW_none, errW_some] <;> rfl), bp_⟩
                         · rw [if_neg c45] at H
                           exact absurd H (by simp)
                       · rw [if_neg c44] at H
                         exact absurd H (by simp)
                     · rw [if_neg c43] at H
                       have c43b0 : ((t496.length : Int) == ji3) = false := beq_eq_false_iff_ne.mpr c43
                       have c43b1 : ((t496.length : Int) != ji3) = true := bne_iff_ne.mpr c43
                       obtain rfl := Option.some.inj H
                       have hcz50_0 : wc.cell? ⟨gb500, 0, none⟩ = some (.int .i64 t494) := (blk_cell BK500.out 0).trans rfl
                       have hcz50_1 : wc.cell? ⟨gb500, 1, none⟩ = some (.int .i64 t495) := (blk_cell BK500.out 1).trans rfl
                       have hcz50_2 : wc.cell? ⟨gb500, 2, none⟩ = some (.slice Ao26 t496.length co26) := (blk_cell BK500.out 2).trans rfl
                       have hfz50_0 := blk_frozen BK500.out 0
                       have hfz50_1 := blk_frozen BK500.out 1
                       have hfz50_2 := blk_frozen BK500.out 2
                       go_wp2
                       go_ret
                       exact ⟨by first | rfl | (simp [errW_none, errW_some] <;> rfl) | (simp only [← hji3]; first | rfl | (simp [errW_none, errW_some] <;> rfl)) | (simp [*, errW_none, errW_some] <;> rfl), bp_⟩
                   · rw [if_neg c42] at H
                     have c42b0 : (t494 == ji3) = false := beq_eq_false_iff_ne.mpr c42
                     have c42b1 : (t494 != ji3) = true := bne_iff_ne.mpr c42
                     obtain rfl := Option.some.inj H
                     have hcz51_0 : wc.cell? ⟨gb500, 0, none⟩ = some (.int .i64 t494) := (blk_cell BK500.out 0).trans rfl
                     have hcz51_1 : wc.cell? ⟨gb500, 1, none⟩ = some (.int .i64 t495) := (blk_cell BK500.out 1).trans rfl
                     have hcz51_2 : wc.cell? ⟨gb500, 2, none⟩ = some (.slice Ao26 t496.length co26) := (blk_cell BK500.out 2).trans rfl
                     have hfz51_0 := blk_frozen BK500.out 0
                     have hfz51_1 := blk_frozen BK500.out 1
                     have hfz51_2 := blk_frozen BK500.out 2
                     go_wp2
                     go_ret
                     exact ⟨by first | rfl | (simp [errW_none, errW_some] <;> rfl) | (simp only [← hji3]; first | rfl | (simp [errW_none, errW_some] <;> rfl)) | (simp [*, errW_none, errW_some] <;> rfl), bp_⟩
                 · rw [if_neg c41] at H
                   have c41b0 : (t499 == 0) = false := beq_eq_false_iff_ne.mpr c41
                   have c41b1 : (t499 != 0) = true := bne_iff_ne.mpr c41
                   obtain rfl := Option.some.inj H
                   go_wp2
                   go_ret
                   exact ⟨by first | rfl | (simp [errW_none, errW_some] <;> rfl) | (simp only [← hji3]; first | rfl | (simp [errW_none, errW_some] <;> rfl)) | (simp [*, errW_none, errW_some] <;> rfl), bp_⟩
               · rw [if_neg c40] at H
                 have c40b0 : ((Int.tmod x7_1 2) == 1) = false := beq_eq_false_iff_ne.mpr c40
                 have c40b1 : ((Int.tmod x7_1 2) != 1) = true := bne_iff_ne.mpr c40
                 by_cases c52 : t499 = 0
                 · rw [if_pos c52] at H
                   have c52b0 : (t499 == 0) = true := beq_iff_eq.mpr c52
                   have c52b1 : (t499 != 0) = false := bne_eq_false_iff_eq.mpr c52
                   clear c52
                   by_cases c53 : t494 = 1
                   · rw [if_pos c53] at H
                     have c53b0 : (t494 == 1) = true := beq_iff_eq.mpr c53
                     have c53b1 : (t494 != 1) = false := bne_eq_false_iff_eq.mpr c53
                     clear c53
                     by_cases c54 : (t496.length : Int) = ji3
                     · rw [if_pos c54] at H
                       have c54b0 : ((t496.length : Int) == ji3) = true := beq_iff_eq.mpr c54
                       have c54b1 : ((t496.length : Int) != ji3) = false := bne_eq_false_iff_eq.mpr c54
                       clear c54
                       by_cases c55 : 0 ≤ x7_1
                       · rw [if_pos c55] at H
                         have c55b0 : decide (0 ≤ x7_1) = true := decide_eq_true c55
                         clear c55
                         by_cases c56 : x7_1 < (t490.length : Int)
                         · rw [if_pos c56] at H
                           have c56b0 : decide (x7_1 < (t490.length : Int)) = true := decide_eq_true c56
                           clear c56
                           by_cases c57 : (rd t490 x7_1) = (Int.tmod x7_1 2)
                           · rw [if_pos c57] at H
                             have c57b0 : ((rd t490 x7_1) == (Int.tmod x7_1 2)) = true := beq_iff_eq.mpr c57
                             have c57b1 : ((rd t490 x7_1) != (Int.tmod x7_1 2)) = false := bne_eq_false_iff_eq.mpr c57
                             clear c57
                             have H' := Aside0.mk H
                             clear H
                             have hnb58 := NB500_483.out
                             have hnc58 := NB483_500.out
                             have hcz59_0 : wc.cell? ⟨gb500, 0, none⟩ = some (.int .i64 t494) := (blk_cell BK500.out 0).trans rfl
                             have hcz59_1 : wc.cell? ⟨gb500, 1, none⟩ = some (.int .i64 t495) := (blk_cell BK500.out 1).trans rfl
                             have hcz59_2 : wc.cell? ⟨gb500, 2, none⟩ = some (.slice Ao26 t496.length co26) := (blk_cell BK500.out 2).trans rfl
                             have hfz59_0 := blk_frozen BK500.out 0
                             have hfz59_1 := blk_frozen BK500.out 1
                             have hfz59_2 := blk_frozen BK500.out 2
                             have p503 : 0 ≤ (x7_1 : Int) := of_decide_eq_true (by first | (with_reducible assumption) | assumption)
                             have q503 : x7_1 < (t490.length : Int) := of_decide_eq_true (by first | (with_reducible assumption) | assumption)
                             obtain ⟨ad503, e503, hx503_0⟩ := Kd.at_int (Kd.R_reads' HO_6.out).2.2 x7_1 p503 q503
                             cases e503
                             replace p503 := eq_true p503
                             replace q503 := eq_true q503
                             go_wp2
                             go_roundg kj19
                             case measure => have := HK1.out; have := HJ19.out; omega
                             case rel => exact ⟨(wrap64 (x7_1 + 1)), (by first | rfl | (simp; done) | (simp [*]; done)), H', ⟨by have := HK1.out; have := HJ19.out; omega⟩, ⟨rp_ HO_6.out⟩, ⟨by (with_reducible repeat (first | apply Kd.R_alloc | apply Kd.R_drewN | apply Kd.R_drew)); exact Kd.R_mono HO_484002.out (fun _ hk => trivial)⟩, ⟨hp_ BK483.out⟩, ⟨bp_⟩⟩
                           · rw [if_neg c57] at H
                             have c57b0 : ((rd t490 x7_1) == (Int.tmod x7_1 2)) = false := beq_eq_false_iff_ne.mpr c57
                             have c57b1 : ((rd t490 x7_1) != (Int.tmod x7_1 2)) = true := bne_iff_ne.mpr c57
                             obtain rfl := Option.some.inj H
                             have hcz60_0 : wc.cell? ⟨gb500, 0, none⟩ = some (.int .i64 t494) := (blk_cell BK500.out 0).trans rfl
                             have hcz60_1 : wc.cell? ⟨gb500, 1, none⟩ = some (.int .i64 t495) := (blk_cell BK500.out 1).trans rfl
                             have hcz60_2 : wc.cell? ⟨gb500, 2, none⟩ = some (.slice Ao26 t496.length co26) := (blk_cell BK500.out 2).trans rfl
                             have hfz60_0 := blk_frozen BK500.out 0
                             have hfz60_1 := blk_frozen BK500.out 1
                             have hfz60_2 := blk_frozen BK500.out 2
                             have p503 : 0 ≤ (x7_1 : Int) := of_decide_eq_true (by first | (with_reducible assumption) | assumption)
                             have q503 : x7_1 < (t490.length : Int) := of_decide_eq_true (by first | (with_reducible assumption) | assumption)
                             obtain ⟨ad503, e503, hx503_0⟩ := Kd.at_int (Kd.R_reads' HO_6.out).2.2 x7_1 p503 q503
                             cases e503
                             replace p503 := eq_true p503
                             replace q503 := eq_true q503
                             go_wp2
                             go_ret
                             exact ⟨by first | rfl | (simp [errW_none, errW_some] <;> rfl) | (simp only [← hji3]; first | rfl | (simp [errW_none, errW_some] <;> rfl)) | (simp [*, errW_none, errW_some] <;> rfl), bp_⟩
                         · rw [if_neg c56] at H
                           exact absurd H (by simp)
                       · rw [if_neg c55] at H
                         exact absurd H (by simp)
                     · rw [if_neg c54] at H
                       have c54b0 : ((t496.length : Int) == ji3) = false := beq_eq_false_iff_ne.mpr c54
                       have c54b1 : ((t496.length : Int) != ji3) = true := bne_iff_ne.mpr c54
                       obtain rfl := Option.some.inj H
                       have hcz61_0 : wc.cell? ⟨gb500, 0, none⟩ = some (.int .i64 t494) := (blk_cell BK500.out 0).trans rfl
                       have hcz61_1 : wc.cell? ⟨gb500, 1, none⟩ = some (.int .i64 t495) := (blk_cell BK500.out 1).trans rfl
                       have hcz61_2 : wc.cell? ⟨gb500, 2, none⟩ = some (.slice Ao26 t496.length co26) := (blk_cell BK500.out 2).trans rfl
                       have hfz61_0 := blk_frozen BK500.out 0
                       have hfz61_1 := blk_frozen BK500.out 1
                       have hfz61_2 := blk_frozen BK500.out 2
                       go_wp2
                       go_ret
                       exact ⟨by first | rfl | (simp [errW_none, errW_some] <;> rfl) | (simp only [← hji3]; first | rfl | (simp [errW_none, errW_some] <;> rfl)) | (simp [*, errW_none, errW_some] <;> rfl), bp_⟩
                   · rw [if_neg c53] at H
                     have c53b0 : (t494 == 1) = false := beq_eq_false_iff_ne.mpr c53
                     have c53b1 : (t494 != 1) = true := bne_iff_ne.mpr c53
                     obtain rfl := Option.some.inj H
                     have hcz62_0 : wc.cell? ⟨gb500, 0, none⟩ = some (.int .i64 t494) := (blk_cell BK500.out 0).trans rfl
                     have hcz62_1 : wc.cell? ⟨gb500, 1, none⟩ = some (.int .i64 t495) := (blk_cell BK500.out 1).trans rfl
                     have hcz62_2 : wc.cell? ⟨gb500, 2, none⟩ = some (.slice Ao26 t496.length co26) := (blk_cell BK500.out 2).trans rfl
                     have hfz62_0 := blk_frozen BK500.out 0
                     have hfz62_1 := blk_frozen BK500.out 1
                     have hfz62_2 := blk_frozen BK500.out 2
                     go_wp2
                     go_ret
                     exact ⟨by first | rfl | (simp [errW_none, errW_some] <;> rfl) | (simp only [← hji3]; first | rfl | (simp [errW_none, errW_some] <;> rfl)) | (simp [*, errW_none, errW_some] <;> rfl), bp_⟩
                 · rw [if_neg c52] at H
                   have c52b0 : (t499 == 0) = false := beq_eq_false_iff_ne.mpr c52
                   have c52b1 : (t499 != 0) = true := bne_iff_ne.mpr c52
                   obtain rfl := Option.some.inj H
                   go_wp2
                   go_ret
                   exact ⟨by first | rfl | (simp [errW_none, errW_some] <;> rfl) | (simp only [← hji3]; first | rfl | (simp [errW_none, errW_some] <;> rfl)) | (simp [*, errW_none, errW_some] <;> rfl), bp_⟩
         · rw [if_neg c18] at H
           have c18b0 : decide (x7_1 < 8) = false := decide_eq_false c18
           clear c18
           replace H := Option.bind_eq_some_iff.mp H
           obtain ⟨t493, A630, H⟩ := H
           replace H : (some t493) = some r := H
           have A63 := Aside0.mk A630
           clear A630
           obtain rfl := Option.some.inj H
           go_wp2_with (first | ((with_reducible refine gate_callee (f := 22) rfl ?_); refine goQ_ (some 92) Try.func22 #[] ?_; (with_reducible refine (chequerlaw04_lives.calls k1  t493 _ A63.out).mono ?_); rintro e w64 ⟨rfl, hb⟩; refine ⟨_, rfl, ?_⟩; replace HO_6 := Aside0.mk (Kd.R_below (rp_ HO_6.out) hb); replace HO_484002 := Aside0.mk (Kd.R_below (rp_ HO_484002.out) hb); replace HB := Aside0.mk (below_step bp_ hb); (try clear hb); (try clear hb2); (try clear hk); (try clear hi)))
           go_ret
           exact ⟨by first | rfl | (simp [errW_none, errW_some] <;> rfl) | (simp only [← hji3]; first | rfl | (simp [errW_none, errW_some] <;> rfl)) | (simp [*, errW_none, errW_some] <;> rfl), bp_⟩
     · rw [if_neg c7] at H
       have c7b0 : ((t490.length : Int) == 8) = false := beq_eq_false_iff_ne.mpr c7
       have c7b1 : ((t490.length : Int) != 8) = true := bne_iff_ne.mpr c7
       obtain rfl := Option.some.inj H
       go_enter Try.func8, Try.ntmps8
       go_wp2_with (first | ((with_reducible refine gate_callee (f := 23) rfl ?_); refine goQ_ (some 12) Try.func23 #[.int .i64 a0, .int .i64 14] ?_; (with_reducible refine (chequerref01_Around.calls a0 14 t479 _ A2.out).mono ?_); rintro e w' ⟨rfl, ⟨nd, rfl⟩⟩; refine ⟨_, rfl, ?_⟩) | ((with_reducible refine gate_dst (N := 16) rfl ?_); (try (refine gate_guard (by rfl) ?_; dsimp only)); refine Kd.R_make (Kd.int .u64) _ 41 rfl (N := 16) rfl 22 _ _ rfl ji3 rfl rfl Try.underlying22 (.int .u64 0) 8 info41 rfl (by decide) (by omega) 0 (ok := fun _ => True) (okp := fun _ => True) rfl (fun _ hk => hk) trivial (of_decide_eq_true (by first | (with_reducible assumption) | assumption)) (Nat.le_trans (Nat.mul_le_mul_right _ (of_decide_eq_true (by first | (with_reducible assumption) | assumption) : ji3.toNat ≤ 35184372088832)) (by omega)) (Below.refl _ _) (Nat.le_refl _) ?_; intro v481 w65 ho66 hb hg_ hnew_; clear hg_ hnew_; (first | rw [← Ny480.out] at ho66 | (simp only [Int.reduceToNat] at ho66; rw [← Ny480.out] at ho66)); have HO482 := Aside0.mk (Kd.R_lower ho66 (below_size bp_)); replace HB := Aside0.mk (below_step bp_ hb); clear hb ho66; obtain ⟨Ao67, co67, eo67⟩ := Kd.R_slice HO482.out; subst eo67) | ((with_reducible refine gate_dst (N := 4) rfl ?_); (try (refine gate_guard (by rfl) ?_; dsimp only)); refine box_event ?hg (N := 4) ?hd (cs := #[.int .i64 0, .int .i64 0, .slice none 0 0]) (t := 26) ?hr ?_; (case hd => rfl); (case hg => rfl); (case hr => first | (go_simp; done) | (go_simp; rfl)); intro gb483 hg w68 hbox hb; replace HO482 := Aside0.mk (Kd.R_below (rp_ HO482.out) hb); have BK483 := Aside0.mk (hbox); have GW483 := Aside0.mk ((by rw [hg]; exact (below_size bp_) : w.heap.size ≤ gb483)); have GE483 := Aside0.mk ((by rw [hg]; exact (below_size bp_) : w.heap.size ≤ gb483)); replace HB := Aside0.mk (below_step bp_ hb); clear hb hbox hg; have hcz69_0 : w68.cell? ⟨gb483, 0, none⟩ = some (.int .i64 0) := (blk_cell BK483.out 0).trans rfl; have hcz69_1 : w68.cell? ⟨gb483, 1, none⟩ = some (.int .i64 0) := (blk_cell BK483.out 1).trans rfl; have hcz69_2 : w68.cell? ⟨gb483, 2, none⟩ = some (.slice none 0 0) := (blk_cell BK483.out 2).trans rfl; have hfz69_0 := blk_frozen BK483.out 0; have hfz69_1 := blk_frozen BK483.out 1; have hfz69_2 := blk_frozen BK483.out 2) | ((with_reducible refine gate_dst (N := 20) rfl ?_); (try (refine gate_guard (by rfl) ?_; dsimp only)); refine Kd.R_lit (Kd.int .i64) _ 3 ?hg (N := 20) ?hd (xs := ([0, 1, 2, 3, 4, 5, 6, 7] : List Int)) (inner := [.int .i64 0, .int .i64 1, .int .i64 2, .int .i64 3, .int .i64 4, .int .i64 5, .int .i64 6, .int .i64 7]) (ok := fun _ => True) (okp := fun _ => True) ?hr ?hp (fun _ hk => hk) trivial (Below.refl _ _) (Nat.le_refl _) (by simp) ?_; (case hd => rfl); (case hg => rfl); (case hr => first | (go_simp; done) | (go_simp; rfl)); (case hp => exact (Reps.one (show Kd.M (Kd.int .i64) _ _ _ 0 [.int .i64 0] from rfl) (Reps.one (show Kd.M (Kd.int .i64) _ _ _ 1 [.int .i64 1] from rfl) (Reps.one (show Kd.M (Kd.int .i64) _ _ _ 2 [.int .i64 2] from rfl) (Reps.one (show Kd.M (Kd.int .i64) _ _ _ 3 [.int .i64 3] from rfl) (Reps.one (show Kd.M (Kd.int .i64) _ _ _ 4 [.int .i64 4] from rfl) (Reps.one (show Kd.M (Kd.int .i64) _ _ _ 5 [.int .i64 5] from rfl) (Reps.one (show Kd.M (Kd.int .i64) _ _ _ 6 [.int .i64 6] from rfl) (Reps.one (show Kd.M (Kd.int .i64) _ _ _ 7 [.int .i64 7] from rfl) (Reps.none _ _)))))))))); intro v485 w70 ho71 hb hg_ hnew_; clear hg_ hnew_; (first | rw [← Ny484.out] at ho71 | (simp only [Int.reduceToNat] at ho71; rw [← Ny484.out] at ho71)); replace HO482 := Aside0.mk (Kd.R_below (by (with_reducible repeat (first | apply Kd.R_alloc | apply Kd.R_drewN | apply Kd.R_drew)); exact (Kd.R_mono (Kd.R_far (p := ⟨gb483, 2, none⟩) (Kd.R_far (p := ⟨gb483, 1, none⟩) (Kd.R_far (p := ⟨gb483, 0, none⟩) (Kd.R_types HO482.out BK483.out (by decide)) (fun _ hk => hk.2) (.int .i64 1)) (fun _ hk => hk.2) (.int .i64 ji3)) (fun _ hk => hk.2) (.slice Ao67 y480.length co67)) (fun _ h_ => h_.1))) hb); have HO486 := Aside0.mk (Kd.R_lower ho71 (below_size bp_)); replace BK483 := Aside0.mk (blk_below (g := gb483) (o := .cells #[.int .i64 1, .int .i64 ji3, .slice Ao67 y480.length co67] 26 (0, 0)) (by (with_reducible repeat (first | refine blk_drewN ?_ _ | refine blk_drew ?_ | refine blk_alloc ?_ _)); refine blk_put (cs := #[.int .i64 1, .int .i64 ji3, .slice none 0 0]) ?_ 2 _ rfl; (with_reducible repeat (first | refine blk_drewN ?_ _ | refine blk_drew ?_ | refine blk_alloc ?_ _)); refine blk_put (cs := #[.int .i64 1, .int .i64 0, .slice none 0 0]) ?_ 1 _ rfl; (with_reducible repeat (first | refine blk_drewN ?_ _ | refine blk_drew ?_ | refine blk_alloc ?_ _)); refine blk_put (cs := #[.int .i64 0, .int .i64 0, .slice none 0 0]) ?_ 0 _ rfl; (with_reducible repeat (first | refine blk_drewN ?_ _ | refine blk_drew ?_ | refine blk_alloc ?_ _)); exact BK483.out) hb); replace HB := Aside0.mk (below_step bp_ hb); clear hb ho71; obtain ⟨Ao72, co72, eo72⟩ := Kd.R_slice HO486.out; subst eo72) | ((with_reducible refine gate_callee (f := 28) rfl ?_); refine goesL_ (some 21) rfl rfl Try.func28 (by kernel_rfl) rfl #[.agg #[.int .i64 1, .int .i64 ji3, .slice Ao67 y480.length co67], .slice Ao72 y484.length co72] rfl (by (try simp only [List.map_toArray, List.map_cons, List.map_nil]); first | done | (simp only [hji3]; rfl) | rfl | (simp only [List.length_drop, List.length_take]; rfl)) ?_; (with_reducible refine (turn_Orbit.calls k 1 ji3 _ _ y480 _ _ y484 t487 t490 _ ?side1 ?side2 ?side3 ?side4 A6.out).mono ?_); (case side1 => exact cp_ (Kd.R_reads' HO482.out).2.2); (case side2 => exact (Kd.R_reads' HO482.out).2.1); (case side3 => exact cp_ (Kd.R_reads' HO486.out).2.2); (case side4 => exact (Kd.R_reads' HO486.out).2.1); rintro e w73 ⟨v488, v491, rfl, ho0, ho1, hb⟩; refine ⟨_, rfl, ?_⟩; have HO489 := Aside0.mk (Kd.S_lower (Kd.S_new' ho0 (Kd.R_lt (rp_ HO482.out))) (below_size bp_)); replace HO482 := Aside0.mk (Kd.R_below (rp_ HO482.out) hb); have HO492 := Aside0.mk (Kd.R_lower (Kd.R_new' ho1 (Kd.R_lt (rp_ HO486.out))) (below_size bp_)); replace HO486 := Aside0.mk (Kd.R_elder' (rp_ HO486.out) (Kd.R_base ho1) hb); replace HB := Aside0.mk (below_step bp_ hb); (try clear hb); (try clear hb2); (try clear hk); (try clear hi); (try clear ho0); (try clear ho1); obtain ⟨Ao74, co74, eo74⟩ := Kd.R_slice HO492.out; subst eo74))
       go_ret
       exact ⟨by first | rfl | (simp [errW_none, errW_some] <;> rfl) | (simp only [← hji3]; first | rfl | (simp [errW_none, errW_some] <;> rfl)) | (simp [*, errW_none, errW_some] <;> rfl), bp_⟩
   · rw [if_neg c5] at H
     exact absurd H (by simp)
 · rw [if_neg c4] at H
   exact absurd H (by simp)

/-- THE ONE PURE STATEMENT of chequerlaw04_TurnTall. -/
def chequerlaw04_TurnTall.Pure : Prop := ∀ (a0 : Int), (Lit.int .i64 a0).wf = true → ∃ k, chequerlaw04_TurnTall.f k a0 = some true
theorem chequerlaw04_TurnTall.walk (P : chequerlaw04_TurnTall.Pure) (a0 : Int) (w : World) (w0 : (Lit.int .i64 a0).wf = true) :
 Calls Try.prog 8 #[.int .i64 a0] w fun e w' => e = .returned (.bool true) ∧ Below w.heap.size w w' := by
 obtain ⟨k, h⟩ := P a0 w0
 refine (chequerlaw04_TurnTall.calls k a0 true w h).mono ?_
 rintro e w' ⟨rfl, hd⟩
 exact ⟨rfl, hd⟩


/-! ### rect_Matrix_inside: function 48 -/
def rect_Matrix_inside.f (a0_0 : Int) (a0_1 : Int) (l0_2 : List Int) (a1 : Int) (a2 : Int) (a3 : Int) (a4 : Int) : Option (Bool) := if a3 ≥ 1 then (if a4 ≥ 1 then (if a1 ≥ 0 then (if a2 ≥ 0 then (if a3 ≤ a0_0 then (if a4 ≤ a0_1 then (if a1 ≤ (wrap64 (a0_0 - a3)) then (some (decide (a2 ≤ (wrap64 (a0_1 - a4))))) else (some false)) else (some false)) else (some false)) else (some false)) else (some false)) else (some false)) else (some false)
set_option maxHeartbeats 8000000 in
set_option maxRecDepth 100000 in
theorem rect_Matrix_inside.calls (a0_0 : Int) (a0_1 : Int) (A0_2 : Option Addr) (c0_2 : Nat) (l0_2 : List Int) (a1 : Int) (a2 : Int) (a3 : Int) (a4 : Int) (r : Bool) (w : World) (hr0_2 : Kd.C (Kd.int .u64) w A0_2 l0_2.length l0_2) (hc0_2 : l0_2.length ≤ c0_2) (h : rect_Matrix_inside.f a0_0 a0_1 l0_2 a1 a2 a3 a4 = some r) :
 Calls Try.prog 48 #[.agg #[.int .i64 a0_0, .int .i64 a0_1, .slice A0_2 l0_2.length c0_2], .int .i64 a1, .int .i64 a2, .int .i64 a3, .int .i64 a4] w fun e w' => e = .returned (.bool r) ∧ Below w.heap.size w w' := by
 have hu26 := Try.underlying26
 have HR0_2 := Aside0.mk hr0_2
 have HC0_2 := Aside0.mk hc0_2
 clear hr0_2 hc0_2
 have HB := Aside0.mk (Below.refl w.heap.size w)
 have H : (if a3 ≥ 1 then (if a4 ≥ 1 then (if a1 ≥ 0 then (if a2 ≥ 0 then (if a3 ≤ a0_0 then (if a4 ≤ a0_1 then (if a1 ≤ (wrap64 (a0_0 - a3)) then (some (decide (a2 ≤ (wrap64 (a0_1 - a4))))) else (some false)) else (some false)) else (some false)) else (some false)) else (some false)) else (some false)) else (some false)) = some r := h
 clear h
 by_cases c6 : a3 ≥ 1
 · rw [if_pos c6] at H
   have c6b0 : decide (1 ≤ a3) = true := decide_eq_true c6
   clear c6
   by_cases c7 : a4 ≥ 1
   · rw [if_pos c7] at H
     have c7b0 : decide (1 ≤ a4) = true := decide_eq_true c7
     clear c7
     by_cases c8 : a1 ≥ 0
     · rw [if_pos c8] at H
       have c8b0 : decide (0 ≤ a1) = true := decide_eq_true c8
       clear c8
       by_cases c9 : a2 ≥ 0
       · rw [if_pos c9] at H
         have c9b0 : decide (0 ≤ a2) = true := decide_eq_true c9
         clear c9
         by_cases c10 : a3 ≤ a0_0
         · rw [if_pos c10] at H
           have c10b0 : decide (a3 ≤ a0_0) = true := decide_eq_true c10
           clear c10
           by_cases c11 : a4 ≤ a0_1
           · rw [if_pos c11] at H
             have c11b0 : decide (a4 ≤ a0_1) = true := decide_eq_true c11
             clear c11
             by_cases c12 : a1 ≤ (wrap64 (a0_0 - a3))
             · rw [if_pos c12] at H
               have c12b0 : decide (a1 ≤ (wrap64 (a0_0 - a3))) = true := decide_eq_true c12
               clear c12
               obtain rfl := Option.some.inj H
               go_enter Try.func48, Try.ntmps48
               go_wp2_with (first | ((with_reducible refine gate_dst (N := 5) rfl ?_); refine box_event ?hg (N := 5) ?hd (cs := #[.int .i64 a0_0, .int .i64 a0_1, .slice A0_2 l0_2.length c0_2]) (t := 26) ?hr ?_; (case hd => rfl); (case hg => rfl); (case hr => first | (go_simp; done) | (go_simp; rfl)); intro gb504 hg w13 hbox hb; have BK504 := Aside0.mk (hbox); have GW504 := Aside0.mk ((by rw [hg]; exact (below_size bp_) : w.heap.size ≤ gb504)); have GE504 := Aside0.mk ((by rw [hg]; exact (below_size bp_) : w.heap.size ≤ gb504)); replace HB := Aside0.mk (below_step bp_ hb); clear hb hbox hg; have hcz14_0 : w13.cell? ⟨gb504, 0, none⟩ = some (.int .i64 a0_0) := (blk_cell BK504.out 0).trans rfl; have hcz14_1 : w13.cell? ⟨gb504, 1, none⟩ = some (.int .i64 a0_1) := (blk_cell BK504.out 1).trans rfl; have hcz14_2 : w13.cell? ⟨gb504, 2, none⟩ = some (.slice A0_2 l0_2.length c0_2) := (blk_cell BK504.out 2).trans rfl; have hfz14_0 := blk_frozen BK504.out 0; have hfz14_1 := blk_frozen BK504.out 1; have hfz14_2 := blk_frozen BK504.out 2))
               go_ret
               exact ⟨by first | rfl | (simp [errW_none, errW_some] <;> rfl) | (simp [*, errW_none, errW_some] <;> rfl), bp_⟩
             · rw [if_neg c12] at H
               have c12b0 : decide (a1 ≤ (wrap64 (a0_0 - a3))) = false := decide_eq_false c12
               clear c12
               obtain rfl := Option.some.inj H
               go_enter Try.func48, Try.ntmps48
               go_wp2_with (first | ((with_reducible refine gate_dst (N := 5) rfl ?_); refine box_event ?hg (N := 5) ?hd (cs := #[.int .i64 a0_0, .int .i64 a0_1, .slice A0_2 l0_2.length c0_2]) (t := 26) ?hr ?_; (case hd => rfl); (case hg => rfl); (case hr => first | (go_simp; done) | (go_simp; rfl)); intro gb504 hg w15 hbox hb; have BK504 := Aside0.mk (hbox); have GW504 := Aside0.mk ((by rw [hg]; exact (below_size bp_) : w.heap.size ≤ gb504)); have GE504 := Aside0.mk ((by rw [hg]; exact (below_size bp_) : w.heap.size ≤ gb504)); replace HB := Aside0.mk (below_step bp_ hb); clear hb hbox hg; have hcz16_0 : w15.cell? ⟨gb504, 0, none⟩ = some (.int .i64 a0_0) := (blk_cell BK504.out 0).trans rfl; have hcz16_1 : w15.cell? ⟨gb504, 1, none⟩ = some (.int .i64 a0_1) := (blk_cell BK504.out 1).trans rfl; have hcz16_2 : w15.cell? ⟨gb504, 2, none⟩ = some (.slice A0_2 l0_2.length c0_2) := (blk_cell BK504.out 2).trans rfl; have hfz16_0 := blk_frozen BK504.out 0; have hfz16_1 := blk_frozen BK504.out 1; have hfz16_2 := blk_frozen BK504.out 2))
               go_ret
               exact ⟨by first | rfl | (simp [errW_none, errW_some] <;> rfl) | (simp [*, errW_none, errW_some] <;> rfl), bp_⟩
           · rw [if_neg c11] at H
             have c11b0 : decide (a4 ≤ a0_1) = false := decide_eq_false c11
             clear c11
             obtain rfl := Option.some.inj H
             go_enter Try.func48, Try.ntmps48
             go_wp2_with (first | ((with_reducible refine gate_dst (N := 5) rfl ?_); refine box_event ?hg (N := 5) ?hd (cs := #[.int .i64 a0_0, .int .i64 a0_1, .slice A0_2 l0_2.length c0_2]) (t := 26) ?hr ?_; (case hd => rfl); (case hg => rfl); (case hr => first | (go_simp; done) | (go_simp; rfl)); intro gb504 hg w17 hbox hb; have BK504 := Aside0.mk (hbox); have GW504 := Aside0.mk ((by rw [hg]; exact (below_size bp_) : w.heap.size ≤ gb504)); have GE504 := Aside0.mk ((by rw [hg]; exact (below_size bp_) : w.heap.size ≤ gb504)); replace HB := Aside0.mk (below_step bp_ hb); clear hb hbox hg; have hcz18_0 : w17.cell? ⟨gb504, 0, none⟩ = some (.int .i64 a0_0) := (blk_cell BK504.out 0).trans rfl; have hcz18_1 : w17.cell? ⟨gb504, 1, none⟩ = some (.int .i64 a0_1) := (blk_cell BK504.out 1).trans rfl; have hcz18_2 : w17.cell? ⟨gb504, 2, none⟩ = some (.slice A0_2 l0_2.length c0_2) := (blk_cell BK504.out 2).trans rfl; have hfz18_0 := blk_frozen BK504.out 0; have hfz18_1 := blk_frozen BK504.out 1; have hfz18_2 := blk_frozen BK504.out 2))
             go_ret
             exact ⟨by first | rfl | (simp [errW_none, errW_some] <;> rfl) | (simp [*, errW_none, errW_some] <;> rfl), bp_⟩
         · rw [if_neg c10] at H
           have c10b0 : decide (a3 ≤ a0_0) = false := decide_eq_false c10
           clear c10
           obtain rfl := Option.some.inj H
           go_enter Try.func48, Try.ntmps48
           go_wp2_with (first | ((with_reducible refine gate_dst (N := 5) rfl ?_); refine box_event ?hg (N := 5) ?hd (cs := #[.int .i64 a0_0, .int .i64 a0_1, .slice A0_2 l0_2.length c0_2]) (t := 26) ?hr ?_; (case hd => rfl); (case hg => rfl); (case hr => first | (go_simp; done) | (go_simp; rfl)); intro gb504 hg w19 hbox hb; have BK504 := Aside0.mk (hbox); have GW504 := Aside0.mk ((by rw [hg]; exact (below_size bp_) : w.heap.size ≤ gb504)); have GE504 := Aside0.mk ((by rw [hg]; exact (below_size bp_) : w.heap.size ≤ gb504)); replace HB := Aside0.mk (below_step bp_ hb); clear hb hbox hg; have hcz20_0 : w19.cell? ⟨gb504, 0, none⟩ = some (.int .i64 a0_0) := (blk_cell BK504.out 0).trans rfl; have hcz20_1 : w19.cell? ⟨gb504, 1, none⟩ = some (.int .i64 a0_1) := (blk_cell BK504.out 1).trans rfl; have hcz20_2 : w19.cell? ⟨gb504, 2, none⟩ = some (.slice A0_2 l0_2.length c0_2) := (blk_cell BK504.out 2).trans rfl; have hfz20_0 := blk_frozen BK504.out 0; have hfz20_1 := blk_frozen BK504.out 1; have hfz20_2 := blk_frozen BK504.out 2))
           go_ret
           exact ⟨by first | rfl | (simp [errW_none, errW_some] <;> rfl) | (simp [*, errW_none, errW_some] <;> rfl), bp_⟩
       · rw [if_neg c9] at H
         have c9b0 : decide (0 ≤ a2) = false := decide_eq_false c9
         clear c9
         obtain rfl := Option.some.inj H
         go_enter Try.func48, Try.ntmps48
         go_wp2_with (first | ((with_reducible refine gate_dst (N := 5) rfl ?_); refine box_event ?hg (N := 5) ?hd (cs := #[.int .i64 a0_0, .int .i64 a0_1, .slice A0_2 l0_2.length c0_2]) (t := 26) ?hr ?_; (case hd => rfl); (case hg => rfl); (case hr => first | (go_simp; done) | (go_simp; rfl)); intro gb504 hg w21 hbox hb; have BK504 := Aside0.mk (hbox); have GW504 := Aside0.mk ((by rw [hg]; exact (below_size bp_) : w.heap.size ≤ gb504)); have GE504 := Aside0.mk ((by rw [hg]; exact (below_size bp_) : w.heap.size ≤ gb504)); replace HB := Aside0.mk (below_step bp_ hb); clear hb hbox hg))
         go_ret
         exact ⟨by first | rfl | (simp [errW_none, errW_some] <;> rfl) | (simp [*, errW_none, errW_some] <;> rfl), bp_⟩
     · rw [if_neg c8] at H
       have c8b0 : decide (0 ≤ a1) = false := decide_eq_false c8
       clear c8
       obtain rfl := Option.some.inj H
       go_enter Try.func48, Try.ntmps48
       go_wp2_with (first | ((with_reducible refine gate_dst (N := 5) rfl ?_); refine box_event ?hg (N := 5) ?hd (cs := #[.int .i64 a0_0, .int .i64 a0_1, .slice A0_2 l0_2.length c0_2]) (t := 26) ?hr ?_; (case hd => rfl); (case hg => rfl); (case hr => first | (go_simp; done) | (go_simp; rfl)); intro gb504 hg w22 hbox hb; have BK504 := Aside0.mk (hbox); have GW504 := Aside0.mk ((by rw [hg]; exact (below_size bp_) : w.heap.size ≤ gb504)); have GE504 := Aside0.mk ((by rw [hg]; exact (below_size bp_) : w.heap.size ≤ gb504)); replace HB := Aside0.mk (below_step bp_ hb); clear hb hbox hg))
       go_ret
       exact ⟨by first | rfl | (simp [errW_none, errW_some] <;> rfl) | (simp [*, errW_none, errW_some] <;> rfl), bp_⟩
   · rw [if_neg c7] at H
     have c7b0 : decide (1 ≤ a4) = false := decide_eq_false c7
     clear c7
     obtain rfl := Option.some.inj H
     go_enter Try.func48, Try.ntmps48
     go_wp2_with (first | ((with_reducible refine gate_dst (N := 5) rfl ?_); refine box_event ?hg (N := 5) ?hd (cs := #[.int .i64 a0_0, .int .i64 a0_1, .slice A0_2 l0_2.length c0_2]) (t := 26) ?hr ?_; (case hd => rfl); (case hg => rfl); (case hr => first | (go_simp; done) | (go_simp; rfl)); intro gb504 hg w23 hbox hb; have BK504 := Aside0.mk (hbox); have GW504 := Aside0.mk ((by rw [hg]; exact (below_size bp_) : w.heap.size ≤ gb504)); have GE504 := Aside0.mk ((by rw [hg]; exact (below_size bp_) : w.heap.size ≤ gb504)); replace HB := Aside0.mk (below_step bp_ hb); clear hb hbox hg))
     go_ret
     exact ⟨by first | rfl | (simp [errW_none, errW_some] <;> rfl) | (simp [*, errW_none, errW_some] <;> rfl), bp_⟩
 · rw [if_neg c6] at H
   have c6b0 : decide (1 ≤ a3) = false := decide_eq_false c6
   clear c6
   obtain rfl := Option.some.inj H
   go_enter Try.func48, Try.ntmps48
   go_wp2_with (first | ((with_reducible refine gate_dst (N := 5) rfl ?_); refine box_event ?hg (N := 5) ?hd (cs := #[.int .i64 a0_0, .int .i64 a0_1, .slice A0_2 l0_2.length c0_2]) (t := 26) ?hr ?_; (case hd => rfl); (case hg => rfl); (case hr => first | (go_simp; done) | (go_simp; rfl)); intro gb504 hg w24 hbox hb; have BK504 := Aside0.mk (hbox); have GW504 := Aside0.mk ((by rw [hg]; exact (below_size bp_) : w.heap.size ≤ gb504)); have GE504 := Aside0.mk ((by rw [hg]; exact (below_size bp_) : w.heap.size ≤ gb504)); replace HB := Aside0.mk (below_step bp_ hb); clear hb hbox hg))
   go_ret
   exact ⟨by first | rfl | (simp [errW_none, errW_some] <;> rfl) | (simp [*, errW_none, errW_some] <;> rfl), bp_⟩

end Go.Proofs.Ytehjnekljodmgaa.Q
