-- written by our own program (wip/tools/myprint.py) out of the translation, by the kit's print; Lean checks it
import Derived.Test.YtidpaaemfiopkaaQ0
import Derived.Test.YtidpaaemfiopkaaIrect_Matrix_row
import Derived.Test.YtidpaaemfiopkaaQ6
import Derived.Test.YtidpaaemfiopkaaQ9
namespace Go.Proofs.Ytidpaaemfiopkaa.Q
open Go.RowKit Go.Proofs.YtidpaaemfiopkaaW.PrintWords Go.Proofs.YtidpaaemfiopkaaW.PrintLast Go.Proofs.YtidpaaemfiopkaaW.PrintMore
attribute [local go_sem] max2_int min2_int max_two min_two max_three min_three max_four min_four   -- for this text's walks alone
set_option linter.unusedVariables false
set_option linter.unusedSimpArgs false


/-! ### rect_Beside: function 40 -/
mutual
def rect_Beside.j0 : Nat → Bool → Int → Int → List Int → Int → Int → List Int → Option (Int × Int × List Int × Int)
 | 0, _, _, _, _, _, _, _ => none
 | k + 1, x33, x644000, x644001, x644002, x645000, x645001, x645002 => if x33 = true then (some (0, 0, ([] : List Int), 1)) else (rect_Beside.l0 k x644001 0 x644000 x644001 x644002 x645000 x645001 x645002 (wrap64 (x644000 + x645000)) x644001 ([] : List Int))
def rect_Beside.l0 : Nat → Int → Int → Int → Int → List Int → Int → Int → List Int → Int → Int → List Int → Option (Int × Int × List Int × Int)
 | 0, _, _, _, _, _, _, _, _, _, _, _ => none
 | k + 1, x44, x45, x644000, x644001, x644002, x645000, x645001, x645002, x650000, x650001, x650002 => if x45 < x44 then ((rect_Matrix_row.f x644000 x644001 x644002 0 x45 x644000).bind fun t650 => (if x650002.length + t650.length < 17592186044416 then ((some (x650002 ++ t650 : List Int)).bind fun y653 => ((rect_Matrix_row.f x645000 x645001 x645002 0 x45 x645000).bind fun t656 => (if y653.length + t656.length < 17592186044416 then (rect_Beside.l0 k x44 (wrap64 (x45 + 1)) x644000 x644001 x644002 x645000 x645001 x645002 x650000 x650001 (y653 ++ t656)) else (none)))) else (none))) else (some (x650000, x650001, x650002, 0))
end
def rect_Beside.f (k : Nat) (a0_0 : Int) (a0_1 : Int) (l0_2 : List Int) (a1_0 : Int) (a1_1 : Int) (l1_2 : List Int) : Option (Int × Int × List Int × Int) := (rect_May.f a0_0 a0_1 l0_2).bind fun t646 => (if t646 = true then ((rect_May.f a1_0 a1_1 l1_2).bind fun t647 => (if t647 = true then (if a0_1 = a1_1 then ((rect_sized.f (wrap64 (a0_0 + a1_0)) a0_1).bind fun t648 => (rect_Beside.j0 k (!t648) a0_0 a0_1 l0_2 a1_0 a1_1 l1_2)) else (rect_Beside.j0 k true a0_0 a0_1 l0_2 a1_0 a1_1 l1_2)) else (rect_Beside.j0 k true a0_0 a0_1 l0_2 a1_0 a1_1 l1_2))) else (rect_Beside.j0 k true a0_0 a0_1 l0_2 a1_0 a1_1 l1_2))
theorem rect_Beside.mono_l : ∀ k, (∀ y0 y1 y2 y3 y4 y5 y6, LeO (rect_Beside.j0 k y0 y1 y2 y3 y4 y5 y6) (rect_Beside.j0 (k + 1) y0 y1 y2 y3 y4 y5 y6)) ∧ (∀ y0 y1 y2 y3 y4 y5 y6 y7 y8 y9 y10, LeO (rect_Beside.l0 k y0 y1 y2 y3 y4 y5 y6 y7 y8 y9 y10) (rect_Beside.l0 (k + 1) y0 y1 y2 y3 y4 y5 y6 y7 y8 y9 y10))
 | 0 => ⟨fun _ _ _ _ _ _ _ r h => by simp [rect_Beside.j0] at h, fun _ _ _ _ _ _ _ _ _ _ _ r h => by simp [rect_Beside.l0] at h⟩
 | k + 1 => by
  obtain ⟨ih0, ih1⟩ := rect_Beside.mono_l k
  refine ⟨?_, ?_⟩
  · intro y0 y1 y2 y3 y4 y5 y6
    unfold rect_Beside.j0
    repeat' first
    | (with_reducible exact ih0 _ _ _ _ _ _ _)
    | (with_reducible exact ih1 _ _ _ _ _ _ _ _ _ _ _)
    | (with_reducible exact LeO.refl _)
    | (with_reducible exact LeO.none _)
    | (with_reducible refine LeO.ite ?_ ?_)
    | (with_reducible refine LeO.bind ?_ (fun _ => ?_))
    | exact ih0 _ _ _ _ _ _ _
    | exact ih1 _ _ _ _ _ _ _ _ _ _ _
    | exact LeO.none _
    | refine LeO.ite ?_ ?_
    | refine LeO.bind ?_ (fun _ => ?_)
  intro y0 y1 y2 y3 y4 y5 y6 y7 y8 y9 y10
  unfold rect_Beside.l0
  repeat' first
  | (with_reducible exact ih0 _ _ _ _ _ _ _)
  | (with_reducible exact ih1 _ _ _ _ _ _ _ _ _ _ _)
  | (with_reducible exact LeO.refl _)
  | (with_reducible exact LeO.none _)
  | (with_reducible refine LeO.ite ?_ ?_)
  | (with_reducible refine LeO.bind ?_ (fun _ => ?_))
  | exact ih0 _ _ _ _ _ _ _
  | exact ih1 _ _ _ _ _ _ _ _ _ _ _
  | exact LeO.none _
  | refine LeO.ite ?_ ?_
  | refine LeO.bind ?_ (fun _ => ?_)
theorem rect_Beside.mono : ∀ a0 a1 a2 a3 a4 a5 k, LeO (rect_Beside.f k a0 a1 a2 a3 a4 a5) (rect_Beside.f (k + 1) a0 a1 a2 a3 a4 a5) := by
 intro a0 a1 a2 a3 a4 a5 k
 obtain ⟨ih0, ih1⟩ := rect_Beside.mono_l k
 unfold rect_Beside.f
 repeat' first
  | (with_reducible exact ih0 _ _ _ _ _ _ _)
  | (with_reducible exact ih1 _ _ _ _ _ _ _ _ _ _ _)
  | (with_reducible exact LeO.refl _)
  | (with_reducible exact LeO.none _)
  | (with_reducible refine LeO.ite ?_ ?_)
  | (with_reducible refine LeO.bind ?_ (fun _ => ?_))
  | exact ih0 _ _ _ _ _ _ _
  | exact ih1 _ _ _ _ _ _ _ _ _ _ _
  | exact LeO.none _
  | refine LeO.ite ?_ ?_
  | refine LeO.bind ?_ (fun _ => ?_)
def rect_Beside.T7 : Bool × List (List Nat × List Nat) := (true, [([], []), ([0], [0]), ([], []), ([], []), ([], []), ([4], [4]), ([2, 3, 5], [2, 3, 5]), ([1, 6, 6], [1, 6]), ([], []), ([], []), ([], []), ([10], [10]), ([8, 9, 11, 7], [8, 9, 11]), ([7, 12, 12], [7, 12]), ([0, 1, 2, 3, 4, 5, 6, 7, 8, 9, 10, 11, 12, 13], []), ([14, 13, 13, 0, 1, 2, 3, 4, 5, 6, 7, 8, 9, 10, 11, 12, 13], [13, 14])])
def rect_Beside.B7 : List Nat := [0, 1, 0, 0, 0, 16, 60, 127, 0, 0, 0, 1024, 4095, 8191, 16383, 32767]
theorem rect_Beside.tab7 : rtab .any (opsOf Try.f40 7) = rect_Beside.T7 := by kernel_rfl
theorem rect_Beside.bits7 : waitsOk rect_Beside.T7.2 rect_Beside.B7 = true := by kernel_rfl
set_option maxHeartbeats 8000000 in
set_option maxRecDepth 100000 in
theorem rect_Beside.calls (k : Nat) (a0_0 : Int) (a0_1 : Int) (A0_2 : Option Addr) (c0_2 : Nat) (l0_2 : List Int) (a1_0 : Int) (a1_1 : Int) (A1_2 : Option Addr) (c1_2 : Nat) (l1_2 : List Int) (r1 : Int) (r2 : Int) (r3 : List Int) (r4 : Int) (w : World) (hr0_2 : Kd.C (Kd.int .u64) w A0_2 l0_2.length l0_2) (hc0_2 : l0_2.length ≤ c0_2) (hr1_2 : Kd.C (Kd.int .u64) w A1_2 l1_2.length l1_2) (hc1_2 : l1_2.length ≤ c1_2) (h : rect_Beside.f k a0_0 a0_1 l0_2 a1_0 a1_1 l1_2 = some (r1, r2, r3, r4)) :
 Calls Try.prog 40 #[.agg #[.int .i64 a0_0, .int .i64 a0_1, .slice A0_2 l0_2.length c0_2], .agg #[.int .i64 a1_0, .int .i64 a1_1, .slice A1_2 l1_2.length c1_2]] w fun e w' => ∃ v2_ : Value, e = .returned (.tuple #[.agg #[.int .i64 r1, .int .i64 r2, v2_], .int .i64 r4]) ∧ Kd.R (Kd.int .u64) 46 w' w.heap.size (fun _ => True) v2_ r3 ∧ Below w.heap.size w w' := by
 have hu32 := Try.underlying32
 have HR0_2 := Aside0.mk hr0_2
 have HC0_2 := Aside0.mk hc0_2
 clear hr0_2 hc0_2
 have HR1_2 := Aside0.mk hr1_2
 have HC1_2 := Aside0.mk hc1_2
 clear hr1_2 hc1_2
 have HB := Aside0.mk (Below.refl w.heap.size w)
 have H : ((rect_May.f a0_0 a0_1 l0_2).bind fun t646 => (if t646 = true then ((rect_May.f a1_0 a1_1 l1_2).bind fun t647 => (if t647 = true then (if a0_1 = a1_1 then ((rect_sized.f (wrap64 (a0_0 + a1_0)) a0_1).bind fun t648 => (rect_Beside.j0 k (!t648) a0_0 a0_1 l0_2 a1_0 a1_1 l1_2)) else (rect_Beside.j0 k true a0_0 a0_1 l0_2 a1_0 a1_1 l1_2)) else (rect_Beside.j0 k true a0_0 a0_1 l0_2 a1_0 a1_1 l1_2))) else (rect_Beside.j0 k true a0_0 a0_1 l0_2 a1_0 a1_1 l1_2))) = some (r1, r2, r3, r4) := h
 clear h
 have HC3 := Aside0.mk H
 clear H
 go_enter Try.func40, Try.ntmps40
 go_upto_region 1 with (first | ((with_reducible refine gate_dst (N := 2) rfl ?_); refine box_event ?hg (N := 2) ?hd (cs := #[.int .i64 a0_0, .int .i64 a0_1, .slice A0_2 l0_2.length c0_2]) (t := 32) ?hr ?_; (case hd => rfl); (case hg => rfl); (case hr => first | (go_simp; done) | (go_simp; rfl)); intro gb643 hg w4 hbox hb; have BK643 := Aside0.mk (hbox); have GW643 := Aside0.mk ((by rw [hg]; exact (below_size bp_) : w.heap.size ≤ gb643)); have GE643 := Aside0.mk ((by rw [hg]; exact (below_size bp_) : w.heap.size ≤ gb643)); replace HB := Aside0.mk (below_step bp_ hb); clear hb hbox hg) | ((with_reducible refine gate_dst (N := 3) rfl ?_); refine box_event ?hg (N := 3) ?hd (cs := #[.int .i64 a1_0, .int .i64 a1_1, .slice A1_2 l1_2.length c1_2]) (t := 32) ?hr ?_; (case hd => rfl); (case hg => rfl); (case hr => first | (go_simp; done) | (go_simp; rfl)); intro gb644 hg w5 hbox hb; have BK644 := Aside0.mk (hbox); have GW644 := Aside0.mk ((by rw [hg]; exact (below_size bp_) : w.heap.size ≤ gb644)); have GE644 := Aside0.mk ((by rw [hg]; exact (below_size bp_) : w.heap.size ≤ gb644)); replace HB := Aside0.mk (below_step bp_ hb); have NB643_644 := Aside0.mk ((nlt_ hg (hp_ BK643.out))); have NB644_643 := Aside0.mk ((ngt_ hg (hp_ BK643.out))); replace BK643 := kb_ BK643.out hb; clear hb hbox hg) | ((with_reducible refine gate_dst (N := 4) rfl ?_); refine box_event ?hg (N := 4) ?hd (cs := #[.int .i64 0, .int .i64 0, .slice none 0 0]) (t := 32) ?hr ?_; (case hd => rfl); (case hg => rfl); (case hr => first | (go_simp; done) | (go_simp; rfl)); intro gb645 hg w6 hbox hb; have BK645 := Aside0.mk (hbox); have GW645 := Aside0.mk ((by rw [hg]; exact (below_size bp_) : w.heap.size ≤ gb645)); have GE645 := Aside0.mk ((by rw [hg]; exact (below_size bp_) : w.heap.size ≤ gb645)); replace HB := Aside0.mk (below_step bp_ hb); have NB643_645 := Aside0.mk ((nlt_ hg (hp_ BK643.out))); have NB645_643 := Aside0.mk ((ngt_ hg (hp_ BK643.out))); replace BK643 := kb_ BK643.out hb; have NB644_645 := Aside0.mk ((nlt_ hg (hp_ BK644.out))); have NB645_644 := Aside0.mk ((ngt_ hg (hp_ BK644.out))); replace BK644 := kb_ BK644.out hb; clear hb hbox hg))
 (try simp only [Act.put, List.setIfInBounds_toArray, List.set_cons_zero, List.set_cons_succ])
 go_cut [33] (fun v33 wc => ∃ (kq : Nat) (x33_2 : Bool), v33 = .bool x33_2 ∧ Aside0 (rect_Beside.j0 kq x33_2 a0_0 a0_1 l0_2 a1_0 a1_1 l1_2 = some (r1, r2, r3, r4)) ∧ Aside0 (kq ≤ k) ∧ Aside0 (wc.heap[gb643]? = some (.cells #[.int .i64 a0_0, .int .i64 a0_1, (.slice A0_2 l0_2.length c0_2)] 32 (0, 0))) ∧ Aside0 (wc.heap[gb644]? = some (.cells #[.int .i64 a1_0, .int .i64 a1_1, (.slice A1_2 l1_2.length c1_2)] 32 (0, 0))) ∧ Aside0 (wc.heap[gb645]? = some (.cells #[.int .i64 0, .int .i64 0, (.slice none 0 0)] 32 (0, 0))) ∧ Aside0 (Below w.heap.size w wc))
 case first =>
  have H := HC3.out
  clear HC3
  replace H := Option.bind_eq_some_iff.mp H
  obtain ⟨t646, A70, H⟩ := H
  replace H : (if t646 = true then ((rect_May.f a1_0 a1_1 l1_2).bind fun t647 => (if t647 = true then (if a0_1 = a1_1 then ((rect_sized.f (wrap64 (a0_0 + a1_0)) a0_1).bind fun t648 => (rect_Beside.j0 k (!t648) a0_0 a0_1 l0_2 a1_0 a1_1 l1_2)) else (rect_Beside.j0 k true a0_0 a0_1 l0_2 a1_0 a1_1 l1_2)) else (rect_Beside.j0 k true a0_0 a0_1 l0_2 a1_0 a1_1 l1_2))) else (rect_Beside.j0 k true a0_0 a0_1 l0_2 a1_0 a1_1 l1_2)) = some (r1, r2, r3, r4) := H
  have A7 := Aside0.mk A70
  clear A70
  by_cases c8 : t646 = true
  · subst c8
    have H1 : ((rect_May.f a1_0 a1_1 l1_2).bind fun t647 => (if t647 = true then (if a0_1 = a1_1 then ((rect_sized.f (wrap64 (a0_0 + a1_0)) a0_1).bind fun t648 => (rect_Beside.j0 k (!t648) a0_0 a0_1 l0_2 a1_0 a1_1 l1_2)) else (rect_Beside.j0 k true a0_0 a0_1 l0_2 a1_0 a1_1 l1_2)) else (rect_Beside.j0 k true a0_0 a0_1 l0_2 a1_0 a1_1 l1_2))) = some (r1, r2, r3, r4) := by rw [if_pos rfl] at H; exact H
    clear H; have H := H1; clear H1; replace H := Option.bind_eq_some_iff.mp H; obtain ⟨t647, A90, H⟩ := H
    replace H : (if t647 = true then (if a0_1 = a1_1 then ((rect_sized.f (wrap64 (a0_0 + a1_0)) a0_1).bind fun t648 => (rect_Beside.j0 k (!t648) a0_0 a0_1 l0_2 a1_0 a1_1 l1_2)) else (rect_Beside.j0 k true a0_0 a0_1 l0_2 a1_0 a1_1 l1_2)) else (rect_Beside.j0 k true a0_0 a0_1 l0_2 a1_0 a1_1 l1_2)) = some (r1, r2, r3, r4) := H
    have A9 := Aside0.mk A90; clear A90
    by_cases c10 : t647 = true
    · subst c10
      have H1 : (if a0_1 = a1_1 then ((rect_sized.f (wrap64 (a0_0 + a1_0)) a0_1).bind fun t648 => (rect_Beside.j0 k (!t648) a0_0 a0_1 l0_2 a1_0 a1_1 l1_2)) else (rect_Beside.j0 k true a0_0 a0_1 l0_2 a1_0 a1_1 l1_2)) = some (r1, r2, r3, r4) := by rw [if_pos rfl] at H; exact H
      clear H; have H := H1; clear H1
      by_cases c11 : a0_1 = a1_1
      · rw [if_pos c11] at H
        have c11b0 : (a0_1 == a1_1) = true := beq_iff_eq.mpr c11
        have c11b1 : (a0_1 != a1_1) = false := bne_eq_false_iff_eq.mpr c11
        clear c11
        (first | rw [c11b0] | (simp only [i64_w, i32_w]; rw [c11b0]) | skip)
        replace H := Option.bind_eq_some_iff.mp H; obtain ⟨t648, A120, H⟩ := H
        replace H : (rect_Beside.j0 k (!t648) a0_0 a0_1 l0_2 a1_0 a1_1 l1_2) = some (r1, r2, r3, r4) := H
        have A12 := Aside0.mk A120; clear A120
        have H' := Aside0.mk H
        clear H; have hnb13 := NB643_644.out; have hnc13 := NB644_643.out; have hnb14 := NB643_645.out; have hnc14 := NB645_643.out
        have hcz15_0 : w6.cell? ⟨gb643, 0, none⟩ = some (.int .i64 a0_0) := bc_ BK643.out 0
        have hcz15_1 : w6.cell? ⟨gb643, 1, none⟩ = some (.int .i64 a0_1) := bc_ BK643.out 1
        have hcz15_2 : w6.cell? ⟨gb643, 2, none⟩ = some (.slice A0_2 l0_2.length c0_2) := bc_ BK643.out 2
        have hfz15_0 := blk_frozen BK643.out 0; have hfz15_1 := blk_frozen BK643.out 1; have hfz15_2 := blk_frozen BK643.out 2
        go_wp2_with (first | ((with_reducible refine gate_callee (f := 19) rfl ?_); refine goQ_ (some 9) Try.func19 #[.agg #[.int .i64 a0_0, .int .i64 a0_1, .slice A0_2 l0_2.length c0_2]] ?_; (with_reducible refine (rect_May.calls a0_0 a0_1 _ _ l0_2 true _ ?side1 ?side2 A7.out).mono ?_); (case side1 => repeat (first | exact (Kd.C_below HR0_2.out bp_) | (with_reducible refine Kd.C_alloc ?_ _) | (with_reducible refine Kd.C_drewN ?_ _) | (with_reducible refine Kd.C_drew ?_))); (case side2 => exact HC0_2.out); rintro e w16 ⟨rfl, hb⟩; refine ⟨_, rfl, ?_⟩; replace BK643 := kb_ BK643.out hb; replace BK644 := kb_ BK644.out hb; replace BK645 := kb_ BK645.out hb; replace HB := Aside0.mk (below_step bp_ hb); (try clear hb); (try clear hb2); (try clear hk); (try clear hi); have hnb17 := NB644_645.out; have hnc17 := NB645_644.out; have hcz18_0 : w16.cell? ⟨gb644, 0, none⟩ = some (.int .i64 a1_0) := bc_ BK644.out 0; have hcz18_1 : w16.cell? ⟨gb644, 1, none⟩ = some (.int .i64 a1_1) := bc_ BK644.out 1; have hcz18_2 : w16.cell? ⟨gb644, 2, none⟩ = some (.slice A1_2 l1_2.length c1_2) := bc_ BK644.out 2; have hfz18_0 := blk_frozen BK644.out 0; have hfz18_1 := blk_frozen BK644.out 1; have hfz18_2 := blk_frozen BK644.out 2) | (go_at_call 19; (with_reducible refine (rect_May.calls a1_0 a1_1 _ _ l1_2 true _ ?side1 ?side2 A9.out).mono ?_); (case side1 => repeat (first | exact (Kd.C_below HR1_2.out HB.out) | (with_reducible refine Kd.C_alloc ?_ _) | (with_reducible refine Kd.C_drewN ?_ _) | (with_reducible refine Kd.C_drew ?_))); (case side2 => exact HC1_2.out); rintro e w19 ⟨rfl, hb⟩; replace BK643 := kb_ BK643.out hb; replace BK644 := kb_ BK644.out hb; replace BK645 := kb_ BK645.out hb; replace HB := Aside0.mk (below_step bp_ hb); (try clear hb); (try clear hb2); (try clear hk); (try clear hi); have hcz20_0 : w19.cell? ⟨gb643, 0, none⟩ = some (.int .i64 a0_0) := bc_ BK643.out 0; have hcz20_1 : w19.cell? ⟨gb643, 1, none⟩ = some (.int .i64 a0_1) := bc_ BK643.out 1; have hcz20_2 : w19.cell? ⟨gb643, 2, none⟩ = some (.slice A0_2 l0_2.length c0_2) := bc_ BK643.out 2; have hfz20_0 := blk_frozen BK643.out 0; have hfz20_1 := blk_frozen BK643.out 1; have hfz20_2 := blk_frozen BK643.out 2; have hcz21_0 : w19.cell? ⟨gb644, 0, none⟩ = some (.int .i64 a1_0) := bc_ BK644.out 0; have hcz21_1 : w19.cell? ⟨gb644, 1, none⟩ = some (.int .i64 a1_1) := bc_ BK644.out 1; have hcz21_2 : w19.cell? ⟨gb644, 2, none⟩ = some (.slice A1_2 l1_2.length c1_2) := bc_ BK644.out 2; have hfz21_0 := blk_frozen BK644.out 0; have hfz21_1 := blk_frozen BK644.out 1; have hfz21_2 := blk_frozen BK644.out 2) | (go_at_call 45; (with_reducible refine (rect_sized.calls (wrap64 (a0_0 + a1_0)) a0_1 t648 _ A12.out).mono ?_); rintro e w' ⟨rfl, ⟨nd, rfl⟩⟩))
        go_meet
        case rel => exact ⟨_, (!t648), (by first | rfl | (simp; done) | (simp [*]; done)), H', ⟨by first | omega | exact Nat.le_refl _⟩, ⟨hp_ BK643.out⟩, ⟨hp_ BK644.out⟩, ⟨hp_ BK645.out⟩, ⟨bp_⟩⟩
      rw [if_neg c11] at H
      have c11b0 : (a0_1 == a1_1) = false := beq_eq_false_iff_ne.mpr c11
      have c11b1 : (a0_1 != a1_1) = true := bne_iff_ne.mpr c11
      (first | rw [c11b0] | (simp only [i64_w, i32_w]; rw [c11b0]) | skip)
      have H' := Aside0.mk H
      clear H; have hnb22 := NB643_644.out; have hnc22 := NB644_643.out; have hnb23 := NB643_645.out; have hnc23 := NB645_643.out
      have hcz24_0 : w6.cell? ⟨gb643, 0, none⟩ = some (.int .i64 a0_0) := bc_ BK643.out 0
      have hcz24_1 : w6.cell? ⟨gb643, 1, none⟩ = some (.int .i64 a0_1) := bc_ BK643.out 1
      have hcz24_2 : w6.cell? ⟨gb643, 2, none⟩ = some (.slice A0_2 l0_2.length c0_2) := bc_ BK643.out 2
      have hfz24_0 := blk_frozen BK643.out 0; have hfz24_1 := blk_frozen BK643.out 1; have hfz24_2 := blk_frozen BK643.out 2
      go_wp2_with (first | ((with_reducible refine gate_callee (f := 19) rfl ?_); refine goQ_ (some 9) Try.func19 #[.agg #[.int .i64 a0_0, .int .i64 a0_1, .slice A0_2 l0_2.length c0_2]] ?_; (with_reducible refine (rect_May.calls a0_0 a0_1 _ _ l0_2 true _ ?side1 ?side2 A7.out).mono ?_); (case side1 => repeat (first | exact (Kd.C_below HR0_2.out bp_) | (with_reducible refine Kd.C_alloc ?_ _) | (with_reducible refine Kd.C_drewN ?_ _) | (with_reducible refine Kd.C_drew ?_))); (case side2 => exact HC0_2.out); rintro e w25 ⟨rfl, hb⟩; refine ⟨_, rfl, ?_⟩; replace BK643 := kb_ BK643.out hb; replace BK644 := kb_ BK644.out hb; replace BK645 := kb_ BK645.out hb; replace HB := Aside0.mk (below_step bp_ hb); (try clear hb); (try clear hb2); (try clear hk); (try clear hi); have hnb26 := NB644_645.out; have hnc26 := NB645_644.out; have hcz27_0 : w25.cell? ⟨gb644, 0, none⟩ = some (.int .i64 a1_0) := bc_ BK644.out 0; have hcz27_1 : w25.cell? ⟨gb644, 1, none⟩ = some (.int .i64 a1_1) := bc_ BK644.out 1; have hcz27_2 : w25.cell? ⟨gb644, 2, none⟩ = some (.slice A1_2 l1_2.length c1_2) := bc_ BK644.out 2; have hfz27_0 := blk_frozen BK644.out 0; have hfz27_1 := blk_frozen BK644.out 1; have hfz27_2 := blk_frozen BK644.out 2) | (go_at_call 19; (with_reducible refine (rect_May.calls a1_0 a1_1 _ _ l1_2 true _ ?side1 ?side2 A9.out).mono ?_); (case side1 => repeat (first | exact (Kd.C_below HR1_2.out HB.out) | (with_reducible refine Kd.C_alloc ?_ _) | (with_reducible refine Kd.C_drewN ?_ _) | (with_reducible refine Kd.C_drew ?_))); (case side2 => exact HC1_2.out); rintro e w28 ⟨rfl, hb⟩; replace BK643 := kb_ BK643.out hb; replace BK644 := kb_ BK644.out hb; replace BK645 := kb_ BK645.out hb; replace HB := Aside0.mk (below_step bp_ hb); (try clear hb); (try clear hb2); (try clear hk); (try clear hi); have hcz29_0 : w28.cell? ⟨gb643, 0, none⟩ = some (.int .i64 a0_0) := bc_ BK643.out 0; have hcz29_1 : w28.cell? ⟨gb643, 1, none⟩ = some (.int .i64 a0_1) := bc_ BK643.out 1; have hcz29_2 : w28.cell? ⟨gb643, 2, none⟩ = some (.slice A0_2 l0_2.length c0_2) := bc_ BK643.out 2; have hfz29_0 := blk_frozen BK643.out 0; have hfz29_1 := blk_frozen BK643.out 1; have hfz29_2 := blk_frozen BK643.out 2; have hcz30_0 : w28.cell? ⟨gb644, 0, none⟩ = some (.int .i64 a1_0) := bc_ BK644.out 0; have hcz30_1 : w28.cell? ⟨gb644, 1, none⟩ = some (.int .i64 a1_1) := bc_ BK644.out 1; have hcz30_2 : w28.cell? ⟨gb644, 2, none⟩ = some (.slice A1_2 l1_2.length c1_2) := bc_ BK644.out 2; have hfz30_0 := blk_frozen BK644.out 0; have hfz30_1 := blk_frozen BK644.out 1; have hfz30_2 := blk_frozen BK644.out 2))
      go_meet
      case rel => exact ⟨_, (true), (by first | rfl | (simp; done) | (simp [*]; done)), H', ⟨by first | omega | exact Nat.le_refl _⟩, ⟨hp_ BK643.out⟩, ⟨hp_ BK644.out⟩, ⟨hp_ BK645.out⟩, ⟨bp_⟩⟩
    replace c10 := Bool.eq_false_iff.mpr c10; subst c10
    have H1 : (rect_Beside.j0 k true a0_0 a0_1 l0_2 a1_0 a1_1 l1_2) = some (r1, r2, r3, r4) := by rw [if_neg (show ¬ (false = true) by decide)] at H; exact H
    clear H; have H := H1; clear H1
    have H' := Aside0.mk H
    clear H; have hnb31 := NB643_644.out; have hnc31 := NB644_643.out; have hnb32 := NB643_645.out; have hnc32 := NB645_643.out
    have hcz33_0 : w6.cell? ⟨gb643, 0, none⟩ = some (.int .i64 a0_0) := bc_ BK643.out 0
    have hcz33_1 : w6.cell? ⟨gb643, 1, none⟩ = some (.int .i64 a0_1) := bc_ BK643.out 1
    have hcz33_2 : w6.cell? ⟨gb643, 2, none⟩ = some (.slice A0_2 l0_2.length c0_2) := bc_ BK643.out 2
    have hfz33_0 := blk_frozen BK643.out 0; have hfz33_1 := blk_frozen BK643.out 1; have hfz33_2 := blk_frozen BK643.out 2
    go_wp2_with (first | ((with_reducible refine gate_callee (f := 19) rfl ?_); refine goQ_ (some 9) Try.func19 #[.agg #[.int .i64 a0_0, .int .i64 a0_1, .slice A0_2 l0_2.length c0_2]] ?_; (with_reducible refine (rect_May.calls a0_0 a0_1 _ _ l0_2 true _ ?side1 ?side2 A7.out).mono ?_); (case side1 => repeat (first | exact (Kd.C_below HR0_2.out bp_) | (with_reducible refine Kd.C_alloc ?_ _) | (with_reducible refine Kd.C_drewN ?_ _) | (with_reducible refine Kd.C_drew ?_))); (case side2 => exact HC0_2.out); rintro e w34 ⟨rfl, hb⟩; refine ⟨_, rfl, ?_⟩; replace BK643 := kb_ BK643.out hb; replace BK644 := kb_ BK644.out hb; replace BK645 := kb_ BK645.out hb; replace HB := Aside0.mk (below_step bp_ hb); (try clear hb); (try clear hb2); (try clear hk); (try clear hi); have hnb35 := NB644_645.out; have hnc35 := NB645_644.out; have hcz36_0 : w34.cell? ⟨gb644, 0, none⟩ = some (.int .i64 a1_0) := bc_ BK644.out 0; have hcz36_1 : w34.cell? ⟨gb644, 1, none⟩ = some (.int .i64 a1_1) := bc_ BK644.out 1; have hcz36_2 : w34.cell? ⟨gb644, 2, none⟩ = some (.slice A1_2 l1_2.length c1_2) := bc_ BK644.out 2; have hfz36_0 := blk_frozen BK644.out 0; have hfz36_1 := blk_frozen BK644.out 1; have hfz36_2 := blk_frozen BK644.out 2) | (go_at_call 19; (with_reducible refine (rect_May.calls a1_0 a1_1 _ _ l1_2 false _ ?side1 ?side2 A9.out).mono ?_); (case side1 => repeat (first | exact (Kd.C_below HR1_2.out HB.out) | (with_reducible refine Kd.C_alloc ?_ _) | (with_reducible refine Kd.C_drewN ?_ _) | (with_reducible refine Kd.C_drew ?_))); (case side2 => exact HC1_2.out); rintro e w37 ⟨rfl, hb⟩; replace BK643 := kb_ BK643.out hb; replace BK644 := kb_ BK644.out hb; replace BK645 := kb_ BK645.out hb; replace HB := Aside0.mk (below_step bp_ hb); (try clear hb); (try clear hb2); (try clear hk); (try clear hi)))
    go_meet
    case rel => exact ⟨_, (true), (by first | rfl | (simp; done) | (simp [*]; done)), H', ⟨by first | omega | exact Nat.le_refl _⟩, ⟨hp_ BK643.out⟩, ⟨hp_ BK644.out⟩, ⟨hp_ BK645.out⟩, ⟨bp_⟩⟩
  replace c8 := Bool.eq_false_iff.mpr c8
  subst c8
  have H1 : (rect_Beside.j0 k true a0_0 a0_1 l0_2 a1_0 a1_1 l1_2) = some (r1, r2, r3, r4) := by rw [if_neg (show ¬ (false = true) by decide)] at H; exact H
  clear H
  have H := H1
  clear H1
  have H' := Aside0.mk H
  clear H
  have hnb38 := NB643_644.out
  have hnc38 := NB644_643.out
  have hnb39 := NB643_645.out
  have hnc39 := NB645_643.out
  have hcz40_0 : w6.cell? ⟨gb643, 0, none⟩ = some (.int .i64 a0_0) := bc_ BK643.out 0
  have hcz40_1 : w6.cell? ⟨gb643, 1, none⟩ = some (.int .i64 a0_1) := bc_ BK643.out 1
  have hcz40_2 : w6.cell? ⟨gb643, 2, none⟩ = some (.slice A0_2 l0_2.length c0_2) := bc_ BK643.out 2
  have hfz40_0 := blk_frozen BK643.out 0
  have hfz40_1 := blk_frozen BK643.out 1
  have hfz40_2 := blk_frozen BK643.out 2
  go_wp2_with (first | ((with_reducible refine gate_callee (f := 19) rfl ?_); refine goQ_ (some 9) Try.func19 #[.agg #[.int .i64 a0_0, .int .i64 a0_1, .slice A0_2 l0_2.length c0_2]] ?_; (with_reducible refine (rect_May.calls a0_0 a0_1 _ _ l0_2 false _ ?side1 ?side2 A7.out).mono ?_); (case side1 => repeat (first | exact (Kd.C_below HR0_2.out bp_) | (with_reducible refine Kd.C_alloc ?_ _) | (with_reducible refine Kd.C_drewN ?_ _) | (with_reducible refine Kd.C_drew ?_))); (case side2 => exact HC0_2.out); rintro e w41 ⟨rfl, hb⟩; refine ⟨_, rfl, ?_⟩; replace BK643 := kb_ BK643.out hb; replace BK644 := kb_ BK644.out hb; replace BK645 := kb_ BK645.out hb; replace HB := Aside0.mk (below_step bp_ hb); (try clear hb); (try clear hb2); (try clear hk); (try clear hi)))
  go_meet
  case rel => exact ⟨_, (true), (by first | rfl | (simp; done) | (simp [*]; done)), H', ⟨by first | omega | exact Nat.le_refl _⟩, ⟨hp_ BK643.out⟩, ⟨hp_ BK644.out⟩, ⟨hp_ BK645.out⟩, ⟨bp_⟩⟩
 case rest =>
  clear HC3
  try clear c1
  try clear c2
  try clear p2
  try clear c3
  try clear c4
  try clear p6
  try clear c8
  try clear c10
  try clear c11
  try clear c11b0
  try clear c11b1
  try clear c13
  try clear c14
  try clear c17
  try clear c19
  try clear c22
  try clear c23
  try clear c26
  try clear c31
  try clear c32
  try clear c35
  try clear c38
  try clear c39
  try clear c40
  try clear hcz15_0
  try clear hcz15_1
  try clear hcz15_2
  try clear hcz18_0
  try clear hcz18_1
  try clear hcz18_2
  try clear hcz20_0
  try clear hcz20_1
  try clear hcz20_2
  try clear hcz21_0
  try clear hcz21_1
  try clear hcz21_2
  try clear hcz24_0
  try clear hcz24_1
  try clear hcz24_2
  try clear hcz27_0
  try clear hcz27_1
  try clear hcz27_2
  try clear hcz29_0
  try clear hcz29_1
  try clear hcz29_2
  try clear hcz30_0
  try clear hcz30_1
  try clear hcz30_2
  try clear hcz33_0
  try clear hcz33_1
  try clear hcz33_2
  try clear hcz36_0
  try clear hcz36_1
  try clear hcz36_2
  try clear hcz40_0
  try clear hcz40_1
  try clear hcz40_2
  try clear hfz15_0
  try clear hfz15_1
  try clear hfz15_2
  try clear hfz18_0
  try clear hfz18_1
  try clear hfz18_2
  try clear hfz20_0
  try clear hfz20_1
  try clear hfz20_2
  try clear hfz21_0
  try clear hfz21_1
  try clear hfz21_2
  try clear hfz24_0
  try clear hfz24_1
  try clear hfz24_2
  try clear hfz27_0
  try clear hfz27_1
  try clear hfz27_2
  try clear hfz29_0
  try clear hfz29_1
  try clear hfz29_2
  try clear hfz30_0
  try clear hfz30_1
  try clear hfz30_2
  try clear hfz33_0
  try clear hfz33_1
  try clear hfz33_2
  try clear hfz36_0
  try clear hfz36_1
  try clear hfz36_2
  try clear hfz40_0
  try clear hfz40_1
  try clear hfz40_2
  obtain ⟨kq, x33_2, rfl, HA, HJ2, BK643, BK644, BK645, HB⟩ := hcut
  cases kq with
  | zero => exact absurd HA.out (by simp [rect_Beside.j0])
  | succ kj2 =>
   have H := HA.out; clear HA; simp only [rect_Beside.j0] at H
   by_cases c42 : x33_2 = true
   · subst c42
     have H1 : (some (0, 0, ([] : List Int), 1)) = some (r1, r2, r3, r4) := by rw [if_pos rfl] at H; exact H
     clear H; have H := H1; clear H1; simp only [Option.some.injEq, Prod.mk.injEq] at H; obtain ⟨rfl, rfl, rfl, rfl⟩ := H
     have hcz43_0 : wc.cell? ⟨gb645, 0, none⟩ = some (.int .i64 0) := bc_ BK645.out 0
     have hcz43_1 : wc.cell? ⟨gb645, 1, none⟩ = some (.int .i64 0) := bc_ BK645.out 1
     have hcz43_2 : wc.cell? ⟨gb645, 2, none⟩ = some (.slice none 0 0) := bc_ BK645.out 2
     have hfz43_0 := blk_frozen BK645.out 0; have hfz43_1 := blk_frozen BK645.out 1; have hfz43_2 := blk_frozen BK645.out 2
     go_wp2
     refine bodyPost_ret (results_ct rfl _ _ gb645 32 #[.int .i64 0, .int .i64 0, .slice none 0 0] (0, 0) _ rfl (by (with_reducible repeat (first | refine blk_drewN ?_ _ | refine blk_drew ?_ | refine blk_alloc ?_ _)); refine blk_put (cs := #[.int .i64 0, .int .i64 0, .slice none 0 0]) ?_ 2 _ rfl; (with_reducible repeat (first | refine blk_drewN ?_ _ | refine blk_drew ?_ | refine blk_alloc ?_ _)); refine blk_put (cs := #[.int .i64 0, .int .i64 0, .slice none 0 0]) ?_ 1 _ rfl; (with_reducible repeat (first | refine blk_drewN ?_ _ | refine blk_drew ?_ | refine blk_alloc ?_ _)); refine blk_put (cs := #[.int .i64 0, .int .i64 0, .slice none 0 0]) ?_ 0 _ rfl; (with_reducible repeat (first | refine blk_drewN ?_ _ | refine blk_drew ?_ | refine blk_alloc ?_ _)); exact BK645.out) Try.underlying32 rfl (by kernel_rfl)) rfl ?_
     exact ⟨_, by first | rfl | (simp [errW_none, errW_some] <;> rfl) | (simp [*, errW_none, errW_some] <;> rfl), by first | exact Kd.R_nil _ _ _ _ _ | exact Kd.N_nil _ _ _ _ _ | exact Kd.V_nil _ _ _ _ _ | exact Kd.Q_nil _ _ _ _ _ | exact Kd.S_nil _ _ _ _ _, bp_⟩
   replace c42 := Bool.eq_false_iff.mpr c42; subst c42
   have H1 : (rect_Beside.l0 kj2 a0_1 0 a0_0 a0_1 l0_2 a1_0 a1_1 l1_2 (wrap64 (a0_0 + a1_0)) a0_1 ([] : List Int)) = some (r1, r2, r3, r4) := by rw [if_neg (show ¬ (false = true) by decide)] at H; exact H
   clear H; have H := H1; clear H1
   have H' := Aside0.mk H
   clear H; have hnb44 := NB643_644.out; have hnc44 := NB644_643.out; have hnb45 := NB643_645.out; have hnc45 := NB645_643.out
   have hcz46_0 : wc.cell? ⟨gb643, 0, none⟩ = some (.int .i64 a0_0) := bc_ BK643.out 0
   have hcz46_1 : wc.cell? ⟨gb643, 1, none⟩ = some (.int .i64 a0_1) := bc_ BK643.out 1
   have hcz46_2 : wc.cell? ⟨gb643, 2, none⟩ = some (.slice A0_2 l0_2.length c0_2) := bc_ BK643.out 2
   have hfz46_0 := blk_frozen BK643.out 0; have hfz46_1 := blk_frozen BK643.out 1; have hfz46_2 := blk_frozen BK643.out 2; have hnb47 := NB644_645.out; have hnc47 := NB645_644.out
   have hcz48_0 : wc.cell? ⟨gb644, 0, none⟩ = some (.int .i64 a1_0) := bc_ BK644.out 0
   have hcz48_1 : wc.cell? ⟨gb644, 1, none⟩ = some (.int .i64 a1_1) := bc_ BK644.out 1
   have hcz48_2 : wc.cell? ⟨gb644, 2, none⟩ = some (.slice A1_2 l1_2.length c1_2) := bc_ BK644.out 2
   have hfz48_0 := blk_frozen BK644.out 0; have hfz48_1 := blk_frozen BK644.out 1; have hfz48_2 := blk_frozen BK644.out 2
   go_wp2_with (first | ((with_reducible refine gate_dst (N := 6) rfl ?_); refine box_event ?hg (N := 6) ?hd (cs := #[.int .i64 0, .int .i64 0, .slice none 0 0]) (t := 32) ?hr ?_; (case hd => rfl); (case hg => rfl); (case hr => first | (go_simp; done) | (go_simp; rfl)); intro gb649 hg w49 hbox hb; have BK649 := Aside0.mk (hbox); have GW649 := Aside0.mk ((by rw [hg]; exact (below_size bp_) : w.heap.size ≤ gb649)); have GE649 := Aside0.mk ((by rw [hg]; exact (below_size bp_) : w.heap.size ≤ gb649)); replace HB := Aside0.mk (below_step bp_ hb); have NB643_649 := Aside0.mk ((nlt_ hg (hp_ BK643.out))); have NB649_643 := Aside0.mk ((ngt_ hg (hp_ BK643.out))); replace BK643 := kb_ BK643.out hb; have NB644_649 := Aside0.mk ((nlt_ hg (hp_ BK644.out))); have NB649_644 := Aside0.mk ((ngt_ hg (hp_ BK644.out))); replace BK644 := kb_ BK644.out hb; have NB645_649 := Aside0.mk ((nlt_ hg (hp_ BK645.out))); have NB649_645 := Aside0.mk ((ngt_ hg (hp_ BK645.out))); replace BK645 := kb_ BK645.out hb; clear hb hbox hg; have hnb50 := NB649_643.out; have hnc50 := NB643_649.out; have hnb51 := NB649_644.out; have hnc51 := NB644_649.out; have hnb52 := NB649_645.out; have hnc52 := NB645_649.out; have hcz53_0 : w49.cell? ⟨gb649, 0, none⟩ = some (.int .i64 0) := bc_ BK649.out 0; have hcz53_1 : w49.cell? ⟨gb649, 1, none⟩ = some (.int .i64 0) := bc_ BK649.out 1; have hcz53_2 : w49.cell? ⟨gb649, 2, none⟩ = some (.slice none 0 0) := bc_ BK649.out 2; have hfz53_0 := blk_frozen BK649.out 0; have hfz53_1 := blk_frozen BK649.out 1; have hfz53_2 := blk_frozen BK649.out 2; have hcz54_0 : w49.cell? ⟨gb643, 0, none⟩ = some (.int .i64 a0_0) := bc_ BK643.out 0; have hcz54_1 : w49.cell? ⟨gb643, 1, none⟩ = some (.int .i64 a0_1) := bc_ BK643.out 1; have hcz54_2 : w49.cell? ⟨gb643, 2, none⟩ = some (.slice A0_2 l0_2.length c0_2) := bc_ BK643.out 2; have hfz54_0 := blk_frozen BK643.out 0; have hfz54_1 := blk_frozen BK643.out 1; have hfz54_2 := blk_frozen BK643.out 2))
   go_loopg [45] kj2 (fun kq v45 w' => ∃ (x45_2 : Int) (x650002_2 : List Int) (u650002 : Value), v45 = .int .i64 x45_2 ∧ Aside0 (rect_Beside.l0 kq a0_1 x45_2 a0_0 a0_1 l0_2 a1_0 a1_1 l1_2 (wrap64 (a0_0 + a1_0)) a0_1 x650002_2 = some (r1, r2, r3, r4)) ∧ Aside0 (kq ≤ kj2) ∧ Aside0 (Kd.R (Kd.int .u64) 46 w' w.heap.size (fun _ => True) u650002 x650002_2) ∧ Aside0 (w'.heap[gb643]? = some (.cells #[.int .i64 a0_0, .int .i64 a0_1, (.slice A0_2 l0_2.length c0_2)] 32 (0, 0))) ∧ Aside0 (w'.heap[gb644]? = some (.cells #[.int .i64 a1_0, .int .i64 a1_1, (.slice A1_2 l1_2.length c1_2)] 32 (0, 0))) ∧ Aside0 (w'.heap[gb645]? = some (.cells #[.int .i64 0, .int .i64 0, (.slice none 0 0)] 32 (0, 0))) ∧ Aside0 (w'.heap[gb649]? = some (.cells #[.int .i64 (wrap64 (a0_0 + a1_0)), .int .i64 a0_1, u650002] 32 (0, 0))) ∧ Aside0 (Below w.heap.size w w'))
   case atStart => exact ⟨(0), (([] : List Int)), (.slice none 0 0), (by first | rfl | (simp; done) | (simp [*]; done)), H', ⟨Nat.le_refl _⟩, ⟨by first | exact Kd.R_nil _ _ _ _ _ | exact Kd.N_nil _ _ _ _ _ | exact Kd.V_nil _ _ _ _ _ | exact Kd.Q_nil _ _ _ _ _ | exact Kd.S_nil _ _ _ _ _⟩, ⟨hf_ BK643.out NB643_649.out⟩, ⟨hf_ BK644.out NB644_649.out⟩, ⟨hf_ BK645.out NB645_649.out⟩, ⟨by (with_reducible repeat (first | refine blk_drewN ?_ _ | refine blk_drew ?_ | refine blk_alloc ?_ _)); refine blk_put (cs := #[.int .i64 (wrap64 (a0_0 + a1_0)), .int .i64 a0_1, .slice none 0 0]) ?_ 2 _ rfl; (with_reducible repeat (first | refine blk_drewN ?_ _ | refine blk_drew ?_ | refine blk_alloc ?_ _)); refine blk_put (cs := #[.int .i64 (wrap64 (a0_0 + a1_0)), .int .i64 0, .slice none 0 0]) ?_ 1 _ rfl; (with_reducible repeat (first | refine blk_drewN ?_ _ | refine blk_drew ?_ | refine blk_alloc ?_ _)); refine blk_put (cs := #[.int .i64 0, .int .i64 0, .slice none 0 0]) ?_ 0 _ rfl; (with_reducible repeat (first | refine blk_drewN ?_ _ | refine blk_drew ?_ | refine blk_alloc ?_ _)); exact BK649.out⟩, ⟨bp_⟩⟩
   case round =>
    clear H'
    try clear c1
    try clear c2
    try clear p2
    try clear c3
    try clear c4
    try clear c5
    try clear p6
    try clear c8
    try clear c10
    try clear c11
    try clear c11b0
    try clear c11b1
    try clear c13
    try clear c14
    try clear c17
    try clear c19
    try clear c22
    try clear c23
    try clear c26
    try clear c31
    try clear c32
    try clear c35
    try clear c38
    try clear c39
    try clear c40
    try clear c42
    try clear c44
    try clear c45
    try clear c47
    try clear c50
    try clear c51
    try clear c52
    try clear hcz15_0
    try clear hcz15_1
    try clear hcz15_2
    try clear hcz18_0
    try clear hcz18_1
    try clear hcz18_2
    try clear hcz20_0
    try clear hcz20_1
    try clear hcz20_2
    try clear hcz21_0
    try clear hcz21_1
    try clear hcz21_2
    try clear hcz24_0
    try clear hcz24_1
    try clear hcz24_2
    try clear hcz27_0
    try clear hcz27_1
    try clear hcz27_2
    try clear hcz29_0
    try clear hcz29_1
    try clear hcz29_2
    try clear hcz30_0
    try clear hcz30_1
    try clear hcz30_2
    try clear hcz33_0
    try clear hcz33_1
    try clear hcz33_2
    try clear hcz36_0
    try clear hcz36_1
    try clear hcz36_2
    try clear hcz40_0
    try clear hcz40_1
    try clear hcz40_2
    try clear hcz43_0
    try clear hcz43_1
    try clear hcz43_2
    try clear hcz46_0
    try clear hcz46_1
    try clear hcz46_2
    try clear hcz48_0
    try clear hcz48_1
    try clear hcz48_2
    try clear hcz53_0
    try clear hcz53_1
    try clear hcz53_2
    try clear hcz54_0
    try clear hcz54_1
    try clear hcz54_2
    try clear hfz15_0
    try clear hfz15_1
    try clear hfz15_2
    try clear hfz18_0
    try clear hfz18_1
    try clear hfz18_2
    try clear hfz20_0
    try clear hfz20_1
    try clear hfz20_2
    try clear hfz21_0
    try clear hfz21_1
    try clear hfz21_2
    try clear hfz24_0
    try clear hfz24_1
    try clear hfz24_2
    try clear hfz27_0
    try clear hfz27_1
    try clear hfz27_2
    try clear hfz29_0
    try clear hfz29_1
    try clear hfz29_2
    try clear hfz30_0
    try clear hfz30_1
    try clear hfz30_2
    try clear hfz33_0
    try clear hfz33_1
    try clear hfz33_2
    try clear hfz36_0
    try clear hfz36_1
    try clear hfz36_2
    try clear hfz40_0
    try clear hfz40_1
    try clear hfz40_2
    try clear hfz43_0
    try clear hfz43_1
    try clear hfz43_2
    try clear hfz46_0
    try clear hfz46_1
    try clear hfz46_2
    try clear hfz48_0
    try clear hfz48_1
    try clear hfz48_2
    try clear hfz53_0
    try clear hfz53_1
    try clear hfz53_2
    try clear hfz54_0
    try clear hfz54_1
    try clear hfz54_2
    try clear p2
    try clear p6
    obtain ⟨x45_2, x650002_2, u650002, rfl, HA, HK2, HO_650002, BK643, BK644, BK645, BK649, HB⟩ := hrel
    cases gk with
    | zero => exact absurd HA.out (by simp [rect_Beside.l0])
    | succ k2 =>
     have H := HA.out; clear HA; simp only [rect_Beside.l0] at H
     by_cases c55 : x45_2 < a0_1
     · rw [if_pos c55] at H
       have c55b0 : decide (x45_2 < a0_1) = true := decide_eq_true c55
       clear c55; replace H := Option.bind_eq_some_iff.mp H; obtain ⟨t650, A560, H⟩ := H
       replace H : (if x650002_2.length + t650.length < 17592186044416 then ((some (x650002_2 ++ t650 : List Int)).bind fun y653 => ((rect_Matrix_row.f a1_0 a1_1 l1_2 0 x45_2 a1_0).bind fun t656 => (if y653.length + t656.length < 17592186044416 then (rect_Beside.l0 k2 a0_1 (wrap64 (x45_2 + 1)) a0_0 a0_1 l0_2 a1_0 a1_1 l1_2 (wrap64 (a0_0 + a1_0)) a0_1 (y653 ++ t656)) else (none)))) else (none)) = some (r1, r2, r3, r4) := H
       have A56 := Aside0.mk A560; clear A560
       by_cases c57 : x650002_2.length + t650.length < 17592186044416
       · rw [if_pos c57] at H; have LMc57 := Aside0.mk c57; clear c57
         obtain ⟨y653, hy653⟩ : ∃ y_ : List Int, y_ = (x650002_2 ++ t650) := ⟨_, rfl⟩
         replace H : ((rect_Matrix_row.f a1_0 a1_1 l1_2 0 x45_2 a1_0).bind fun t656 => (if y653.length + t656.length < 17592186044416 then (rect_Beside.l0 k2 a0_1 (wrap64 (x45_2 + 1)) a0_0 a0_1 l0_2 a1_0 a1_1 l1_2 (wrap64 (a0_0 + a1_0)) a0_1 (y653 ++ t656)) else (none))) = some (r1, r2, r3, r4) := by first | (rw [hy653]; with_reducible exact H) | (have H2_ := (Option.bind_some _ _).symm.trans H; rw [hy653]; with_reducible exact H2_) | (have H2_ := (Option.bind_some _ _).symm.trans H; with_reducible exact H2_) | with_reducible exact H | (rw [hy653]; exact H) | exact H
         have Ny653 := Aside0.mk hy653; clear hy653; replace H := Option.bind_eq_some_iff.mp H; obtain ⟨t656, A580, H⟩ := H
         replace H : (if y653.length + t656.length < 17592186044416 then (rect_Beside.l0 k2 a0_1 (wrap64 (x45_2 + 1)) a0_0 a0_1 l0_2 a1_0 a1_1 l1_2 (wrap64 (a0_0 + a1_0)) a0_1 (y653 ++ t656)) else (none)) = some (r1, r2, r3, r4) := H
         have A58 := Aside0.mk A580; clear A580
         by_cases c59 : y653.length + t656.length < 17592186044416
         · rw [if_pos c59] at H; have LMc59 := Aside0.mk c59; clear c59
           obtain ⟨y659, hy659⟩ : ∃ y_ : List Int, y_ = (y653 ++ t656) := ⟨_, rfl⟩
           replace H : (rect_Beside.l0 k2 a0_1 (wrap64 (x45_2 + 1)) a0_0 a0_1 l0_2 a1_0 a1_1 l1_2 (wrap64 (a0_0 + a1_0)) a0_1 y659) = some (r1, r2, r3, r4) := by first | (rw [hy659]; with_reducible exact H) | (have H2_ := (Option.bind_some _ _).symm.trans H; rw [hy659]; with_reducible exact H2_) | (have H2_ := (Option.bind_some _ _).symm.trans H; with_reducible exact H2_) | with_reducible exact H | (rw [hy659]; exact H) | exact H
           have Ny659 := Aside0.mk hy659; clear hy659
           have H' := Aside0.mk H
           clear H
           try go_wp2
           (try (rw [drewN_self wr]; generalize hq_ : World.drewN wr _ = wr; have n0_ := Aside0.mk (qrp_ hq_ HO_650002.out); have n1_ := Aside0.mk (qhp_ hq_ BK643.out); have n2_ := Aside0.mk (qhp_ hq_ BK644.out); have n3_ := Aside0.mk (qhp_ hq_ BK645.out); have n4_ := Aside0.mk (qhp_ hq_ BK649.out); have n5_ : Aside0 (Below w.heap.size w wr) := ⟨qbp_ hq_⟩; clear HO_650002 BK643 BK644 BK645 BK649 HB hq_; have HO_650002 := n0_; have BK643 := n1_; have BK644 := n2_; have BK645 := n3_; have BK649 := n4_; have HB := n5_; clear n0_ n1_ n2_ n3_ n4_ n5_))
           replace HO_650002 := Aside0.mk (Kd.R_drew HO_650002.out); replace BK643 := Aside0.mk (blk_drew BK643.out); replace BK644 := Aside0.mk (blk_drew BK644.out); replace BK645 := Aside0.mk (blk_drew BK645.out); replace BK649 := Aside0.mk (blk_drew BK649.out); replace HB := Aside0.mk (below_drew1 HB.out); refine start_ (n := 16) (S := fun w' => w'.cell? ⟨gb649, 0, none⟩ = some (.int .i64 (wrap64 (a0_0 + a1_0))) ∧ w'.cell? ⟨gb649, 1, none⟩ = some (.int .i64 a0_1) ∧ w'.cell? ⟨gb649, 2, none⟩ = some (u650002) ∧ w'.cell? ⟨gb643, 0, none⟩ = some (.int .i64 a0_0) ∧ w'.cell? ⟨gb643, 1, none⟩ = some (.int .i64 a0_1) ∧ w'.cell? ⟨gb643, 2, none⟩ = some (.slice A0_2 l0_2.length c0_2) ∧ w'.cell? ⟨gb644, 0, none⟩ = some (.int .i64 a1_0) ∧ w'.cell? ⟨gb644, 1, none⟩ = some (.int .i64 a1_1) ∧ w'.cell? ⟨gb644, 2, none⟩ = some (.slice A1_2 l1_2.length c1_2)) (ds := [15]) #[false, false, false, false, false, false, false, false, false, false, false, false, false, false, false, false] (by kernel_rfl) rfl rfl ⟨bc_ BK649.out 0, bc_ BK649.out 1, bc_ BK649.out 2, bc_ BK643.out 0, bc_ BK643.out 1, bc_ BK643.out 2, bc_ BK644.out 0, bc_ BK644.out 1, bc_ BK644.out 2⟩ (fun hHeld => ?_); refine with_tabW rect_Beside.tab7 rect_Beside.bits7 (fun HT_ HW_ => ?_)
           generalize wr.drew = w60 at HO_650002 BK643 BK644 BK645 BK649 HB hHeld ⊢
           refine pur_ (i := 0) (N := some 48) #[true, false, false, false, false, false, false, false, false, false, false, false, false, false, false, false] (any_of HT_.out (by kernel_rfl)) ?_; refine pur_ (i := 3) (N := some 51) #[true, false, false, true, false, false, false, false, false, false, false, false, false, false, false, false] (any_of HT_.out (by kernel_rfl)) ?_; refine pur_ (i := 4) (N := some 52) #[true, false, false, true, true, false, false, false, false, false, false, false, false, false, false, false] (any_of HT_.out (by kernel_rfl)) ?_; refine pur_ (i := 9) (N := some 57) #[true, false, false, true, true, false, false, false, false, true, false, false, false, false, false, false] (any_of HT_.out (by kernel_rfl)) ?_; refine pur_ (i := 10) (N := some 58) #[true, false, false, true, true, false, false, false, false, true, true, false, false, false, false, false] (any_of HT_.out (by kernel_rfl)) ?_; refine tak_ (i := 1) (N := some 49) #[true, true, false, true, true, false, false, false, false, true, true, false, false, false, false, false] (take_ofW HT_.out HW_.out (by kernel_rfl)) hHeld ?_; refine tak_ (i := 2) (N := some 50) #[true, true, true, true, true, false, false, false, false, true, true, false, false, false, false, false] (take_ofW HT_.out HW_.out (by kernel_rfl)) hHeld ?_; refine tak_ (i := 5) (N := some 53) #[true, true, true, true, true, true, false, false, false, true, true, false, false, false, false, false] (take_ofW HT_.out HW_.out (by kernel_rfl)) hHeld ?_; refine tak_ (i := 8) (N := some 56) #[true, true, true, true, true, true, false, false, true, true, true, false, false, false, false, false] (take_ofW HT_.out HW_.out (by kernel_rfl)) hHeld ?_; refine tak_ (i := 11) (N := some 59) #[true, true, true, true, true, true, false, false, true, true, true, true, false, false, false, false] (take_ofW HT_.out HW_.out (by kernel_rfl)) hHeld ?_; refine one_ (i := 6) (N := some 54) #[true, true, true, true, true, true, true, false, true, true, true, true, false, false, false, false] rfl rfl (one_of HT_.out (by kernel_rfl)) (by decide) (fun K hK => ?_); refine goZ_ Try.func46 #[.agg #[.int .i64 a0_0, .int .i64 a0_1, .slice A0_2 l0_2.length c0_2], .int .i64 0, .int .i64 x45_2, .int .i64 a0_0] ?_
           with_reducible refine (rect_Matrix_row.calls a0_0 a0_1 (fun k_ => k_ < w.heap.size) _ _ l0_2 0 x45_2 a0_0 t650 _ ?side1 A56.out).mono ?_
           (case side1 => exact Kd.V_mk HC0_2.out (Kd.F_below (Kd.C_F (Kd.heap_int .u64) HR0_2.out) bp_))
           rintro e w61 ⟨v651, rfl, ho0, hb⟩
           refine ⟨_, rfl, ?_⟩; have HO652 := Aside0.mk (Kd.V_lower (Kd.V_mono (ok' := fun k_ => some k_ ≠ (u650002 : Value).ownBlock ∧ k_ ≠ gb643 ∧ k_ ≠ gb644 ∧ k_ ≠ gb645 ∧ k_ ≠ gb649) ho0 (fun k_ hk_ => ⟨Or.elim hk_ (fun hs_ => fun e_ => Nat.not_le.2 hs_ (Kd.R_base HO_650002.out k_ e_.symm)) (fr_ HO_650002.out k_), Or.elim hk_ (fun hs_ => fun e_ => Nat.not_le.2 hs_ (by rw [e_]; exact GW643.out)) (fb_ BK643.out k_), Or.elim hk_ (fun hs_ => fun e_ => Nat.not_le.2 hs_ (by rw [e_]; exact GW644.out)) (fb_ BK644.out k_), Or.elim hk_ (fun hs_ => fun e_ => Nat.not_le.2 hs_ (by rw [e_]; exact GW645.out)) (fb_ BK645.out k_), Or.elim hk_ (fun hs_ => fun e_ => Nat.not_le.2 hs_ (by rw [e_]; exact GW649.out)) (fb_ BK649.out k_)⟩)) (below_size bp_)); replace HO_650002 := rb_ HO_650002.out hb; replace BK643 := kb_ BK643.out hb; replace BK644 := kb_ BK644.out hb; replace BK645 := kb_ BK645.out hb; replace BK649 := kb_ BK649.out hb; replace HB := Aside0.mk (below_step bp_ hb)
           (try clear hb)
           (try clear hb2)
           (try clear hk)
           (try clear hi)
           (try clear ho0)
           obtain ⟨Ao63, co63, eo63⟩ := Kd.V_slice HO652.out
           (first | subst eo63 | (injection eo63 with f1_ f2_ f3_; have f4_ := f1_.symm; have f5_ := f3_.symm; clear f1_ f2_ f3_; subst f4_; subst f5_))
           refine hK.out _ _ ⟨bc_ BK649.out 0, bc_ BK649.out 1, bc_ BK649.out 2, bc_ BK643.out 0, bc_ BK643.out 1, bc_ BK643.out 2, bc_ BK644.out 0, bc_ BK644.out 1, bc_ BK644.out 2⟩ (fun hHeld => ?_); clear hK K; refine nor_ (some 54) ?_; refine one_ (i := 7) (N := some 55) #[true, true, true, true, true, true, true, true, true, true, true, true, false, false, false, false] rfl rfl (one_of HT_.out (by kernel_rfl)) (by decide) (fun K hK => ?_); refine Kd.R_append_rows_step (Kd.int .u64) (w0 := w) w.heap.size (by rfl) (.tmp 49) (.tmp 54) 22 46 (.int .u64 0) 8 rfl Try.underlying22 info46 rfl (by decide) (by omega) u650002 x650002_2 t650 _ _ _ (fun _ => True) (fun _ => False) rfl rfl ?aO ?aR (fun _ _ h => h) (fun _ h => h.elim) ?aF ?aB ?aS ?aL ?_
           (case aR => repeat (first | exact (Kd.V_reads' HO652.out).2.2 | (with_reducible refine Kd.C_alloc ?_ _) | (with_reducible refine Kd.C_drewN ?_ _) | (with_reducible refine Kd.C_drew ?_)))
           (case aB => exact bp_)
           (case aF => exact (fun _ _ => trivial))
           (case aO => exact (rp_ HO_650002.out))
           (case aS => exact (below_size bp_))
           (case aL => have := LMc57.out; omega)
           intro v654 w62 ho hb hg hat
           rw [← Ny653.out] at ho; replace BK643 := Aside0.mk (blk_grown (g := gb643) (o := .cells #[.int .i64 a0_0, .int .i64 a0_1, .slice A0_2 l0_2.length c0_2] 32 (0, 0)) (hp_ BK643.out) hg (Kd.R_ne HO_650002.out BK643.out (by decide))); replace BK644 := Aside0.mk (blk_grown (g := gb644) (o := .cells #[.int .i64 a1_0, .int .i64 a1_1, .slice A1_2 l1_2.length c1_2] 32 (0, 0)) (hp_ BK644.out) hg (Kd.R_ne HO_650002.out BK644.out (by decide))); replace BK645 := Aside0.mk (blk_grown (g := gb645) (o := .cells #[.int .i64 0, .int .i64 0, .slice none 0 0] 32 (0, 0)) (hp_ BK645.out) hg (Kd.R_ne HO_650002.out BK645.out (by decide))); replace BK649 := Aside0.mk (blk_grown (g := gb649) (o := .cells #[.int .i64 (wrap64 (a0_0 + a1_0)), .int .i64 a0_1, u650002] 32 (0, 0)) (hp_ BK649.out) hg (Kd.R_ne HO_650002.out BK649.out (by decide))); replace HO652 := Aside0.mk (Kd.V_afterv (ok := (fun k_ => k_ ≠ gb643 ∧ k_ ≠ gb644 ∧ k_ ≠ gb645 ∧ k_ ≠ gb649)) (vm_ HO652.out) hg hat); replace HB := Aside0.mk (hb); have HO655 := Aside0.mk (ho); clear HO_650002; clear ho hb hg hat; refine hK.out _ _ ⟨bc_ BK649.out 0, bc_ BK649.out 1, bc_ BK649.out 2, bc_ BK643.out 0, bc_ BK643.out 1, bc_ BK643.out 2, bc_ BK644.out 0, bc_ BK644.out 1, bc_ BK644.out 2⟩ (fun hHeld => ?_); clear hK K; refine nor_ (some 55) ?_; refine one_ (i := 12) (N := some 60) #[true, true, true, true, true, true, true, true, true, true, true, true, true, false, false, false] rfl rfl (one_of HT_.out (by kernel_rfl)) (by decide) (fun K hK => ?_); refine goZ_ Try.func46 #[.agg #[.int .i64 a1_0, .int .i64 a1_1, .slice A1_2 l1_2.length c1_2], .int .i64 0, .int .i64 x45_2, .int .i64 a1_0] ?_
           with_reducible refine (rect_Matrix_row.calls a1_0 a1_1 (fun k_ => k_ < w.heap.size) _ _ l1_2 0 x45_2 a1_0 t656 _ ?side1 A58.out).mono ?_
           (case side1 => exact Kd.V_mk HC1_2.out (Kd.F_below (Kd.C_F (Kd.heap_int .u64) HR1_2.out) bp_))
           rintro e w64 ⟨v657, rfl, ho0, hb⟩
           refine ⟨_, rfl, ?_⟩; replace HO652 := vb_ HO652.out hb; have HO658 := Aside0.mk (Kd.V_lower (Kd.V_mono (ok' := fun k_ => some k_ ≠ (v654 : Value).ownBlock ∧ k_ ≠ gb643 ∧ k_ ≠ gb644 ∧ k_ ≠ gb645 ∧ k_ ≠ gb649) ho0 (fun k_ hk_ => ⟨Or.elim hk_ (fun hs_ => fun e_ => Nat.not_le.2 hs_ (Kd.R_base HO655.out k_ e_.symm)) (fr_ HO655.out k_), Or.elim hk_ (fun hs_ => fun e_ => Nat.not_le.2 hs_ (by rw [e_]; exact GW643.out)) (fb_ BK643.out k_), Or.elim hk_ (fun hs_ => fun e_ => Nat.not_le.2 hs_ (by rw [e_]; exact GW644.out)) (fb_ BK644.out k_), Or.elim hk_ (fun hs_ => fun e_ => Nat.not_le.2 hs_ (by rw [e_]; exact GW645.out)) (fb_ BK645.out k_), Or.elim hk_ (fun hs_ => fun e_ => Nat.not_le.2 hs_ (by rw [e_]; exact GW649.out)) (fb_ BK649.out k_)⟩)) (below_size bp_)); replace HO655 := rb_ HO655.out hb; replace BK643 := kb_ BK643.out hb; replace BK644 := kb_ BK644.out hb; replace BK645 := kb_ BK645.out hb; replace BK649 := kb_ BK649.out hb; replace HB := Aside0.mk (below_step bp_ hb)
           (try clear hb)
           (try clear hb2)
           (try clear hk)
           (try clear hi)
           (try clear ho0)
           obtain ⟨Ao66, co66, eo66⟩ := Kd.V_slice HO658.out
           (first | subst eo66 | (injection eo66 with f1_ f2_ f3_; have f4_ := f1_.symm; have f5_ := f3_.symm; clear f1_ f2_ f3_; subst f4_; subst f5_))
           refine hK.out _ _ ⟨bc_ BK649.out 0, bc_ BK649.out 1, bc_ BK649.out 2, bc_ BK643.out 0, bc_ BK643.out 1, bc_ BK643.out 2, bc_ BK644.out 0, bc_ BK644.out 1, bc_ BK644.out 2⟩ (fun hHeld => ?_); clear hK K; refine nor_ (some 60) ?_; refine one_ (i := 13) (N := some 61) #[true, true, true, true, true, true, true, true, true, true, true, true, true, true, false, false] rfl rfl (one_of HT_.out (by kernel_rfl)) (by decide) (fun K hK => ?_); refine Kd.R_append_rows_step (Kd.int .u64) (w0 := w) w.heap.size (by rfl) (.tmp 55) (.tmp 60) 22 46 (.int .u64 0) 8 rfl Try.underlying22 info46 rfl (by decide) (by omega) v654 y653 t656 _ _ _ (fun _ => True) (fun _ => False) rfl rfl ?aO ?aR (fun _ _ h => h) (fun _ h => h.elim) ?aF ?aB ?aS ?aL ?_
           (case aR => repeat (first | exact (Kd.V_reads' HO658.out).2.2 | (with_reducible refine Kd.C_alloc ?_ _) | (with_reducible refine Kd.C_drewN ?_ _) | (with_reducible refine Kd.C_drew ?_)))
           (case aB => exact bp_)
           (case aF => exact (fun _ _ => trivial))
           (case aO => exact (rp_ HO655.out))
           (case aS => exact (below_size bp_))
           (case aL => have := LMc59.out; omega)
           intro v660 w65 ho hb hg hat
           rw [← Ny659.out] at ho; replace BK643 := Aside0.mk (blk_grown (g := gb643) (o := .cells #[.int .i64 a0_0, .int .i64 a0_1, .slice A0_2 l0_2.length c0_2] 32 (0, 0)) (hp_ BK643.out) hg (Kd.R_ne HO655.out BK643.out (by decide))); replace BK644 := Aside0.mk (blk_grown (g := gb644) (o := .cells #[.int .i64 a1_0, .int .i64 a1_1, .slice A1_2 l1_2.length c1_2] 32 (0, 0)) (hp_ BK644.out) hg (Kd.R_ne HO655.out BK644.out (by decide))); replace BK645 := Aside0.mk (blk_grown (g := gb645) (o := .cells #[.int .i64 0, .int .i64 0, .slice none 0 0] 32 (0, 0)) (hp_ BK645.out) hg (Kd.R_ne HO655.out BK645.out (by decide))); replace BK649 := Aside0.mk (blk_grown (g := gb649) (o := .cells #[.int .i64 (wrap64 (a0_0 + a1_0)), .int .i64 a0_1, u650002] 32 (0, 0)) (hp_ BK649.out) hg (Kd.R_ne HO655.out BK649.out (by decide))); replace HO652 := Aside0.mk (Kd.V_afterv (ok := (fun k_ => k_ ≠ gb643 ∧ k_ ≠ gb644 ∧ k_ ≠ gb645 ∧ k_ ≠ gb649)) (vp_ HO652.out) hg hat); replace HO658 := Aside0.mk (Kd.V_afterv (ok := (fun k_ => k_ ≠ gb643 ∧ k_ ≠ gb644 ∧ k_ ≠ gb645 ∧ k_ ≠ gb649)) (vm_ HO658.out) hg hat); replace HB := Aside0.mk (hb); have HO661 := Aside0.mk (ho); clear HO655; clear ho hb hg hat
           obtain ⟨Ao67, co67, eo67⟩ := Kd.R_slice HO661.out
           (first | subst eo67 | (injection eo67 with f1_ f2_ f3_; have f4_ := f1_.symm; have f5_ := f3_.symm; clear f1_ f2_ f3_; subst f4_; subst f5_))
           refine hK.out _ _ ⟨bc_ BK649.out 0, bc_ BK649.out 1, bc_ BK649.out 2, bc_ BK643.out 0, bc_ BK643.out 1, bc_ BK643.out 2, bc_ BK644.out 0, bc_ BK644.out 1, bc_ BK644.out 2⟩ (fun hHeld => ?_); clear hK K; refine nor_ (some 61) ?_; refine pur_ (i := 14) (N := some 62) #[true, true, true, true, true, true, true, true, true, true, true, true, true, true, true, false] (any_of HT_.out (by kernel_rfl)) ?_; refine last_ (i := 15) (N := none) #[true, true, true, true, true, true, true, true, true, true, true, true, true, true, true, true] rfl rfl (one_of HT_.out (by kernel_rfl)) (by decide) (fun K hK => ?_)
           have hs68 : w65.cell? ⟨gb649, 2, none⟩ = some (u650002) := bc_ BK649.out 2
           have hfs68 := blk_frozen BK649.out 2; have hns68_0 := NB643_649.out; have hns68_1 := NB644_649.out; have hns68_2 := NB645_649.out; have hms68_0 := NB649_643.out; have hms68_1 := NB649_644.out; have hms68_2 := NB649_645.out; refine skip_ (w1 := ?_) (by rfl) rfl ?_ ?_; rotate_left
           · go_simp; rfl
           refine hK.out _ _ ?_; clear hK K; refine done_ (done_of HT_.out (by kernel_rfl)) ?_
           try go_wp2
           go_roundg k2
           case measure => have := HJ2.out; have := HK2.out; omega
           case rel => exact ⟨(wrap64 (x45_2 + 1)), (y659), (.slice Ao67 y659.length co67), (by first | rfl | (simp; done) | (simp [*]; done)), H', ⟨by have := HJ2.out; have := HK2.out; omega⟩, ⟨rf_ HO661.out BK649.out (by decide) (fun _ hk => trivial)⟩, ⟨hf_ BK643.out NB643_649.out⟩, ⟨hf_ BK644.out NB644_649.out⟩, ⟨hf_ BK645.out NB645_649.out⟩, ⟨by (with_reducible repeat (first | refine blk_drewN ?_ _ | refine blk_drew ?_ | refine blk_alloc ?_ _)); refine blk_put (cs := #[.int .i64 (wrap64 (a0_0 + a1_0)), .int .i64 a0_1, u650002]) ?_ 2 _ rfl; (with_reducible repeat (first | refine blk_drewN ?_ _ | refine blk_drew ?_ | refine blk_alloc ?_ _)); exact BK649.out⟩, ⟨bp_⟩⟩
         rw [if_neg c59] at H
         exact absurd H (by simp)
       rw [if_neg c57] at H
       exact absurd H (by simp)
     rw [if_neg c55] at H
     have c55b0 : decide (x45_2 < a0_1) = false := decide_eq_false c55
     clear c55; simp only [Option.some.injEq, Prod.mk.injEq] at H; obtain ⟨rfl, rfl, rfl, rfl⟩ := H; have hnb69 := NB649_645.out; have hnc69 := NB645_649.out
     have hcz70_0 : wr.cell? ⟨gb649, 0, none⟩ = some (.int .i64 (wrap64 (a0_0 + a1_0))) := bc_ BK649.out 0
     have hcz70_1 : wr.cell? ⟨gb649, 1, none⟩ = some (.int .i64 a0_1) := bc_ BK649.out 1
     have hcz70_2 : wr.cell? ⟨gb649, 2, none⟩ = some (u650002) := bc_ BK649.out 2
     have hfz70_0 := blk_frozen BK649.out 0; have hfz70_1 := blk_frozen BK649.out 1; have hfz70_2 := blk_frozen BK649.out 2
     have hcz71_0 : wr.cell? ⟨gb645, 0, none⟩ = some (.int .i64 0) := bc_ BK645.out 0
     have hcz71_1 : wr.cell? ⟨gb645, 1, none⟩ = some (.int .i64 0) := bc_ BK645.out 1
     have hcz71_2 : wr.cell? ⟨gb645, 2, none⟩ = some (.slice none 0 0) := bc_ BK645.out 2
     have hfz71_0 := blk_frozen BK645.out 0; have hfz71_1 := blk_frozen BK645.out 1; have hfz71_2 := blk_frozen BK645.out 2
     obtain ⟨Ao72, co72, eo72⟩ := Kd.R_slice HO_650002.out
     subst eo72
     go_wp2
     refine bodyPost_ret (results_ct rfl _ _ gb645 32 #[.int .i64 (wrap64 (a0_0 + a1_0)), .int .i64 a0_1, .slice Ao72 x650002_2.length co72] (0, 0) _ rfl (by (with_reducible repeat (first | refine blk_drewN ?_ _ | refine blk_drew ?_ | refine blk_alloc ?_ _)); refine blk_put (cs := #[.int .i64 (wrap64 (a0_0 + a1_0)), .int .i64 a0_1, .slice none 0 0]) ?_ 2 _ rfl; (with_reducible repeat (first | refine blk_drewN ?_ _ | refine blk_drew ?_ | refine blk_alloc ?_ _)); refine blk_put (cs := #[.int .i64 (wrap64 (a0_0 + a1_0)), .int .i64 0, .slice none 0 0]) ?_ 1 _ rfl; (with_reducible repeat (first | refine blk_drewN ?_ _ | refine blk_drew ?_ | refine blk_alloc ?_ _)); refine blk_put (cs := #[.int .i64 0, .int .i64 0, .slice none 0 0]) ?_ 0 _ rfl; (with_reducible repeat (first | refine blk_drewN ?_ _ | refine blk_drew ?_ | refine blk_alloc ?_ _)); exact BK645.out) Try.underlying32 rfl (by kernel_rfl)) rfl ?_
     exact ⟨_, by first | rfl | (simp [errW_none, errW_some] <;> rfl) | (simp [*, errW_none, errW_some] <;> rfl), rf_ HO_650002.out BK645.out (by decide) (fun _ hk => trivial), bp_⟩

end Go.Proofs.Ytidpaaemfiopkaa.Q
