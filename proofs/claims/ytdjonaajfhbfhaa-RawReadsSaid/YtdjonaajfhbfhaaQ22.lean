-- written by our own program (wip/tools/myprint.py) out of the translation, by the kit's print; Lean checks it
import Derived.Test.YtdjonaajfhbfhaaQ0
import Derived.Test.YtdjonaajfhbfhaaQ3
import Derived.Test.YtdjonaajfhbfhaaQ9
import Derived.Test.YtdjonaajfhbfhaaQ12
import Derived.Test.YtdjonaajfhbfhaaIraw_Read
import Derived.Test.YtdjonaajfhbfhaaQ20
import Derived.Test.YtdjonaajfhbfhaaQ21
namespace Go.Proofs.Ytdjonaajfhbfhaa.Q
open Go.RowKit Go.Proofs.YtdjonaajfhbfhaaW.PrintWords Go.Proofs.YtdjonaajfhbfhaaW.PrintLast Go.Proofs.YtdjonaajfhbfhaaW.PrintMore
attribute [local go_sem] max2_int min2_int max_two min_two max_three min_three max_four min_four   -- for this text's walks alone
set_option linter.unusedVariables false
set_option linter.unusedSimpArgs false


/-! ### chequerref09_Read: function 17 -/
def chequerref09_Read.l0 : Nat → List Int → List Int → Int → Int → Int → Int → Int → Int → Option (List Int × Int)
 | 0, _, _, _, _, _, _, _, _ => none
 | k + 1, x0, x7, x8, x9, x325000, x325001, x325002, x325003 => if x9 < x325002 then (if 0 ≤ (wrap64 (x9 * x8)) then (if (wrap64 (x9 * x8)) ≤ (wrap64 ((wrap64 (x9 * x8)) + x8)) then (if (wrap64 ((wrap64 (x9 * x8)) + x8)) ≤ (x0.length : Int) then ((chequerref09_Row.f k ((x0.take ((wrap64 ((wrap64 (x9 * x8)) + x8)) : Int).toNat).drop ((wrap64 (x9 * x8)) : Int).toNat) x325000 x325001 x325002 x325003).bind fun t330 => (if x7.length + t330.length < 17592186044416 then (chequerref09_Read.l0 k x0 (x7 ++ t330) x8 (wrap64 (x9 + 1)) x325000 x325001 x325002 x325003) else (none))) else (none)) else (none)) else (none)) else (some (x7, 0))
def chequerref09_Read.f (k : Nat) (l0 : List Int) (a1_0 : Int) (a1_1 : Int) (a1_2 : Int) (a1_3 : Int) : Option (List Int × Int) := (chequerref09_May.f a1_0 a1_1 a1_2 a1_3).bind fun t325 => (if t325 = true then ((chequerref09_Bad.f k l0 a1_0 a1_1 a1_2 a1_3).bind fun t326 => (if t326 > 0 then (some (([] : List Int), 5)) else ((chequerref06_Size.f a1_0 a1_1 a1_2 a1_3).bind fun t327 => (if (l0.length : Int) < t327 then (some (([] : List Int), 6)) else ((chequerref09_Stride.f a1_0 a1_1 a1_2 a1_3).bind fun t328 => (chequerref09_Read.l0 k l0 ([] : List Int) t328 0 a1_0 a1_1 a1_2 a1_3)))))) else (some (([] : List Int), 1)))
theorem chequerref09_Read.mono_l : ∀ k, (∀ y0 y1 y2 y3 y4 y5 y6 y7, LeO (chequerref09_Read.l0 k y0 y1 y2 y3 y4 y5 y6 y7) (chequerref09_Read.l0 (k + 1) y0 y1 y2 y3 y4 y5 y6 y7))
 | 0 => fun _ _ _ _ _ _ _ _ r h => by simp [chequerref09_Read.l0] at h
 | k + 1 => by
  have ih0 := chequerref09_Read.mono_l k
  · intro y0 y1 y2 y3 y4 y5 y6 y7
    unfold chequerref09_Read.l0
    repeat' first
    | (with_reducible exact ih0 _ _ _ _ _ _ _ _)
    | (with_reducible exact chequerref09_Bad.mono _ _ _ _ _ _)
    | (with_reducible exact chequerref09_Row.mono _ _ _ _ _ _)
    | (with_reducible exact LeO.refl _)
    | (with_reducible exact LeO.none _)
    | (with_reducible refine LeO.ite ?_ ?_)
    | (with_reducible refine LeO.bind ?_ (fun _ => ?_))
    | exact ih0 _ _ _ _ _ _ _ _
    | exact chequerref09_Bad.mono _ _ _ _ _ _
    | exact chequerref09_Row.mono _ _ _ _ _ _
    | exact LeO.none _
    | refine LeO.ite ?_ ?_
    | refine LeO.bind ?_ (fun _ => ?_)
theorem chequerref09_Read.mono : ∀ a0 a1 a2 a3 a4 k, LeO (chequerref09_Read.f k a0 a1 a2 a3 a4) (chequerref09_Read.f (k + 1) a0 a1 a2 a3 a4) := by
 intro a0 a1 a2 a3 a4 k
 have ih0 := chequerref09_Read.mono_l k
 unfold chequerref09_Read.f
 repeat' first
  | (with_reducible exact ih0 _ _ _ _ _ _ _ _)
  | (with_reducible exact chequerref09_Bad.mono _ _ _ _ _ _)
  | (with_reducible exact chequerref09_Row.mono _ _ _ _ _ _)
  | (with_reducible exact LeO.refl _)
  | (with_reducible exact LeO.none _)
  | (with_reducible refine LeO.ite ?_ ?_)
  | (with_reducible refine LeO.bind ?_ (fun _ => ?_))
  | exact ih0 _ _ _ _ _ _ _ _
  | exact chequerref09_Bad.mono _ _ _ _ _ _
  | exact chequerref09_Row.mono _ _ _ _ _ _
  | exact LeO.none _
  | refine LeO.ite ?_ ?_
  | refine LeO.bind ?_ (fun _ => ?_)
def chequerref09_Read.T13 : Bool × List (List Nat × List Nat) := (true, [([], []), ([], []), ([], []), ([], []), ([2, 3], [2, 3]), ([], []), ([], []), ([5, 6], [5, 6]), ([], []), ([7, 8], [7, 8]), ([1, 4, 9], [1, 4, 9]), ([], []), ([10, 11], [10, 11]), ([0, 12, 12], [0, 12]), ([13, 13, 0, 1, 2, 3, 4, 5, 6, 7, 8, 9, 10, 11, 12, 13], [0, 13])])
def chequerref09_Read.B13 : List Nat := [0, 0, 0, 0, 12, 0, 0, 96, 0, 480, 1022, 0, 4094, 8191, 16383]
theorem chequerref09_Read.tab13 : rtab .any (opsOf Try.f17 13) = chequerref09_Read.T13 := by kernel_rfl
theorem chequerref09_Read.bits13 : waitsOk chequerref09_Read.T13.2 chequerref09_Read.B13 = true := by kernel_rfl
set_option maxHeartbeats 8000000 in
set_option maxRecDepth 100000 in
theorem chequerref09_Read.calls (k : Nat) (A0 : Option Addr) (c0 : Nat) (l0 : List Int) (a1_0 : Int) (a1_1 : Int) (a1_2 : Int) (a1_3 : Int) (r1 : List Int) (r2 : Int) (w : World) (hr0 : Kd.C (Kd.int .u8) w A0 l0.length l0) (hc0 : l0.length ≤ c0) (h : chequerref09_Read.f k l0 a1_0 a1_1 a1_2 a1_3 = some (r1, r2)) :
 Calls Try.prog 17 #[.slice A0 l0.length c0, .agg #[.int .i64 a1_0, .int .i64 a1_1, .int .i64 a1_2, .int .i64 a1_3]] w fun e w' => ∃ v0_ : Value, e = .returned (.tuple #[v0_, .int .i64 r2]) ∧ Kd.R (Kd.int .u64) 26 w' w.heap.size (fun _ => True) v0_ r1 ∧ Below w.heap.size w w' := by
 have hu23 := Try.underlying23
 have HR0 := Aside0.mk hr0
 have HC0 := Aside0.mk hc0
 clear hr0 hc0
 have HB := Aside0.mk (Below.refl w.heap.size w)
 have H : ((chequerref09_May.f a1_0 a1_1 a1_2 a1_3).bind fun t325 => (if t325 = true then ((chequerref09_Bad.f k l0 a1_0 a1_1 a1_2 a1_3).bind fun t326 => (if t326 > 0 then (some (([] : List Int), 5)) else ((chequerref06_Size.f a1_0 a1_1 a1_2 a1_3).bind fun t327 => (if (l0.length : Int) < t327 then (some (([] : List Int), 6)) else ((chequerref09_Stride.f a1_0 a1_1 a1_2 a1_3).bind fun t328 => (chequerref09_Read.l0 k l0 ([] : List Int) t328 0 a1_0 a1_1 a1_2 a1_3)))))) else (some (([] : List Int), 1)))) = some (r1, r2) := h
 clear h
 replace H := Option.bind_eq_some_iff.mp H
 obtain ⟨t325, A30, H⟩ := H
 replace H : (if t325 = true then ((chequerref09_Bad.f k l0 a1_0 a1_1 a1_2 a1_3).bind fun t326 => (if t326 > 0 then (some (([] : List Int), 5)) else ((chequerref06_Size.f a1_0 a1_1 a1_2 a1_3).bind fun t327 => (if (l0.length : Int) < t327 then (some (([] : List Int), 6)) else ((chequerref09_Stride.f a1_0 a1_1 a1_2 a1_3).bind fun t328 => (chequerref09_Read.l0 k l0 ([] : List Int) t328 0 a1_0 a1_1 a1_2 a1_3)))))) else (some (([] : List Int), 1))) = some (r1, r2) := H
 have A3 := Aside0.mk A30
 clear A30
 by_cases c4 : t325 = true
 · subst c4
   have H1 : ((chequerref09_Bad.f k l0 a1_0 a1_1 a1_2 a1_3).bind fun t326 => (if t326 > 0 then (some (([] : List Int), 5)) else ((chequerref06_Size.f a1_0 a1_1 a1_2 a1_3).bind fun t327 => (if (l0.length : Int) < t327 then (some (([] : List Int), 6)) else ((chequerref09_Stride.f a1_0 a1_1 a1_2 a1_3).bind fun t328 => (chequerref09_Read.l0 k l0 ([] : List Int) t328 0 a1_0 a1_1 a1_2 a1_3)))))) = some (r1, r2) := by rw [if_pos rfl] at H; exact H
   clear H
   have H := H1
   clear H1
   replace H := Option.bind_eq_some_iff.mp H
   obtain ⟨t326, A50, H⟩ := H
   replace H : (if t326 > 0 then (some (([] : List Int), 5)) else ((chequerref06_Size.f a1_0 a1_1 a1_2 a1_3).bind fun t327 => (if (l0.length : Int) < t327 then (some (([] : List Int), 6)) else ((chequerref09_Stride.f a1_0 a1_1 a1_2 a1_3).bind fun t328 => (chequerref09_Read.l0 k l0 ([] : List Int) t328 0 a1_0 a1_1 a1_2 a1_3))))) = some (r1, r2) := H
   have A5 := Aside0.mk A50
   clear A50
   by_cases c6 : t326 > 0
   · rw [if_pos c6] at H
     have c6b0 : decide (0 < t326) = true := decide_eq_true c6
     clear c6
     simp only [Option.some.injEq, Prod.mk.injEq] at H
     obtain ⟨rfl, rfl⟩ := H
     go_enter Try.func17, Try.ntmps17
     go_wp2_with (first | ((with_reducible refine gate_dst (N := 3) rfl ?_); refine box_event ?hg (N := 3) ?hd (cs := #[.int .i64 a1_0, .int .i64 a1_1, .int .i64 a1_2, .int .i64 a1_3]) (t := 23) ?hr ?_; (case hd => rfl); (case hg => rfl); (case hr => first | (go_simp; done) | (go_simp; rfl)); intro gb324 hg w7 hbox hb; have BK324 := Aside0.mk (hbox); have GW324 := Aside0.mk ((by rw [hg]; exact (below_size bp_) : w.heap.size ≤ gb324)); have GE324 := Aside0.mk ((by rw [hg]; exact (below_size bp_) : w.heap.size ≤ gb324)); replace HB := Aside0.mk (below_step bp_ hb); clear hb hbox hg; have hcz8_0 : w7.cell? ⟨gb324, 0, none⟩ = some (.int .i64 a1_0) := (blk_cell BK324.out 0).trans rfl; have hcz8_1 : w7.cell? ⟨gb324, 1, none⟩ = some (.int .i64 a1_1) := (blk_cell BK324.out 1).trans rfl; have hcz8_2 : w7.cell? ⟨gb324, 2, none⟩ = some (.int .i64 a1_2) := (blk_cell BK324.out 2).trans rfl; have hcz8_3 : w7.cell? ⟨gb324, 3, none⟩ = some (.int .i64 a1_3) := (blk_cell BK324.out 3).trans rfl; have hfz8_0 := blk_frozen BK324.out 0; have hfz8_1 := blk_frozen BK324.out 1; have hfz8_2 := blk_frozen BK324.out 2; have hfz8_3 := blk_frozen BK324.out 3) | ((with_reducible refine gate_callee (f := 28) rfl ?_); refine goQ_ (some 11) Try.func28 #[.agg #[.int .i64 a1_0, .int .i64 a1_1, .int .i64 a1_2, .int .i64 a1_3]] ?_; (with_reducible refine (chequerref09_May.calls a1_0 a1_1 a1_2 a1_3 true _ A3.out).mono ?_); rintro e w9 ⟨rfl, hb⟩; refine ⟨_, rfl, ?_⟩; replace BK324 := Aside0.mk (blk_below (hp_ BK324.out) hb); replace HB := Aside0.mk (below_step bp_ hb); (try clear hb); (try clear hb2); (try clear hk); (try clear hi); have hcz10_0 : w9.cell? ⟨gb324, 0, none⟩ = some (.int .i64 a1_0) := (blk_cell BK324.out 0).trans rfl; have hcz10_1 : w9.cell? ⟨gb324, 1, none⟩ = some (.int .i64 a1_1) := (blk_cell BK324.out 1).trans rfl; have hcz10_2 : w9.cell? ⟨gb324, 2, none⟩ = some (.int .i64 a1_2) := (blk_cell BK324.out 2).trans rfl; have hcz10_3 : w9.cell? ⟨gb324, 3, none⟩ = some (.int .i64 a1_3) := (blk_cell BK324.out 3).trans rfl; have hfz10_0 := blk_frozen BK324.out 0; have hfz10_1 := blk_frozen BK324.out 1; have hfz10_2 := blk_frozen BK324.out 2; have hfz10_3 := blk_frozen BK324.out 3) | ((with_reducible refine gate_callee (f := 23) rfl ?_); refine goQ_ (some 16) Try.func23 #[.slice A0 l0.length c0, .agg #[.int .i64 a1_0, .int .i64 a1_1, .int .i64 a1_2, .int .i64 a1_3]] ?_; (with_reducible refine (chequerref09_Bad.calls k _ _ l0 a1_0 a1_1 a1_2 a1_3 t326 _ ?side1 ?side2 A5.out).mono ?_); (case side1 => repeat (first | exact (Kd.C_below HR0.out HB.out) | (with_reducible refine Kd.C_alloc ?_ _) | (with_reducible refine Kd.C_drewN ?_ _) | (with_reducible refine Kd.C_drew ?_))); (case side2 => exact HC0.out); rintro e w11 ⟨rfl, hb⟩; refine ⟨_, rfl, ?_⟩; replace HB := Aside0.mk (below_step bp_ hb); (try clear hb); (try clear hb2); (try clear hk); (try clear hi)))
     go_ret2
     exact ⟨_, by first | rfl | (simp [errW_none, errW_some] <;> rfl) | (simp [*, errW_none, errW_some] <;> rfl), by first | exact Kd.R_nil _ _ _ _ _ | exact Kd.N_nil _ _ _ _ _ | exact Kd.V_nil _ _ _ _ _ | exact Kd.Q_nil _ _ _ _ _ | exact Kd.S_nil _ _ _ _ _, bp_⟩
   · rw [if_neg c6] at H
     have c6b0 : decide (0 < t326) = false := decide_eq_false c6
     clear c6
     replace H := Option.bind_eq_some_iff.mp H
     obtain ⟨t327, A120, H⟩ := H
     replace H : (if (l0.length : Int) < t327 then (some (([] : List Int), 6)) else ((chequerref09_Stride.f a1_0 a1_1 a1_2 a1_3).bind fun t328 => (chequerref09_Read.l0 k l0 ([] : List Int) t328 0 a1_0 a1_1 a1_2 a1_3))) = some (r1, r2) := H
     have A12 := Aside0.mk A120
     clear A120
     by_cases c13 : (l0.length : Int) < t327
     · rw [if_pos c13] at H
       have c13b0 : decide ((l0.length : Int) < t327) = true := decide_eq_true c13
       clear c13
       simp only [Option.some.injEq, Prod.mk.injEq] at H
       obtain ⟨rfl, rfl⟩ := H
       go_enter Try.func17, Try.ntmps17
       go_wp2_with (first | ((with_reducible refine gate_dst (N := 3) rfl ?_); refine box_event ?hg (N := 3) ?hd (cs := #[.int .i64 a1_0, .int .i64 a1_1, .int .i64 a1_2, .int .i64 a1_3]) (t := 23) ?hr ?_; (case hd => rfl); (case hg => rfl); (case hr => first | (go_simp; done) | (go_simp; rfl)); intro gb324 hg w14 hbox hb; have BK324 := Aside0.mk (hbox); have GW324 := Aside0.mk ((by rw [hg]; exact (below_size bp_) : w.heap.size ≤ gb324)); have GE324 := Aside0.mk ((by rw [hg]; exact (below_size bp_) : w.heap.size ≤ gb324)); replace HB := Aside0.mk (below_step bp_ hb); clear hb hbox hg; have hcz15_0 : w14.cell? ⟨gb324, 0, none⟩ = some (.int .i64 a1_0) := (blk_cell BK324.out 0).trans rfl; have hcz15_1 : w14.cell? ⟨gb324, 1, none⟩ = some (.int .i64 a1_1) := (blk_cell BK324.out 1).trans rfl; have hcz15_2 : w14.cell? ⟨gb324, 2, none⟩ = some (.int .i64 a1_2) := (blk_cell BK324.out 2).trans rfl; have hcz15_3 : w14.cell? ⟨gb324, 3, none⟩ = some (.int .i64 a1_3) := (blk_cell BK324.out 3).trans rfl; have hfz15_0 := blk_frozen BK324.out 0; have hfz15_1 := blk_frozen BK324.out 1; have hfz15_2 := blk_frozen BK324.out 2; have hfz15_3 := blk_frozen BK324.out 3) | ((with_reducible refine gate_callee (f := 28) rfl ?_); refine goQ_ (some 11) Try.func28 #[.agg #[.int .i64 a1_0, .int .i64 a1_1, .int .i64 a1_2, .int .i64 a1_3]] ?_; (with_reducible refine (chequerref09_May.calls a1_0 a1_1 a1_2 a1_3 true _ A3.out).mono ?_); rintro e w16 ⟨rfl, hb⟩; refine ⟨_, rfl, ?_⟩; replace BK324 := Aside0.mk (blk_below (hp_ BK324.out) hb); replace HB := Aside0.mk (below_step bp_ hb); (try clear hb); (try clear hb2); (try clear hk); (try clear hi); have hcz17_0 : w16.cell? ⟨gb324, 0, none⟩ = some (.int .i64 a1_0) := (blk_cell BK324.out 0).trans rfl; have hcz17_1 : w16.cell? ⟨gb324, 1, none⟩ = some (.int .i64 a1_1) := (blk_cell BK324.out 1).trans rfl; have hcz17_2 : w16.cell? ⟨gb324, 2, none⟩ = some (.int .i64 a1_2) := (blk_cell BK324.out 2).trans rfl; have hcz17_3 : w16.cell? ⟨gb324, 3, none⟩ = some (.int .i64 a1_3) := (blk_cell BK324.out 3).trans rfl; have hfz17_0 := blk_frozen BK324.out 0; have hfz17_1 := blk_frozen BK324.out 1; have hfz17_2 := blk_frozen BK324.out 2; have hfz17_3 := blk_frozen BK324.out 3) | ((with_reducible refine gate_callee (f := 23) rfl ?_); refine goQ_ (some 16) Try.func23 #[.slice A0 l0.length c0, .agg #[.int .i64 a1_0, .int .i64 a1_1, .int .i64 a1_2, .int .i64 a1_3]] ?_; (with_reducible refine (chequerref09_Bad.calls k _ _ l0 a1_0 a1_1 a1_2 a1_3 t326 _ ?side1 ?side2 A5.out).mono ?_); (case side1 => repeat (first | exact (Kd.C_below HR0.out HB.out) | (with_reducible refine Kd.C_alloc ?_ _) | (with_reducible refine Kd.C_drewN ?_ _) | (with_reducible refine Kd.C_drew ?_))); (case side2 => exact HC0.out); rintro e w18 ⟨rfl, hb⟩; refine ⟨_, rfl, ?_⟩; replace BK324 := Aside0.mk (blk_below (hp_ BK324.out) hb); replace HB := Aside0.mk (below_step bp_ hb); (try clear hb); (try clear hb2); (try clear hk); (try clear hi); have hcz19_0 : w18.cell? ⟨gb324, 0, none⟩ = some (.int .i64 a1_0) := (blk_cell BK324.out 0).trans rfl; have hcz19_1 : w18.cell? ⟨gb324, 1, none⟩ = some (.int .i64 a1_1) := (blk_cell BK324.out 1).trans rfl; have hcz19_2 : w18.cell? ⟨gb324, 2, none⟩ = some (.int .i64 a1_2) := (blk_cell BK324.out 2).trans rfl; have hcz19_3 : w18.cell? ⟨gb324, 3, none⟩ = some (.int .i64 a1_3) := (blk_cell BK324.out 3).trans rfl; have hfz19_0 := blk_frozen BK324.out 0; have hfz19_1 := blk_frozen BK324.out 1; have hfz19_2 := blk_frozen BK324.out 2; have hfz19_3 := blk_frozen BK324.out 3) | ((with_reducible refine gate_callee (f := 12) rfl ?_); refine goQ_ (some 21) Try.func12 #[.agg #[.int .i64 a1_0, .int .i64 a1_1, .int .i64 a1_2, .int .i64 a1_3]] ?_; (with_reducible refine (chequerref06_Size.calls a1_0 a1_1 a1_2 a1_3 t327 _ A12.out).mono ?_); rintro e w20 ⟨rfl, hb⟩; refine ⟨_, rfl, ?_⟩; replace HB := Aside0.mk (below_step bp_ hb); (try clear hb); (try clear hb2); (try clear hk); (try clear hi)))
       go_ret2
       exact ⟨_, by first | rfl | (simp [errW_none, errW_some] <;> rfl) | (simp [*, errW_none, errW_some] <;> rfl), by first | exact Kd.R_nil _ _ _ _ _ | exact Kd.N_nil _ _ _ _ _ | exact Kd.V_nil _ _ _ _ _ | exact Kd.Q_nil _ _ _ _ _ | exact Kd.S_nil _ _ _ _ _, bp_⟩
     · rw [if_neg c13] at H
       have c13b0 : decide ((l0.length : Int) < t327) = false := decide_eq_false c13
       clear c13
       replace H := Option.bind_eq_some_iff.mp H
       obtain ⟨t328, A210, H⟩ := H
       replace H : (chequerref09_Read.l0 k l0 ([] : List Int) t328 0 a1_0 a1_1 a1_2 a1_3) = some (r1, r2) := H
       have A21 := Aside0.mk A210
       clear A210
       have H' := Aside0.mk H
       clear H
       go_enter Try.func17, Try.ntmps17
       go_wp2_with (first | ((with_reducible refine gate_dst (N := 3) rfl ?_); refine box_event ?hg (N := 3) ?hd (cs := #[.int .i64 a1_0, .int .i64 a1_1, .int .i64 a1_2, .int .i64 a1_3]) (t := 23) ?hr ?_; (case hd => rfl); (case hg => rfl); (case hr => first | (go_simp; done) | (go_simp; rfl)); intro gb324 hg w22 hbox hb; have BK324 := Aside0.mk (hbox); have GW324 := Aside0.mk ((by rw [hg]; exact (below_size bp_) : w.heap.size ≤ gb324)); have GE324 := Aside0.mk ((by rw [hg]; exact (below_size bp_) : w.heap.size ≤ gb324)); replace HB := Aside0.mk (below_step bp_ hb); clear hb hbox hg; have hcz23_0 : w22.cell? ⟨gb324, 0, none⟩ = some (.int .i64 a1_0) := (blk_cell BK324.out 0).trans rfl; have hcz23_1 : w22.cell? ⟨gb324, 1, none⟩ = some (.int .i64 a1_1) := (blk_cell BK324.out 1).trans rfl; have hcz23_2 : w22.cell? ⟨gb324, 2, none⟩ = some (.int .i64 a1_2) := (blk_cell BK324.out 2).trans rfl; have hcz23_3 : w22.cell? ⟨gb324, 3, none⟩ = some (.int .i64 a1_3) := (blk_cell BK324.out 3).trans rfl; have hfz23_0 := blk_frozen BK324.out 0; have hfz23_1 := blk_frozen BK324.out 1; have hfz23_2 := blk_frozen BK324.out 2; have hfz23_3 := blk_frozen BK324.out 3) | ((with_reducible refine gate_callee (f := 28) rfl ?_); refine goQ_ (some 11) Try.func28 #[.agg #[.int .i64 a1_0, .int .i64 a1_1, .int .i64 a1_2, .int .i64 a1_3]] ?_; (with_reducible refine (chequerref09_May.calls a1_0 a1_1 a1_2 a1_3 true _ A3.out).mono ?_); rintro e w24 ⟨rfl, hb⟩; refine ⟨_, rfl, ?_⟩; replace BK324 := Aside0.mk (blk_below (hp_ BK324.out) hb); replace HB := Aside0.mk (below_step bp_ hb); (try clear hb); (try clear hb2); (try clear hk); (try clear hi); have hcz25_0 : w24.cell? ⟨gb324, 0, none⟩ = some (.int .i64 a1_0) := (blk_cell BK324.out 0).trans rfl; have hcz25_1 : w24.cell? ⟨gb324, 1, none⟩ = some (.int .i64 a1_1) := (blk_cell BK324.out 1).trans rfl; have hcz25_2 : w24.cell? ⟨gb324, 2, none⟩ = some (.int .i64 a1_2) := (blk_cell BK324.out 2).trans rfl; have hcz25_3 : w24.cell? ⟨gb324, 3, none⟩ = some (.int .i64 a1_3) := (blk_cell BK324.out 3).trans rfl; have hfz25_0 := blk_frozen BK324.out 0; have hfz25_1 := blk_frozen BK324.out 1; have hfz25_2 := blk_frozen BK324.out 2; have hfz25_3 := blk_frozen BK324.out 3) | ((with_reducible refine gate_callee (f := 23) rfl ?_); refine goQ_ (some 16) Try.func23 #[.slice A0 l0.length c0, .agg #[.int .i64 a1_0, .int .i64 a1_1, .int .i64 a1_2, .int .i64 a1_3]] ?_; (with_reducible refine (chequerref09_Bad.calls k _ _ l0 a1_0 a1_1 a1_2 a1_3 t326 _ ?side1 ?side2 A5.out).mono ?_); (case side1 => repeat (first | exact (Kd.C_below HR0.out HB.out) | (with_reducible refine Kd.C_alloc ?_ _) | (with_reducible refine Kd.C_drewN ?_ _) | (with_reducible refine Kd.C_drew ?_))); (case side2 => exact HC0.out); rintro e w26 ⟨rfl, hb⟩; refine ⟨_, rfl, ?_⟩; replace BK324 := Aside0.mk (blk_below (hp_ BK324.out) hb); replace HB := Aside0.mk (below_step bp_ hb); (try clear hb); (try clear hb2); (try clear hk); (try clear hi); have hcz27_0 : w26.cell? ⟨gb324, 0, none⟩ = some (.int .i64 a1_0) := (blk_cell BK324.out 0).trans rfl; have hcz27_1 : w26.cell? ⟨gb324, 1, none⟩ = some (.int .i64 a1_1) := (blk_cell BK324.out 1).trans rfl; have hcz27_2 : w26.cell? ⟨gb324, 2, none⟩ = some (.int .i64 a1_2) := (blk_cell BK324.out 2).trans rfl; have hcz27_3 : w26.cell? ⟨gb324, 3, none⟩ = some (.int .i64 a1_3) := (blk_cell BK324.out 3).trans rfl; have hfz27_0 := blk_frozen BK324.out 0; have hfz27_1 := blk_frozen BK324.out 1; have hfz27_2 := blk_frozen BK324.out 2; have hfz27_3 := blk_frozen BK324.out 3) | ((with_reducible refine gate_callee (f := 12) rfl ?_); refine goQ_ (some 21) Try.func12 #[.agg #[.int .i64 a1_0, .int .i64 a1_1, .int .i64 a1_2, .int .i64 a1_3]] ?_; (with_reducible refine (chequerref06_Size.calls a1_0 a1_1 a1_2 a1_3 t327 _ A12.out).mono ?_); rintro e w28 ⟨rfl, hb⟩; refine ⟨_, rfl, ?_⟩; replace BK324 := Aside0.mk (blk_below (hp_ BK324.out) hb); replace HB := Aside0.mk (below_step bp_ hb); (try clear hb); (try clear hb2); (try clear hk); (try clear hi); have hcz29_0 : w28.cell? ⟨gb324, 0, none⟩ = some (.int .i64 a1_0) := (blk_cell BK324.out 0).trans rfl; have hcz29_1 : w28.cell? ⟨gb324, 1, none⟩ = some (.int .i64 a1_1) := (blk_cell BK324.out 1).trans rfl; have hcz29_2 : w28.cell? ⟨gb324, 2, none⟩ = some (.int .i64 a1_2) := (blk_cell BK324.out 2).trans rfl; have hcz29_3 : w28.cell? ⟨gb324, 3, none⟩ = some (.int .i64 a1_3) := (blk_cell BK324.out 3).trans rfl; have hfz29_0 := blk_frozen BK324.out 0; have hfz29_1 := blk_frozen BK324.out 1; have hfz29_2 := blk_frozen BK324.out 2; have hfz29_3 := blk_frozen BK324.out 3) | ((with_reducible refine gate_callee (f := 22) rfl ?_); refine goQ_ (some 24) Try.func22 #[.agg #[.int .i64 a1_0, .int .i64 a1_1, .int .i64 a1_2, .int .i64 a1_3]] ?_; (with_reducible refine (chequerref09_Stride.calls a1_0 a1_1 a1_2 a1_3 t328 _ A21.out).mono ?_); rintro e w30 ⟨rfl, hb⟩; refine ⟨_, rfl, ?_⟩; replace BK324 := Aside0.mk (blk_below (hp_ BK324.out) hb); replace HB := Aside0.mk (below_step bp_ hb); (try clear hb); (try clear hb2); (try clear hk); (try clear hi)))
       go_loopg [7, 9] k (fun kq v7 v9 w' => ∃ (x7_1 : List Int) (x9_1 : Int), v9 = .int .i64 x9_1 ∧ Aside0 (chequerref09_Read.l0 kq l0 x7_1 t328 x9_1 a1_0 a1_1 a1_2 a1_3 = some (r1, r2)) ∧ Aside0 (kq ≤ k) ∧ Aside0 (Kd.R (Kd.int .u64) 26 w' w.heap.size (fun _ => True) v7 x7_1) ∧ Aside0 (w'.heap[gb324]? = some (.cells #[.int .i64 a1_0, .int .i64 a1_1, .int .i64 a1_2, .int .i64 a1_3] 23 (0, 0))) ∧ Aside0 (Below w.heap.size w w'))
       case atStart => exact ⟨(([] : List Int)), (0), (by first | rfl | (simp; done) | (simp [*]; done)), H', ⟨Nat.le_refl _⟩, ⟨by first | exact Kd.R_nil _ _ _ _ _ | exact Kd.N_nil _ _ _ _ _ | exact Kd.V_nil _ _ _ _ _ | exact Kd.Q_nil _ _ _ _ _ | exact Kd.S_nil _ _ _ _ _⟩, ⟨hp_ BK324.out⟩, ⟨bp_⟩⟩
       case round =>
        clear H'
        try clear c1
        try clear c2
        try clear p2
        try clear c4
        try clear c6
        try clear c6b0
        try clear c12
        try clear c13
        try clear c13b0
        try clear c17
        try clear c22
        try clear c23
        try clear c28
        try clear hcz10_0
        try clear hcz10_1
        try clear hcz10_2
        try clear hcz10_3
        try clear hcz15_0
        try clear hcz15_1
        try clear hcz15_2
        try clear hcz15_3
        try clear hcz17_0
        try clear hcz17_1
        try clear hcz17_2
        try clear hcz17_3
        try clear hcz19_0
        try clear hcz19_1
        try clear hcz19_2
        try clear hcz19_3
        try clear hcz23_0
        try clear hcz23_1
        try clear hcz23_2
        try clear hcz23_3
        try clear hcz25_0
        try clear hcz25_1
        try clear hcz25_2
        try clear hcz25_3
        try clear hcz27_0
        try clear hcz27_1
        try clear hcz27_2
        try clear hcz27_3
        try clear hcz29_0
        try clear hcz29_1
        try clear hcz29_2
        try clear hcz29_3
        try clear hcz8_0
        try clear hcz8_1
        try clear hcz8_2
        try clear hcz8_3
        try clear hfz10_0
        try clear hfz10_1
        try clear hfz10_2
        try clear hfz10_3
        try clear hfz15_0
        try clear hfz15_1
        try clear hfz15_2
        try clear hfz15_3
        try clear hfz17_0
        try clear hfz17_1
        try clear hfz17_2
        try clear hfz17_3
        try clear hfz19_0
        try clear hfz19_1
        try clear hfz19_2
        try clear hfz19_3
        try clear hfz23_0
        try clear hfz23_1
        try clear hfz23_2
        try clear hfz23_3
        try clear hfz25_0
        try clear hfz25_1
        try clear hfz25_2
        try clear hfz25_3
        try clear hfz27_0
        try clear hfz27_1
        try clear hfz27_2
        try clear hfz27_3
        try clear hfz29_0
        try clear hfz29_1
        try clear hfz29_2
        try clear hfz29_3
        try clear hfz8_0
        try clear hfz8_1
        try clear hfz8_2
        try clear hfz8_3
        obtain ⟨x7_1, x9_1, rfl, HA, HK1, HO_7, BK324, HB⟩ := hrel
        cases gk with
        | zero => exact absurd HA.out (by simp [chequerref09_Read.l0])
        | succ k1 =>
         have H := HA.out
         clear HA
         simp only [chequerref09_Read.l0] at H
         by_cases c31 : x9_1 < a1_2
         · rw [if_pos c31] at H
           have c31b0 : decide (x9_1 < a1_2) = true := decide_eq_true c31
           clear c31
           obtain ⟨ji32, hji32⟩ : ∃ j_ : Int, (wrap64 (x9_1 * t328)) = j_ := ⟨_, rfl⟩
           replace H : (if 0 ≤ (ji32) then (if (ji32) ≤ (wrap64 ((ji32) + t328)) then (if (wrap64 ((ji32) + t328)) ≤ (l0.length : Int) then ((chequerref09_Row.f k1 ((l0.take ((wrap64 ((ji32) + t328)) : Int).toNat).drop ((ji32) : Int).toNat) a1_0 a1_1 a1_2 a1_3).bind fun t330 => (if x7_1.length + t330.length < 17592186044416 then (chequerref09_Read.l0 k1 l0 (x7_1 ++ t330) t328 (wrap64 (x9_1 + 1)) a1_0 a1_1 a1_2 a1_3) else (none))) else (none)) else (none)) else (none)) = some (r1, r2) := by first | (rw [hji32] at H; exact H) | (simp only [hji32] at H ⊢; exact H)
           have hji32w : (IntKind.i64.wrap (x9_1 * t328)) = ji32 := (i64_w _).trans hji32
           by_cases c33 : 0 ≤ (ji32)
           · rw [if_pos c33] at H
             have c33b0 := eq_true c33
             have c33b1 : decide (0 ≤ (ji32)) = true := decide_eq_true c33
             clear c33
             by_cases c34 : (ji32) ≤ (wrap64 ((ji32) + t328))
             · rw [if_pos c34] at H
               have c34b0 := eq_true c34
               have c34b1 : decide ((ji32) ≤ (wrap64 ((ji32) + t328))) = true := decide_eq_true c34
               by_cases c35 : (wrap64 ((ji32) + t328)) ≤ (l0.length : Int)
               · rw [if_pos c35] at H
                 have c35b0 := eq_true c35
                 have c35b1 : decide ((wrap64 ((ji32) + t328)) ≤ (l0.length : Int)) = true := decide_eq_true c35
                 replace H := Option.bind_eq_some_iff.mp H
                 obtain ⟨t330, A360, H⟩ := H
                 replace H : (if x7_1.length + t330.length < 17592186044416 then (chequerref09_Read.l0 k1 l0 (x7_1 ++ t330) t328 (wrap64 (x9_1 + 1)) a1_0 a1_1 a1_2 a1_3) else (none)) = some (r1, r2) := H
                 have A36 := Aside0.mk A360
                 clear A360
                 by_cases c37 : x7_1.length + t330.length < 17592186044416
                 · rw [if_pos c37] at H
                   have LMc37 := Aside0.mk c37
                   clear c37
                   obtain ⟨y333, hy333⟩ : ∃ y_ : List Int, y_ = (x7_1 ++ t330) := ⟨_, rfl⟩
                   replace H : (chequerref09_Read.l0 k1 l0 y333 t328 (wrap64 (x9_1 + 1)) a1_0 a1_1 a1_2 a1_3) = some (r1, r2) := by first | (rw [hy333]; with_reducible exact H) | (have H2_ := (Option.bind_some _ _).symm.trans H; rw [hy333]; with_reducible exact H2_) | (have H2_ := (Option.bind_some _ _).symm.trans H; with_reducible exact H2_) | with_reducible exact H | (rw [hy333]; exact H) | exact H
                   have Ny333 := Aside0.mk hy333
                   clear hy333
                   have H' := Aside0.mk H
                   clear H
                   have hcz38_0 : wr.cell? ⟨gb324, 0, none⟩ = some (.int .i64 a1_0) := (blk_cell BK324.out 0).trans rfl
                   have hcz38_1 : wr.cell? ⟨gb324, 1, none⟩ = some (.int .i64 a1_1) := (blk_cell BK324.out 1).trans rfl
                   have hcz38_2 : wr.cell? ⟨gb324, 2, none⟩ = some (.int .i64 a1_2) := (blk_cell BK324.out 2).trans rfl
                   have hcz38_3 : wr.cell? ⟨gb324, 3, none⟩ = some (.int .i64 a1_3) := (blk_cell BK324.out 3).trans rfl
                   have hfz38_0 := blk_frozen BK324.out 0
                   have hfz38_1 := blk_frozen BK324.out 1
                   have hfz38_2 := blk_frozen BK324.out 2
                   have hfz38_3 := blk_frozen BK324.out 3
                   try go_wp2
                   (try (rw [drewN_self wr]; generalize hq_ : World.drewN wr _ = wr; have n0_ := Aside0.mk (qrp_ hq_ HO_7.out); have n1_ := Aside0.mk (qhp_ hq_ BK324.out); have n2_ : Aside0 (Below w.heap.size w wr) := ⟨qbp_ hq_⟩; clear HO_7 BK324 HB hq_; have HO_7 := n0_; have BK324 := n1_; have HB := n2_; clear n0_ n1_ n2_))
                   replace HO_7 := Aside0.mk (Kd.R_drew HO_7.out)
                   replace BK324 := Aside0.mk (blk_drew BK324.out)
                   replace HB := Aside0.mk (below_drew1 HB.out)
                   obtain ⟨i040, hi040, _, hsz40, _⟩ := info_parts info5
                   obtain ⟨A40, hcut40, hA40, hC40⟩ := print_mid_of (P := Try.prog) (Value.int .u8) 0 27 5 .i64 .i64 Try.underlying27 hi040 hsz40 A0 c0 l0 (ji32) (wrap64 ((ji32) + t328)) (of_decide_eq_true (by first | (with_reducible assumption) | assumption)) (by first | omega | exact of_decide_eq_true (by first | (with_reducible assumption) | assumption)) (of_decide_eq_true (by first | (with_reducible assumption) | assumption)) HC0.out
                   have HR329 := Aside0.mk (Kd.C_of_reads (h1 := fun _ => rfl) (hA40 _ (Kd.reads_of_C HR0.out)))
                   have HC329 := Aside0.mk hC40
                   clear hA40 hC40 hi040 hsz40
                   refine start_ (n := 15) (S := fun w' => w'.cell? ⟨gb324, 0, none⟩ = some (.int .i64 a1_0) ∧ w'.cell? ⟨gb324, 1, none⟩ = some (.int .i64 a1_1) ∧ w'.cell? ⟨gb324, 2, none⟩ = some (.int .i64 a1_2) ∧ w'.cell? ⟨gb324, 3, none⟩ = some (.int .i64 a1_3)) (ds := []) #[false, false, false, false, false, false, false, false, false, false, false, false, false, false, false] (by kernel_rfl) rfl rfl ⟨(blk_cell BK324.out 0).trans rfl, (blk_cell BK324.out 1).trans rfl, (blk_cell BK324.out 2).trans rfl, (blk_cell BK324.out 3).trans rfl⟩ (fun hHeld => ?_); refine with_tabW chequerref09_Read.tab13 chequerref09_Read.bits13 (fun HT_ HW_ => ?_)
                   generalize wr.drew = w39 at HO_7 BK324 HB HR329 hHeld ⊢
                   refine pur_ (i := 0) (N := some 31) #[true, false, false, false, false, false, false, false, false, false, false, false, false, false, false] (any_of HT_.out (by kernel_rfl)) ?_
                   refine pur_ (i := 1) (N := some 32) #[true, true, false, false, false, false, false, false, false, false, false, false, false, false, false] (any_of HT_.out (by kernel_rfl)) ?_
                   refine pur_ (i := 2) (N := some 33) #[true, true, true, false, false, false, false, false, false, false, false, false, false, false, false] (any_of HT_.out (by kernel_rfl)) ?_
                   refine pur_ (i := 3) (N := some 34) #[true, true, true, true, false, false, false, false, false, false, false, false, false, false, false] (any_of HT_.out (by kernel_rfl)) ?_
                   refine pur_ (i := 4) (N := some 35) #[true, true, true, true, true, false, false, false, false, false, false, false, false, false, false] (any_of HT_.out (by kernel_rfl)) ?_
                   refine pur_ (i := 5) (N := some 36) #[true, true, true, true, true, true, false, false, false, false, false, false, false, false, false] (any_of HT_.out (by kernel_rfl)) ?_
                   refine pur_ (i := 6) (N := some 37) #[true, true, true, true, true, true, true, false, false, false, false, false, false, false, false] (any_of HT_.out (by kernel_rfl)) ?_
                   refine pur_ (i := 7) (N := some 38) #[true, true, true, true, true, true, true, true, false, false, false, false, false, false, false] (any_of HT_.out (by kernel_rfl)) ?_
                   refine pur_ (i := 8) (N := some 39) #[true, true, true, true, true, true, true, true, true, false, false, false, false, false, false] (any_of HT_.out (by kernel_rfl)) ?_
                   refine pur_ (i := 9) (N := some 40) #[true, true, true, true, true, true, true, true, true, true, false, false, false, false, false] (any_of HT_.out (by kernel_rfl)) ?_
                   refine pur_ (i := 10) (N := some 41) #[true, true, true, true, true, true, true, true, true, true, true, false, false, false, false] (any_of HT_.out (by kernel_rfl)) ?_
                   refine take_ (i := 11) (N := some 42) (v := ?_) (a' := ?_) #[true, true, true, true, true, true, true, true, true, true, true, true, false, false, false] rfl rfl (take_ofW HT_.out HW_.out (by kernel_rfl)) (fun _ _ _ h => h) (Or.inl ⟨by rfl, ?_⟩) hHeld ?_ ?_
                   rotate_left
                   · rintro w' ⟨s0, s1, s2, s3⟩
                     go_simp
                     with_reducible rfl
                   rotate_left
                   · simp only [Act.put, List.setIfInBounds_toArray, List.set_cons_zero, List.set_cons_succ, i64_w, i32_w]
                     rfl
                   refine one_ (i := 12) (N := some 43) #[true, true, true, true, true, true, true, true, true, true, true, true, true, false, false] rfl rfl (one_of HT_.out (by kernel_rfl)) (by decide) (fun K hK => ?_)
                   refine goes_ Try.func24 (by kernel_rfl) rfl #[.slice A40 ((l0.take ((wrap64 ((ji32) + t328)) : Int).toNat).drop ((ji32) : Int).toNat).length (c0 - (ji32).toNat), .agg #[.int .i64 a1_0, .int .i64 a1_1, .int .i64 a1_2, .int .i64 a1_3]] (by rfl) rfl rfl (by (try simp only [List.map_toArray, List.map_cons, List.map_nil]); first | done | (rw [show ((l0.take ((wrap64 ((ji32) + t328)) : Int).toNat).drop ((ji32) : Int).toNat).length = ((wrap64 ((ji32) + t328)).toNat - (ji32).toNat) from (by rw [List.length_drop, List.length_take]; have h_ : ((wrap64 ((ji32) + t328)) : Int) ≤ (l0.length : Int) := of_decide_eq_true (by first | (with_reducible assumption) | assumption); omega)] <;> rfl) | (simp only [hji32]; rfl) | rfl | (simp only [List.length_drop, List.length_take]; rfl)) ?_
                   with_reducible refine (chequerref09_Row.calls k1 _ _ ((l0.take ((wrap64 ((ji32) + t328)) : Int).toNat).drop ((ji32) : Int).toNat) a1_0 a1_1 a1_2 a1_3 t330 _ ?side1 ?side2 A36.out).mono ?_
                   (case side1 => repeat (first | exact (Kd.C_below HR329.out HB.out) | (with_reducible refine Kd.C_alloc ?_ _) | (with_reducible refine Kd.C_drewN ?_ _) | (with_reducible refine Kd.C_drew ?_)))
                   (case side2 => exact HC329.out)
                   rintro e w41 ⟨v331, rfl, ho0, hb⟩
                   refine ⟨_, rfl, ?_⟩
                   have HO332 := Aside0.mk (Kd.R_lower (Kd.R_new' ho0 (Kd.R_lt (rp_ HO_7.out))) (below_size bp_))
                   replace HO_7 := Aside0.mk (Kd.R_elder' (rp_ HO_7.out) (Kd.R_base ho0) hb)
                   replace BK324 := Aside0.mk (blk_below (hp_ BK324.out) hb)
                   replace HB := Aside0.mk (below_step bp_ hb)
                   (try clear hb)
                   (try clear hb2)
                   (try clear hk)
                   (try clear hi)
                   (try clear ho0)
                   obtain ⟨Ao43, co43, eo43⟩ := Kd.R_slice HO332.out
                   (first | subst eo43 | (injection eo43 with f1_ f2_ f3_; have f4_ := f1_.symm; have f5_ := f3_.symm; clear f1_ f2_ f3_; subst f4_; subst f5_))
                   refine hK.out _ _ ⟨(blk_cell BK324.out 0).trans rfl, (blk_cell BK324.out 1).trans rfl, (blk_cell BK324.out 2).trans rfl, (blk_cell BK324.out 3).trans rfl⟩ (fun hHeld => ?_)
                   clear hK K
                   refine norm_ (a' := ?_) ?_ ?_
                   rotate_left
                   · show Act.put _ (some 43) _ = _
                     simp only [Act.put, List.setIfInBounds_toArray, List.set_cons_zero, List.set_cons_succ, i64_w, i32_w]
                     rfl
                   refine one_ (i := 13) (N := some 44) #[true, true, true, true, true, true, true, true, true, true, true, true, true, true, false] rfl rfl (one_of HT_.out (by kernel_rfl)) (by decide) (fun K hK => ?_)
                   refine Kd.R_append_rows_step (Kd.int .u64) (w0 := w) w.heap.size (by rfl) (.tmp 31) (.tmp 43) 29 26 (.int .u64 0) 8 rfl Try.underlying29 info26 rfl (by decide) (by omega) u7 x7_1 t330 _ _ _ (fun k_ => some k_ ≠ (.slice Ao43 t330.length co43 : Value).ownBlock) (fun _ => False) rfl rfl ?aO ?aR (fun _ _ h => h) (fun _ h => h.elim) ?aF ?aB ?aS ?aL ?_
                   (case aR => repeat (first | exact (Kd.R_reads' HO332.out).2.2 | (with_reducible refine Kd.C_alloc ?_ _) | (with_reducible refine Kd.C_drewN ?_ _) | (with_reducible refine Kd.C_drew ?_)))
                   (case aB => exact bp_)
                   (case aF => exact (fun k_ hk => Kd.fresh' (Kd.R_lt (rp_ HO332.out)) k_ hk))
                   (case aO => exact (by (with_reducible repeat (first | apply Kd.R_alloc | apply Kd.R_drewN | apply Kd.R_drew)); exact Kd.R_mono HO_7.out (fun _ hk => hk.2)))
                   (case aS => exact (below_size bp_))
                   (case aL => have := LMc37.out; omega)
                   intro v334 w42 ho hb hg hat
                   rw [← Ny333.out] at ho
                   replace BK324 := Aside0.mk (blk_grown (g := gb324) (o := .cells #[.int .i64 a1_0, .int .i64 a1_1, .int .i64 a1_2, .int .i64 a1_3] 23 (0, 0)) (hp_ BK324.out) hg (Kd.R_ne HO_7.out BK324.out (by decide)))
                   replace HO332 := Aside0.mk (Kd.R_after (ok := (fun _ => True)) (rp_ HO332.out) hg hat)
                   replace HB := Aside0.mk (hb)
                   have HO335 := Aside0.mk (ho)
                   clear HO_7
                   clear ho hb hg hat
                   refine hK.out _ _ ⟨(blk_cell BK324.out 0).trans rfl, (blk_cell BK324.out 1).trans rfl, (blk_cell BK324.out 2).trans rfl, (blk_cell BK324.out 3).trans rfl⟩ (fun hHeld => ?_)
                   clear hK K
                   refine norm_ (a' := ?_) ?_ ?_
                   rotate_left
                   · show Act.put _ (some 44) _ = _
                     simp only [Act.put, List.setIfInBounds_toArray, List.set_cons_zero, List.set_cons_succ, i64_w, i32_w]
                     rfl
                   refine pur_ (i := 14) (N := some 7) #[true, true, true, true, true, true, true, true, true, true, true, true, true, true, true] (any_of HT_.out (by kernel_rfl)) ?_
                   refine done_ (done_of HT_.out (by kernel_rfl)) ?_
                   try go_wp2
                   go_roundg k1
                   case measure => have := HK1.out; omega
                   case rel => exact ⟨(y333), (wrap64 (x9_1 + 1)), (by first | rfl | (simp; done) | (simp [*]; done)), H', ⟨by have := HK1.out; omega⟩, ⟨by (with_reducible repeat (first | apply Kd.R_alloc | apply Kd.R_drewN | apply Kd.R_drew)); exact Kd.R_mono HO335.out (fun _ hk => trivial)⟩, ⟨hp_ BK324.out⟩, ⟨bp_⟩⟩
                 · rw [if_neg c37] at H
                   exact absurd H (by simp)
               · rw [if_neg c35] at H
                 exact absurd H (by simp)
             · rw [if_neg c34] at H
               exact absurd H (by simp)
           · rw [if_neg c33] at H
             exact absurd H (by simp)
         · rw [if_neg c31] at H
           have c31b0 : decide (x9_1 < a1_2) = false := decide_eq_false c31
           clear c31
           simp only [Option.some.injEq, Prod.mk.injEq] at H
           obtain ⟨rfl, rfl⟩ := H
           have hcz44_0 : wr.cell? ⟨gb324, 0, none⟩ = some (.int .i64 a1_0) := (blk_cell BK324.out 0).trans rfl
           have hcz44_1 : wr.cell? ⟨gb324, 1, none⟩ = some (.int .i64 a1_1) := (blk_cell BK324.out 1).trans rfl
           have hcz44_2 : wr.cell? ⟨gb324, 2, none⟩ = some (.int .i64 a1_2) := (blk_cell BK324.out 2).trans rfl
           have hcz44_3 : wr.cell? ⟨gb324, 3, none⟩ = some (.int .i64 a1_3) := (blk_cell BK324.out 3).trans rfl
           have hfz44_0 := blk_frozen BK324.out 0
           have hfz44_1 := blk_frozen BK324.out 1
           have hfz44_2 := blk_frozen BK324.out 2
           have hfz44_3 := blk_frozen BK324.out 3
           go_wp2
           go_ret2
           exact ⟨_, by first | rfl | (simp [errW_none, errW_some] <;> rfl) | (simp [*, errW_none, errW_some] <;> rfl), by (with_reducible repeat (first | apply Kd.R_alloc | apply Kd.R_drewN | apply Kd.R_drew)); exact HO_7.out, bp_⟩
 · replace c4 := Bool.eq_false_iff.mpr c4
   subst c4
   have H1 : (some (([] : List Int), 1)) = some (r1, r2) := by rw [if_neg (show ¬ (false = true) by decide)] at H; exact H
   clear H
   have H := H1
   clear H1
   simp only [Option.some.injEq, Prod.mk.injEq] at H
   obtain ⟨rfl, rfl⟩ := H
   go_enter Try.func17, Try.ntmps17
   go_wp2_with (first | ((with_reducible refine gate_dst (N := 3) rfl ?_); refine box_event ?hg (N := 3) ?hd (cs := #[.int .i64 a1_0, .int .i64 a1_1, .int .i64 a1_2, .int .i64 a1_3]) (t := 23) ?hr ?_; (case hd => rfl); (case hg => rfl); (case hr => first | (go_simp; done) | (go_simp; rfl)); intro gb324 hg w45 hbox hb; have BK324 := Aside0.mk (hbox); have GW324 := Aside0.mk ((by rw [hg]; exact (below_size bp_) : w.heap.size ≤ gb324)); have GE324 := Aside0.mk ((by rw [hg]; exact (below_size bp_) : w.heap.size ≤ gb324)); replace HB := Aside0.mk (below_step bp_ hb); clear hb hbox hg; have hcz46_0 : w45.cell? ⟨gb324, 0, none⟩ = some (.int .i64 a1_0) := (blk_cell BK324.out 0).trans rfl; have hcz46_1 : w45.cell? ⟨gb324, 1, none⟩ = some (.int .i64 a1_1) := (blk_cell BK324.out 1).trans rfl; have hcz46_2 : w45.cell? ⟨gb324, 2, none⟩ = some (.int .i64 a1_2) := (blk_cell BK324.out 2).trans rfl; have hcz46_3 : w45.cell? ⟨gb324, 3, none⟩ = some (.int .i64 a1_3) := (blk_cell BK324.out 3).trans rfl; have hfz46_0 := blk_frozen BK324.out 0; have hfz46_1 := blk_frozen BK324.out 1; have hfz46_2 := blk_frozen BK324.out 2; have hfz46_3 := blk_frozen BK324.out 3) | ((with_reducible refine gate_callee (f := 28) rfl ?_); refine goQ_ (some 11) Try.func28 #[.agg #[.int .i64 a1_0, .int .i64 a1_1, .int .i64 a1_2, .int .i64 a1_3]] ?_; (with_reducible refine (chequerref09_May.calls a1_0 a1_1 a1_2 a1_3 false _ A3.out).mono ?_); rintro e w47 ⟨rfl, hb⟩; refine ⟨_, rfl, ?_⟩; replace HB := Aside0.mk (below_step bp_ hb); (try clear hb); (try clear hb2); (try clear hk); (try clear hi)))
   go_ret2
   exact ⟨_, by first | rfl | (simp [errW_none, errW_some] <;> rfl) | (simp [*, errW_none, errW_some] <;> rfl), by first | exact Kd.R_nil _ _ _ _ _ | exact Kd.N_nil _ _ _ _ _ | exact Kd.V_nil _ _ _ _ _ | exact Kd.Q_nil _ _ _ _ _ | exact Kd.S_nil _ _ _ _ _, bp_⟩


/-! ### chequerlaw09_RawReads: function 4 -/
def chequerlaw09_RawReads.l0 : Nat → List Int → List (S23) → Int → Option (Bool)
 | 0, _, _, _ => none
 | k + 1, x0, x5, x6 => if x6 < 2 then (if 0 ≤ x6 then (if x6 < (x5.length : Int) then ((raw_Read.f x0 ((rd_T23 x5 x6).f0) ((rd_T23 x5 x6).f1) ((rd_T23 x5 x6).f2) ((rd_T23 x5 x6).f3)).bind fun bt347 => ((chequerref09_Read.f k x0 ((rd_T23 x5 x6).f0) ((rd_T23 x5 x6).f1) ((rd_T23 x5 x6).f2) ((rd_T23 x5 x6).f3)).bind fun bt352 => (if bt347.2 = bt352.2 then ((chequerref03_SameRow.f k bt347.1 bt352.1).bind fun t356 => (if t356 = true then (chequerlaw09_RawReads.l0 k x0 x5 (wrap64 (x6 + 1))) else (some false))) else (some false)))) else (none)) else (none)) else ((chequerlaw09_lives.f k).bind fun t345 => (some t345))
def chequerlaw09_RawReads.f (k : Nat) (l0 : List Int) (a1_0 : Int) (a1_1 : Int) (a1_2 : Int) (a1_3 : Int) : Option (Bool) := if 0 ≤ (mn (l0.length : Int) 100) then (if (mn (l0.length : Int) 100) ≤ (l0.length : Int) then ((chequerref09_Head.f a1_0 a1_1 a1_2 a1_3 5).bind fun bt338 => (chequerlaw09_RawReads.l0 k (l0.take ((mn (l0.length : Int) 100) : Int).toNat) (([(⟨a1_0, a1_1, a1_2, a1_3⟩ : S23), (⟨bt338.1, bt338.2.1, bt338.2.2.1, bt338.2.2.2⟩ : S23)] : List (S23))) 0)) else (none)) else (none)
theorem chequerlaw09_RawReads.mono_l : ∀ k, (∀ y0 y1 y2, LeO (chequerlaw09_RawReads.l0 k y0 y1 y2) (chequerlaw09_RawReads.l0 (k + 1) y0 y1 y2))
 | 0 => fun _ _ _ r h => by simp [chequerlaw09_RawReads.l0] at h
 | k + 1 => by
  have ih0 := chequerlaw09_RawReads.mono_l k
  · intro y0 y1 y2
    unfold chequerlaw09_RawReads.l0
    repeat' first
    | (with_reducible exact ih0 _ _ _)
    | (with_reducible exact chequerlaw09_lives.mono _)
    | (with_reducible exact chequerref03_SameRow.mono _ _ _)
    | (with_reducible exact chequerref09_Read.mono _ _ _ _ _ _)
    | (with_reducible exact LeO.refl _)
    | (with_reducible exact LeO.none _)
    | (with_reducible refine LeO.ite ?_ ?_)
    | (with_reducible refine LeO.bind ?_ (fun _ => ?_))
    | exact ih0 _ _ _
    | exact chequerlaw09_lives.mono _
    | exact chequerref03_SameRow.mono _ _ _
    | exact chequerref09_Read.mono _ _ _ _ _ _
    | exact LeO.none _
    | refine LeO.ite ?_ ?_
    | refine LeO.bind ?_ (fun _ => ?_)
theorem chequerlaw09_RawReads.mono : ∀ a0 a1 a2 a3 a4 k, LeO (chequerlaw09_RawReads.f k a0 a1 a2 a3 a4) (chequerlaw09_RawReads.f (k + 1) a0 a1 a2 a3 a4) := by
 intro a0 a1 a2 a3 a4 k
 have ih0 := chequerlaw09_RawReads.mono_l k
 unfold chequerlaw09_RawReads.f
 repeat' first
  | (with_reducible exact ih0 _ _ _)
  | (with_reducible exact chequerlaw09_lives.mono _)
  | (with_reducible exact chequerref03_SameRow.mono _ _ _)
  | (with_reducible exact chequerref09_Read.mono _ _ _ _ _ _)
  | (with_reducible exact LeO.refl _)
  | (with_reducible exact LeO.none _)
  | (with_reducible refine LeO.ite ?_ ?_)
  | (with_reducible refine LeO.bind ?_ (fun _ => ?_))
  | exact ih0 _ _ _
  | exact chequerlaw09_lives.mono _
  | exact chequerref03_SameRow.mono _ _ _
  | exact chequerref09_Read.mono _ _ _ _ _ _
  | exact LeO.none _
  | refine LeO.ite ?_ ?_
  | refine LeO.bind ?_ (fun _ => ?_)
set_option maxHeartbeats 8000000 in
set_option maxRecDepth 100000 in
theorem chequerlaw09_RawReads.calls (k : Nat) (A0 : Option Addr) (c0 : Nat) (l0 : List Int) (a1_0 : Int) (a1_1 : Int) (a1_2 : Int) (a1_3 : Int) (r : Bool) (w : World) (hr0 : Kd.C (Kd.int .u8) w A0 l0.length l0) (hc0 : l0.length ≤ c0) (h : chequerlaw09_RawReads.f k l0 a1_0 a1_1 a1_2 a1_3 = some r) :
 Calls Try.prog 4 #[.slice A0 l0.length c0, .agg #[.int .i64 a1_0, .int .i64 a1_1, .int .i64 a1_2, .int .i64 a1_3]] w fun e w' => e = .returned (.bool r) ∧ Below w.heap.size w w' := by
 have hu23 := Try.underlying23
 have HR0 := Aside0.mk hr0
 have HC0 := Aside0.mk hc0
 clear hr0 hc0
 have HB := Aside0.mk (Below.refl w.heap.size w)
 have H : (if 0 ≤ (mn (l0.length : Int) 100) then (if (mn (l0.length : Int) 100) ≤ (l0.length : Int) then ((chequerref09_Head.f a1_0 a1_1 a1_2 a1_3 5).bind fun bt338 => (chequerlaw09_RawReads.l0 k (l0.take ((mn (l0.length : Int) 100) : Int).toNat) (([(⟨a1_0, a1_1, a1_2, a1_3⟩ : S23), (⟨bt338.1, bt338.2.1, bt338.2.2.1, bt338.2.2.2⟩ : S23)] : List (S23))) 0)) else (none)) else (none)) = some r := h
 clear h
 obtain ⟨ji3, hji3⟩ : ∃ j_ : Int, (mn (l0.length : Int) 100) = j_ := ⟨_, rfl⟩
 replace H : (if 0 ≤ (ji3) then (if (ji3) ≤ (l0.length : Int) then ((chequerref09_Head.f a1_0 a1_1 a1_2 a1_3 5).bind fun bt338 => (chequerlaw09_RawReads.l0 k (l0.take ((ji3) : Int).toNat) (([(⟨a1_0, a1_1, a1_2, a1_3⟩ : S23), (⟨bt338.1, bt338.2.1, bt338.2.2.1, bt338.2.2.2⟩ : S23)] : List (S23))) 0)) else (none)) else (none)) = some r := by first | (rw [hji3] at H; exact H) | (simp only [hji3] at H ⊢; exact H)
 (try (have hji3h : ji3 ≤ 100 := by (rw [← hji3]; unfold mn; (repeat' split) <;> omega)))
 (try (have hji3g : ji3 ≤ 64 := by omega))
 (try (have hji3l : 0 ≤ ji3 := by (rw [← hji3]; unfold mn; (repeat' split) <;> omega)))
 (try (have hji3m : 0 ≤ ji3 := by omega))
 have hji3_ : (if 100 < (l0.length : Int) then 100 else (l0.length : Int)) = ji3 := hji3
 by_cases c4 : 0 ≤ (ji3)
 · rw [if_pos c4] at H
   have c4b0 := eq_true c4
   have c4b1 : decide (0 ≤ (ji3)) = true := decide_eq_true c4
   clear c4
   by_cases c5 : (ji3) ≤ (l0.length : Int)
   · rw [if_pos c5] at H
     have c5b0 := eq_true c5
     have c5b1 : decide ((ji3) ≤ (l0.length : Int)) = true := decide_eq_true c5
     clear c5
     replace H := Option.bind_eq_some_iff.mp H
     obtain ⟨⟨t338, t339, t340, t341⟩, A60, H⟩ := H
     replace H : (chequerlaw09_RawReads.l0 k (l0.take ((ji3) : Int).toNat) (([(⟨a1_0, a1_1, a1_2, a1_3⟩ : S23), (⟨t338, t339, t340, t341⟩ : S23)] : List (S23))) 0) = some r := H
     have A6 := Aside0.mk A60
     clear A60
     obtain ⟨y342, hy342⟩ : ∃ y_ : List (S23), y_ = (([(⟨a1_0, a1_1, a1_2, a1_3⟩ : S23), (⟨t338, t339, t340, t341⟩ : S23)] : List (S23))) := ⟨_, rfl⟩
     replace H : (chequerlaw09_RawReads.l0 k (l0.take ((ji3) : Int).toNat) y342 0) = some r := by first | (rw [hy342]; with_reducible exact H) | (have H2_ := (Option.bind_some _ _).symm.trans H; rw [hy342]; with_reducible exact H2_) | (have H2_ := (Option.bind_some _ _).symm.trans H; with_reducible exact H2_) | with_reducible exact H | (rw [hy342]; exact H) | exact H
     have Ny342 := Aside0.mk hy342
     clear hy342
     have H' := Aside0.mk H
     clear H
     go_enter Try.func4, Try.ntmps4
     try go_wp2_with (first | ((with_reducible refine gate_dst (N := 3) rfl ?_); refine box_event ?hg (N := 3) ?hd (cs := #[.int .i64 a1_0, .int .i64 a1_1, .int .i64 a1_2, .int .i64 a1_3]) (t := 23) ?hr ?_; (case hd => rfl); (case hg => rfl); (case hr => first | (go_simp; done) | (go_simp; rfl)); intro gb336 hg w7 hbox hb; have BK336 := Aside0.mk (hbox); have GW336 := Aside0.mk ((by rw [hg]; exact (below_size bp_) : w.heap.size ≤ gb336)); have GE336 := Aside0.mk ((by rw [hg]; exact (below_size bp_) : w.heap.size ≤ gb336)); replace HB := Aside0.mk (below_step bp_ hb); clear hb hbox hg; obtain ⟨i08, hi08, _, hsz8, _⟩ := info_parts info5; obtain ⟨hcut8, hA8, hC8⟩ := print_take_of (P := Try.prog) (Value.int .u8) 0 27 5 .i64 Try.underlying27 hi08 hsz8 A0 c0 l0 (ji3) (of_decide_eq_true (by first | (with_reducible assumption) | assumption)) (of_decide_eq_true (by first | (with_reducible assumption) | assumption)) HC0.out; have HR337 := Aside0.mk (Kd.C_of_reads (h1 := fun _ => rfl) (hA8 _ (Kd.reads_of_C HR0.out))); have HC337 := Aside0.mk hC8; clear hA8 hC8 hi08 hsz8))
     replace BK336 := Aside0.mk (blk_drew BK336.out)
     replace HB := Aside0.mk (below_drew1 HB.out)
     refine start_ (n := 5) (S := fun w' => w'.cell? ⟨gb336, 0, none⟩ = some (.int .i64 a1_0) ∧ w'.cell? ⟨gb336, 1, none⟩ = some (.int .i64 a1_1) ∧ w'.cell? ⟨gb336, 2, none⟩ = some (.int .i64 a1_2) ∧ w'.cell? ⟨gb336, 3, none⟩ = some (.int .i64 a1_3)) (ds := []) #[false, false, false, false, false] (by kernel_rfl) rfl rfl ⟨(blk_cell BK336.out 0).trans rfl, (blk_cell BK336.out 1).trans rfl, (blk_cell BK336.out 2).trans rfl, (blk_cell BK336.out 3).trans rfl⟩ (fun hHeld => ?_)
     generalize w7.drew = w9 at BK336 HB hHeld ⊢
     refine take_ (i := 0) (N := some 16) (v := ?_) (a' := ?_) #[true, false, false, false, false] rfl rfl (by kernel_rfl) (fun _ _ _ h => h) (Or.inl ⟨by rfl, ?_⟩) hHeld ?_ ?_
     rotate_left
     · rintro w' ⟨s0, s1, s2, s3⟩
       go_simp
       with_reducible rfl
     rotate_left
     · simp only [Act.put, List.setIfInBounds_toArray, List.set_cons_zero, List.set_cons_succ, i64_w, i32_w]
       rfl
     refine take_ (i := 1) (N := some 17) (v := ?_) (a' := ?_) #[true, true, false, false, false] rfl rfl (by kernel_rfl) (fun _ _ _ h => h) (Or.inl ⟨by rfl, ?_⟩) hHeld ?_ ?_
     rotate_left
     · rintro w' ⟨s0, s1, s2, s3⟩
       go_simp
       with_reducible rfl
     rotate_left
     · simp only [Act.put, List.setIfInBounds_toArray, List.set_cons_zero, List.set_cons_succ, i64_w, i32_w]
       rfl
     refine one_ (i := 2) (N := some 18) #[true, true, true, false, false] rfl rfl (by kernel_rfl) (by decide) (fun K hK => ?_)
     refine goes_ Try.func8 (by kernel_rfl) rfl #[.agg #[.int .i64 a1_0, .int .i64 a1_1, .int .i64 a1_2, .int .i64 a1_3], .int .i64 5] (by rfl) rfl rfl (by (try simp only [List.map_toArray, List.map_cons, List.map_nil]); first | done | rfl | (simp only [List.length_drop, List.length_take]; rfl)) ?_
     with_reducible refine (chequerref09_Head.calls a1_0 a1_1 a1_2 a1_3 5 t338 t339 t340 t341 _ A6.out).mono ?_
     rintro e w10 ⟨rfl, hb⟩
     refine ⟨_, rfl, ?_⟩
     replace BK336 := Aside0.mk (blk_below (hp_ BK336.out) hb)
     replace HB := Aside0.mk (below_step bp_ hb)
     (try clear hb)
     (try clear hb2)
     (try clear hk)
     (try clear hi)
     refine hK.out _ _ ⟨(blk_cell BK336.out 0).trans rfl, (blk_cell BK336.out 1).trans rfl, (blk_cell BK336.out 2).trans rfl, (blk_cell BK336.out 3).trans rfl⟩ (fun hHeld => ?_)
     clear hK K
     refine norm_ (a' := ?_) ?_ ?_
     rotate_left
     · show Act.put _ (some 18) _ = _
       simp only [Act.put, List.setIfInBounds_toArray, List.set_cons_zero, List.set_cons_succ, i64_w, i32_w]
       rfl
     refine one_ (i := 3) (N := some 19) #[true, true, true, true, false] rfl rfl (by kernel_rfl) (by decide) (fun K hK => ?_)
     refine Kd.R_lit_step k23 _ 23 ?hg (N := 19) ?hd (xs := ([(⟨a1_0, a1_1, a1_2, a1_3⟩ : S23), (⟨t338, t339, t340, t341⟩ : S23)] : List (S23))) (inner := [.int .i64 a1_0, .int .i64 a1_1, .int .i64 a1_2, .int .i64 a1_3, .int .i64 t338, .int .i64 t339, .int .i64 t340, .int .i64 t341]) (ok := fun _ => True) (okp := fun _ => True) ?hr ?hp (fun _ hk => hk) trivial (Below.refl _ _) (Nat.le_refl _) (by simp) ?_; (case hd => rfl); (case hg => rfl); (case hr => first | (go_simp; done) | (go_simp; rfl)); (case hp => exact (Reps.c4 (show Kd.M k23 _ _ _ (⟨a1_0, a1_1, a1_2, a1_3⟩ : S23) [.int .i64 a1_0, .int .i64 a1_1, .int .i64 a1_2, .int .i64 a1_3] from (k23_mkM _ _ _ (⟨a1_0, a1_1, a1_2, a1_3⟩ : S23) )) (Reps.c4 (show Kd.M k23 _ _ _ (⟨t338, t339, t340, t341⟩ : S23) [.int .i64 t338, .int .i64 t339, .int .i64 t340, .int .i64 t341] from (k23_mkM _ _ _ (⟨t338, t339, t340, t341⟩ : S23) )) (Reps.none _ _))))
     intro v343 w11 ho12 hb hg_ hnew_
     clear hg_ hnew_
     (first | rw [← Ny342.out] at ho12 | (simp only [Int.reduceToNat] at ho12; rw [← Ny342.out] at ho12))
     have HO344 := Aside0.mk (Kd.R_lower (Kd.R_newB ho12 (g := gb336) (o := .cells #[.int .i64 a1_0, .int .i64 a1_1, .int .i64 a1_2, .int .i64 a1_3] 23 (0, 0)) (hp_ BK336.out)) (below_size bp_))
     replace BK336 := Aside0.mk (blk_below (hp_ BK336.out) hb)
     replace HB := Aside0.mk (below_step bp_ hb)
     clear hb ho12
     refine hK.out _ _ ⟨(blk_cell BK336.out 0).trans rfl, (blk_cell BK336.out 1).trans rfl, (blk_cell BK336.out 2).trans rfl, (blk_cell BK336.out 3).trans rfl⟩ (fun hHeld => ?_)
     clear hK K
     refine norm_ (a' := ?_) ?_ ?_
     rotate_left
     · show Act.put _ (some 19) _ = _
       simp only [Act.put, List.setIfInBounds_toArray, List.set_cons_zero, List.set_cons_succ, i64_w, i32_w]
       rfl
     refine pure_ (i := 4) (N := some 5) (v := ?_) (a' := ?_) #[true, true, true, true, true] rfl rfl (by kernel_rfl) (fun _ _ _ h => h) (Or.inl ⟨by rfl, ?_⟩) ?_ ?_
     rotate_left
     · intro w'
       go_simp
       with_reducible rfl
     rotate_left
     · simp only [Act.put, List.setIfInBounds_toArray, List.set_cons_zero, List.set_cons_succ, i64_w, i32_w]
       rfl
     refine done_ (by kernel_rfl) ?_
     try go_wp2
     go_loopg [6] k (fun kq v6 w' => ∃ (x6_1 : Int), v6 = .int .i64 x6_1 ∧ Aside0 (chequerlaw09_RawReads.l0 kq (l0.take ((ji3) : Int).toNat) y342 x6_1 = some r) ∧ Aside0 (kq ≤ k) ∧ Aside0 (Kd.R k23 23 w' w.heap.size (fun k_ => k_ ≠ gb336) v343 y342) ∧ Aside0 (w'.heap[gb336]? = some (.cells #[.int .i64 a1_0, .int .i64 a1_1, .int .i64 a1_2, .int .i64 a1_3] 23 (0, 0))) ∧ Aside0 (Below w.heap.size w w'))
     case atStart => exact ⟨(0), (by first | rfl | (simp; done) | (simp [*]; done)), H', ⟨Nat.le_refl _⟩, ⟨by (with_reducible repeat (first | apply Kd.R_alloc | apply Kd.R_drewN | apply Kd.R_drew)); exact Kd.R_mono HO344.out (fun _ hk => hk.2)⟩, ⟨hp_ BK336.out⟩, ⟨bp_⟩⟩
     case round =>
      clear H'
      try clear p2
      try clear c4
      try clear c4b0
      try clear c4b1
      try clear c5
      try clear c5b0
      try clear c5b1
      try clear c8
      obtain ⟨x6_1, rfl, HA, HK1, HO_5, BK336, HB⟩ := hrel
      cases gk with
      | zero => exact absurd HA.out (by simp [chequerlaw09_RawReads.l0])
      | succ k1 =>
       have H := HA.out
       clear HA
       simp only [chequerlaw09_RawReads.l0] at H
       by_cases c13 : x6_1 < 2
       · rw [if_pos c13] at H
         have c13b0 : decide (x6_1 < 2) = true := decide_eq_true c13
         clear c13
         by_cases c14 : 0 ≤ x6_1
         · rw [if_pos c14] at H
           have c14b0 : decide (0 ≤ x6_1) = true := decide_eq_true c14
           clear c14
           by_cases c15 : x6_1 < (y342.length : Int)
           · rw [if_pos c15] at H
             have c15b0 : decide (x6_1 < (y342.length : Int)) = true := decide_eq_true c15
             clear c15
             replace H := Option.bind_eq_some_iff.mp H
             obtain ⟨⟨t347, t350⟩, A160, H⟩ := H
             replace H : ((chequerref09_Read.f k1 (l0.take ((ji3) : Int).toNat) ((rd_T23 y342 x6_1).f0) ((rd_T23 y342 x6_1).f1) ((rd_T23 y342 x6_1).f2) ((rd_T23 y342 x6_1).f3)).bind fun bt352 => (if t350 = bt352.2 then ((chequerref03_SameRow.f k1 t347 bt352.1).bind fun t356 => (if t356 = true then (chequerlaw09_RawReads.l0 k1 (l0.take ((ji3) : Int).toNat) y342 (wrap64 (x6_1 + 1))) else (some false))) else (some false))) = some r := H
             have A16 := Aside0.mk A160
             clear A160
             replace H := Option.bind_eq_some_iff.mp H
             obtain ⟨⟨t352, t355⟩, A170, H⟩ := H
             replace H : (if t350 = t355 then ((chequerref03_SameRow.f k1 t347 t352).bind fun t356 => (if t356 = true then (chequerlaw09_RawReads.l0 k1 (l0.take ((ji3) : Int).toNat) y342 (wrap64 (x6_1 + 1))) else (some false))) else (some false)) = some r := H
             have A17 := Aside0.mk A170
             clear A170
             by_cases c18 : t350 = t355
             · rw [if_pos c18] at H
               have c18b0 : (t350 == t355) = true := beq_iff_eq.mpr c18
               have c18b1 : (t350 != t355) = false := bne_eq_false_iff_eq.mpr c18
               clear c18
               replace H := Option.bind_eq_some_iff.mp H
               obtain ⟨t356, A190, H⟩ := H
               replace H : (if t356 = true then (chequerlaw09_RawReads.l0 k1 (l0.take ((ji3) : Int).toNat) y342 (wrap64 (x6_1 + 1))) else (some false)) = some r := H
               have A19 := Aside0.mk A190
               clear A190
               by_cases c20 : t356 = true
               · subst c20
                 have H1 : (chequerlaw09_RawReads.l0 k1 (l0.take ((ji3) : Int).toNat) y342 (wrap64 (x6_1 + 1))) = some r := by rw [if_pos rfl] at H; exact H
                 clear H
                 have H := H1
                 clear H1
                 have H' := Aside0.mk H
                 clear H
                 obtain ⟨Ao21, co21, eo21⟩ := Kd.R_slice HO_5.out
                 subst eo21
                 have p346 : 0 ≤ (x6_1 : Int) := of_decide_eq_true (by first | (with_reducible assumption) | assumption)
                 have q346 : x6_1 < (y342.length : Int) := of_decide_eq_true (by first | (with_reducible assumption) | assumption)
                 obtain ⟨ad346, e346, hx346_0, hx346_1, hx346_2, hx346_3⟩ := at_T23 (Kd.R_reads' HO_5.out).2.2 x6_1 p346 q346
                 cases e346
                 replace p346 := eq_true p346
                 replace q346 := eq_true q346
                 go_wp2_with (first | ((with_reducible refine gate_callee (f := 13) rfl ?_); refine goesL_ (some 30) rfl rfl Try.func13 (by kernel_rfl) rfl #[.slice A0 (l0.take ((ji3) : Int).toNat).length c0, .agg #[.int .i64 ((rd_T23 y342 x6_1).f0), .int .i64 ((rd_T23 y342 x6_1).f1), .int .i64 ((rd_T23 y342 x6_1).f2), .int .i64 ((rd_T23 y342 x6_1).f3)]] rfl (by (try simp only [List.map_toArray, List.map_cons, List.map_nil]); first | done | (rw [show (l0.take ((ji3) : Int).toNat).length = (ji3).toNat from (by rw [List.length_take]; have h_ : ((ji3) : Int) ≤ (l0.length : Int) := (by first | exact of_decide_eq_true (by first | (with_reducible assumption) | assumption) | (have h2_ := hji3_; (split at h2_ <;> omega))); omega)] <;> rfl) | rfl | (simp only [List.length_drop, List.length_take]; rfl)) ?_; (with_reducible refine (raw_Read.calls _ _ (l0.take ((ji3) : Int).toNat) ((rd_T23 y342 x6_1).f0) ((rd_T23 y342 x6_1).f1) ((rd_T23 y342 x6_1).f2) ((rd_T23 y342 x6_1).f3) t347 t350 _ ?side1 ?side2 A16.out).mono ?_); (case side1 => repeat (first | exact (Kd.C_below HR337.out bp_) | (with_reducible refine Kd.C_alloc ?_ _) | (with_reducible refine Kd.C_drewN ?_ _) | (with_reducible refine Kd.C_drew ?_))); (case side2 => exact HC337.out); rintro e w22 ⟨v348, rfl, ho0, hb⟩; refine ⟨_, rfl, ?_⟩; replace HO_5 := Aside0.mk (Kd.R_below (rp_ HO_5.out) hb); have HO349 := Aside0.mk (Kd.R_lower ho0 (below_size bp_)); replace BK336 := Aside0.mk (blk_below (hp_ BK336.out) hb); replace HB := Aside0.mk (below_step bp_ hb); (try clear hb); (try clear hb2); (try clear hk); (try clear hi); (try clear ho0); have p351 : 0 ≤ (x6_1 : Int) := of_decide_eq_true (by first | (with_reducible assumption) | assumption); have q351 : x6_1 < (y342.length : Int) := of_decide_eq_true (by first | (with_reducible assumption) | assumption); obtain ⟨ad351, e351, hx351_0, hx351_1, hx351_2, hx351_3⟩ := at_T23 (Kd.R_reads' HO_5.out).2.2 x6_1 p351 q351; obtain rfl : ad346 = ad351 := (by injection e351); replace p351 := eq_true p351; replace q351 := eq_true q351) | ((with_reducible refine gate_callee (f := 17) rfl ?_); refine goesL_ (some 39) rfl rfl Try.func17 (by kernel_rfl) rfl #[.slice A0 (l0.take ((ji3) : Int).toNat).length c0, .agg #[.int .i64 ((rd_T23 y342 x6_1).f0), .int .i64 ((rd_T23 y342 x6_1).f1), .int .i64 ((rd_T23 y342 x6_1).f2), .int .i64 ((rd_T23 y342 x6_1).f3)]] rfl (by (try simp only [List.map_toArray, List.map_cons, List.map_nil]); first | done | (rw [show (l0.take ((ji3) : Int).toNat).length = (ji3).toNat from (by rw [List.length_take]; have h_ : ((ji3) : Int) ≤ (l0.length : Int) := (by first | exact of_decide_eq_true (by first | (with_reducible assumption) | assumption) | (have h2_ := hji3_; (split at h2_ <;> omega))); omega)] <;> rfl) | rfl | (simp only [List.length_drop, List.length_take]; rfl)) ?_; (with_reducible refine (chequerref09_Read.calls k1 _ _ (l0.take ((ji3) : Int).toNat) ((rd_T23 y342 x6_1).f0) ((rd_T23 y342 x6_1).f1) ((rd_T23 y342 x6_1).f2) ((rd_T23 y342 x6_1).f3) t352 t355 _ ?side1 ?side2 A17.out).mono ?_); (case side1 => repeat (first | exact (Kd.C_below HR337.out HB.out) | (with_reducible refine Kd.C_alloc ?_ _) | (with_reducible refine Kd.C_drewN ?_ _) | (with_reducible refine Kd.C_drew ?_))); (case side2 => exact HC337.out); rintro e w23 ⟨v353, rfl, ho0, hb⟩; refine ⟨_, rfl, ?_⟩; replace HO_5 := Aside0.mk (Kd.R_below (rp_ HO_5.out) hb); have HO354 := Aside0.mk (Kd.R_lower (Kd.R_new' ho0 (Kd.R_lt (rp_ HO349.out))) (below_size bp_)); replace HO349 := Aside0.mk (Kd.R_elder' (rp_ HO349.out) (Kd.R_base ho0) hb); replace BK336 := Aside0.mk (blk_below (hp_ BK336.out) hb); replace HB := Aside0.mk (below_step bp_ hb); (try clear hb); (try clear hb2); (try clear hk); (try clear hi); (try clear ho0); obtain ⟨Ao24, co24, eo24⟩ := Kd.R_slice HO349.out; subst eo24; obtain ⟨Ao25, co25, eo25⟩ := Kd.R_slice HO354.out; subst eo25) | (go_at_call 14; (with_reducible refine (chequerref03_SameRow.calls k1 _ _ t347 _ _ t352 true _ ?side1 ?side2 ?side3 ?side4 A19.out).mono ?_); (case side1 => exact cp_ (Kd.R_reads' HO349.out).2.2); (case side2 => exact (Kd.R_reads' HO349.out).2.1); (case side3 => exact cp_ (Kd.R_reads' HO354.out).2.2); (case side4 => exact (Kd.R_reads' HO354.out).2.1); rintro e w' ⟨rfl, ⟨nd, rfl⟩⟩))
                 go_roundg k1
                 case measure => have := HK1.out; omega
                 case rel => exact ⟨(wrap64 (x6_1 + 1)), (by first | rfl | (simp; done) | (simp [*]; done)), H', ⟨by have := HK1.out; omega⟩, ⟨rp_ HO_5.out⟩, ⟨hp_ BK336.out⟩, ⟨bp_⟩⟩
               · replace c20 := Bool.eq_false_iff.mpr c20
                 subst c20
                 have H1 : (some false) = some r := by rw [if_neg (show ¬ (false = true) by decide)] at H; exact H
                 clear H
                 have H := H1
                 clear H1
                 obtain rfl := Option.some.inj H
                 obtain ⟨Ao26, co26, eo26⟩ := Kd.R_slice HO_5.out
                 subst eo26
                 have p346 : 0 ≤ (x6_1 : Int) := of_decide_eq_true (by first | (with_reducible assumption) | assumption)
                 have q346 : x6_1 < (y342.length : Int) := of_decide_eq_true (by first | (with_reducible assumption) | assumption)
                 obtain ⟨ad346, e346, hx346_0, hx346_1, hx346_2, hx346_3⟩ := at_T23 (Kd.R_reads' HO_5.out).2.2 x6_1 p346 q346
                 cases e346
                 replace p346 := eq_true p346
                 replace q346 := eq_true q346
                 go_wp2_with (first | ((with_reducible refine gate_callee (f := 13) rfl ?_); refine goesL_ (some 30) rfl rfl Try.func13 (by kernel_rfl) rfl #[.slice A0 (l0.take ((ji3) : Int).toNat).length c0, .agg #[.int .i64 ((rd_T23 y342 x6_1).f0), .int .i64 ((rd_T23 y342 x6_1).f1), .int .i64 ((rd_T23 y342 x6_1).f2), .int .i64 ((rd_T23 y342 x6_1).f3)]] rfl (by (try simp only [List.map_toArray, List.map_cons, List.map_nil]); first | done | (rw [show (l0.take ((ji3) : Int).toNat).length = (ji3).toNat from (by rw [List.length_take]; have h_ : ((ji3) : Int) ≤ (l0.length : Int) := (by first | exact of_decide_eq_true (by first | (with_reducible assumption) | assumption) | (have h2_ := hji3_; (split at h2_ <;> omega))); omega)] <;> rfl) | rfl | (simp only [List.length_drop, List.length_take]; rfl)) ?_; (with_reducible refine (raw_Read.calls _ _ (l0.take ((ji3) : Int).toNat) ((rd_T23 y342 x6_1).f0) ((rd_T23 y342 x6_1).f1) ((rd_T23 y342 x6_1).f2) ((rd_T23 y342 x6_1).f3) t347 t350 _ ?side1 ?side2 A16.out).mono ?_); (case side1 => repeat (first | exact (Kd.C_below HR337.out bp_) | (with_reducible refine Kd.C_alloc ?_ _) | (with_reducible refine Kd.C_drewN ?_ _) | (with_reducible refine Kd.C_drew ?_))); (case side2 => exact HC337.out); rintro e w27 ⟨v348, rfl, ho0, hb⟩; refine ⟨_, rfl, ?_⟩; replace HO_5 := Aside0.mk (Kd.R_below (rp_ HO_5.out) hb); have HO349 := Aside0.mk (Kd.R_lower ho0 (below_size bp_)); replace HB := Aside0.mk (below_step bp_ hb); (try clear hb); (try clear hb2); (try clear hk); (try clear hi); (try clear ho0); have p351 : 0 ≤ (x6_1 : Int) := of_decide_eq_true (by first | (with_reducible assumption) | assumption); have q351 : x6_1 < (y342.length : Int) := of_decide_eq_true (by first | (with_reducible assumption) | assumption); obtain ⟨ad351, e351, hx351_0, hx351_1, hx351_2, hx351_3⟩ := at_T23 (Kd.R_reads' HO_5.out).2.2 x6_1 p351 q351; obtain rfl : ad346 = ad351 := (by injection e351); replace p351 := eq_true p351; replace q351 := eq_true q351) | ((with_reducible refine gate_callee (f := 17) rfl ?_); refine goesL_ (some 39) rfl rfl Try.func17 (by kernel_rfl) rfl #[.slice A0 (l0.take ((ji3) : Int).toNat).length c0, .agg #[.int .i64 ((rd_T23 y342 x6_1).f0), .int .i64 ((rd_T23 y342 x6_1).f1), .int .i64 ((rd_T23 y342 x6_1).f2), .int .i64 ((rd_T23 y342 x6_1).f3)]] rfl (by (try simp only [List.map_toArray, List.map_cons, List.map_nil]); first | done | (rw [show (l0.take ((ji3) : Int).toNat).length = (ji3).toNat from (by rw [List.length_take]; have h_ : ((ji3) : Int) ≤ (l0.length : Int) := (by first | exact of_decide_eq_true (by first | (with_reducible assumption) | assumption) | (have h2_ := hji3_; (split at h2_ <;> omega))); omega)] <;> rfl) | rfl | (simp only [List.length_drop, List.length_take]; rfl)) ?_; (with_reducible refine (chequerref09_Read.calls k1 _ _ (l0.take ((ji3) : Int).toNat) ((rd_T23 y342 x6_1).f0) ((rd_T23 y342 x6_1).f1) ((rd_T23 y342 x6_1).f2) ((rd_T23 y342 x6_1).f3) t352 t355 _ ?side1 ?side2 A17.out).mono ?_); (case side1 => repeat (first | exact (Kd.C_below HR337.out HB.out) | (with_reducible refine Kd.C_alloc ?_ _) | (with_reducible refine Kd.C_drewN ?_ _) | (with_reducible refine Kd.C_drew ?_))); (case side2 => exact HC337.out); rintro e w28 ⟨v353, rfl, ho0, hb⟩; refine ⟨_, rfl, ?_⟩; replace HO_5 := Aside0.mk (Kd.R_below (rp_ HO_5.out) hb); have HO354 := Aside0.mk (Kd.R_lower (Kd.R_new' ho0 (Kd.R_lt (rp_ HO349.out))) (below_size bp_)); replace HO349 := Aside0.mk (Kd.R_elder' (rp_ HO349.out) (Kd.R_base ho0) hb); replace HB := Aside0.mk (below_step bp_ hb); (try clear hb); (try clear hb2); (try clear hk); (try clear hi); (try clear ho0); obtain ⟨Ao29, co29, eo29⟩ := Kd.R_slice HO349.out; subst eo29; obtain ⟨Ao30, co30, eo30⟩ := Kd.R_slice HO354.out; subst eo30) | (go_at_call 14; (with_reducible refine (chequerref03_SameRow.calls k1 _ _ t347 _ _ t352 false _ ?side1 ?side2 ?side3 ?side4 A19.out).mono ?_); (case side1 => exact cp_ (Kd.R_reads' HO349.out).2.2); (case side2 => exact (Kd.R_reads' HO349.out).2.1); (case side3 => exact cp_ (Kd.R_reads' HO354.out).2.2); (case side4 => exact (Kd.R_reads' HO354.out).2.1); rintro e w' ⟨rfl, ⟨nd, rfl⟩⟩))
                 go_ret
                 exact ⟨by first | rfl | (simp [errW_none, errW_some] <;> rfl) | (simp only [← hji3]; first | rfl | (simp [errW_none, errW_some] <;> rfl)) | (simp [*, errW_none, errW_some] <;> rfl), bp_⟩
             · rw [if_neg c18] at H
               have c18b0 : (t350 == t355) = false := beq_eq_false_iff_ne.mpr c18
               have c18b1 : (t350 != t355) = true := bne_iff_ne.mpr c18
               obtain rfl := Option.some.inj H
               obtain ⟨Ao31, co31, eo31⟩ := Kd.R_slice HO_5.out
               subst eo31
               have p346 : 0 ≤ (x6_1 : Int) := of_decide_eq_true (by first | (with_reducible assumption) | assumption)
               have q346 : x6_1 < (y342.length : Int) := of_decide_eq_true (by first | (with_reducible assumption) | assumption)
               obtain ⟨ad346, e346, hx346_0, hx346_1, hx346_2, hx346_3⟩ := at_T23 (Kd.R_reads' HO_5.out).2.2 x6_1 p346 q346
               cases e346
               replace p346 := eq_true p346
               replace q346 := eq_true q346
               go_wp2_with (first | ((with_reducible refine gate_callee (f := 13) rfl ?_); refine goesL_ (some 30) rfl rfl Try.func13 (by kernel_rfl) rfl #[.slice A0 (l0.take ((ji3) : Int).toNat).length c0, .agg #[.int .i64 ((rd_T23 y342 x6_1).f0), .int .i64 ((rd_T23 y342 x6_1).f1), .int .i64 ((rd_T23 y342 x6_1).f2), .int .i64 ((rd_T23 y342 x6_1).f3)]] rfl (by (try simp only [List.map_toArray, List.map_cons, List.map_nil]); first | done | (rw [show (l0.take ((ji3) : Int).toNat).length = (ji3).toNat from (by rw [List.length_take]; have h_ : ((ji3) : Int) ≤ (l0.length : Int) := (by first | exact of_decide_eq_true (by first | (with_reducible assumption) | assumption) | (have h2_ := hji3_; (split at h2_ <;> omega))); omega)] <;> rfl) | rfl | (simp only [List.length_drop, List.length_take]; rfl)) ?_; (with_reducible refine (raw_Read.calls _ _ (l0.take ((ji3) : Int).toNat) ((rd_T23 y342 x6_1).f0) ((rd_T23 y342 x6_1).f1) ((rd_T23 y342 x6_1).f2) ((rd_T23 y342 x6_1).f3) t347 t350 _ ?side1 ?side2 A16.out).mono ?_); (case side1 => repeat (first | exact (Kd.C_below HR337.out bp_) | (with_reducible refine Kd.C_alloc ?_ _) | (with_reducible refine Kd.C_drewN ?_ _) | (with_reducible refine Kd.C_drew ?_))); (case side2 => exact HC337.out); rintro e w32 ⟨v348, rfl, ho0, hb⟩; refine ⟨_, rfl, ?_⟩; replace HO_5 := Aside0.mk (Kd.R_below (rp_ HO_5.out) hb); have HO349 := Aside0.mk (Kd.R_lower ho0 (below_size bp_)); replace HB := Aside0.mk (below_step bp_ hb); (try clear hb); (try clear hb2); (try clear hk); (try clear hi); (try clear ho0); have p351 : 0 ≤ (x6_1 : Int) := of_decide_eq_true (by first | (with_reducible assumption) | assumption); have q351 : x6_1 < (y342.length : Int) := of_decide_eq_true (by first | (with_reducible assumption) | assumption); obtain ⟨ad351, e351, hx351_0, hx351_1, hx351_2, hx351_3⟩ := at_T23 (Kd.R_reads' HO_5.out).2.2 x6_1 p351 q351; obtain rfl : ad346 = ad351 := (by injection e351); replace p351 := eq_true p351; replace q351 := eq_true q351) | ((with_reducible refine gate_callee (f := 17) rfl ?_); refine goesL_ (some 39) rfl rfl Try.func17 (by kernel_rfl) rfl #[.slice A0 (l0.take ((ji3) : Int).toNat).length c0, .agg #[.int .i64 ((rd_T23 y342 x6_1).f0), .int .i64 ((rd_T23 y342 x6_1).f1), .int .i64 ((rd_T23 y342 x6_1).f2), .int .i64 ((rd_T23 y342 x6_1).f3)]] rfl (by (try simp only [List.map_toArray, List.map_cons, List.map_nil]); first | done | (rw [show (l0.take ((ji3) : Int).toNat).length = (ji3).toNat from (by rw [List.length_take]; have h_ : ((ji3) : Int) ≤ (l0.length : Int) := (by first | exact of_decide_eq_true (by first | (with_reducible assumption) | assumption) | (have h2_ := hji3_; (split at h2_ <;> omega))); omega)] <;> rfl) | rfl | (simp only [List.length_drop, List.length_take]; rfl)) ?_; (with_reducible refine (chequerref09_Read.calls k1 _ _ (l0.take ((ji3) : Int).toNat) ((rd_T23 y342 x6_1).f0) ((rd_T23 y342 x6_1).f1) ((rd_T23 y342 x6_1).f2) ((rd_T23 y342 x6_1).f3) t352 t355 _ ?side1 ?side2 A17.out).mono ?_); (case side1 => repeat (first | exact (Kd.C_below HR337.out HB.out) | (with_reducible refine Kd.C_alloc ?_ _) | (with_reducible refine Kd.C_drewN ?_ _) | (with_reducible refine Kd.C_drew ?_))); (case side2 => exact HC337.out); rintro e w33 ⟨v353, rfl, ho0, hb⟩; refine ⟨_, rfl, ?_⟩; replace HO_5 := Aside0.mk (Kd.R_below (rp_ HO_5.out) hb); have HO354 := Aside0.mk (Kd.R_lower (Kd.R_new' ho0 (Kd.R_lt (rp_ HO349.out))) (below_size bp_)); replace HO349 := Aside0.mk (Kd.R_elder' (rp_ HO349.out) (Kd.R_base ho0) hb); replace HB := Aside0.mk (below_step bp_ hb); (try clear hb); (try clear hb2); (try clear hk); (try clear hi); (try clear ho0)))
               go_ret
               exact ⟨by first | rfl | (simp [errW_none, errW_some] <;> rfl) | (simp only [← hji3]; first | rfl | (simp [errW_none, errW_some] <;> rfl)) | (simp [*, errW_none, errW_some] <;> rfl), bp_⟩
           · rw [if_neg c15] at H
             exact absurd H (by simp)
         · rw [if_neg c14] at H
           exact absurd H (by simp)
       · rw [if_neg c13] at H
         have c13b0 : decide (x6_1 < 2) = false := decide_eq_false c13
         clear c13
         replace H := Option.bind_eq_some_iff.mp H
         obtain ⟨t345, A340, H⟩ := H
         replace H : (some t345) = some r := H
         have A34 := Aside0.mk A340
         clear A340
         obtain rfl := Option.some.inj H
         go_wp2_with (first | ((with_reducible refine gate_callee (f := 16) rfl ?_); refine goQ_ (some 51) Try.func16 #[] ?_; (with_reducible refine (chequerlaw09_lives.calls k1  t345 _ A34.out).mono ?_); rintro e w35 ⟨rfl, hb⟩; refine ⟨_, rfl, ?_⟩; replace HO_5 := Aside0.mk (Kd.R_below (rp_ HO_5.out) hb); replace HB := Aside0.mk (below_step bp_ hb); (try clear hb); (try clear hb2); (try clear hk); (try clear hi)))
         go_ret
         exact ⟨by first | rfl | (simp [errW_none, errW_some] <;> rfl) | (simp only [← hji3]; first | rfl | (simp [errW_none, errW_some] <;> rfl)) | (simp [*, errW_none, errW_some] <;> rfl), bp_⟩
   · rw [if_neg c5] at H
     exact absurd H (by simp)
 · rw [if_neg c4] at H
   exact absurd H (by simp)

/-- THE ONE PURE STATEMENT of chequerlaw09_RawReads. -/
def chequerlaw09_RawReads.Pure : Prop := ∀ (l0 : List Int) (a1_0 : Int) (a1_1 : Int) (a1_2 : Int) (a1_3 : Int), l0.length ≤ maxLen → l0.length * 1 ≤ 140737488351232 → (∀ x ∈ l0, (Lit.int .u8 x).wf = true) → (Lit.int .i64 a1_0).wf = true → (Lit.int .i64 a1_1).wf = true → (Lit.int .i64 a1_2).wf = true → (Lit.int .i64 a1_3).wf = true → ∃ k, chequerlaw09_RawReads.f k l0 a1_0 a1_1 a1_2 a1_3 = some true
theorem chequerlaw09_RawReads.walk (P : chequerlaw09_RawReads.Pure) (a0 : Option Addr) (len0 cap0 : Nat) (z0 : List Int) (a1_0 : Int) (a1_1 : Int) (a1_2 : Int) (a1_3 : Int) (w : World) (w0 : (a0 = none ∧ len0 = 0 ∧ cap0 = 0 ∧ z0 = []) ∨ ∃ x, a0 = some x ∧ len0 ≤ cap0 ∧ cap0 ≤ maxLen ∧ z0.length = cap0 ∧ (∀ i, i < z0.length → w.cell? (x.add i) = some (.int .u8 (z0.getD i 0))) ∧ ∀ n ∈ z0, (Lit.int .u8 n).wf = true) (y0 : len0 * 1 ≤ 140737488351232) (w1_0 : (Lit.int .i64 a1_0).wf = true) (w1_1 : (Lit.int .i64 a1_1).wf = true) (w1_2 : (Lit.int .i64 a1_2).wf = true) (w1_3 : (Lit.int .i64 a1_3).wf = true) :
 Calls Try.prog 4 #[.slice a0 len0 cap0, .agg #[.int .i64 a1_0, .int .i64 a1_1, .int .i64 a1_2, .int .i64 a1_3]] w fun e w' => e = .returned (.bool true) ∧ Below w.heap.size w w' := by
 obtain ⟨l0, rfl, hr0, hm0, hw0, hc0⟩ := ReadsInt.ofRowC w0
 obtain ⟨k, h⟩ := P l0 a1_0 a1_1 a1_2 a1_3 hm0 y0 hw0 w1_0 w1_1 w1_2 w1_3
 refine (chequerlaw09_RawReads.calls k _ _ l0 a1_0 a1_1 a1_2 a1_3 true w (Kd.C_of_reads (d := (0 : Int)) (h1 := fun _ => rfl) hr0) hc0 h).mono ?_
 rintro e w' ⟨rfl, hd⟩
 exact ⟨rfl, hd⟩

end Go.Proofs.Ytdjonaajfhbfhaa.Q
