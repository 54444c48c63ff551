-- written by our own program (wip/tools/myprint.py) out of the translation, by the kit's print; Lean checks it
import Derived.Test.YtdjonaajfhbfhaaQ0
import Derived.Test.YtdjonaajfhbfhaaQ3
import Derived.Test.YtdjonaajfhbfhaaQ11
namespace Go.Proofs.Ytdjonaajfhbfhaa.Q
open Go.RowKit Go.Proofs.YtdjonaajfhbfhaaW.PrintWords Go.Proofs.YtdjonaajfhbfhaaW.PrintLast Go.Proofs.YtdjonaajfhbfhaaW.PrintMore
attribute [local go_sem] max2_int min2_int max_two min_two max_three min_three max_four min_four   -- for this text's walks alone
set_option linter.unusedVariables false
set_option linter.unusedSimpArgs false

/-! ### chequerref09_wide: function 42 -/
def chequerref09_wide.f (a0_0 : Int) (a0_1 : Int) (a0_2 : Int) (a0_3 : Int) : Option (Int) := if a0_3 > 255 then (some 2) else (some 1)
set_option maxHeartbeats 8000000 in
set_option maxRecDepth 100000 in
theorem chequerref09_wide.calls (a0_0 : Int) (a0_1 : Int) (a0_2 : Int) (a0_3 : Int) (r : Int) (w : World) (h : chequerref09_wide.f a0_0 a0_1 a0_2 a0_3 = some r) :
    Calls Try.prog 42 #[.agg #[.int .i64 a0_0, .int .i64 a0_1, .int .i64 a0_2, .int .i64 a0_3]] w fun e w' => e = .returned (.int .i64 r) ∧ Below w.heap.size w w' := by
  have hu23 := Try.underlying23
  have HB := Aside0.mk (Below.refl w.heap.size w)
  have H : (if a0_3 > 255 then (some 2) else (some 1)) = some r := h
  clear h
  by_cases c2 : a0_3 > 255
  · rw [if_pos c2] at H
    have c2b0 : decide (255 < a0_3) = true := decide_eq_true c2
    clear c2
    obtain rfl := Option.some.inj H
    go_enter Try.func42, Try.ntmps42
    go_wp2_with (first | ((with_reducible refine gate_dst (N := 1) rfl ?_); refine box_event ?hg (N := 1) ?hd (cs := #[.int .i64 a0_0, .int .i64 a0_1, .int .i64 a0_2, .int .i64 a0_3]) (t := 23) ?hr ?_; (case hd => rfl); (case hg => rfl); (case hr => first | (go_simp; done) | (go_simp; rfl)); intro gb207 hg w3 hbox hb; have n0_ := Aside0.mk (below_step (by repeat (first | (with_reducible first | exact HB.out | apply below_alloc | apply pw_below_drewN | apply below_drew1) | exact HB.out)) hb); have n1_ := Aside0.mk (hbox); have n2_ := Aside0.mk ((by rw [hg]; exact (below_size (by repeat (first | (with_reducible first | exact HB.out | apply below_alloc | apply pw_below_drewN | apply below_drew1) | exact HB.out))) : w.heap.size ≤ gb207)); have n3_ := Aside0.mk ((by rw [hg]; exact (below_size (by repeat (first | (with_reducible first | exact HB.out | apply below_alloc | apply pw_below_drewN | apply below_drew1) | exact HB.out))) : w.heap.size ≤ gb207)); clear HB; have HB := n0_; have BK207 := n1_; have GW207 := n2_; have GE207 := n3_; clear n0_ n1_ n2_ n3_; clear hb hbox hg; have hcz4_0 : w3.cell? ⟨gb207, 0, none⟩ = some (.int .i64 a0_0) := (blk_cell BK207.out 0).trans rfl; have hcz4_1 : w3.cell? ⟨gb207, 1, none⟩ = some (.int .i64 a0_1) := (blk_cell BK207.out 1).trans rfl; have hcz4_2 : w3.cell? ⟨gb207, 2, none⟩ = some (.int .i64 a0_2) := (blk_cell BK207.out 2).trans rfl; have hcz4_3 : w3.cell? ⟨gb207, 3, none⟩ = some (.int .i64 a0_3) := (blk_cell BK207.out 3).trans rfl; have hfz4_0 := blk_frozen BK207.out 0; have hfz4_1 := blk_frozen BK207.out 1; have hfz4_2 := blk_frozen BK207.out 2; have hfz4_3 := blk_frozen BK207.out 3))
    go_ret
    exact ⟨by first | rfl | (simp [errW_none, errW_some] <;> rfl) | (simp [*, errW_none, errW_some] <;> rfl), by repeat (first | (with_reducible first | exact HB.out | apply below_alloc | apply pw_below_drewN | apply below_drew1 | refine below_set ?_ GE207.out) | exact HB.out)⟩
  · rw [if_neg c2] at H
    have c2b0 : decide (255 < a0_3) = false := decide_eq_false c2
    clear c2
    obtain rfl := Option.some.inj H
    go_enter Try.func42, Try.ntmps42
    go_wp2_with (first | ((with_reducible refine gate_dst (N := 1) rfl ?_); refine box_event ?hg (N := 1) ?hd (cs := #[.int .i64 a0_0, .int .i64 a0_1, .int .i64 a0_2, .int .i64 a0_3]) (t := 23) ?hr ?_; (case hd => rfl); (case hg => rfl); (case hr => first | (go_simp; done) | (go_simp; rfl)); intro gb207 hg w5 hbox hb; have n0_ := Aside0.mk (below_step (by repeat (first | (with_reducible first | exact HB.out | apply below_alloc | apply pw_below_drewN | apply below_drew1) | exact HB.out)) hb); have n1_ := Aside0.mk (hbox); have n2_ := Aside0.mk ((by rw [hg]; exact (below_size (by repeat (first | (with_reducible first | exact HB.out | apply below_alloc | apply pw_below_drewN | apply below_drew1) | exact HB.out))) : w.heap.size ≤ gb207)); have n3_ := Aside0.mk ((by rw [hg]; exact (below_size (by repeat (first | (with_reducible first | exact HB.out | apply below_alloc | apply pw_below_drewN | apply below_drew1) | exact HB.out))) : w.heap.size ≤ gb207)); clear HB; have HB := n0_; have BK207 := n1_; have GW207 := n2_; have GE207 := n3_; clear n0_ n1_ n2_ n3_; clear hb hbox hg; have hcz6_0 : w5.cell? ⟨gb207, 0, none⟩ = some (.int .i64 a0_0) := (blk_cell BK207.out 0).trans rfl; have hcz6_1 : w5.cell? ⟨gb207, 1, none⟩ = some (.int .i64 a0_1) := (blk_cell BK207.out 1).trans rfl; have hcz6_2 : w5.cell? ⟨gb207, 2, none⟩ = some (.int .i64 a0_2) := (blk_cell BK207.out 2).trans rfl; have hcz6_3 : w5.cell? ⟨gb207, 3, none⟩ = some (.int .i64 a0_3) := (blk_cell BK207.out 3).trans rfl; have hfz6_0 := blk_frozen BK207.out 0; have hfz6_1 := blk_frozen BK207.out 1; have hfz6_2 := blk_frozen BK207.out 2; have hfz6_3 := blk_frozen BK207.out 3))
    go_ret
    exact ⟨by first | rfl | (simp [errW_none, errW_some] <;> rfl) | (simp [*, errW_none, errW_some] <;> rfl), by repeat (first | (with_reducible first | exact HB.out | apply below_alloc | apply pw_below_drewN | apply below_drew1 | refine below_set ?_ GE207.out) | exact HB.out)⟩


/-! ### chequerref09_Write: function 11 -/
mutual
def chequerref09_Write.l0 : Nat → List Int → List Int → List Int → Int → Int → Int → Int → Int → Option (List Int × Int)
 | 0, _, _, _, _, _, _, _, _ => none
 | k + 1, x0, x7, x8, x9, x209000, x209001, x209002, x209003 => if x9 < (x0.length : Int) then (if 0 ≤ x9 then ((chequerref06_Format.f x209000 x209001 x209002 x209003).bind fun bt211 => ((chequerref01_Fits.f k (rd x0 x9) bt211.1 bt211.2).bind fun t213 => (if t213 = true then ((chequerref01_Unpack.f (rd x0 x9)).bind fun t215 => (if x209000 = 4 then (if 0 < (t215.length : Int) then (if x8.length < 17592186044416 then ((some (x8 ++ [rd t215 0] : List Int)).bind fun y219 => (if (y219.length : Int) = x209001 then ((chequerref07_Pack.f k y219).bind fun bt222 => (if x7.length + bt222.1.length < 140737488355328 then (chequerref09_Write.l0 k x0 (x7 ++ bt222.1) ([] : List Int) (wrap64 (x9 + 1)) x209000 x209001 x209002 x209003) else (none))) else (chequerref09_Write.l0 k x0 x7 y219 (wrap64 (x9 + 1)) x209000 x209001 x209002 x209003))) else (none)) else (none)) else (chequerref09_Write.l1 k x0 x7 x8 x9 t215 0 x209000 x209001 x209002 x209003))) else (some (([] : List Int), 1))))) else (none)) else (some (x7, 0))
def chequerref09_Write.l1 : Nat → List Int → List Int → List Int → Int → List Int → Int → Int → Int → Int → Int → Option (List Int × Int)
 | 0, _, _, _, _, _, _, _, _, _, _ => none
 | k + 1, x0, x7, x8, x9, x11, x14, x209000, x209001, x209002, x209003 => if x14 < (x11.length : Int) then ((chequerref09_wide.f x209000 x209001 x209002 x209003).bind fun t229 => (if t229 = 2 then (if 0 ≤ x14 then (if x7.length < 140737488355328 then ((some (x7 ++ [(wrap64 (Int.tdiv (rd x11 x14) 256)) % 256] : List Int)).bind fun y231 => (if y231.length < 140737488355328 then (chequerref09_Write.l1 k x0 (y231 ++ [(Int.tmod (rd x11 x14) 256) % 256]) x8 x9 x11 (wrap64 (x14 + 1)) x209000 x209001 x209002 x209003) else (none))) else (none)) else (none)) else (if 0 ≤ x14 then (if x7.length < 140737488355328 then (chequerref09_Write.l1 k x0 (x7 ++ [(Int.tmod (rd x11 x14) 256) % 256]) x8 x9 x11 (wrap64 (x14 + 1)) x209000 x209001 x209002 x209003) else (none)) else (none)))) else (chequerref09_Write.l0 k x0 x7 x8 (wrap64 (x9 + 1)) x209000 x209001 x209002 x209003)
end
def chequerref09_Write.f (k : Nat) (l0 : List Int) (a1_0 : Int) (a1_1 : Int) (a1_2 : Int) (a1_3 : Int) : Option (List Int × Int) := (chequerref09_May.f a1_0 a1_1 a1_2 a1_3).bind fun t209 => (if t209 = true then (if (l0.length : Int) = (wrap64 (a1_1 * a1_2)) then (chequerref09_Write.l0 k l0 ([] : List Int) ([] : List Int) 0 a1_0 a1_1 a1_2 a1_3) else (some (([] : List Int), 1))) else (some (([] : List Int), 1)))
theorem chequerref09_Write.mono_l : ∀ k, (∀ y0 y1 y2 y3 y4 y5 y6 y7, LeO (chequerref09_Write.l0 k y0 y1 y2 y3 y4 y5 y6 y7) (chequerref09_Write.l0 (k + 1) y0 y1 y2 y3 y4 y5 y6 y7)) ∧ (∀ y0 y1 y2 y3 y4 y5 y6 y7 y8 y9, LeO (chequerref09_Write.l1 k y0 y1 y2 y3 y4 y5 y6 y7 y8 y9) (chequerref09_Write.l1 (k + 1) y0 y1 y2 y3 y4 y5 y6 y7 y8 y9))
 | 0 => ⟨fun _ _ _ _ _ _ _ _ r h => by simp [chequerref09_Write.l0] at h, fun _ _ _ _ _ _ _ _ _ _ r h => by simp [chequerref09_Write.l1] at h⟩
 | k + 1 => by
  obtain ⟨ih0, ih1⟩ := chequerref09_Write.mono_l k
  refine ⟨?_, ?_⟩
  · intro y0 y1 y2 y3 y4 y5 y6 y7
    unfold chequerref09_Write.l0
    repeat' first
    | (with_reducible exact ih0 _ _ _ _ _ _ _ _)
    | (with_reducible exact ih1 _ _ _ _ _ _ _ _ _ _)
    | (with_reducible exact chequerref01_Fits.mono _ _ _ _)
    | (with_reducible exact chequerref07_Pack.mono _ _)
    | (with_reducible exact LeO.refl _)
    | (with_reducible exact LeO.none _)
    | (with_reducible refine LeO.ite ?_ ?_)
    | (with_reducible refine LeO.bind ?_ (fun _ => ?_))
    | exact ih0 _ _ _ _ _ _ _ _
    | exact ih1 _ _ _ _ _ _ _ _ _ _
    | exact chequerref01_Fits.mono _ _ _ _
    | exact chequerref07_Pack.mono _ _
    | exact LeO.none _
    | refine LeO.ite ?_ ?_
    | refine LeO.bind ?_ (fun _ => ?_)
  · intro y0 y1 y2 y3 y4 y5 y6 y7 y8 y9
    unfold chequerref09_Write.l1
    repeat' first
    | (with_reducible exact ih0 _ _ _ _ _ _ _ _)
    | (with_reducible exact ih1 _ _ _ _ _ _ _ _ _ _)
    | (with_reducible exact chequerref01_Fits.mono _ _ _ _)
    | (with_reducible exact chequerref07_Pack.mono _ _)
    | (with_reducible exact LeO.refl _)
    | (with_reducible exact LeO.none _)
    | (with_reducible refine LeO.ite ?_ ?_)
    | (with_reducible refine LeO.bind ?_ (fun _ => ?_))
    | exact ih0 _ _ _ _ _ _ _ _
    | exact ih1 _ _ _ _ _ _ _ _ _ _
    | exact chequerref01_Fits.mono _ _ _ _
    | exact chequerref07_Pack.mono _ _
    | exact LeO.none _
    | refine LeO.ite ?_ ?_
    | refine LeO.bind ?_ (fun _ => ?_)
theorem chequerref09_Write.mono : ∀ a0 a1 a2 a3 a4 k, LeO (chequerref09_Write.f k a0 a1 a2 a3 a4) (chequerref09_Write.f (k + 1) a0 a1 a2 a3 a4) := by
 intro a0 a1 a2 a3 a4 k
 obtain ⟨ih0, ih1⟩ := chequerref09_Write.mono_l k
 unfold chequerref09_Write.f
 repeat' first
  | (with_reducible exact ih0 _ _ _ _ _ _ _ _)
  | (with_reducible exact ih1 _ _ _ _ _ _ _ _ _ _)
  | (with_reducible exact chequerref01_Fits.mono _ _ _ _)
  | (with_reducible exact chequerref07_Pack.mono _ _)
  | (with_reducible exact LeO.refl _)
  | (with_reducible exact LeO.none _)
  | (with_reducible refine LeO.ite ?_ ?_)
  | (with_reducible refine LeO.bind ?_ (fun _ => ?_))
  | exact ih0 _ _ _ _ _ _ _ _
  | exact ih1 _ _ _ _ _ _ _ _ _ _
  | exact chequerref01_Fits.mono _ _ _ _
  | exact chequerref07_Pack.mono _ _
  | exact LeO.none _
  | refine LeO.ite ?_ ?_
  | refine LeO.bind ?_ (fun _ => ?_)
def chequerref09_Write.T11 : Bool × List (List Nat × List Nat) := (true, [([], []), ([], []), ([0, 1], [0, 1]), ([2], [2]), ([], []), ([4], [4]), ([3, 5, 5], [3, 5]), ([6, 6, 0, 1, 2, 3, 4, 5, 6], [6])])
def chequerref09_Write.B11 : List Nat := [0, 0, 3, 7, 0, 16, 63, 127]
theorem chequerref09_Write.tab11 : rtab .any (opsOf Try.f11 11) = chequerref09_Write.T11 := by kernel_rfl
theorem chequerref09_Write.bits11 : waitsOk chequerref09_Write.T11.2 chequerref09_Write.B11 = true := by kernel_rfl
set_option maxHeartbeats 8000000 in
set_option maxRecDepth 100000 in
theorem chequerref09_Write.calls (k : Nat) (A0 : Option Addr) (c0 : Nat) (l0 : List Int) (a1_0 : Int) (a1_1 : Int) (a1_2 : Int) (a1_3 : Int) (r1 : List Int) (r2 : Int) (w : World) (hr0 : Kd.C (Kd.int .u64) w A0 l0.length l0) (hc0 : l0.length ≤ c0) (h : chequerref09_Write.f k l0 a1_0 a1_1 a1_2 a1_3 = some (r1, r2)) :
 Calls Try.prog 11 #[.slice A0 l0.length c0, .agg #[.int .i64 a1_0, .int .i64 a1_1, .int .i64 a1_2, .int .i64 a1_3]] w fun e w' => ∃ v0_ : Value, e = .returned (.tuple #[v0_, .int .i64 r2]) ∧ Kd.R (Kd.int .u8) 5 w' w.heap.size (fun _ => True) v0_ r1 ∧ Below w.heap.size w w' := by
 have hu23 := Try.underlying23
 have HR0 := Aside0.mk hr0
 have HC0 := Aside0.mk hc0
 clear hr0 hc0
 have HB := Aside0.mk (Below.refl w.heap.size w)
 have H : ((chequerref09_May.f a1_0 a1_1 a1_2 a1_3).bind fun t209 => (if t209 = true then (if (l0.length : Int) = (wrap64 (a1_1 * a1_2)) then (chequerref09_Write.l0 k l0 ([] : List Int) ([] : List Int) 0 a1_0 a1_1 a1_2 a1_3) else (some (([] : List Int), 1))) else (some (([] : List Int), 1)))) = some (r1, r2) := h
 clear h
 replace H := Option.bind_eq_some_iff.mp H
 obtain ⟨t209, A30, H⟩ := H
 replace H : (if t209 = true then (if (l0.length : Int) = (wrap64 (a1_1 * a1_2)) then (chequerref09_Write.l0 k l0 ([] : List Int) ([] : List Int) 0 a1_0 a1_1 a1_2 a1_3) else (some (([] : List Int), 1))) else (some (([] : List Int), 1))) = some (r1, r2) := H
 have A3 := Aside0.mk A30
 clear A30
 by_cases c4 : t209 = true
 · subst c4
   have H1 : (if (l0.length : Int) = (wrap64 (a1_1 * a1_2)) then (chequerref09_Write.l0 k l0 ([] : List Int) ([] : List Int) 0 a1_0 a1_1 a1_2 a1_3) else (some (([] : List Int), 1))) = some (r1, r2) := by rw [if_pos rfl] at H; exact H
   clear H
   have H := H1
   clear H1
   by_cases c5 : (l0.length : Int) = (wrap64 (a1_1 * a1_2))
   · rw [if_pos c5] at H
     have c5b0 : ((l0.length : Int) == (wrap64 (a1_1 * a1_2))) = true := beq_iff_eq.mpr c5
     have c5b1 : ((l0.length : Int) != (wrap64 (a1_1 * a1_2))) = false := bne_eq_false_iff_eq.mpr c5
     clear c5
     have H' := Aside0.mk H
     clear H
     go_enter Try.func11, Try.ntmps11
     go_wp2_with (first | ((with_reducible refine gate_dst (N := 3) rfl ?_); refine box_event ?hg (N := 3) ?hd (cs := #[.int .i64 a1_0, .int .i64 a1_1, .int .i64 a1_2, .int .i64 a1_3]) (t := 23) ?hr ?_; (case hd => rfl); (case hg => rfl); (case hr => first | (go_simp; done) | (go_simp; rfl)); intro gb208 hg w6 hbox hb; have BK208 := Aside0.mk (hbox); have GW208 := Aside0.mk ((by rw [hg]; exact (below_size bp_) : w.heap.size ≤ gb208)); have GE208 := Aside0.mk ((by rw [hg]; exact (below_size bp_) : w.heap.size ≤ gb208)); replace HB := Aside0.mk (below_step bp_ hb); clear hb hbox hg; have hcz7_0 : w6.cell? ⟨gb208, 0, none⟩ = some (.int .i64 a1_0) := (blk_cell BK208.out 0).trans rfl; have hcz7_1 : w6.cell? ⟨gb208, 1, none⟩ = some (.int .i64 a1_1) := (blk_cell BK208.out 1).trans rfl; have hcz7_2 : w6.cell? ⟨gb208, 2, none⟩ = some (.int .i64 a1_2) := (blk_cell BK208.out 2).trans rfl; have hcz7_3 : w6.cell? ⟨gb208, 3, none⟩ = some (.int .i64 a1_3) := (blk_cell BK208.out 3).trans rfl; have hfz7_0 := blk_frozen BK208.out 0; have hfz7_1 := blk_frozen BK208.out 1; have hfz7_2 := blk_frozen BK208.out 2; have hfz7_3 := blk_frozen BK208.out 3) | ((with_reducible refine gate_callee (f := 28) rfl ?_); refine goQ_ (some 16) Try.func28 #[.agg #[.int .i64 a1_0, .int .i64 a1_1, .int .i64 a1_2, .int .i64 a1_3]] ?_; (with_reducible refine (chequerref09_May.calls a1_0 a1_1 a1_2 a1_3 true _ A3.out).mono ?_); rintro e w8 ⟨rfl, hb⟩; refine ⟨_, rfl, ?_⟩; replace BK208 := Aside0.mk (blk_below (hp_ BK208.out) hb); replace HB := Aside0.mk (below_step bp_ hb); (try clear hb); (try clear hb2); (try clear hk); (try clear hi); have hcz9_0 : w8.cell? ⟨gb208, 0, none⟩ = some (.int .i64 a1_0) := (blk_cell BK208.out 0).trans rfl; have hcz9_1 : w8.cell? ⟨gb208, 1, none⟩ = some (.int .i64 a1_1) := (blk_cell BK208.out 1).trans rfl; have hcz9_2 : w8.cell? ⟨gb208, 2, none⟩ = some (.int .i64 a1_2) := (blk_cell BK208.out 2).trans rfl; have hcz9_3 : w8.cell? ⟨gb208, 3, none⟩ = some (.int .i64 a1_3) := (blk_cell BK208.out 3).trans rfl; have hfz9_0 := blk_frozen BK208.out 0; have hfz9_1 := blk_frozen BK208.out 1; have hfz9_2 := blk_frozen BK208.out 2; have hfz9_3 := blk_frozen BK208.out 3))
     go_loopg [7, 8, 9] k (fun kq v7 v8 v9 w' => ∃ (x7_1 : List Int) (x8_1 : List Int) (x9_1 : Int), v9 = .int .i64 x9_1 ∧ Aside0 (chequerref09_Write.l0 kq l0 x7_1 x8_1 x9_1 a1_0 a1_1 a1_2 a1_3 = some (r1, r2)) ∧ Aside0 (kq ≤ k) ∧ Aside0 (Kd.R (Kd.int .u8) 5 w' w.heap.size (fun _ => True) v7 x7_1) ∧ Aside0 (Kd.R (Kd.int .i64) 3 w' w.heap.size (fun _ => True) v8 x8_1) ∧ Aside0 (w'.heap[gb208]? = some (.cells #[.int .i64 a1_0, .int .i64 a1_1, .int .i64 a1_2, .int .i64 a1_3] 23 (0, 0))) ∧ Aside0 (Below w.heap.size w w'))
     case atStart => exact ⟨(([] : List Int)), (([] : List Int)), (0), (by first | rfl | (simp; done) | (simp [*]; done)), H', ⟨Nat.le_refl _⟩, ⟨by first | exact Kd.R_nil _ _ _ _ _ | exact Kd.N_nil _ _ _ _ _ | exact Kd.V_nil _ _ _ _ _ | exact Kd.Q_nil _ _ _ _ _ | exact Kd.S_nil _ _ _ _ _⟩, ⟨by first | exact Kd.R_nil _ _ _ _ _ | exact Kd.N_nil _ _ _ _ _ | exact Kd.V_nil _ _ _ _ _ | exact Kd.Q_nil _ _ _ _ _ | exact Kd.S_nil _ _ _ _ _⟩, ⟨hp_ BK208.out⟩, ⟨bp_⟩⟩
     case round =>
      clear H'
      try clear c1
      try clear c2
      try clear p2
      try clear c4
      try clear c5
      try clear c5b0
      try clear c5b1
      try clear p6
      try clear hcz7_0
      try clear hcz7_1
      try clear hcz7_2
      try clear hcz7_3
      try clear hcz9_0
      try clear hcz9_1
      try clear hcz9_2
      try clear hcz9_3
      try clear hfz7_0
      try clear hfz7_1
      try clear hfz7_2
      try clear hfz7_3
      try clear hfz9_0
      try clear hfz9_1
      try clear hfz9_2
      try clear hfz9_3
      obtain ⟨x7_1, x8_1, x9_1, rfl, HA, HK1, HO_7, HO_8, BK208, HB⟩ := hrel
      cases gk with
      | zero => exact absurd HA.out (by simp [chequerref09_Write.l0])
      | succ k1 =>
       have H := HA.out
       clear HA
       simp only [chequerref09_Write.l0] at H
       by_cases c10 : x9_1 < (l0.length : Int)
       · rw [if_pos c10] at H
         have c10b0 : decide (x9_1 < (l0.length : Int)) = true := decide_eq_true c10
         clear c10
         by_cases c11 : 0 ≤ x9_1
         · rw [if_pos c11] at H
           have c11b0 : decide (0 ≤ x9_1) = true := decide_eq_true c11
           clear c11
           replace H := Option.bind_eq_some_iff.mp H
           obtain ⟨⟨t211, t212⟩, A120, H⟩ := H
           replace H : ((chequerref01_Fits.f k1 (rd l0 x9_1) t211 t212).bind fun t213 => (if t213 = true then ((chequerref01_Unpack.f (rd l0 x9_1)).bind fun t215 => (if a1_0 = 4 then (if 0 < (t215.length : Int) then (if x8_1.length < 17592186044416 then ((some (x8_1 ++ [rd t215 0] : List Int)).bind fun y219 => (if (y219.length : Int) = a1_1 then ((chequerref07_Pack.f k1 y219).bind fun bt222 => (if x7_1.length + bt222.1.length < 140737488355328 then (chequerref09_Write.l0 k1 l0 (x7_1 ++ bt222.1) ([] : List Int) (wrap64 (x9_1 + 1)) a1_0 a1_1 a1_2 a1_3) else (none))) else (chequerref09_Write.l0 k1 l0 x7_1 y219 (wrap64 (x9_1 + 1)) a1_0 a1_1 a1_2 a1_3))) else (none)) else (none)) else (chequerref09_Write.l1 k1 l0 x7_1 x8_1 x9_1 t215 0 a1_0 a1_1 a1_2 a1_3))) else (some (([] : List Int), 1)))) = some (r1, r2) := H
           have A12 := Aside0.mk A120
           clear A120
           replace H := Option.bind_eq_some_iff.mp H
           obtain ⟨t213, A130, H⟩ := H
           replace H : (if t213 = true then ((chequerref01_Unpack.f (rd l0 x9_1)).bind fun t215 => (if a1_0 = 4 then (if 0 < (t215.length : Int) then (if x8_1.length < 17592186044416 then ((some (x8_1 ++ [rd t215 0] : List Int)).bind fun y219 => (if (y219.length : Int) = a1_1 then ((chequerref07_Pack.f k1 y219).bind fun bt222 => (if x7_1.length + bt222.1.length < 140737488355328 then (chequerref09_Write.l0 k1 l0 (x7_1 ++ bt222.1) ([] : List Int) (wrap64 (x9_1 + 1)) a1_0 a1_1 a1_2 a1_3) else (none))) else (chequerref09_Write.l0 k1 l0 x7_1 y219 (wrap64 (x9_1 + 1)) a1_0 a1_1 a1_2 a1_3))) else (none)) else (none)) else (chequerref09_Write.l1 k1 l0 x7_1 x8_1 x9_1 t215 0 a1_0 a1_1 a1_2 a1_3))) else (some (([] : List Int), 1))) = some (r1, r2) := H
           have A13 := Aside0.mk A130
           clear A130
           by_cases c14 : t213 = true
           · subst c14
             have H1 : ((chequerref01_Unpack.f (rd l0 x9_1)).bind fun t215 => (if a1_0 = 4 then (if 0 < (t215.length : Int) then (if x8_1.length < 17592186044416 then ((some (x8_1 ++ [rd t215 0] : List Int)).bind fun y219 => (if (y219.length : Int) = a1_1 then ((chequerref07_Pack.f k1 y219).bind fun bt222 => (if x7_1.length + bt222.1.length < 140737488355328 then (chequerref09_Write.l0 k1 l0 (x7_1 ++ bt222.1) ([] : List Int) (wrap64 (x9_1 + 1)) a1_0 a1_1 a1_2 a1_3) else (none))) else (chequerref09_Write.l0 k1 l0 x7_1 y219 (wrap64 (x9_1 + 1)) a1_0 a1_1 a1_2 a1_3))) else (none)) else (none)) else (chequerref09_Write.l1 k1 l0 x7_1 x8_1 x9_1 t215 0 a1_0 a1_1 a1_2 a1_3))) = some (r1, r2) := by rw [if_pos rfl] at H; exact H
             clear H
             have H := H1
             clear H1
             replace H := Option.bind_eq_some_iff.mp H
             obtain ⟨t215, A150, H⟩ := H
             replace H : (if a1_0 = 4 then (if 0 < (t215.length : Int) then (if x8_1.length < 17592186044416 then ((some (x8_1 ++ [rd t215 0] : List Int)).bind fun y219 => (if (y219.length : Int) = a1_1 then ((chequerref07_Pack.f k1 y219).bind fun bt222 => (if x7_1.length + bt222.1.length < 140737488355328 then (chequerref09_Write.l0 k1 l0 (x7_1 ++ bt222.1) ([] : List Int) (wrap64 (x9_1 + 1)) a1_0 a1_1 a1_2 a1_3) else (none))) else (chequerref09_Write.l0 k1 l0 x7_1 y219 (wrap64 (x9_1 + 1)) a1_0 a1_1 a1_2 a1_3))) else (none)) else (none)) else (chequerref09_Write.l1 k1 l0 x7_1 x8_1 x9_1 t215 0 a1_0 a1_1 a1_2 a1_3)) = some (r1, r2) := H
             have A15 := Aside0.mk A150
             clear A150
             by_cases c16 : a1_0 = 4
             · rw [if_pos c16] at H
               have c16b0 : (a1_0 == 4) = true := beq_iff_eq.mpr c16
               have c16b1 : (a1_0 != 4) = false := bne_eq_false_iff_eq.mpr c16
               clear c16
               by_cases c17 : 0 < (t215.length : Int)
               · rw [if_pos c17] at H
                 have c17b0 : decide (0 < (t215.length : Int)) = true := decide_eq_true c17
                 have c17b1 : decide (0 < t215.length) = true := decide_eq_true (by omega)
                 clear c17
                 by_cases c18 : x8_1.length < 17592186044416
                 · rw [if_pos c18] at H
                   have LMc18 := Aside0.mk c18
                   clear c18
                   obtain ⟨y219, hy219⟩ : ∃ y_ : List Int, y_ = (x8_1 ++ [rd t215 0]) := ⟨_, rfl⟩
                   replace H : (if (y219.length : Int) = a1_1 then ((chequerref07_Pack.f k1 y219).bind fun bt222 => (if x7_1.length + bt222.1.length < 140737488355328 then (chequerref09_Write.l0 k1 l0 (x7_1 ++ bt222.1) ([] : List Int) (wrap64 (x9_1 + 1)) a1_0 a1_1 a1_2 a1_3) else (none))) else (chequerref09_Write.l0 k1 l0 x7_1 y219 (wrap64 (x9_1 + 1)) a1_0 a1_1 a1_2 a1_3)) = some (r1, r2) := by first | (rw [hy219]; with_reducible exact H) | (have H2_ := (Option.bind_some _ _).symm.trans H; rw [hy219]; with_reducible exact H2_) | (have H2_ := (Option.bind_some _ _).symm.trans H; with_reducible exact H2_) | with_reducible exact H | (rw [hy219]; exact H) | exact H
                   have Ny219 := Aside0.mk hy219
                   clear hy219
                   by_cases c19 : (y219.length : Int) = a1_1
                   · rw [if_pos c19] at H
                     have c19b0 : ((y219.length : Int) == a1_1) = true := beq_iff_eq.mpr c19
                     have c19b1 : ((y219.length : Int) != a1_1) = false := bne_eq_false_iff_eq.mpr c19
                     clear c19
                     replace H := Option.bind_eq_some_iff.mp H
                     obtain ⟨⟨t222, t223⟩, A200, H⟩ := H
                     replace H : (if x7_1.length + t222.length < 140737488355328 then (chequerref09_Write.l0 k1 l0 (x7_1 ++ t222) ([] : List Int) (wrap64 (x9_1 + 1)) a1_0 a1_1 a1_2 a1_3) else (none)) = some (r1, r2) := H
                     have A20 := Aside0.mk A200
                     clear A200
                     by_cases c21 : x7_1.length + t222.length < 140737488355328
                     · rw [if_pos c21] at H
                       have LMc21 := Aside0.mk c21
                       clear c21
                       obtain ⟨y226, hy226⟩ : ∃ y_ : List Int, y_ = (x7_1 ++ t222) := ⟨_, rfl⟩
                       replace H : (chequerref09_Write.l0 k1 l0 y226 ([] : List Int) (wrap64 (x9_1 + 1)) a1_0 a1_1 a1_2 a1_3) = some (r1, r2) := by first | (rw [hy226]; with_reducible exact H) | (have H2_ := (Option.bind_some _ _).symm.trans H; rw [hy226]; with_reducible exact H2_) | (have H2_ := (Option.bind_some _ _).symm.trans H; with_reducible exact H2_) | with_reducible exact H | (rw [hy226]; exact H) | exact H
                       have Ny226 := Aside0.mk hy226
                       clear hy226
                       have H' := Aside0.mk H
                       clear H
                       try go_wp2
                       (try (rw [drewN_self wr]; generalize hq_ : World.drewN wr _ = wr; have n0_ := Aside0.mk (qrp_ hq_ HO_7.out); have n1_ := Aside0.mk (qrp_ hq_ HO_8.out); have n2_ := Aside0.mk (qhp_ hq_ BK208.out); have n3_ : Aside0 (Below w.heap.size w wr) := ⟨qbp_ hq_⟩; clear HO_7 HO_8 BK208 HB hq_; have HO_7 := n0_; have HO_8 := n1_; have BK208 := n2_; have HB := n3_; clear n0_ n1_ n2_ n3_))
                       replace HO_7 := Aside0.mk (Kd.R_drew HO_7.out)
                       replace HO_8 := Aside0.mk (Kd.R_drew HO_8.out)
                       replace BK208 := Aside0.mk (blk_drew BK208.out)
                       replace HB := Aside0.mk (below_drew1 HB.out)
                       have p210 : 0 ≤ (x9_1 : Int) := of_decide_eq_true (by first | (with_reducible assumption) | assumption)
                       have q210 : x9_1 < (l0.length : Int) := of_decide_eq_true (by first | (with_reducible assumption) | assumption)
                       obtain ⟨ad210, e210, hx210_0⟩ := Kd.at_int HR0.out x9_1 p210 q210
                       have hw210_0 := hx210_0
                       cases e210
                       replace hx210_0 := (HB.out.cell (World.block_lt_of_cell? w _ hx210_0)).trans hx210_0
                       replace p210 := eq_true p210
                       replace q210 := eq_true q210
                       refine start_ (n := 8) (S := fun w' => w'.cell? ⟨gb208, 0, none⟩ = some (.int .i64 a1_0) ∧ w'.cell? ⟨gb208, 1, none⟩ = some (.int .i64 a1_1) ∧ w'.cell? ⟨gb208, 2, none⟩ = some (.int .i64 a1_2) ∧ w'.cell? ⟨gb208, 3, none⟩ = some (.int .i64 a1_3) ∧ w'.cell? (ad210.add (x9_1).toNat) = some (.int .u64 (rd l0 x9_1))) (ds := []) #[false, false, false, false, false, false, false, false] (by kernel_rfl) rfl rfl ⟨(blk_cell BK208.out 0).trans rfl, (blk_cell BK208.out 1).trans rfl, (blk_cell BK208.out 2).trans rfl, (blk_cell BK208.out 3).trans rfl, ((HB.out.cell (World.block_lt_of_cell? w _ hw210_0)).trans hw210_0)⟩ (fun hHeld => ?_); refine with_tabW chequerref09_Write.tab11 chequerref09_Write.bits11 (fun HT_ HW_ => ?_)
                       generalize wr.drew = w22 at HO_7 HO_8 BK208 HB hx210_0 hHeld ⊢
                       refine pur_ (i := 0) (N := some 33) #[true, false, false, false, false, false, false, false] (any_of HT_.out (by kernel_rfl)) ?_
                       refine pur_ (i := 1) (N := some 34) #[true, true, false, false, false, false, false, false] (any_of HT_.out (by kernel_rfl)) ?_
                       refine pur_ (i := 2) (N := some 35) #[true, true, true, false, false, false, false, false] (any_of HT_.out (by kernel_rfl)) ?_
                       refine take_ (i := 3) (N := some 36) (v := ?_) (a' := ?_) #[true, true, true, true, false, false, false, false] rfl rfl (take_ofW HT_.out HW_.out (by kernel_rfl)) (fun _ _ _ h => h) (Or.inl ⟨by rfl, ?_⟩) hHeld ?_ ?_
                       rotate_left
                       · rintro w' ⟨s0, s1, s2, s3, s4⟩
                         go_simp
                         with_reducible rfl
                       rotate_left
                       · simp only [Act.put, List.setIfInBounds_toArray, List.set_cons_zero, List.set_cons_succ, i64_w, i32_w]
                         rfl
                       refine take_ (i := 4) (N := some 37) (v := ?_) (a' := ?_) #[true, true, true, true, true, false, false, false] rfl rfl (take_ofW HT_.out HW_.out (by kernel_rfl)) (fun _ _ _ h => h) (Or.inl ⟨by rfl, ?_⟩) hHeld ?_ ?_
                       rotate_left
                       · rintro w' ⟨s0, s1, s2, s3, s4⟩
                         go_simp
                         with_reducible rfl
                       rotate_left
                       · simp only [Act.put, List.setIfInBounds_toArray, List.set_cons_zero, List.set_cons_succ, i64_w, i32_w]
                         rfl
                       refine one_ (i := 5) (N := some 38) #[true, true, true, true, true, true, false, false] rfl rfl (one_of HT_.out (by kernel_rfl)) (by decide) (fun K hK => ?_)
                       refine goes_ Try.func29 (by kernel_rfl) rfl #[.agg #[.int .i64 a1_0, .int .i64 a1_1, .int .i64 a1_2, .int .i64 a1_3]] (by rfl) rfl rfl (by (try simp only [List.map_toArray, List.map_cons, List.map_nil]); first | done | rfl | (simp only [List.length_drop, List.length_take]; rfl)) ?_
                       with_reducible refine (chequerref06_Format.calls a1_0 a1_1 a1_2 a1_3 t211 t212 _ A12.out).mono ?_
                       rintro e w23 ⟨rfl, hb⟩
                       refine ⟨_, rfl, ?_⟩
                       replace HO_7 := Aside0.mk (Kd.R_below (rp_ HO_7.out) hb)
                       replace HO_8 := Aside0.mk (Kd.R_below (rp_ HO_8.out) hb)
                       replace BK208 := Aside0.mk (blk_below (hp_ BK208.out) hb)
                       replace HB := Aside0.mk (below_step bp_ hb)
                       (try clear hb)
                       (try clear hb2)
                       (try clear hk)
                       (try clear hi)
                       refine hK.out _ _ ⟨(blk_cell BK208.out 0).trans rfl, (blk_cell BK208.out 1).trans rfl, (blk_cell BK208.out 2).trans rfl, (blk_cell BK208.out 3).trans rfl, ((HB.out.cell (World.block_lt_of_cell? w _ hw210_0)).trans hw210_0)⟩ (fun hHeld => ?_)
                       clear hK K
                       refine norm_ (a' := ?_) ?_ ?_
                       rotate_left
                       · show Act.put _ (some 38) _ = _
                         simp only [Act.put, List.setIfInBounds_toArray, List.set_cons_zero, List.set_cons_succ, i64_w, i32_w]
                         rfl
                       refine one_ (i := 6) (N := some 39) #[true, true, true, true, true, true, true, false] rfl rfl (one_of HT_.out (by kernel_rfl)) (by decide) (fun K hK => ?_)
                       refine goes_ Try.func39 (by kernel_rfl) rfl #[.int .u64 (rd l0 x9_1), .agg #[.int .i64 t211, .int .i64 t212]] (by rfl) rfl rfl (by (try simp only [List.map_toArray, List.map_cons, List.map_nil]); first | done | rfl | (simp only [List.length_drop, List.length_take]; rfl)) ?_
                       with_reducible refine (chequerref01_Fits.calls k1 (rd l0 x9_1) t211 t212 true _ A13.out).mono ?_
                       rintro e w24 ⟨rfl, hb⟩
                       refine ⟨_, rfl, ?_⟩
                       replace HO_7 := Aside0.mk (Kd.R_below (rp_ HO_7.out) hb)
                       replace HO_8 := Aside0.mk (Kd.R_below (rp_ HO_8.out) hb)
                       replace BK208 := Aside0.mk (blk_below (hp_ BK208.out) hb)
                       replace HB := Aside0.mk (below_step bp_ hb)
                       (try clear hb)
                       (try clear hb2)
                       (try clear hk)
                       (try clear hi)
                       refine hK.out _ _ ⟨(blk_cell BK208.out 0).trans rfl, (blk_cell BK208.out 1).trans rfl, (blk_cell BK208.out 2).trans rfl, (blk_cell BK208.out 3).trans rfl, ((HB.out.cell (World.block_lt_of_cell? w _ hw210_0)).trans hw210_0)⟩ (fun hHeld => ?_)
                       clear hK K
                       refine norm_ (a' := ?_) ?_ ?_
                       rotate_left
                       · show Act.put _ (some 39) _ = _
                         simp only [Act.put, List.setIfInBounds_toArray, List.set_cons_zero, List.set_cons_succ, i64_w, i32_w]
                         rfl
                       refine pur_ (i := 7) (N := some 10) #[true, true, true, true, true, true, true, true] (any_of HT_.out (by kernel_rfl)) ?_
                       refine done_ (done_of HT_.out (by kernel_rfl)) ?_
                       have p214 : 0 ≤ (x9_1 : Int) := of_decide_eq_true (by first | (with_reducible assumption) | assumption)
                       have q214 : x9_1 < (l0.length : Int) := of_decide_eq_true (by first | (with_reducible assumption) | assumption)
                       obtain ⟨ad214, e214, hx214_0⟩ := Kd.at_int HR0.out x9_1 p214 q214
                       obtain rfl : ad210 = ad214 := (by injection e214)
                       replace hx214_0 := (HB.out.cell (World.block_lt_of_cell? w _ hx214_0)).trans hx214_0
                       replace p214 := eq_true p214
                       replace q214 := eq_true q214
                       try go_wp2_with (first | ((with_reducible refine gate_callee (f := 40) rfl ?_); refine goQ_ (some 46) Try.func40 #[.int .u64 (rd l0 x9_1)] ?_; (with_reducible refine (chequerref01_Unpack.calls (rd l0 x9_1) t215 _ A15.out).mono ?_); rintro e w25 ⟨v216, rfl, ho0, hb⟩; refine ⟨_, rfl, ?_⟩; replace HO_7 := Aside0.mk (Kd.R_below (rp_ HO_7.out) hb); have HO217 := Aside0.mk (Kd.R_lower (Kd.R_new' ho0 (Kd.R_lt (rp_ HO_8.out))) (below_size bp_)); replace HO_8 := Aside0.mk (Kd.R_elder' (rp_ HO_8.out) (Kd.R_base ho0) hb); replace BK208 := Aside0.mk (blk_below (hp_ BK208.out) hb); replace HB := Aside0.mk (below_step bp_ hb); (try clear hb); (try clear hb2); (try clear hk); (try clear hi); (try clear ho0); have hcz26_0 : w25.cell? ⟨gb208, 0, none⟩ = some (.int .i64 a1_0) := (blk_cell BK208.out 0).trans rfl; have hcz26_1 : w25.cell? ⟨gb208, 1, none⟩ = some (.int .i64 a1_1) := (blk_cell BK208.out 1).trans rfl; have hcz26_2 : w25.cell? ⟨gb208, 2, none⟩ = some (.int .i64 a1_2) := (blk_cell BK208.out 2).trans rfl; have hcz26_3 : w25.cell? ⟨gb208, 3, none⟩ = some (.int .i64 a1_3) := (blk_cell BK208.out 3).trans rfl; have hfz26_0 := blk_frozen BK208.out 0; have hfz26_1 := blk_frozen BK208.out 1; have hfz26_2 := blk_frozen BK208.out 2; have hfz26_3 := blk_frozen BK208.out 3; obtain ⟨Ao27, co27, eo27⟩ := Kd.R_slice HO217.out; subst eo27; have p218 : 0 ≤ (0 : Int) := (by omega); have q218 : 0 < (t215.length : Int) := of_decide_eq_true (by first | (with_reducible assumption) | assumption); obtain ⟨ad218, e218, hx218_0⟩ := Kd.at_int (Kd.R_reads' HO217.out).2.2 0 p218 q218; cases e218; have qi218 : (0 < t215.length) = True := eq_true (by omega); (try rw [show ((0 : Int)).toNat = 0 from rfl] at hx218_0); (try rw [Addr.add_zero'] at hx218_0); replace p218 := eq_true p218; replace q218 := eq_true q218) | ((with_reducible refine gate_builtin (b := .append) (xs := #[.tmp 50, .tmp 54]) rfl ?_); at_builtin; refine Kd.R_append (Kd.int .i64) (w0 := w) w.heap.size rfl (.tmp 50) (.tmp 54) 24 3 (.int .i64 0) 8 rfl Try.underlying24 info3 rfl (by decide) (by omega) u8 x8_1 (rd t215 0) [.int .i64 (rd t215 0)] (fun k_ => some k_ ≠ (.slice (some ad218) t215.length co27 : Value).ownBlock) (fun _ => False) rfl rfl ?aP (fun _ hk => hk.elim) ?aF ?aO ?aB ?aS ?aL ?_; (case aP => exact rfl); (case aB => exact bp_); (case aF => exact (fun k_ hk => Kd.fresh' (Kd.R_lt (rp_ HO217.out)) k_ hk)); (case aO => exact (by (with_reducible repeat (first | apply Kd.R_alloc | apply Kd.R_drewN | apply Kd.R_drew)); exact Kd.R_mono HO_8.out (fun _ hk => hk.2))); (case aS => exact (below_size bp_)); (case aL => have := LMc18.out; omega); intro v220 w28 ho hb hg hat; rw [← Ny219.out] at ho; replace HO_7 := Aside0.mk (Kd.R_over' (rp_ HO_7.out) (Kd.R_typed (rp_ HO_8.out)) (by decide) hg); replace BK208 := Aside0.mk (blk_grown (g := gb208) (o := .cells #[.int .i64 a1_0, .int .i64 a1_1, .int .i64 a1_2, .int .i64 a1_3] 23 (0, 0)) (hp_ BK208.out) hg (Kd.R_ne HO_8.out BK208.out (by decide))); replace HO217 := Aside0.mk (Kd.R_after (ok := (fun _ => True)) (rp_ HO217.out) hg hat); replace HB := Aside0.mk (hb); have HO221 := Aside0.mk (ho); clear HO_8; clear ho hb hg hat; obtain ⟨Ao29, co29, eo29⟩ := Kd.R_slice HO221.out; subst eo29; have hcz30_0 : w28.cell? ⟨gb208, 0, none⟩ = some (.int .i64 a1_0) := (blk_cell BK208.out 0).trans rfl; have hcz30_1 : w28.cell? ⟨gb208, 1, none⟩ = some (.int .i64 a1_1) := (blk_cell BK208.out 1).trans rfl; have hcz30_2 : w28.cell? ⟨gb208, 2, none⟩ = some (.int .i64 a1_2) := (blk_cell BK208.out 2).trans rfl; have hcz30_3 : w28.cell? ⟨gb208, 3, none⟩ = some (.int .i64 a1_3) := (blk_cell BK208.out 3).trans rfl; have hfz30_0 := blk_frozen BK208.out 0; have hfz30_1 := blk_frozen BK208.out 1; have hfz30_2 := blk_frozen BK208.out 2; have hfz30_3 := blk_frozen BK208.out 3) | ((with_reducible refine gate_callee (f := 41) rfl ?_); refine goQ_ (some 63) Try.func41 #[.slice Ao29 y219.length co29] ?_; (with_reducible refine (chequerref07_Pack.calls k1 _ _ y219 t222 t223 _ ?side1 ?side2 A20.out).mono ?_); (case side1 => exact cp_ (Kd.R_reads' HO221.out).2.2); (case side2 => exact (Kd.R_reads' HO221.out).2.1); rintro e w31 ⟨v224, rfl, ho0, hb⟩; refine ⟨_, rfl, ?_⟩; replace HO217 := Aside0.mk (Kd.R_below (rp_ HO217.out) hb); replace HO221 := Aside0.mk (Kd.R_below (rp_ HO221.out) hb); have HO225 := Aside0.mk (Kd.R_lower (Kd.R_new' ho0 (Kd.R_lt (rp_ HO_7.out))) (below_size bp_)); replace HO_7 := Aside0.mk (Kd.R_elder' (rp_ HO_7.out) (Kd.R_base ho0) hb); replace BK208 := Aside0.mk (blk_below (hp_ BK208.out) hb); replace HB := Aside0.mk (below_step bp_ hb); (try clear hb); (try clear hb2); (try clear hk); (try clear hi); (try clear ho0); obtain ⟨Ao33, co33, eo33⟩ := Kd.R_slice HO225.out; subst eo33) | ((with_reducible refine gate_builtin (b := .append) (xs := #[.tmp 66, .tmp 67]) rfl ?_); at_builtin; refine Kd.R_append_rows (Kd.int .u8) (w0 := w) w.heap.size rfl (.tmp 66) (.tmp 67) 27 5 (.int .u8 0) 1 rfl Try.underlying27 info5 rfl (by decide) (by omega) u7 x7_1 t222 _ _ _ (fun k_ => some k_ ≠ (.slice Ao33 t222.length co33 : Value).ownBlock) (fun _ => False) rfl rfl ?aO ?aR (fun _ _ h => h) (fun _ h => h.elim) ?aF ?aB ?aS ?aL ?_; (case aR => repeat (first | exact (Kd.R_reads' HO225.out).2.2 | (with_reducible refine Kd.C_alloc ?_ _) | (with_reducible refine Kd.C_drewN ?_ _) | (with_reducible refine Kd.C_drew ?_))); (case aB => exact bp_); (case aF => exact (fun k_ hk => Kd.fresh' (Kd.R_lt (rp_ HO225.out)) k_ hk)); (case aO => exact (by (with_reducible repeat (first | apply Kd.R_alloc | apply Kd.R_drewN | apply Kd.R_drew)); exact Kd.R_mono HO_7.out (fun _ hk => hk.2))); (case aS => exact (below_size bp_)); (case aL => have := LMc21.out; omega); intro v227 w32 ho hb hg hat; rw [← Ny226.out] at ho; replace BK208 := Aside0.mk (blk_grown (g := gb208) (o := .cells #[.int .i64 a1_0, .int .i64 a1_1, .int .i64 a1_2, .int .i64 a1_3] 23 (0, 0)) (hp_ BK208.out) hg (Kd.R_ne HO_7.out BK208.out (by decide))); replace HO217 := Aside0.mk (Kd.R_over' (rp_ HO217.out) (Kd.R_typed (rp_ HO_7.out)) (by decide) hg); replace HO221 := Aside0.mk (Kd.R_over' (rp_ HO221.out) (Kd.R_typed (rp_ HO_7.out)) (by decide) hg); replace HO225 := Aside0.mk (Kd.R_after (ok := (fun _ => True)) (rp_ HO225.out) hg hat); replace HB := Aside0.mk (hb); have HO228 := Aside0.mk (ho); clear HO_7; clear ho hb hg hat))
                       go_roundg k1
                       case measure => have := HK1.out; omega
                       case rel => exact ⟨(y226), (([] : List Int)), (wrap64 (x9_1 + 1)), (by first | rfl | (simp; done) | (simp [*]; done)), H', ⟨by have := HK1.out; omega⟩, ⟨by (with_reducible repeat (first | apply Kd.R_alloc | apply Kd.R_drewN | apply Kd.R_drew)); exact Kd.R_mono HO228.out (fun _ hk => trivial)⟩, ⟨by first | exact Kd.R_nil _ _ _ _ _ | exact Kd.N_nil _ _ _ _ _ | exact Kd.V_nil _ _ _ _ _ | exact Kd.Q_nil _ _ _ _ _ | exact Kd.S_nil _ _ _ _ _⟩, ⟨hp_ BK208.out⟩, ⟨bp_⟩⟩
                     · rw [if_neg c21] at H
                       exact absurd H (by simp)
                   · rw [if_neg c19] at H
                     have c19b0 : ((y219.length : Int) == a1_1) = false := beq_eq_false_iff_ne.mpr c19
                     have c19b1 : ((y219.length : Int) != a1_1) = true := bne_iff_ne.mpr c19
                     have H' := Aside0.mk H
                     clear H
                     try go_wp2
                     (try (rw [drewN_self wr]; generalize hq_ : World.drewN wr _ = wr; have n0_ := Aside0.mk (qrp_ hq_ HO_7.out); have n1_ := Aside0.mk (qrp_ hq_ HO_8.out); have n2_ := Aside0.mk (qhp_ hq_ BK208.out); have n3_ : Aside0 (Below w.heap.size w wr) := ⟨qbp_ hq_⟩; clear HO_7 HO_8 BK208 HB hq_; have HO_7 := n0_; have HO_8 := n1_; have BK208 := n2_; have HB := n3_; clear n0_ n1_ n2_ n3_))
                     replace HO_7 := Aside0.mk (Kd.R_drew HO_7.out)
                     replace HO_8 := Aside0.mk (Kd.R_drew HO_8.out)
                     replace BK208 := Aside0.mk (blk_drew BK208.out)
                     replace HB := Aside0.mk (below_drew1 HB.out)
                     have p210 : 0 ≤ (x9_1 : Int) := of_decide_eq_true (by first | (with_reducible assumption) | assumption)
                     have q210 : x9_1 < (l0.length : Int) := of_decide_eq_true (by first | (with_reducible assumption) | assumption)
                     obtain ⟨ad210, e210, hx210_0⟩ := Kd.at_int HR0.out x9_1 p210 q210
                     have hw210_0 := hx210_0
                     cases e210
                     replace hx210_0 := (HB.out.cell (World.block_lt_of_cell? w _ hx210_0)).trans hx210_0
                     replace p210 := eq_true p210
                     replace q210 := eq_true q210
                     refine start_ (n := 8) (S := fun w' => w'.cell? ⟨gb208, 0, none⟩ = some (.int .i64 a1_0) ∧ w'.cell? ⟨gb208, 1, none⟩ = some (.int .i64 a1_1) ∧ w'.cell? ⟨gb208, 2, none⟩ = some (.int .i64 a1_2) ∧ w'.cell? ⟨gb208, 3, none⟩ = some (.int .i64 a1_3) ∧ w'.cell? (ad210.add (x9_1).toNat) = some (.int .u64 (rd l0 x9_1))) (ds := []) #[false, false, false, false, false, false, false, false] (by kernel_rfl) rfl rfl ⟨(blk_cell BK208.out 0).trans rfl, (blk_cell BK208.out 1).trans rfl, (blk_cell BK208.out 2).trans rfl, (blk_cell BK208.out 3).trans rfl, ((HB.out.cell (World.block_lt_of_cell? w _ hw210_0)).trans hw210_0)⟩ (fun hHeld => ?_); refine with_tabW chequerref09_Write.tab11 chequerref09_Write.bits11 (fun HT_ HW_ => ?_)
                     generalize wr.drew = w34 at HO_7 HO_8 BK208 HB hx210_0 hHeld ⊢
                     refine pur_ (i := 0) (N := some 33) #[true, false, false, false, false, false, false, false] (any_of HT_.out (by kernel_rfl)) ?_
                     refine pur_ (i := 1) (N := some 34) #[true, true, false, false, false, false, false, false] (any_of HT_.out (by kernel_rfl)) ?_
                     refine pur_ (i := 2) (N := some 35) #[true, true, true, false, false, false, false, false] (any_of HT_.out (by kernel_rfl)) ?_
                     refine take_ (i := 3) (N := some 36) (v := ?_) (a' := ?_) #[true, true, true, true, false, false, false, false] rfl rfl (take_ofW HT_.out HW_.out (by kernel_rfl)) (fun _ _ _ h => h) (Or.inl ⟨by rfl, ?_⟩) hHeld ?_ ?_
                     rotate_left
                     · rintro w' ⟨s0, s1, s2, s3, s4⟩
                       go_simp
                       with_reducible rfl
                     rotate_left
                     · simp only [Act.put, List.setIfInBounds_toArray, List.set_cons_zero, List.set_cons_succ, i64_w, i32_w]
                       rfl
                     refine take_ (i := 4) (N := some 37) (v := ?_) (a' := ?_) #[true, true, true, true, true, false, false, false] rfl rfl (take_ofW HT_.out HW_.out (by kernel_rfl)) (fun _ _ _ h => h) (Or.inl ⟨by rfl, ?_⟩) hHeld ?_ ?_
                     rotate_left
                     · rintro w' ⟨s0, s1, s2, s3, s4⟩
                       go_simp
                       with_reducible rfl
                     rotate_left
                     · simp only [Act.put, List.setIfInBounds_toArray, List.set_cons_zero, List.set_cons_succ, i64_w, i32_w]
                       rfl
                     refine one_ (i := 5) (N := some 38) #[true, true, true, true, true, true, false, false] rfl rfl (one_of HT_.out (by kernel_rfl)) (by decide) (fun K hK => ?_)
                     refine goes_ Try.func29 (by kernel_rfl) rfl #[.agg #[.int .i64 a1_0, .int .i64 a1_1, .int .i64 a1_2, .int .i64 a1_3]] (by rfl) rfl rfl (by (try simp only [List.map_toArray, List.map_cons, List.map_nil]); first | done | rfl | (simp only [List.length_drop, List.length_take]; rfl)) ?_
                     with_reducible refine (chequerref06_Format.calls a1_0 a1_1 a1_2 a1_3 t211 t212 _ A12.out).mono ?_
                     rintro e w35 ⟨rfl, hb⟩
                     refine ⟨_, rfl, ?_⟩
                     replace HO_7 := Aside0.mk (Kd.R_below (rp_ HO_7.out) hb)
                     replace HO_8 := Aside0.mk (Kd.R_below (rp_ HO_8.out) hb)
                     replace BK208 := Aside0.mk (blk_below (hp_ BK208.out) hb)
                     replace HB := Aside0.mk (below_step bp_ hb)
                     (try clear hb)
                     (try clear hb2)
                     (try clear hk)
                     (try clear hi)
                     refine hK.out _ _ ⟨(blk_cell BK208.out 0).trans rfl, (blk_cell BK208.out 1).trans rfl, (blk_cell BK208.out 2).trans rfl, (blk_cell BK208.out 3).trans rfl, ((HB.out.cell (World.block_lt_of_cell? w _ hw210_0)).trans hw210_0)⟩ (fun hHeld => ?_)
                     clear hK K
                     refine norm_ (a' := ?_) ?_ ?_
                     rotate_left
                     · show Act.put _ (some 38) _ = _
                       simp only [Act.put, List.setIfInBounds_toArray, List.set_cons_zero, List.set_cons_succ, i64_w, i32_w]
                       rfl
                     refine one_ (i := 6) (N := some 39) #[true, true, true, true, true, true, true, false] rfl rfl (one_of HT_.out (by kernel_rfl)) (by decide) (fun K hK => ?_)
                     refine goes_ Try.func39 (by kernel_rfl) rfl #[.int .u64 (rd l0 x9_1), .agg #[.int .i64 t211, .int .i64 t212]] (by rfl) rfl rfl (by (try simp only [List.map_toArray, List.map_cons, List.map_nil]); first | done | rfl | (simp only [List.length_drop, List.length_take]; rfl)) ?_
                     with_reducible refine (chequerref01_Fits.calls k1 (rd l0 x9_1) t211 t212 true _ A13.out).mono ?_
                     rintro e w36 ⟨rfl, hb⟩
                     refine ⟨_, rfl, ?_⟩
                     replace HO_7 := Aside0.mk (Kd.R_below (rp_ HO_7.out) hb)
                     replace HO_8 := Aside0.mk (Kd.R_below (rp_ HO_8.out) hb)
                     replace BK208 := Aside0.mk (blk_below (hp_ BK208.out) hb)
                     replace HB := Aside0.mk (below_step bp_ hb)
                     (try clear hb)
                     (try clear hb2)
                     (try clear hk)
                     (try clear hi)
                     refine hK.out _ _ ⟨(blk_cell BK208.out 0).trans rfl, (blk_cell BK208.out 1).trans rfl, (blk_cell BK208.out 2).trans rfl, (blk_cell BK208.out 3).trans rfl, ((HB.out.cell (World.block_lt_of_cell? w _ hw210_0)).trans hw210_0)⟩ (fun hHeld => ?_)
                     clear hK K
                     refine norm_ (a' := ?_) ?_ ?_
                     rotate_left
                     · show Act.put _ (some 39) _ = _
                       simp only [Act.put, List.setIfInBounds_toArray, List.set_cons_zero, List.set_cons_succ, i64_w, i32_w]
                       rfl
                     refine pur_ (i := 7) (N := some 10) #[true, true, true, true, true, true, true, true] (any_of HT_.out (by kernel_rfl)) ?_
                     refine done_ (done_of HT_.out (by kernel_rfl)) ?_
                     have p214 : 0 ≤ (x9_1 : Int) := of_decide_eq_true (by first | (with_reducible assumption) | assumption)
                     have q214 : x9_1 < (l0.length : Int) := of_decide_eq_true (by first | (with_reducible assumption) | assumption)
                     obtain ⟨ad214, e214, hx214_0⟩ := Kd.at_int HR0.out x9_1 p214 q214
                     obtain rfl : ad210 = ad214 := (by injection e214)
                     replace hx214_0 := (HB.out.cell (World.block_lt_of_cell? w _ hx214_0)).trans hx214_0
                     replace p214 := eq_true p214
                     replace q214 := eq_true q214
                     try go_wp2_with (first | ((with_reducible refine gate_callee (f := 40) rfl ?_); refine goQ_ (some 46) Try.func40 #[.int .u64 (rd l0 x9_1)] ?_; (with_reducible refine (chequerref01_Unpack.calls (rd l0 x9_1) t215 _ A15.out).mono ?_); rintro e w37 ⟨v216, rfl, ho0, hb⟩; refine ⟨_, rfl, ?_⟩; replace HO_7 := Aside0.mk (Kd.R_below (rp_ HO_7.out) hb); have HO217 := Aside0.mk (Kd.R_lower (Kd.R_new' ho0 (Kd.R_lt (rp_ HO_8.out))) (below_size bp_)); replace HO_8 := Aside0.mk (Kd.R_elder' (rp_ HO_8.out) (Kd.R_base ho0) hb); replace BK208 := Aside0.mk (blk_below (hp_ BK208.out) hb); replace HB := Aside0.mk (below_step bp_ hb); (try clear hb); (try clear hb2); (try clear hk); (try clear hi); (try clear ho0); have hcz38_0 : w37.cell? ⟨gb208, 0, none⟩ = some (.int .i64 a1_0) := (blk_cell BK208.out 0).trans rfl; have hcz38_1 : w37.cell? ⟨gb208, 1, none⟩ = some (.int .i64 a1_1) := (blk_cell BK208.out 1).trans rfl; have hcz38_2 : w37.cell? ⟨gb208, 2, none⟩ = some (.int .i64 a1_2) := (blk_cell BK208.out 2).trans rfl; have hcz38_3 : w37.cell? ⟨gb208, 3, none⟩ = some (.int .i64 a1_3) := (blk_cell BK208.out 3).trans rfl; have hfz38_0 := blk_frozen BK208.out 0; have hfz38_1 := blk_frozen BK208.out 1; have hfz38_2 := blk_frozen BK208.out 2; have hfz38_3 := blk_frozen BK208.out 3; obtain ⟨Ao39, co39, eo39⟩ := Kd.R_slice HO217.out; subst eo39; have p218 : 0 ≤ (0 : Int) := (by omega); have q218 : 0 < (t215.length : Int) := of_decide_eq_true (by first | (with_reducible assumption) | assumption); obtain ⟨ad218, e218, hx218_0⟩ := Kd.at_int (Kd.R_reads' HO217.out).2.2 0 p218 q218; cases e218; have qi218 : (0 < t215.length) = True := eq_true (by omega); (try rw [show ((0 : Int)).toNat = 0 from rfl] at hx218_0); (try rw [Addr.add_zero'] at hx218_0); replace p218 := eq_true p218; replace q218 := eq_true q218) | ((with_reducible refine gate_builtin (b := .append) (xs := #[.tmp 50, .tmp 54]) rfl ?_); at_builtin; refine Kd.R_append (Kd.int .i64) (w0 := w) w.heap.size rfl (.tmp 50) (.tmp 54) 24 3 (.int .i64 0) 8 rfl Try.underlying24 info3 rfl (by decide) (by omega) u8 x8_1 (rd t215 0) [.int .i64 (rd t215 0)] (fun k_ => some k_ ≠ (.slice (some ad218) t215.length co39 : Value).ownBlock) (fun _ => False) rfl rfl ?aP (fun _ hk => hk.elim) ?aF ?aO ?aB ?aS ?aL ?_; (case aP => exact rfl); (case aB => exact bp_); (case aF => exact (fun k_ hk => Kd.fresh' (Kd.R_lt (rp_ HO217.out)) k_ hk)); (case aO => exact (by (with_reducible repeat (first | apply Kd.R_alloc | apply Kd.R_drewN | apply Kd.R_drew)); exact Kd.R_mono HO_8.out (fun _ hk => hk.2))); (case aS => exact (below_size bp_)); (case aL => have := LMc18.out; omega); intro v220 w40 ho hb hg hat; rw [← Ny219.out] at ho; replace HO_7 := Aside0.mk (Kd.R_over' (rp_ HO_7.out) (Kd.R_typed (rp_ HO_8.out)) (by decide) hg); replace BK208 := Aside0.mk (blk_grown (g := gb208) (o := .cells #[.int .i64 a1_0, .int .i64 a1_1, .int .i64 a1_2, .int .i64 a1_3] 23 (0, 0)) (hp_ BK208.out) hg (Kd.R_ne HO_8.out BK208.out (by decide))); replace HO217 := Aside0.mk (Kd.R_after (ok := (fun _ => True)) (rp_ HO217.out) hg hat); replace HB := Aside0.mk (hb); have HO221 := Aside0.mk (ho); clear HO_8; clear ho hb hg hat; obtain ⟨Ao41, co41, eo41⟩ := Kd.R_slice HO221.out; subst eo41; have hcz42_0 : w40.cell? ⟨gb208, 0, none⟩ = some (.int .i64 a1_0) := (blk_cell BK208.out 0).trans rfl; have hcz42_1 : w40.cell? ⟨gb208, 1, none⟩ = some (.int .i64 a1_1) := (blk_cell BK208.out 1).trans rfl; have hcz42_2 : w40.cell? ⟨gb208, 2, none⟩ = some (.int .i64 a1_2) := (blk_cell BK208.out 2).trans rfl; have hcz42_3 : w40.cell? ⟨gb208, 3, none⟩ = some (.int .i64 a1_3) := (blk_cell BK208.out 3).trans rfl; have hfz42_0 := blk_frozen BK208.out 0; have hfz42_1 := blk_frozen BK208.out 1; have hfz42_2 := blk_frozen BK208.out 2; have hfz42_3 := blk_frozen BK208.out 3))
                     go_roundg k1
                     case measure => have := HK1.out; omega
                     case rel => exact ⟨(x7_1), (y219), (wrap64 (x9_1 + 1)), (by first | rfl | (simp; done) | (simp [*]; done)), H', ⟨by have := HK1.out; omega⟩, ⟨rp_ HO_7.out⟩, ⟨by (with_reducible repeat (first | apply Kd.R_alloc | apply Kd.R_drewN | apply Kd.R_drew)); exact Kd.R_mono HO221.out (fun _ hk => trivial)⟩, ⟨hp_ BK208.out⟩, ⟨bp_⟩⟩
                 · rw [if_neg c18] at H
                   exact absurd H (by simp)
               · rw [if_neg c17] at H
                 exact absurd H (by simp)
             · rw [if_neg c16] at H
               have c16b0 : (a1_0 == 4) = false := beq_eq_false_iff_ne.mpr c16
               have c16b1 : (a1_0 != 4) = true := bne_iff_ne.mpr c16
               have H' := Aside0.mk H
               clear H
               try go_wp2
               (try (rw [drewN_self wr]; generalize hq_ : World.drewN wr _ = wr; have n0_ := Aside0.mk (qrp_ hq_ HO_7.out); have n1_ := Aside0.mk (qrp_ hq_ HO_8.out); have n2_ := Aside0.mk (qhp_ hq_ BK208.out); have n3_ : Aside0 (Below w.heap.size w wr) := ⟨qbp_ hq_⟩; clear HO_7 HO_8 BK208 HB hq_; have HO_7 := n0_; have HO_8 := n1_; have BK208 := n2_; have HB := n3_; clear n0_ n1_ n2_ n3_))
               replace HO_7 := Aside0.mk (Kd.R_drew HO_7.out)
               replace HO_8 := Aside0.mk (Kd.R_drew HO_8.out)
               replace BK208 := Aside0.mk (blk_drew BK208.out)
               replace HB := Aside0.mk (below_drew1 HB.out)
               have p210 : 0 ≤ (x9_1 : Int) := of_decide_eq_true (by first | (with_reducible assumption) | assumption)
               have q210 : x9_1 < (l0.length : Int) := of_decide_eq_true (by first | (with_reducible assumption) | assumption)
               obtain ⟨ad210, e210, hx210_0⟩ := Kd.at_int HR0.out x9_1 p210 q210
               have hw210_0 := hx210_0
               cases e210
               replace hx210_0 := (HB.out.cell (World.block_lt_of_cell? w _ hx210_0)).trans hx210_0
               replace p210 := eq_true p210
               replace q210 := eq_true q210
               refine start_ (n := 8) (S := fun w' => w'.cell? ⟨gb208, 0, none⟩ = some (.int .i64 a1_0) ∧ w'.cell? ⟨gb208, 1, none⟩ = some (.int .i64 a1_1) ∧ w'.cell? ⟨gb208, 2, none⟩ = some (.int .i64 a1_2) ∧ w'.cell? ⟨gb208, 3, none⟩ = some (.int .i64 a1_3) ∧ w'.cell? (ad210.add (x9_1).toNat) = some (.int .u64 (rd l0 x9_1))) (ds := []) #[false, false, false, false, false, false, false, false] (by kernel_rfl) rfl rfl ⟨(blk_cell BK208.out 0).trans rfl, (blk_cell BK208.out 1).trans rfl, (blk_cell BK208.out 2).trans rfl, (blk_cell BK208.out 3).trans rfl, ((HB.out.cell (World.block_lt_of_cell? w _ hw210_0)).trans hw210_0)⟩ (fun hHeld => ?_); refine with_tabW chequerref09_Write.tab11 chequerref09_Write.bits11 (fun HT_ HW_ => ?_)
               generalize wr.drew = w43 at HO_7 HO_8 BK208 HB hx210_0 hHeld ⊢
               refine pur_ (i := 0) (N := some 33) #[true, false, false, false, false, false, false, false] (any_of HT_.out (by kernel_rfl)) ?_
               refine pur_ (i := 1) (N := some 34) #[true, true, false, false, false, false, false, false] (any_of HT_.out (by kernel_rfl)) ?_
               refine pur_ (i := 2) (N := some 35) #[true, true, true, false, false, false, false, false] (any_of HT_.out (by kernel_rfl)) ?_
               refine take_ (i := 3) (N := some 36) (v := ?_) (a' := ?_) #[true, true, true, true, false, false, false, false] rfl rfl (take_ofW HT_.out HW_.out (by kernel_rfl)) (fun _ _ _ h => h) (Or.inl ⟨by rfl, ?_⟩) hHeld ?_ ?_
               rotate_left
               · rintro w' ⟨s0, s1, s2, s3, s4⟩
                 go_simp
                 with_reducible rfl
               rotate_left
               · simp only [Act.put, List.setIfInBounds_toArray, List.set_cons_zero, List.set_cons_succ, i64_w, i32_w]
                 rfl
               refine take_ (i := 4) (N := some 37) (v := ?_) (a' := ?_) #[true, true, true, true, true, false, false, false] rfl rfl (take_ofW HT_.out HW_.out (by kernel_rfl)) (fun _ _ _ h => h) (Or.inl ⟨by rfl, ?_⟩) hHeld ?_ ?_
               rotate_left
               · rintro w' ⟨s0, s1, s2, s3, s4⟩
                 go_simp
                 with_reducible rfl
               rotate_left
               · simp only [Act.put, List.setIfInBounds_toArray, List.set_cons_zero, List.set_cons_succ, i64_w, i32_w]
                 rfl
               refine one_ (i := 5) (N := some 38) #[true, true, true, true, true, true, false, false] rfl rfl (one_of HT_.out (by kernel_rfl)) (by decide) (fun K hK => ?_)
               refine goes_ Try.func29 (by kernel_rfl) rfl #[.agg #[.int .i64 a1_0, .int .i64 a1_1, .int .i64 a1_2, .int .i64 a1_3]] (by rfl) rfl rfl (by (try simp only [List.map_toArray, List.map_cons, List.map_nil]); first | done | rfl | (simp only [List.length_drop, List.length_take]; rfl)) ?_
               with_reducible refine (chequerref06_Format.calls a1_0 a1_1 a1_2 a1_3 t211 t212 _ A12.out).mono ?_
               rintro e w44 ⟨rfl, hb⟩
               refine ⟨_, rfl, ?_⟩
               replace HO_7 := Aside0.mk (Kd.R_below (rp_ HO_7.out) hb)
               replace HO_8 := Aside0.mk (Kd.R_below (rp_ HO_8.out) hb)
               replace BK208 := Aside0.mk (blk_below (hp_ BK208.out) hb)
               replace HB := Aside0.mk (below_step bp_ hb)
               (try clear hb)
               (try clear hb2)
               (try clear hk)
               (try clear hi)
               refine hK.out _ _ ⟨(blk_cell BK208.out 0).trans rfl, (blk_cell BK208.out 1).trans rfl, (blk_cell BK208.out 2).trans rfl, (blk_cell BK208.out 3).trans rfl, ((HB.out.cell (World.block_lt_of_cell? w _ hw210_0)).trans hw210_0)⟩ (fun hHeld => ?_)
               clear hK K
               refine norm_ (a' := ?_) ?_ ?_
               rotate_left
               · show Act.put _ (some 38) _ = _
                 simp only [Act.put, List.setIfInBounds_toArray, List.set_cons_zero, List.set_cons_succ, i64_w, i32_w]
                 rfl
               refine one_ (i := 6) (N := some 39) #[true, true, true, true, true, true, true, false] rfl rfl (one_of HT_.out (by kernel_rfl)) (by decide) (fun K hK => ?_)
               refine goes_ Try.func39 (by kernel_rfl) rfl #[.int .u64 (rd l0 x9_1), .agg #[.int .i64 t211, .int .i64 t212]] (by rfl) rfl rfl (by (try simp only [List.map_toArray, List.map_cons, List.map_nil]); first | done | rfl | (simp only [List.length_drop, List.length_take]; rfl)) ?_
               with_reducible refine (chequerref01_Fits.calls k1 (rd l0 x9_1) t211 t212 true _ A13.out).mono ?_
               rintro e w45 ⟨rfl, hb⟩
               refine ⟨_, rfl, ?_⟩
               replace HO_7 := Aside0.mk (Kd.R_below (rp_ HO_7.out) hb)
               replace HO_8 := Aside0.mk (Kd.R_below (rp_ HO_8.out) hb)
               replace BK208 := Aside0.mk (blk_below (hp_ BK208.out) hb)
               replace HB := Aside0.mk (below_step bp_ hb)
               (try clear hb)
               (try clear hb2)
               (try clear hk)
               (try clear hi)
               refine hK.out _ _ ⟨(blk_cell BK208.out 0).trans rfl, (blk_cell BK208.out 1).trans rfl, (blk_cell BK208.out 2).trans rfl, (blk_cell BK208.out 3).trans rfl, ((HB.out.cell (World.block_lt_of_cell? w _ hw210_0)).trans hw210_0)⟩ (fun hHeld => ?_)
               clear hK K
               refine norm_ (a' := ?_) ?_ ?_
               rotate_left
               · show Act.put _ (some 39) _ = _
                 simp only [Act.put, List.setIfInBounds_toArray, List.set_cons_zero, List.set_cons_succ, i64_w, i32_w]
                 rfl
               refine pur_ (i := 7) (N := some 10) #[true, true, true, true, true, true, true, true] (any_of HT_.out (by kernel_rfl)) ?_
               refine done_ (done_of HT_.out (by kernel_rfl)) ?_
               have p214 : 0 ≤ (x9_1 : Int) := of_decide_eq_true (by first | (with_reducible assumption) | assumption)
               have q214 : x9_1 < (l0.length : Int) := of_decide_eq_true (by first | (with_reducible assumption) | assumption)
               obtain ⟨ad214, e214, hx214_0⟩ := Kd.at_int HR0.out x9_1 p214 q214
               obtain rfl : ad210 = ad214 := (by injection e214)
               replace hx214_0 := (HB.out.cell (World.block_lt_of_cell? w _ hx214_0)).trans hx214_0
               replace p214 := eq_true p214
               replace q214 := eq_true q214
               try go_wp2_with (first | ((with_reducible refine gate_callee (f := 40) rfl ?_); refine goQ_ (some 46) Try.func40 #[.int .u64 (rd l0 x9_1)] ?_; (with_reducible refine (chequerref01_Unpack.calls (rd l0 x9_1) t215 _ A15.out).mono ?_); rintro e w46 ⟨v216, rfl, ho0, hb⟩; refine ⟨_, rfl, ?_⟩; replace HO_7 := Aside0.mk (Kd.R_below (rp_ HO_7.out) hb); have HO217 := Aside0.mk (Kd.R_lower (Kd.R_new' ho0 (Kd.R_lt (rp_ HO_8.out))) (below_size bp_)); replace HO_8 := Aside0.mk (Kd.R_elder' (rp_ HO_8.out) (Kd.R_base ho0) hb); replace BK208 := Aside0.mk (blk_below (hp_ BK208.out) hb); replace HB := Aside0.mk (below_step bp_ hb); (try clear hb); (try clear hb2); (try clear hk); (try clear hi); (try clear ho0); have hcz47_0 : w46.cell? ⟨gb208, 0, none⟩ = some (.int .i64 a1_0) := (blk_cell BK208.out 0).trans rfl; have hcz47_1 : w46.cell? ⟨gb208, 1, none⟩ = some (.int .i64 a1_1) := (blk_cell BK208.out 1).trans rfl; have hcz47_2 : w46.cell? ⟨gb208, 2, none⟩ = some (.int .i64 a1_2) := (blk_cell BK208.out 2).trans rfl; have hcz47_3 : w46.cell? ⟨gb208, 3, none⟩ = some (.int .i64 a1_3) := (blk_cell BK208.out 3).trans rfl; have hfz47_0 := blk_frozen BK208.out 0; have hfz47_1 := blk_frozen BK208.out 1; have hfz47_2 := blk_frozen BK208.out 2; have hfz47_3 := blk_frozen BK208.out 3))
               go_loopg [7, 14] k1 (fun kq v7 v14 w' => ∃ (x7_2 : List Int) (x14_2 : Int), v14 = .int .i64 x14_2 ∧ Aside0 (chequerref09_Write.l1 kq l0 x7_2 x8_1 x9_1 t215 x14_2 a1_0 a1_1 a1_2 a1_3 = some (r1, r2)) ∧ Aside0 (kq ≤ k1) ∧ Aside0 (Kd.R (Kd.int .u8) 5 w' w.heap.size (fun _ => True) v7 x7_2) ∧ Aside0 (Kd.R (Kd.int .i64) 3 w' w.heap.size (fun k_ => some k_ ≠ (v216 : Value).ownBlock) u8 x8_1) ∧ Aside0 (Kd.R (Kd.int .i64) 3 w' w.heap.size (fun k_ => some k_ ≠ (u8 : Value).ownBlock) v216 t215) ∧ Aside0 (w'.heap[gb208]? = some (.cells #[.int .i64 a1_0, .int .i64 a1_1, .int .i64 a1_2, .int .i64 a1_3] 23 (0, 0))) ∧ Aside0 (Below w.heap.size w w'))
               case atStart => exact ⟨(x7_1), (0), (by first | rfl | (simp; done) | (simp [*]; done)), H', ⟨Nat.le_refl _⟩, ⟨rp_ HO_7.out⟩, ⟨by (with_reducible repeat (first | apply Kd.R_alloc | apply Kd.R_drewN | apply Kd.R_drew)); exact Kd.R_mono HO_8.out (fun _ hk => hk.2)⟩, ⟨by (with_reducible repeat (first | apply Kd.R_alloc | apply Kd.R_drewN | apply Kd.R_drew)); exact Kd.R_mono HO217.out (fun _ hk => hk.2)⟩, ⟨hp_ BK208.out⟩, ⟨bp_⟩⟩
               case round =>
                clear H'
                try clear c1
                try clear c2
                try clear p2
                try clear q2
                try clear hx2
                try clear qi2
                try clear c3
                try clear c4
                try clear c5
                try clear c5b0
                try clear c5b1
                try clear p6
                try clear c10
                try clear c10b0
                try clear c11
                try clear c11b0
                try clear c14
                try clear c16
                try clear c16b0
                try clear c16b1
                try clear c17
                try clear c17b0
                try clear c17b1
                try clear c18
                try clear c19
                try clear c19b0
                try clear c19b1
                try clear c21
                try clear p21
                try clear q21
                try clear hx21
                try clear qi21
                try clear c28
                try clear c29
                try clear c39
                try clear c40
                try clear c41
                try clear hcz26_0
                try clear hcz26_1
                try clear hcz26_2
                try clear hcz26_3
                try clear hcz30_0
                try clear hcz30_1
                try clear hcz30_2
                try clear hcz30_3
                try clear hcz38_0
                try clear hcz38_1
                try clear hcz38_2
                try clear hcz38_3
                try clear hcz42_0
                try clear hcz42_1
                try clear hcz42_2
                try clear hcz42_3
                try clear hcz47_0
                try clear hcz47_1
                try clear hcz47_2
                try clear hcz47_3
                try clear hcz7_0
                try clear hcz7_1
                try clear hcz7_2
                try clear hcz7_3
                try clear hcz9_0
                try clear hcz9_1
                try clear hcz9_2
                try clear hcz9_3
                try clear hfz26_0
                try clear hfz26_1
                try clear hfz26_2
                try clear hfz26_3
                try clear hfz30_0
                try clear hfz30_1
                try clear hfz30_2
                try clear hfz30_3
                try clear hfz38_0
                try clear hfz38_1
                try clear hfz38_2
                try clear hfz38_3
                try clear hfz42_0
                try clear hfz42_1
                try clear hfz42_2
                try clear hfz42_3
                try clear hfz47_0
                try clear hfz47_1
                try clear hfz47_2
                try clear hfz47_3
                try clear hfz7_0
                try clear hfz7_1
                try clear hfz7_2
                try clear hfz7_3
                try clear hfz9_0
                try clear hfz9_1
                try clear hfz9_2
                try clear hfz9_3
                try clear hx210_0
                try clear hx214_0
                try clear hx218_0
                try clear p2
                try clear p210
                try clear p214
                try clear p218
                try clear p6
                try clear q210
                try clear q214
                try clear q218
                obtain ⟨x7_2, x14_2, rfl, HA, HK2, HO_7, HO_8, HO_11, BK208, HB⟩ := hrel
                cases gk with
                | zero => exact absurd HA.out (by simp [chequerref09_Write.l1])
                | succ k2 =>
                 have H := HA.out
                 clear HA
                 simp only [chequerref09_Write.l1] at H
                 by_cases c48 : x14_2 < (t215.length : Int)
                 · rw [if_pos c48] at H
                   have c48b0 : decide (x14_2 < (t215.length : Int)) = true := decide_eq_true c48
                   clear c48
                   replace H := Option.bind_eq_some_iff.mp H
                   obtain ⟨t229, A490, H⟩ := H
                   replace H : (if t229 = 2 then (if 0 ≤ x14_2 then (if x7_2.length < 140737488355328 then ((some (x7_2 ++ [(wrap64 (Int.tdiv (rd t215 x14_2) 256)) % 256] : List Int)).bind fun y231 => (if y231.length < 140737488355328 then (chequerref09_Write.l1 k2 l0 (y231 ++ [(Int.tmod (rd t215 x14_2) 256) % 256]) x8_1 x9_1 t215 (wrap64 (x14_2 + 1)) a1_0 a1_1 a1_2 a1_3) else (none))) else (none)) else (none)) else (if 0 ≤ x14_2 then (if x7_2.length < 140737488355328 then (chequerref09_Write.l1 k2 l0 (x7_2 ++ [(Int.tmod (rd t215 x14_2) 256) % 256]) x8_1 x9_1 t215 (wrap64 (x14_2 + 1)) a1_0 a1_1 a1_2 a1_3) else (none)) else (none))) = some (r1, r2) := H
                   have A49 := Aside0.mk A490
                   clear A490
                   by_cases c50 : t229 = 2
                   · rw [if_pos c50] at H
                     have c50b0 : (t229 == 2) = true := beq_iff_eq.mpr c50
                     have c50b1 : (t229 != 2) = false := bne_eq_false_iff_eq.mpr c50
                     clear c50
                     by_cases c51 : 0 ≤ x14_2
                     · rw [if_pos c51] at H
                       have c51b0 : decide (0 ≤ x14_2) = true := decide_eq_true c51
                       clear c51
                       by_cases c52 : x7_2.length < 140737488355328
                       · rw [if_pos c52] at H
                         have LMc52 := Aside0.mk c52
                         clear c52
                         obtain ⟨y231, hy231⟩ : ∃ y_ : List Int, y_ = (x7_2 ++ [(wrap64 (Int.tdiv (rd t215 x14_2) 256)) % 256]) := ⟨_, rfl⟩
                         replace H : (if y231.length < 140737488355328 then (chequerref09_Write.l1 k2 l0 (y231 ++ [(Int.tmod (rd t215 x14_2) 256) % 256]) x8_1 x9_1 t215 (wrap64 (x14_2 + 1)) a1_0 a1_1 a1_2 a1_3) else (none)) = some (r1, r2) := by first | (rw [hy231]; with_reducible exact H) | (have H2_ := (Option.bind_some _ _).symm.trans H; rw [hy231]; with_reducible exact H2_) | (have H2_ := (Option.bind_some _ _).symm.trans H; with_reducible exact H2_) | with_reducible exact H | (rw [hy231]; exact H) | exact H
                         have Ny231 := Aside0.mk hy231
                         clear hy231
                         by_cases c53 : y231.length < 140737488355328
                         · rw [if_pos c53] at H
                           have LMc53 := Aside0.mk c53
                           clear c53
                           obtain ⟨y235, hy235⟩ : ∃ y_ : List Int, y_ = (y231 ++ [(Int.tmod (rd t215 x14_2) 256) % 256]) := ⟨_, rfl⟩
                           replace H : (chequerref09_Write.l1 k2 l0 y235 x8_1 x9_1 t215 (wrap64 (x14_2 + 1)) a1_0 a1_1 a1_2 a1_3) = some (r1, r2) := by first | (rw [hy235]; with_reducible exact H) | (have H2_ := (Option.bind_some _ _).symm.trans H; rw [hy235]; with_reducible exact H2_) | (have H2_ := (Option.bind_some _ _).symm.trans H; with_reducible exact H2_) | with_reducible exact H | (rw [hy235]; exact H) | exact H
                           have Ny235 := Aside0.mk hy235
                           clear hy235
                           have H' := Aside0.mk H
                           clear H
                           obtain ⟨Ao54, co54, eo54⟩ := Kd.R_slice HO_11.out
                           subst eo54
                           have hcz55_0 : wr.cell? ⟨gb208, 0, none⟩ = some (.int .i64 a1_0) := (blk_cell BK208.out 0).trans rfl
                           have hcz55_1 : wr.cell? ⟨gb208, 1, none⟩ = some (.int .i64 a1_1) := (blk_cell BK208.out 1).trans rfl
                           have hcz55_2 : wr.cell? ⟨gb208, 2, none⟩ = some (.int .i64 a1_2) := (blk_cell BK208.out 2).trans rfl
                           have hcz55_3 : wr.cell? ⟨gb208, 3, none⟩ = some (.int .i64 a1_3) := (blk_cell BK208.out 3).trans rfl
                           have hfz55_0 := blk_frozen BK208.out 0
                           have hfz55_1 := blk_frozen BK208.out 1
                           have hfz55_2 := blk_frozen BK208.out 2
                           have hfz55_3 := blk_frozen BK208.out 3
                           go_wp2_with (first | ((with_reducible refine gate_callee (f := 42) rfl ?_); refine goQ_ (some 76) Try.func42 #[.agg #[.int .i64 a1_0, .int .i64 a1_1, .int .i64 a1_2, .int .i64 a1_3]] ?_; (with_reducible refine (chequerref09_wide.calls a1_0 a1_1 a1_2 a1_3 t229 _ A49.out).mono ?_); rintro e w56 ⟨rfl, hb⟩; refine ⟨_, rfl, ?_⟩; replace HO_7 := Aside0.mk (Kd.R_below (rp_ HO_7.out) hb); replace HO_8 := Aside0.mk (Kd.R_below (rp_ HO_8.out) hb); replace HO_11 := Aside0.mk (Kd.R_below (rp_ HO_11.out) hb); replace BK208 := Aside0.mk (blk_below (hp_ BK208.out) hb); replace HB := Aside0.mk (below_step bp_ hb); (try clear hb); (try clear hb2); (try clear hk); (try clear hi); have p230 : 0 ≤ (x14_2 : Int) := of_decide_eq_true (by first | (with_reducible assumption) | assumption); have q230 : x14_2 < (t215.length : Int) := of_decide_eq_true (by first | (with_reducible assumption) | assumption); obtain ⟨ad230, e230, hx230_0⟩ := Kd.at_int (Kd.R_reads' HO_11.out).2.2 x14_2 p230 q230; cases e230; replace p230 := eq_true p230; replace q230 := eq_true q230) | ((with_reducible refine gate_builtin (b := .append) (xs := #[.tmp 78, .tmp 85]) rfl ?_); at_builtin; refine Kd.R_append (Kd.int .u8) (w0 := w) w.heap.size rfl (.tmp 78) (.tmp 85) 27 5 (.int .u8 0) 1 rfl Try.underlying27 info5 rfl (by decide) (by omega) u7 x7_2 ((wrap64 (Int.tdiv (rd t215 x14_2) 256)) % 256) [.int .u8 ((wrap64 (Int.tdiv (rd t215 x14_2) 256)) % 256)] (fun _ => True) (fun _ => False) rfl rfl ?aP (fun _ hk => hk.elim) ?aF ?aO ?aB ?aS ?aL ?_; (case aP => exact rfl); (case aB => exact bp_); (case aF => exact (fun _ _ => trivial)); (case aO => exact (rp_ HO_7.out)); (case aS => exact (below_size bp_)); (case aL => have := LMc52.out; omega); intro v232 w57 ho hb hg hat; rw [← Ny231.out] at ho; replace HO_8 := Aside0.mk (Kd.R_over' (rp_ HO_8.out) (Kd.R_typed (rp_ HO_7.out)) (by decide) hg); replace HO_11 := Aside0.mk (Kd.R_over' (rp_ HO_11.out) (Kd.R_typed (rp_ HO_7.out)) (by decide) hg); replace BK208 := Aside0.mk (blk_grown (g := gb208) (o := .cells #[.int .i64 a1_0, .int .i64 a1_1, .int .i64 a1_2, .int .i64 a1_3] 23 (0, 0)) (hp_ BK208.out) hg (Kd.R_ne HO_7.out BK208.out (by decide))); replace HB := Aside0.mk (hb); have HO233 := Aside0.mk (ho); clear HO_7; clear ho hb hg hat; have p234 : 0 ≤ (x14_2 : Int) := of_decide_eq_true (by first | (with_reducible assumption) | assumption); have q234 : x14_2 < (t215.length : Int) := of_decide_eq_true (by first | (with_reducible assumption) | assumption); obtain ⟨ad234, e234, hx234_0⟩ := Kd.at_int (Kd.R_reads' HO_11.out).2.2 x14_2 p234 q234; obtain rfl : ad230 = ad234 := (by injection e234); replace p234 := eq_true p234; replace q234 := eq_true q234) | ((with_reducible refine gate_builtin (b := .append) (xs := #[.tmp 87, .tmp 94]) rfl ?_); at_builtin; refine Kd.R_append (Kd.int .u8) (w0 := w) w.heap.size rfl (.tmp 87) (.tmp 94) 27 5 (.int .u8 0) 1 rfl Try.underlying27 info5 rfl (by decide) (by omega) v232 y231 ((Int.tmod (rd t215 x14_2) 256) % 256) [.int .u8 ((Int.tmod (rd t215 x14_2) 256) % 256)] (fun _ => True) (fun _ => False) rfl rfl ?aP (fun _ hk => hk.elim) ?aF ?aO ?aB ?aS ?aL ?_; (case aP => exact rfl); (case aB => exact bp_); (case aF => exact (fun _ _ => trivial)); (case aO => exact (rp_ HO233.out)); (case aS => exact (below_size bp_)); (case aL => have := LMc53.out; omega); intro v236 w58 ho hb hg hat; rw [← Ny235.out] at ho; replace HO_8 := Aside0.mk (Kd.R_over' (rp_ HO_8.out) (Kd.R_typed (rp_ HO233.out)) (by decide) hg); replace HO_11 := Aside0.mk (Kd.R_over' (rp_ HO_11.out) (Kd.R_typed (rp_ HO233.out)) (by decide) hg); replace BK208 := Aside0.mk (blk_grown (g := gb208) (o := .cells #[.int .i64 a1_0, .int .i64 a1_1, .int .i64 a1_2, .int .i64 a1_3] 23 (0, 0)) (hp_ BK208.out) hg (Kd.R_ne HO233.out BK208.out (by decide))); replace HB := Aside0.mk (hb); have HO237 := Aside0.mk (ho); clear HO233; clear ho hb hg hat))
                           go_roundg k2
                           case measure => have := HK1.out; have := HK2.out; omega
                           case rel => exact ⟨(y235), (wrap64 (x14_2 + 1)), (by first | rfl | (simp; done) | (simp [*]; done)), H', ⟨by have := HK1.out; have := HK2.out; omega⟩, ⟨rp_ HO237.out⟩, ⟨rp_ HO_8.out⟩, ⟨rp_ HO_11.out⟩, ⟨hp_ BK208.out⟩, ⟨bp_⟩⟩
                         · rw [if_neg c53] at H
                           exact absurd H (by simp)
                       · rw [if_neg c52] at H
                         exact absurd H (by simp)
                     · rw [if_neg c51] at H
                       exact absurd H (by simp)
                   · rw [if_neg c50] at H
                     have c50b0 : (t229 == 2) = false := beq_eq_false_iff_ne.mpr c50
                     have c50b1 : (t229 != 2) = true := bne_iff_ne.mpr c50
                     by_cases c59 : 0 ≤ x14_2
                     · rw [if_pos c59] at H
                       have c59b0 : decide (0 ≤ x14_2) = true := decide_eq_true c59
                       clear c59
                       by_cases c60 : x7_2.length < 140737488355328
                       · rw [if_pos c60] at H
                         have LMc60 := Aside0.mk c60
                         clear c60
                         obtain ⟨y239, hy239⟩ : ∃ y_ : List Int, y_ = (x7_2 ++ [(Int.tmod (rd t215 x14_2) 256) % 256]) := ⟨_, rfl⟩
                         replace H : (chequerref09_Write.l1 k2 l0 y239 x8_1 x9_1 t215 (wrap64 (x14_2 + 1)) a1_0 a1_1 a1_2 a1_3) = some (r1, r2) := by first | (rw [hy239]; with_reducible exact H) | (have H2_ := (Option.bind_some _ _).symm.trans H; rw [hy239]; with_reducible exact H2_) | (have H2_ := (Option.bind_some _ _).symm.trans H; with_reducible exact H2_) | with_reducible exact H | (rw [hy239]; exact H) | exact H
                         have Ny239 := Aside0.mk hy239
                         clear hy239
                         have H' := Aside0.mk H
                         clear H
                         obtain ⟨Ao61, co61, eo61⟩ := Kd.R_slice HO_11.out
                         subst eo61
                         have hcz62_0 : wr.cell? ⟨gb208, 0, none⟩ = some (.int .i64 a1_0) := (blk_cell BK208.out 0).trans rfl
                         have hcz62_1 : wr.cell? ⟨gb208, 1, none⟩ = some (.int .i64 a1_1) := (blk_cell BK208.out 1).trans rfl
                         have hcz62_2 : wr.cell? ⟨gb208, 2, none⟩ = some (.int .i64 a1_2) := (blk_cell BK208.out 2).trans rfl
                         have hcz62_3 : wr.cell? ⟨gb208, 3, none⟩ = some (.int .i64 a1_3) := (blk_cell BK208.out 3).trans rfl
                         have hfz62_0 := blk_frozen BK208.out 0
                         have hfz62_1 := blk_frozen BK208.out 1
                         have hfz62_2 := blk_frozen BK208.out 2
                         have hfz62_3 := blk_frozen BK208.out 3
                         go_wp2_with (first | ((with_reducible refine gate_callee (f := 42) rfl ?_); refine goQ_ (some 76) Try.func42 #[.agg #[.int .i64 a1_0, .int .i64 a1_1, .int .i64 a1_2, .int .i64 a1_3]] ?_; (with_reducible refine (chequerref09_wide.calls a1_0 a1_1 a1_2 a1_3 t229 _ A49.out).mono ?_); rintro e w63 ⟨rfl, hb⟩; refine ⟨_, rfl, ?_⟩; replace HO_7 := Aside0.mk (Kd.R_below (rp_ HO_7.out) hb); replace HO_8 := Aside0.mk (Kd.R_below (rp_ HO_8.out) hb); replace HO_11 := Aside0.mk (Kd.R_below (rp_ HO_11.out) hb); replace BK208 := Aside0.mk (blk_below (hp_ BK208.out) hb); replace HB := Aside0.mk (below_step bp_ hb); (try clear hb); (try clear hb2); (try clear hk); (try clear hi); have p238 : 0 ≤ (x14_2 : Int) := of_decide_eq_true (by first | (with_reducible assumption) | assumption); have q238 : x14_2 < (t215.length : Int) := of_decide_eq_true (by first | (with_reducible assumption) | assumption); obtain ⟨ad238, e238, hx238_0⟩ := Kd.at_int (Kd.R_reads' HO_11.out).2.2 x14_2 p238 q238; cases e238; replace p238 := eq_true p238; replace q238 := eq_true q238) | ((with_reducible refine gate_builtin (b := .append) (xs := #[.tmp 87, .tmp 94]) rfl ?_); at_builtin; refine Kd.R_append (Kd.int .u8) (w0 := w) w.heap.size rfl (.tmp 87) (.tmp 94) 27 5 (.int .u8 0) 1 rfl Try.underlying27 info5 rfl (by decide) (by omega) u7 x7_2 ((Int.tmod (rd t215 x14_2) 256) % 256) [.int .u8 ((Int.tmod (rd t215 x14_2) 256) % 256)] (fun _ => True) (fun _ => False) rfl rfl ?aP (fun _ hk => hk.elim) ?aF ?aO ?aB ?aS ?aL ?_; (case aP => exact rfl); (case aB => exact bp_); (case aF => exact (fun _ _ => trivial)); (case aO => exact (rp_ HO_7.out)); (case aS => exact (below_size bp_)); (case aL => have := LMc60.out; omega); intro v240 w64 ho hb hg hat; rw [← Ny239.out] at ho; replace HO_8 := Aside0.mk (Kd.R_over' (rp_ HO_8.out) (Kd.R_typed (rp_ HO_7.out)) (by decide) hg); replace HO_11 := Aside0.mk (Kd.R_over' (rp_ HO_11.out) (Kd.R_typed (rp_ HO_7.out)) (by decide) hg); replace BK208 := Aside0.mk (blk_grown (g := gb208) (o := .cells #[.int .i64 a1_0, .int .i64 a1_1, .int .i64 a1_2, .int .i64 a1_3] 23 (0, 0)) (hp_ BK208.out) hg (Kd.R_ne HO_7.out BK208.out (by decide))); replace HB := Aside0.mk (hb); have HO241 := Aside0.mk (ho); clear HO_7; clear ho hb hg hat))
                         go_roundg k2
                         case measure => have := HK1.out; have := HK2.out; omega
                         case rel => exact ⟨(y239), (wrap64 (x14_2 + 1)), (by first | rfl | (simp; done) | (simp [*]; done)), H', ⟨by have := HK1.out; have := HK2.out; omega⟩, ⟨rp_ HO241.out⟩, ⟨rp_ HO_8.out⟩, ⟨rp_ HO_11.out⟩, ⟨hp_ BK208.out⟩, ⟨bp_⟩⟩
                       · rw [if_neg c60] at H
                         exact absurd H (by simp)
                     · rw [if_neg c59] at H
                       exact absurd H (by simp)
                 · rw [if_neg c48] at H
                   have c48b0 : decide (x14_2 < (t215.length : Int)) = false := decide_eq_false c48
                   clear c48
                   have H' := Aside0.mk H
                   clear H
                   obtain ⟨Ao65, co65, eo65⟩ := Kd.R_slice HO_11.out
                   subst eo65
                   go_wp2
                   go_roundg k2
                   case measure => have := HK1.out; have := HK2.out; omega
                   case rel => exact ⟨(x7_2), (x8_1), (wrap64 (x9_1 + 1)), (by first | rfl | (simp; done) | (simp [*]; done)), H', ⟨by have := HK1.out; have := HK2.out; omega⟩, ⟨rp_ HO_7.out⟩, ⟨by (with_reducible repeat (first | apply Kd.R_alloc | apply Kd.R_drewN | apply Kd.R_drew)); exact Kd.R_mono HO_8.out (fun _ hk => trivial)⟩, ⟨hp_ BK208.out⟩, ⟨bp_⟩⟩
           · replace c14 := Bool.eq_false_iff.mpr c14
             subst c14
             have H1 : (some (([] : List Int), 1)) = some (r1, r2) := by rw [if_neg (show ¬ (false = true) by decide)] at H; exact H
             clear H
             have H := H1
             clear H1
             simp only [Option.some.injEq, Prod.mk.injEq] at H
             obtain ⟨rfl, rfl⟩ := H
             try go_wp2
             (try (rw [drewN_self wr]; generalize hq_ : World.drewN wr _ = wr; have n0_ := Aside0.mk (qrp_ hq_ HO_7.out); have n1_ := Aside0.mk (qrp_ hq_ HO_8.out); have n2_ := Aside0.mk (qhp_ hq_ BK208.out); have n3_ : Aside0 (Below w.heap.size w wr) := ⟨qbp_ hq_⟩; clear HO_7 HO_8 BK208 HB hq_; have HO_7 := n0_; have HO_8 := n1_; have BK208 := n2_; have HB := n3_; clear n0_ n1_ n2_ n3_))
             replace HO_7 := Aside0.mk (Kd.R_drew HO_7.out)
             replace HO_8 := Aside0.mk (Kd.R_drew HO_8.out)
             replace BK208 := Aside0.mk (blk_drew BK208.out)
             replace HB := Aside0.mk (below_drew1 HB.out)
             have p210 : 0 ≤ (x9_1 : Int) := of_decide_eq_true (by first | (with_reducible assumption) | assumption)
             have q210 : x9_1 < (l0.length : Int) := of_decide_eq_true (by first | (with_reducible assumption) | assumption)
             obtain ⟨ad210, e210, hx210_0⟩ := Kd.at_int HR0.out x9_1 p210 q210
             have hw210_0 := hx210_0
             cases e210
             replace hx210_0 := (HB.out.cell (World.block_lt_of_cell? w _ hx210_0)).trans hx210_0
             replace p210 := eq_true p210
             replace q210 := eq_true q210
             refine start_ (n := 8) (S := fun w' => w'.cell? ⟨gb208, 0, none⟩ = some (.int .i64 a1_0) ∧ w'.cell? ⟨gb208, 1, none⟩ = some (.int .i64 a1_1) ∧ w'.cell? ⟨gb208, 2, none⟩ = some (.int .i64 a1_2) ∧ w'.cell? ⟨gb208, 3, none⟩ = some (.int .i64 a1_3) ∧ w'.cell? (ad210.add (x9_1).toNat) = some (.int .u64 (rd l0 x9_1))) (ds := []) #[false, false, false, false, false, false, false, false] (by kernel_rfl) rfl rfl ⟨(blk_cell BK208.out 0).trans rfl, (blk_cell BK208.out 1).trans rfl, (blk_cell BK208.out 2).trans rfl, (blk_cell BK208.out 3).trans rfl, ((HB.out.cell (World.block_lt_of_cell? w _ hw210_0)).trans hw210_0)⟩ (fun hHeld => ?_); refine with_tabW chequerref09_Write.tab11 chequerref09_Write.bits11 (fun HT_ HW_ => ?_)
             generalize wr.drew = w66 at HO_7 HO_8 BK208 HB hx210_0 hHeld ⊢
             refine pur_ (i := 0) (N := some 33) #[true, false, false, false, false, false, false, false] (any_of HT_.out (by kernel_rfl)) ?_
             refine pur_ (i := 1) (N := some 34) #[true, true, false, false, false, false, false, false] (any_of HT_.out (by kernel_rfl)) ?_
             refine pur_ (i := 2) (N := some 35) #[true, true, true, false, false, false, false, false] (any_of HT_.out (by kernel_rfl)) ?_
             refine take_ (i := 3) (N := some 36) (v := ?_) (a' := ?_) #[true, true, true, true, false, false, false, false] rfl rfl (take_ofW HT_.out HW_.out (by kernel_rfl)) (fun _ _ _ h => h) (Or.inl ⟨by rfl, ?_⟩) hHeld ?_ ?_
             rotate_left
             · rintro w' ⟨s0, s1, s2, s3, s4⟩
               go_simp
               with_reducible rfl
             rotate_left
             · simp only [Act.put, List.setIfInBounds_toArray, List.set_cons_zero, List.set_cons_succ, i64_w, i32_w]
               rfl
             refine take_ (i := 4) (N := some 37) (v := ?_) (a' := ?_) #[true, true, true, true, true, false, false, false] rfl rfl (take_ofW HT_.out HW_.out (by kernel_rfl)) (fun _ _ _ h => h) (Or.inl ⟨by rfl, ?_⟩) hHeld ?_ ?_
             rotate_left
             · rintro w' ⟨s0, s1, s2, s3, s4⟩
               go_simp
               with_reducible rfl
             rotate_left
             · simp only [Act.put, List.setIfInBounds_toArray, List.set_cons_zero, List.set_cons_succ, i64_w, i32_w]
               rfl
             refine one_ (i := 5) (N := some 38) #[true, true, true, true, true, true, false, false] rfl rfl (one_of HT_.out (by kernel_rfl)) (by decide) (fun K hK => ?_)
             refine goes_ Try.func29 (by kernel_rfl) rfl #[.agg #[.int .i64 a1_0, .int .i64 a1_1, .int .i64 a1_2, .int .i64 a1_3]] (by rfl) rfl rfl (by (try simp only [List.map_toArray, List.map_cons, List.map_nil]); first | done | rfl | (simp only [List.length_drop, List.length_take]; rfl)) ?_
             with_reducible refine (chequerref06_Format.calls a1_0 a1_1 a1_2 a1_3 t211 t212 _ A12.out).mono ?_
             rintro e w67 ⟨rfl, hb⟩
             refine ⟨_, rfl, ?_⟩
             replace HO_7 := Aside0.mk (Kd.R_below (rp_ HO_7.out) hb)
             replace HO_8 := Aside0.mk (Kd.R_below (rp_ HO_8.out) hb)
             replace BK208 := Aside0.mk (blk_below (hp_ BK208.out) hb)
             replace HB := Aside0.mk (below_step bp_ hb)
             (try clear hb)
             (try clear hb2)
             (try clear hk)
             (try clear hi)
             refine hK.out _ _ ⟨(blk_cell BK208.out 0).trans rfl, (blk_cell BK208.out 1).trans rfl, (blk_cell BK208.out 2).trans rfl, (blk_cell BK208.out 3).trans rfl, ((HB.out.cell (World.block_lt_of_cell? w _ hw210_0)).trans hw210_0)⟩ (fun hHeld => ?_)
             clear hK K
             refine norm_ (a' := ?_) ?_ ?_
             rotate_left
             · show Act.put _ (some 38) _ = _
               simp only [Act.put, List.setIfInBounds_toArray, List.set_cons_zero, List.set_cons_succ, i64_w, i32_w]
               rfl
             refine one_ (i := 6) (N := some 39) #[true, true, true, true, true, true, true, false] rfl rfl (one_of HT_.out (by kernel_rfl)) (by decide) (fun K hK => ?_)
             refine goes_ Try.func39 (by kernel_rfl) rfl #[.int .u64 (rd l0 x9_1), .agg #[.int .i64 t211, .int .i64 t212]] (by rfl) rfl rfl (by (try simp only [List.map_toArray, List.map_cons, List.map_nil]); first | done | rfl | (simp only [List.length_drop, List.length_take]; rfl)) ?_
             with_reducible refine (chequerref01_Fits.calls k1 (rd l0 x9_1) t211 t212 false _ A13.out).mono ?_
             rintro e w68 ⟨rfl, hb⟩
             refine ⟨_, rfl, ?_⟩
             replace HO_7 := Aside0.mk (Kd.R_below (rp_ HO_7.out) hb)
             replace HO_8 := Aside0.mk (Kd.R_below (rp_ HO_8.out) hb)
             replace BK208 := Aside0.mk (blk_below (hp_ BK208.out) hb)
             replace HB := Aside0.mk (below_step bp_ hb)
             (try clear hb)
             (try clear hb2)
             (try clear hk)
             (try clear hi)
             refine hK.out _ _ ⟨(blk_cell BK208.out 0).trans rfl, (blk_cell BK208.out 1).trans rfl, (blk_cell BK208.out 2).trans rfl, (blk_cell BK208.out 3).trans rfl, ((HB.out.cell (World.block_lt_of_cell? w _ hw210_0)).trans hw210_0)⟩ (fun hHeld => ?_)
             clear hK K
             refine norm_ (a' := ?_) ?_ ?_
             rotate_left
             · show Act.put _ (some 39) _ = _
               simp only [Act.put, List.setIfInBounds_toArray, List.set_cons_zero, List.set_cons_succ, i64_w, i32_w]
               rfl
             refine pur_ (i := 7) (N := some 10) #[true, true, true, true, true, true, true, true] (any_of HT_.out (by kernel_rfl)) ?_
             refine done_ (done_of HT_.out (by kernel_rfl)) ?_
             try go_wp2
             go_ret2
             exact ⟨_, by first | rfl | (simp [errW_none, errW_some] <;> rfl) | (simp [*, errW_none, errW_some] <;> rfl), by first | exact Kd.R_nil _ _ _ _ _ | exact Kd.N_nil _ _ _ _ _ | exact Kd.V_nil _ _ _ _ _ | exact Kd.Q_nil _ _ _ _ _ | exact Kd.S_nil _ _ _ _ _, bp_⟩
         · rw [if_neg c11] at H
           exact absurd H (by simp)
       · rw [if_neg c10] at H
         have c10b0 : decide (x9_1 < (l0.length : Int)) = false := decide_eq_false c10
         clear c10
         simp only [Option.some.injEq, Prod.mk.injEq] at H
         obtain ⟨rfl, rfl⟩ := H
         go_wp2
         go_ret2
         exact ⟨_, by first | rfl | (simp [errW_none, errW_some] <;> rfl) | (simp [*, errW_none, errW_some] <;> rfl), by (with_reducible repeat (first | apply Kd.R_alloc | apply Kd.R_drewN | apply Kd.R_drew)); exact HO_7.out, bp_⟩
   · rw [if_neg c5] at H
     have c5b0 : ((l0.length : Int) == (wrap64 (a1_1 * a1_2))) = false := beq_eq_false_iff_ne.mpr c5
     have c5b1 : ((l0.length : Int) != (wrap64 (a1_1 * a1_2))) = true := bne_iff_ne.mpr c5
     simp only [Option.some.injEq, Prod.mk.injEq] at H
     obtain ⟨rfl, rfl⟩ := H
     go_enter Try.func11, Try.ntmps11
     go_wp2_with (first | ((with_reducible refine gate_dst (N := 3) rfl ?_); refine box_event ?hg (N := 3) ?hd (cs := #[.int .i64 a1_0, .int .i64 a1_1, .int .i64 a1_2, .int .i64 a1_3]) (t := 23) ?hr ?_; (case hd => rfl); (case hg => rfl); (case hr => first | (go_simp; done) | (go_simp; rfl)); intro gb208 hg w69 hbox hb; have BK208 := Aside0.mk (hbox); have GW208 := Aside0.mk ((by rw [hg]; exact (below_size bp_) : w.heap.size ≤ gb208)); have GE208 := Aside0.mk ((by rw [hg]; exact (below_size bp_) : w.heap.size ≤ gb208)); replace HB := Aside0.mk (below_step bp_ hb); clear hb hbox hg; have hcz70_0 : w69.cell? ⟨gb208, 0, none⟩ = some (.int .i64 a1_0) := (blk_cell BK208.out 0).trans rfl; have hcz70_1 : w69.cell? ⟨gb208, 1, none⟩ = some (.int .i64 a1_1) := (blk_cell BK208.out 1).trans rfl; have hcz70_2 : w69.cell? ⟨gb208, 2, none⟩ = some (.int .i64 a1_2) := (blk_cell BK208.out 2).trans rfl; have hcz70_3 : w69.cell? ⟨gb208, 3, none⟩ = some (.int .i64 a1_3) := (blk_cell BK208.out 3).trans rfl; have hfz70_0 := blk_frozen BK208.out 0; have hfz70_1 := blk_frozen BK208.out 1; have hfz70_2 := blk_frozen BK208.out 2; have hfz70_3 := blk_frozen BK208.out 3) | ((with_reducible refine gate_callee (f := 28) rfl ?_); refine goQ_ (some 16) Try.func28 #[.agg #[.int .i64 a1_0, .int .i64 a1_1, .int .i64 a1_2, .int .i64 a1_3]] ?_; (with_reducible refine (chequerref09_May.calls a1_0 a1_1 a1_2 a1_3 true _ A3.out).mono ?_); rintro e w71 ⟨rfl, hb⟩; refine ⟨_, rfl, ?_⟩; replace BK208 := Aside0.mk (blk_below (hp_ BK208.out) hb); replace HB := Aside0.mk (below_step bp_ hb); (try clear hb); (try clear hb2); (try clear hk); (try clear hi); have hcz72_0 : w71.cell? ⟨gb208, 0, none⟩ = some (.int .i64 a1_0) := (blk_cell BK208.out 0).trans rfl; have hcz72_1 : w71.cell? ⟨gb208, 1, none⟩ = some (.int .i64 a1_1) := (blk_cell BK208.out 1).trans rfl; have hcz72_2 : w71.cell? ⟨gb208, 2, none⟩ = some (.int .i64 a1_2) := (blk_cell BK208.out 2).trans rfl; have hcz72_3 : w71.cell? ⟨gb208, 3, none⟩ = some (.int .i64 a1_3) := (blk_cell BK208.out 3).trans rfl; have hfz72_0 := blk_frozen BK208.out 0; have hfz72_1 := blk_frozen BK208.out 1; have hfz72_2 := blk_frozen BK208.out 2; have hfz72_3 := blk_frozen BK208.out 3))
     go_ret2
     exact ⟨_, by first | rfl | (simp [errW_none, errW_some] <;> rfl) | (simp [*, errW_none, errW_some] <;> rfl), by first | exact Kd.R_nil _ _ _ _ _ | exact Kd.N_nil _ _ _ _ _ | exact Kd.V_nil _ _ _ _ _ | exact Kd.Q_nil _ _ _ _ _ | exact Kd.S_nil _ _ _ _ _, bp_⟩
 · replace c4 := Bool.eq_false_iff.mpr c4
   subst c4
   have H1 : (some (([] : List Int), 1)) = some (r1, r2) := by rw [if_neg (show ¬ (false = true) by decide)] at H; exact H
   clear H
   have H := H1
   clear H1
   simp only [Option.some.injEq, Prod.mk.injEq] at H
   obtain ⟨rfl, rfl⟩ := H
   go_enter Try.func11, Try.ntmps11
   go_wp2_with (first | ((with_reducible refine gate_dst (N := 3) rfl ?_); refine box_event ?hg (N := 3) ?hd (cs := #[.int .i64 a1_0, .int .i64 a1_1, .int .i64 a1_2, .int .i64 a1_3]) (t := 23) ?hr ?_; (case hd => rfl); (case hg => rfl); (case hr => first | (go_simp; done) | (go_simp; rfl)); intro gb208 hg w73 hbox hb; have BK208 := Aside0.mk (hbox); have GW208 := Aside0.mk ((by rw [hg]; exact (below_size bp_) : w.heap.size ≤ gb208)); have GE208 := Aside0.mk ((by rw [hg]; exact (below_size bp_) : w.heap.size ≤ gb208)); replace HB := Aside0.mk (below_step bp_ hb); clear hb hbox hg; have hcz74_0 : w73.cell? ⟨gb208, 0, none⟩ = some (.int .i64 a1_0) := (blk_cell BK208.out 0).trans rfl; have hcz74_1 : w73.cell? ⟨gb208, 1, none⟩ = some (.int .i64 a1_1) := (blk_cell BK208.out 1).trans rfl; have hcz74_2 : w73.cell? ⟨gb208, 2, none⟩ = some (.int .i64 a1_2) := (blk_cell BK208.out 2).trans rfl; have hcz74_3 : w73.cell? ⟨gb208, 3, none⟩ = some (.int .i64 a1_3) := (blk_cell BK208.out 3).trans rfl; have hfz74_0 := blk_frozen BK208.out 0; have hfz74_1 := blk_frozen BK208.out 1; have hfz74_2 := blk_frozen BK208.out 2; have hfz74_3 := blk_frozen BK208.out 3) | ((with_reducible refine gate_callee (f := 28) rfl ?_); refine goQ_ (some 16) Try.func28 #[.agg #[.int .i64 a1_0, .int .i64 a1_1, .int .i64 a1_2, .int .i64 a1_3]] ?_; (with_reducible refine (chequerref09_May.calls a1_0 a1_1 a1_2 a1_3 false _ A3.out).mono ?_); rintro e w75 ⟨rfl, hb⟩; refine ⟨_, rfl, ?_⟩; replace HB := Aside0.mk (below_step bp_ hb); (try clear hb); (try clear hb2); (try clear hk); (try clear hi)))
   go_ret2
   exact ⟨_, by first | rfl | (simp [errW_none, errW_some] <;> rfl) | (simp [*, errW_none, errW_some] <;> rfl), by first | exact Kd.R_nil _ _ _ _ _ | exact Kd.N_nil _ _ _ _ _ | exact Kd.V_nil _ _ _ _ _ | exact Kd.Q_nil _ _ _ _ _ | exact Kd.S_nil _ _ _ _ _, bp_⟩

end Go.Proofs.Ytdjonaajfhbfhaa.Q
