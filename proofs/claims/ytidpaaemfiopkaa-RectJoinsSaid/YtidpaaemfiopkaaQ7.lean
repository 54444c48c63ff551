-- written by our own program (wip/tools/myprint.py) out of the translation, by the kit's print; Lean checks it
import Derived.Test.YtidpaaemfiopkaaQ0
import Derived.Test.YtidpaaemfiopkaaQ5
import Derived.Test.YtidpaaemfiopkaaQ6
namespace Go.Proofs.Ytidpaaemfiopkaa.Q
open Go.RowKit Go.Proofs.YtidpaaemfiopkaaW.PrintWords Go.Proofs.YtidpaaemfiopkaaW.PrintLast Go.Proofs.YtidpaaemfiopkaaW.PrintMore
attribute [local go_sem] max2_int min2_int max_two min_two max_three min_three max_four min_four   -- for this text's walks alone
set_option linter.unusedVariables false
set_option linter.unusedSimpArgs false


/-! ### rect_Of: function 29 -/
mutual
def rect_Of.j0 : Nat → List (List Int) → Bool → Option (Int × Int × List Int × Int)
 | 0, _, _ => none
 | k + 1, x0, x19 => if x19 = true then (some (0, 0, ([] : List Int), 1)) else (if 0 < (x0.length : Int) then (rect_Of.l0 k x0 (x0.length : Int) 0 ((rd_L2 x0 0).length : Int) (x0.length : Int) ([] : List Int)) else (none))
def rect_Of.l0 : Nat → List (List Int) → Int → Int → Int → Int → List Int → Option (Int × Int × List Int × Int)
 | 0, _, _, _, _, _, _ => none
 | k + 1, x28, x29, x30, x171000, x171001, x171002 => if x30 < x29 then (if 0 ≤ x30 then (if x30 < (x28.length : Int) then (if ((rd_L2 x28 x30).length : Int) = x171000 then (if x171002.length + (rd_L2 x28 x30).length < 17592186044416 then (rect_Of.l0 k x28 x29 (wrap64 (x30 + 1)) x171000 x171001 (x171002 ++ (rd_L2 x28 x30))) else (none)) else (some (0, 0, ([] : List Int), 1))) else (none)) else (none)) else (some (x171000, x171001, x171002, 0))
end
def rect_Of.f (k : Nat) (l0 : List (List Int)) : Option (Int × Int × List Int × Int) := if (l0.length : Int) = 0 then (rect_Of.j0 k l0 true) else (if 0 < (l0.length : Int) then ((rect_sized.f ((rd_L2 l0 0).length : Int) (l0.length : Int)).bind fun t168 => (rect_Of.j0 k l0 (!t168))) else (none))
theorem rect_Of.mono_l : ∀ k, (∀ y0 y1, LeO (rect_Of.j0 k y0 y1) (rect_Of.j0 (k + 1) y0 y1)) ∧ (∀ y0 y1 y2 y3 y4 y5, LeO (rect_Of.l0 k y0 y1 y2 y3 y4 y5) (rect_Of.l0 (k + 1) y0 y1 y2 y3 y4 y5))
 | 0 => ⟨fun _ _ r h => by simp [rect_Of.j0] at h, fun _ _ _ _ _ _ r h => by simp [rect_Of.l0] at h⟩
 | k + 1 => by
  obtain ⟨ih0, ih1⟩ := rect_Of.mono_l k
  refine ⟨?_, ?_⟩
  · intro y0 y1
    unfold rect_Of.j0
    repeat' first
    | (with_reducible exact ih0 _ _)
    | (with_reducible exact ih1 _ _ _ _ _ _)
    | (with_reducible exact LeO.refl _)
    | (with_reducible exact LeO.none _)
    | (with_reducible refine LeO.ite ?_ ?_)
    | (with_reducible refine LeO.bind ?_ (fun _ => ?_))
    | exact ih0 _ _
    | exact ih1 _ _ _ _ _ _
    | exact LeO.none _
    | refine LeO.ite ?_ ?_
    | refine LeO.bind ?_ (fun _ => ?_)
  intro y0 y1 y2 y3 y4 y5
  unfold rect_Of.l0
  repeat' first
  | (with_reducible exact ih0 _ _)
  | (with_reducible exact ih1 _ _ _ _ _ _)
  | (with_reducible exact LeO.refl _)
  | (with_reducible exact LeO.none _)
  | (with_reducible refine LeO.ite ?_ ?_)
  | (with_reducible refine LeO.bind ?_ (fun _ => ?_))
  | exact ih0 _ _
  | exact ih1 _ _ _ _ _ _
  | exact LeO.none _
  | refine LeO.ite ?_ ?_
  | refine LeO.bind ?_ (fun _ => ?_)
theorem rect_Of.mono : ∀ a0 k, LeO (rect_Of.f k a0) (rect_Of.f (k + 1) a0) := by
 intro a0 k
 obtain ⟨ih0, ih1⟩ := rect_Of.mono_l k
 unfold rect_Of.f
 repeat' first
  | (with_reducible exact ih0 _ _)
  | (with_reducible exact ih1 _ _ _ _ _ _)
  | (with_reducible exact LeO.refl _)
  | (with_reducible exact LeO.none _)
  | (with_reducible refine LeO.ite ?_ ?_)
  | (with_reducible refine LeO.bind ?_ (fun _ => ?_))
  | exact ih0 _ _
  | exact ih1 _ _ _ _ _ _
  | exact LeO.none _
  | refine LeO.ite ?_ ?_
  | refine LeO.bind ?_ (fun _ => ?_)
set_option maxHeartbeats 8000000 in
set_option maxRecDepth 100000 in
theorem rect_Of.calls (k : Nat) (A0 : Option Addr) (c0 : Nat) (l0 : List (List Int)) (r1 : Int) (r2 : Int) (r3 : List Int) (r4 : Int) (w : World) (hr0 : Kd.C (Kd.slice 46 (Kd.int .u64)) w A0 l0.length l0) (hc0 : l0.length ≤ c0) (h : rect_Of.f k l0 = some (r1, r2, r3, r4)) :
 Calls Try.prog 29 #[.slice A0 l0.length c0] w fun e w' => ∃ v2_ : Value, e = .returned (.tuple #[.agg #[.int .i64 r1, .int .i64 r2, v2_], .int .i64 r4]) ∧ Kd.R (Kd.int .u64) 46 w' w.heap.size (fun _ => True) v2_ r3 ∧ Below w.heap.size w w' := by
 have hu32 := Try.underlying32
 have HR0 := Aside0.mk hr0
 have HC0 := Aside0.mk hc0
 clear hr0 hc0
 have HB := Aside0.mk (Below.refl w.heap.size w)
 have H : (if (l0.length : Int) = 0 then (rect_Of.j0 k l0 true) else (if 0 < (l0.length : Int) then ((rect_sized.f ((rd_L2 l0 0).length : Int) (l0.length : Int)).bind fun t168 => (rect_Of.j0 k l0 (!t168))) else (none))) = some (r1, r2, r3, r4) := h
 clear h
 have HC2 := Aside0.mk H
 clear H
 go_enter Try.func29, Try.ntmps29
 go_upto_region 1 with (first | ((with_reducible refine gate_dst (N := 2) rfl ?_); (try (refine gate_guard (by rfl) ?_; dsimp only)); refine box_event ?hg (N := 2) ?hd (cs := #[.int .i64 0, .int .i64 0, .slice none 0 0]) (t := 32) ?hr ?_; (case hd => rfl); (case hg => rfl); (case hr => first | (go_simp; done) | (go_simp; rfl)); intro gb166 hg w3 hbox hb; have BK166 := Aside0.mk (hbox); have GW166 := Aside0.mk ((by rw [hg]; exact (below_size bp_) : w.heap.size ≤ gb166)); have GE166 := Aside0.mk ((by rw [hg]; exact (below_size bp_) : w.heap.size ≤ gb166)); replace HB := Aside0.mk (below_step bp_ hb); clear hb hbox hg))
 (try simp only [Act.put, List.setIfInBounds_toArray, List.set_cons_zero, List.set_cons_succ])
 go_cut [19] (fun v19 wc => ∃ (kq : Nat) (x19_1 : Bool), v19 = .bool x19_1 ∧ Aside0 (rect_Of.j0 kq l0 x19_1 = some (r1, r2, r3, r4)) ∧ Aside0 (kq ≤ k) ∧ Aside0 (wc.heap[gb166]? = some (.cells #[.int .i64 0, .int .i64 0, (.slice none 0 0)] 32 (0, 0))) ∧ Aside0 (Below w.heap.size w wc))
 case first =>
  have H := HC2.out
  clear HC2
  by_cases c4 : (l0.length : Int) = 0
  · rw [if_pos c4] at H
    have c4b0 : ((l0.length : Int) == 0) = true := beq_iff_eq.mpr c4
    have c4b1 : ((l0.length : Int) != 0) = false := bne_eq_false_iff_eq.mpr c4
    clear c4
    (first | rw [c4b0] | (simp only [i64_w, i32_w]; rw [c4b0]) | skip)
    have H' := Aside0.mk H
    clear H
    go_wp2
    go_meet
    case rel => exact ⟨_, (true), (by first | rfl | (simp; done) | (simp [*]; done)), H', ⟨by first | omega | exact Nat.le_refl _⟩, ⟨hp_ BK166.out⟩, ⟨bp_⟩⟩
  rw [if_neg c4] at H
  have c4b0 : ((l0.length : Int) == 0) = false := beq_eq_false_iff_ne.mpr c4
  have c4b1 : ((l0.length : Int) != 0) = true := bne_iff_ne.mpr c4
  have c4b2 : ¬ (l0 = []) := fun h_ => c4 (by rw [h_]; rfl)
  (first | rw [c4b0] | (simp only [i64_w, i32_w]; rw [c4b0]) | skip)
  by_cases c5 : 0 < (l0.length : Int)
  · rw [if_pos c5] at H
    have c5b0 : decide (0 < (l0.length : Int)) = true := decide_eq_true c5
    have c5b1 : decide (0 < l0.length) = true := decide_eq_true (by omega)
    clear c5; replace H := Option.bind_eq_some_iff.mp H; obtain ⟨t168, A60, H⟩ := H
    replace H : (rect_Of.j0 k l0 (!t168)) = some (r1, r2, r3, r4) := H
    have A6 := Aside0.mk A60; clear A60
    have H' := Aside0.mk H
    clear H
    have p167 : 0 ≤ (0 : Int) := (by omega)
    have q167 : 0 < (l0.length : Int) := of_decide_eq_true (by first | (with_reducible assumption) | assumption)
    obtain ⟨ad167, A167_0, c167_0, e167, hx167_0, hl167_0, hi167_0⟩ := at_L2 HR0.out 0 p167 q167
    cases e167
    have qi167 : (0 < l0.length) = True := eq_true (by omega)
    (try rw [show ((0 : Int)).toNat = 0 from rfl] at hx167_0)
    (try rw [Addr.add_zero'] at hx167_0)
    replace hx167_0 := (HB.out.cell (World.block_lt_of_cell? w _ hx167_0)).trans hx167_0; have HR167_0 := Aside0.mk hi167_0; have HC167_0 := Aside0.mk hl167_0; clear hi167_0 hl167_0; replace p167 := eq_true p167; replace q167 := eq_true q167
    go_wp2_with (first | (go_at_call 45; (with_reducible refine (rect_sized.calls ((rd_L2 l0 0).length : Int) (l0.length : Int) t168 _ A6.out).mono ?_); rintro e w' ⟨rfl, ⟨nd, rfl⟩⟩))
    go_meet
    case rel => exact ⟨_, (!t168), (by first | rfl | (simp; done) | (simp [*]; done)), H', ⟨by first | omega | exact Nat.le_refl _⟩, ⟨hp_ BK166.out⟩, ⟨bp_⟩⟩
  rw [if_neg c5] at H
  exact absurd H (by simp)
 case rest =>
  clear HC2
  try clear c1
  try clear p1
  try clear q1
  try clear hx1
  try clear qi1
  try clear c2
  try clear p2
  try clear c4
  try clear c4b0
  try clear c4b1
  try clear c4b2
  try clear c5
  try clear c5b0
  try clear c5b1
  try clear hx167_0
  try clear p167
  try clear q167
  obtain ⟨kq, x19_1, rfl, HA, HJ1, BK166, HB⟩ := hcut
  cases kq with
  | zero => exact absurd HA.out (by simp [rect_Of.j0])
  | succ kj1 =>
   have H := HA.out; clear HA; simp only [rect_Of.j0] at H
   by_cases c7 : x19_1 = true
   · subst c7
     have H1 : (some (0, 0, ([] : List Int), 1)) = some (r1, r2, r3, r4) := by rw [if_pos rfl] at H; exact H
     clear H; have H := H1; clear H1; simp only [Option.some.injEq, Prod.mk.injEq] at H; obtain ⟨rfl, rfl, rfl, rfl⟩ := H
     have hcz8_0 : wc.cell? ⟨gb166, 0, none⟩ = some (.int .i64 0) := bc_ BK166.out 0
     have hcz8_1 : wc.cell? ⟨gb166, 1, none⟩ = some (.int .i64 0) := bc_ BK166.out 1
     have hcz8_2 : wc.cell? ⟨gb166, 2, none⟩ = some (.slice none 0 0) := bc_ BK166.out 2
     have hfz8_0 := blk_frozen BK166.out 0; have hfz8_1 := blk_frozen BK166.out 1; have hfz8_2 := blk_frozen BK166.out 2
     go_wp2
     refine bodyPost_ret (results_ct rfl _ _ gb166 32 #[.int .i64 0, .int .i64 0, .slice none 0 0] (0, 0) _ rfl (by (with_reducible repeat (first | refine blk_drewN ?_ _ | refine blk_drew ?_ | refine blk_alloc ?_ _)); refine blk_put (cs := #[.int .i64 0, .int .i64 0, .slice none 0 0]) ?_ 2 _ rfl; (with_reducible repeat (first | refine blk_drewN ?_ _ | refine blk_drew ?_ | refine blk_alloc ?_ _)); refine blk_put (cs := #[.int .i64 0, .int .i64 0, .slice none 0 0]) ?_ 1 _ rfl; (with_reducible repeat (first | refine blk_drewN ?_ _ | refine blk_drew ?_ | refine blk_alloc ?_ _)); refine blk_put (cs := #[.int .i64 0, .int .i64 0, .slice none 0 0]) ?_ 0 _ rfl; (with_reducible repeat (first | refine blk_drewN ?_ _ | refine blk_drew ?_ | refine blk_alloc ?_ _)); exact BK166.out) Try.underlying32 rfl (by kernel_rfl)) rfl ?_
     exact ⟨_, by first | rfl | (simp [errW_none, errW_some] <;> rfl) | (simp [*, errW_none, errW_some] <;> rfl), by first | exact Kd.R_nil _ _ _ _ _ | exact Kd.N_nil _ _ _ _ _ | exact Kd.V_nil _ _ _ _ _ | exact Kd.Q_nil _ _ _ _ _ | exact Kd.S_nil _ _ _ _ _, bp_⟩
   replace c7 := Bool.eq_false_iff.mpr c7; subst c7
   have H1 : (if 0 < (l0.length : Int) then (rect_Of.l0 kj1 l0 (l0.length : Int) 0 ((rd_L2 l0 0).length : Int) (l0.length : Int) ([] : List Int)) else (none)) = some (r1, r2, r3, r4) := by rw [if_neg (show ¬ (false = true) by decide)] at H; exact H
   clear H; have H := H1; clear H1
   by_cases c9 : 0 < (l0.length : Int)
   · rw [if_pos c9] at H
     have c9b0 : decide (0 < (l0.length : Int)) = true := decide_eq_true c9
     have c9b1 : decide (0 < l0.length) = true := decide_eq_true (by omega)
     clear c9
     have H' := Aside0.mk H
     clear H
     have p169 : 0 ≤ (0 : Int) := (by omega)
     have q169 : 0 < (l0.length : Int) := of_decide_eq_true (by first | (with_reducible assumption) | assumption)
     obtain ⟨ad169, A169_0, c169_0, e169, hx169_0, hl169_0, hi169_0⟩ := at_L2 HR0.out 0 p169 q169
     cases e169
     have qi169 : (0 < l0.length) = True := eq_true (by omega)
     (try rw [show ((0 : Int)).toNat = 0 from rfl] at hx169_0)
     (try rw [Addr.add_zero'] at hx169_0)
     replace hx169_0 := (HB.out.cell (World.block_lt_of_cell? w _ hx169_0)).trans hx169_0; have HR169_0 := Aside0.mk hi169_0; have HC169_0 := Aside0.mk hl169_0; clear hi169_0 hl169_0; replace p169 := eq_true p169; replace q169 := eq_true q169
     go_wp2_with (first | ((with_reducible refine gate_dst (N := 4) rfl ?_); (try (refine gate_guard (by rfl) ?_; dsimp only)); refine box_event ?hg (N := 4) ?hd (cs := #[.int .i64 0, .int .i64 0, .slice none 0 0]) (t := 32) ?hr ?_; (case hd => rfl); (case hg => rfl); (case hr => first | (go_simp; done) | (go_simp; rfl)); intro gb170 hg w10 hbox hb; have BK170 := Aside0.mk (hbox); have GW170 := Aside0.mk ((by rw [hg]; exact (below_size bp_) : w.heap.size ≤ gb170)); have GE170 := Aside0.mk ((by rw [hg]; exact (below_size bp_) : w.heap.size ≤ gb170)); replace HB := Aside0.mk (below_step bp_ hb); have NB166_170 := Aside0.mk ((nlt_ hg (hp_ BK166.out))); have NB170_166 := Aside0.mk ((ngt_ hg (hp_ BK166.out))); replace BK166 := kb_ BK166.out hb; clear hb hbox hg; have hnb11 := NB170_166.out; have hnc11 := NB166_170.out; have hcz12_0 : w10.cell? ⟨gb170, 0, none⟩ = some (.int .i64 0) := bc_ BK170.out 0; have hcz12_1 : w10.cell? ⟨gb170, 1, none⟩ = some (.int .i64 0) := bc_ BK170.out 1; have hcz12_2 : w10.cell? ⟨gb170, 2, none⟩ = some (.slice none 0 0) := bc_ BK170.out 2; have hfz12_0 := blk_frozen BK170.out 0; have hfz12_1 := blk_frozen BK170.out 1; have hfz12_2 := blk_frozen BK170.out 2))
     go_loopg [30] kj1 (fun kq v30 w' => ∃ (x30_2 : Int) (x167000_2 : Int) (x167001_2 : Int) (x171002_2 : List Int) (u171002 : Value), v30 = .int .i64 x30_2 ∧ Aside0 (rect_Of.l0 kq l0 (l0.length : Int) x30_2 ((rd_L2 l0 0).length : Int) (l0.length : Int) x171002_2 = some (r1, r2, r3, r4)) ∧ Aside0 (kq ≤ kj1) ∧ Aside0 (Kd.R (Kd.int .u64) 46 w' w.heap.size (fun _ => True) u171002 x171002_2) ∧ Aside0 (w'.heap[gb166]? = some (.cells #[.int .i64 x167000_2, .int .i64 x167001_2, (.slice none 0 0)] 32 (0, 0))) ∧ Aside0 (w'.heap[gb170]? = some (.cells #[.int .i64 ((rd_L2 l0 0).length : Int), .int .i64 (l0.length : Int), u171002] 32 (0, 0))) ∧ Aside0 (Below w.heap.size w w'))
     case atStart => exact ⟨(0), (0), (0), (([] : List Int)), (.slice none 0 0), (by first | rfl | (simp; done) | (simp [*]; done)), H', ⟨Nat.le_refl _⟩, ⟨by first | exact Kd.R_nil _ _ _ _ _ | exact Kd.N_nil _ _ _ _ _ | exact Kd.V_nil _ _ _ _ _ | exact Kd.Q_nil _ _ _ _ _ | exact Kd.S_nil _ _ _ _ _⟩, ⟨hf_ BK166.out NB166_170.out⟩, ⟨by (with_reducible repeat (first | refine blk_drewN ?_ _ | refine blk_drew ?_ | refine blk_alloc ?_ _)); refine blk_put (cs := #[.int .i64 ((rd_L2 l0 0).length : Int), .int .i64 (l0.length : Int), .slice none 0 0]) ?_ 2 _ rfl; (with_reducible repeat (first | refine blk_drewN ?_ _ | refine blk_drew ?_ | refine blk_alloc ?_ _)); refine blk_put (cs := #[.int .i64 ((rd_L2 l0 0).length : Int), .int .i64 0, .slice none 0 0]) ?_ 1 _ rfl; (with_reducible repeat (first | refine blk_drewN ?_ _ | refine blk_drew ?_ | refine blk_alloc ?_ _)); refine blk_put (cs := #[.int .i64 0, .int .i64 0, .slice none 0 0]) ?_ 0 _ rfl; (with_reducible repeat (first | refine blk_drewN ?_ _ | refine blk_drew ?_ | refine blk_alloc ?_ _)); exact BK170.out⟩, ⟨bp_⟩⟩
     case round =>
      clear H'
      try clear c1
      try clear p1
      try clear q1
      try clear hx1
      try clear qi1
      try clear c2
      try clear p2
      try clear c4
      try clear c4b0
      try clear c4b1
      try clear c4b2
      try clear c5
      try clear c5b0
      try clear c5b1
      try clear c7
      try clear c9
      try clear c9b0
      try clear c9b1
      try clear c11
      try clear hcz12_0
      try clear hcz12_1
      try clear hcz12_2
      try clear hcz8_0
      try clear hcz8_1
      try clear hcz8_2
      try clear hfz12_0
      try clear hfz12_1
      try clear hfz12_2
      try clear hfz8_0
      try clear hfz8_1
      try clear hfz8_2
      try clear hx167_0
      try clear hx169_0
      try clear p1
      try clear p167
      try clear p169
      try clear p2
      try clear q1
      try clear q167
      try clear q169
      obtain ⟨x30_2, x167000_2, x167001_2, x171002_2, u171002, rfl, HA, HK2, HO_171002, BK166, BK170, HB⟩ := hrel
      cases gk with
      | zero => exact absurd HA.out (by simp [rect_Of.l0])
      | succ k2 =>
       have H := HA.out; clear HA; simp only [rect_Of.l0] at H
       by_cases c13 : x30_2 < (l0.length : Int)
       · rw [if_pos c13] at H
         have c13b0 : decide (x30_2 < (l0.length : Int)) = true := decide_eq_true c13
         clear c13
         by_cases c14 : 0 ≤ x30_2
         · rw [if_pos c14] at H
           have c14b0 : decide (0 ≤ x30_2) = true := decide_eq_true c14
           clear c14
           by_cases c15 : x30_2 < (l0.length : Int)
           · rw [if_pos c15] at H
             have c15b0 : decide (x30_2 < (l0.length : Int)) = true := decide_eq_true c15
             clear c15
             by_cases c16 : ((rd_L2 l0 x30_2).length : Int) = ((rd_L2 l0 0).length : Int)
             · rw [if_pos c16] at H
               have c16b0 : (((rd_L2 l0 x30_2).length : Int) == ((rd_L2 l0 0).length : Int)) = true := beq_iff_eq.mpr c16
               have c16b1 : (((rd_L2 l0 x30_2).length : Int) != ((rd_L2 l0 0).length : Int)) = false := bne_eq_false_iff_eq.mpr c16
               have c16b2 : ((rd_L2 l0 x30_2).length == (rd_L2 l0 0).length) = true := by first | simpa using c16 | (simp at c16 ⊢; omega)
               clear c16
               by_cases c17 : x171002_2.length + (rd_L2 l0 x30_2).length < 17592186044416
               · rw [if_pos c17] at H; have LMc17 := Aside0.mk c17; clear c17
                 obtain ⟨y172, hy172⟩ : ∃ y_ : List Int, y_ = (x171002_2 ++ (rd_L2 l0 x30_2)) := ⟨_, rfl⟩
                 replace H : (rect_Of.l0 k2 l0 (l0.length : Int) (wrap64 (x30_2 + 1)) ((rd_L2 l0 0).length : Int) (l0.length : Int) y172) = some (r1, r2, r3, r4) := by first | (rw [hy172]; with_reducible exact H) | (have H2_ := (Option.bind_some _ _).symm.trans H; rw [hy172]; with_reducible exact H2_) | (have H2_ := (Option.bind_some _ _).symm.trans H; with_reducible exact H2_) | with_reducible exact H | (rw [hy172]; exact H) | exact H
                 have Ny172 := Aside0.mk hy172; clear hy172
                 have H' := Aside0.mk H
                 clear H
                 have p171 : 0 ≤ (x30_2 : Int) := of_decide_eq_true (by first | (with_reducible assumption) | assumption)
                 have q171 : x30_2 < (l0.length : Int) := of_decide_eq_true (by first | (with_reducible assumption) | assumption)
                 obtain ⟨ad171, A171_0, c171_0, e171, hx171_0, hl171_0, hi171_0⟩ := at_L2 HR0.out x30_2 p171 q171
                 obtain rfl : ad169 = ad171 := (by injection e171)
                 replace hx171_0 := (HB.out.cell (World.block_lt_of_cell? w _ hx171_0)).trans hx171_0; have HR171_0 := Aside0.mk hi171_0; have HC171_0 := Aside0.mk hl171_0; clear hi171_0 hl171_0; replace p171 := eq_true p171; replace q171 := eq_true q171; have hnb18 := NB170_166.out; have hnc18 := NB166_170.out
                 have hcz19_0 : wr.cell? ⟨gb170, 0, none⟩ = some (.int .i64 ((rd_L2 l0 0).length : Int)) := bc_ BK170.out 0
                 have hcz19_1 : wr.cell? ⟨gb170, 1, none⟩ = some (.int .i64 (l0.length : Int)) := bc_ BK170.out 1
                 have hcz19_2 : wr.cell? ⟨gb170, 2, none⟩ = some (u171002) := bc_ BK170.out 2
                 have hfz19_0 := blk_frozen BK170.out 0; have hfz19_1 := blk_frozen BK170.out 1; have hfz19_2 := blk_frozen BK170.out 2
                 go_wp2_with (first | ((with_reducible refine gate_builtin (b := .append) (xs := #[.tmp 41, .tmp 42]) rfl ?_); (try (refine gate_guard (by rfl) ?_; dsimp only)); at_builtin; refine Kd.R_append_rows (Kd.int .u64) (w0 := w) w.heap.size rfl (.tmp 41) (.tmp 42) 22 46 (.int .u64 0) 8 rfl Try.underlying22 info46 rfl (by decide) (by omega) u171002 x171002_2 (rd_L2 l0 x30_2) _ _ _ (fun _ => True) (fun _ => False) rfl rfl ?aO ?aR (fun _ _ h => h) (fun _ h => h.elim) ?aF ?aB ?aS ?aL ?_; (case aR => repeat (first | exact (Kd.C_below HR171_0.out HB.out) | (with_reducible refine Kd.C_alloc ?_ _) | (with_reducible refine Kd.C_drewN ?_ _) | (with_reducible refine Kd.C_drew ?_))); (case aB => exact bp_); (case aF => exact (fun _ _ => trivial)); (case aO => exact (rp_ HO_171002.out)); (case aS => exact (below_size bp_)); (case aL => have := LMc17.out; omega); intro v173 w20 ho hb hg hat; rw [← Ny172.out] at ho; replace BK166 := Aside0.mk (blk_grown (g := gb166) (o := .cells #[.int .i64 x167000_2, .int .i64 x167001_2, .slice none 0 0] 32 (0, 0)) (hp_ BK166.out) hg (Kd.R_ne HO_171002.out BK166.out (by decide))); replace BK170 := Aside0.mk (blk_grown (g := gb170) (o := .cells #[.int .i64 ((rd_L2 l0 0).length : Int), .int .i64 (l0.length : Int), u171002] 32 (0, 0)) (hp_ BK170.out) hg (Kd.R_ne HO_171002.out BK170.out (by decide))); replace HB := Aside0.mk (hb); have HO174 := Aside0.mk (ho); clear HO_171002; clear ho hb hg hat; obtain ⟨Ao21, co21, eo21⟩ := Kd.R_slice HO174.out; subst eo21; have hcz22_0 : w20.cell? ⟨gb170, 0, none⟩ = some (.int .i64 ((rd_L2 l0 0).length : Int)) := bc_ BK170.out 0; have hcz22_1 : w20.cell? ⟨gb170, 1, none⟩ = some (.int .i64 (l0.length : Int)) := bc_ BK170.out 1; have hcz22_2 : w20.cell? ⟨gb170, 2, none⟩ = some (u171002) := bc_ BK170.out 2; have hfz22_0 := blk_frozen BK170.out 0; have hfz22_1 := blk_frozen BK170.out 1; have hfz22_2 := blk_frozen BK170.out 2))
                 go_roundg k2
                 case measure => have := HJ1.out; have := HK2.out; omega
                 case rel => exact ⟨(wrap64 (x30_2 + 1)), (x167000_2), (x167001_2), (y172), (.slice Ao21 y172.length co21), (by first | rfl | (simp; done) | (simp [*]; done)), H', ⟨by have := HJ1.out; have := HK2.out; omega⟩, ⟨rf_ HO174.out BK170.out (by decide) (fun _ hk => trivial)⟩, ⟨hf_ BK166.out NB166_170.out⟩, ⟨by (with_reducible repeat (first | refine blk_drewN ?_ _ | refine blk_drew ?_ | refine blk_alloc ?_ _)); refine blk_put (cs := #[.int .i64 ((rd_L2 l0 0).length : Int), .int .i64 (l0.length : Int), u171002]) ?_ 2 _ rfl; (with_reducible repeat (first | refine blk_drewN ?_ _ | refine blk_drew ?_ | refine blk_alloc ?_ _)); exact BK170.out⟩, ⟨bp_⟩⟩
               rw [if_neg c17] at H
               exact absurd H (by simp)
             rw [if_neg c16] at H
             have c16b0 : (((rd_L2 l0 x30_2).length : Int) == ((rd_L2 l0 0).length : Int)) = false := beq_eq_false_iff_ne.mpr c16
             have c16b1 : (((rd_L2 l0 x30_2).length : Int) != ((rd_L2 l0 0).length : Int)) = true := bne_iff_ne.mpr c16
             have c16b2 : ((rd_L2 l0 x30_2).length == (rd_L2 l0 0).length) = false := by first | simpa using c16 | (simp at c16 ⊢; omega)
             simp only [Option.some.injEq, Prod.mk.injEq] at H; obtain ⟨rfl, rfl, rfl, rfl⟩ := H
             have p171 : 0 ≤ (x30_2 : Int) := of_decide_eq_true (by first | (with_reducible assumption) | assumption)
             have q171 : x30_2 < (l0.length : Int) := of_decide_eq_true (by first | (with_reducible assumption) | assumption)
             obtain ⟨ad171, A171_0, c171_0, e171, hx171_0, hl171_0, hi171_0⟩ := at_L2 HR0.out x30_2 p171 q171
             obtain rfl : ad169 = ad171 := (by injection e171)
             replace hx171_0 := (HB.out.cell (World.block_lt_of_cell? w _ hx171_0)).trans hx171_0; have HR171_0 := Aside0.mk hi171_0; have HC171_0 := Aside0.mk hl171_0; clear hi171_0 hl171_0; replace p171 := eq_true p171; replace q171 := eq_true q171; have hnb23 := NB170_166.out; have hnc23 := NB166_170.out
             have hcz24_0 : wr.cell? ⟨gb170, 0, none⟩ = some (.int .i64 ((rd_L2 l0 0).length : Int)) := bc_ BK170.out 0
             have hcz24_1 : wr.cell? ⟨gb170, 1, none⟩ = some (.int .i64 (l0.length : Int)) := bc_ BK170.out 1
             have hcz24_2 : wr.cell? ⟨gb170, 2, none⟩ = some (u171002) := bc_ BK170.out 2
             have hfz24_0 := blk_frozen BK170.out 0; have hfz24_1 := blk_frozen BK170.out 1; have hfz24_2 := blk_frozen BK170.out 2
             have hcz25_0 : wr.cell? ⟨gb166, 0, none⟩ = some (.int .i64 x167000_2) := bc_ BK166.out 0
             have hcz25_1 : wr.cell? ⟨gb166, 1, none⟩ = some (.int .i64 x167001_2) := bc_ BK166.out 1
             have hcz25_2 : wr.cell? ⟨gb166, 2, none⟩ = some (.slice none 0 0) := bc_ BK166.out 2
             have hfz25_0 := blk_frozen BK166.out 0; have hfz25_1 := blk_frozen BK166.out 1; have hfz25_2 := blk_frozen BK166.out 2
             go_wp2
             refine bodyPost_ret (results_ct rfl _ _ gb166 32 #[.int .i64 0, .int .i64 0, .slice none 0 0] (0, 0) _ rfl (by (with_reducible repeat (first | refine blk_drewN ?_ _ | refine blk_drew ?_ | refine blk_alloc ?_ _)); refine blk_put (cs := #[.int .i64 0, .int .i64 0, .slice none 0 0]) ?_ 2 _ rfl; (with_reducible repeat (first | refine blk_drewN ?_ _ | refine blk_drew ?_ | refine blk_alloc ?_ _)); refine blk_put (cs := #[.int .i64 0, .int .i64 x167001_2, .slice none 0 0]) ?_ 1 _ rfl; (with_reducible repeat (first | refine blk_drewN ?_ _ | refine blk_drew ?_ | refine blk_alloc ?_ _)); refine blk_put (cs := #[.int .i64 x167000_2, .int .i64 x167001_2, .slice none 0 0]) ?_ 0 _ rfl; (with_reducible repeat (first | refine blk_drewN ?_ _ | refine blk_drew ?_ | refine blk_alloc ?_ _)); exact BK166.out) Try.underlying32 rfl (by kernel_rfl)) rfl ?_
             exact ⟨_, by first | rfl | (simp [errW_none, errW_some] <;> rfl) | (simp [*, errW_none, errW_some] <;> rfl), by first | exact Kd.R_nil _ _ _ _ _ | exact Kd.N_nil _ _ _ _ _ | exact Kd.V_nil _ _ _ _ _ | exact Kd.Q_nil _ _ _ _ _ | exact Kd.S_nil _ _ _ _ _, bp_⟩
           rw [if_neg c15] at H
           exact absurd H (by simp)
         rw [if_neg c14] at H
         exact absurd H (by simp)
       rw [if_neg c13] at H
       have c13b0 : decide (x30_2 < (l0.length : Int)) = false := decide_eq_false c13
       clear c13; simp only [Option.some.injEq, Prod.mk.injEq] at H; obtain ⟨rfl, rfl, rfl, rfl⟩ := H; have hnb26 := NB170_166.out; have hnc26 := NB166_170.out
       have hcz27_0 : wr.cell? ⟨gb170, 0, none⟩ = some (.int .i64 ((rd_L2 l0 0).length : Int)) := bc_ BK170.out 0
       have hcz27_1 : wr.cell? ⟨gb170, 1, none⟩ = some (.int .i64 (l0.length : Int)) := bc_ BK170.out 1
       have hcz27_2 : wr.cell? ⟨gb170, 2, none⟩ = some (u171002) := bc_ BK170.out 2
       have hfz27_0 := blk_frozen BK170.out 0; have hfz27_1 := blk_frozen BK170.out 1; have hfz27_2 := blk_frozen BK170.out 2
       have hcz28_0 : wr.cell? ⟨gb166, 0, none⟩ = some (.int .i64 x167000_2) := bc_ BK166.out 0
       have hcz28_1 : wr.cell? ⟨gb166, 1, none⟩ = some (.int .i64 x167001_2) := bc_ BK166.out 1
       have hcz28_2 : wr.cell? ⟨gb166, 2, none⟩ = some (.slice none 0 0) := bc_ BK166.out 2
       have hfz28_0 := blk_frozen BK166.out 0; have hfz28_1 := blk_frozen BK166.out 1; have hfz28_2 := blk_frozen BK166.out 2
       obtain ⟨Ao29, co29, eo29⟩ := Kd.R_slice HO_171002.out
       subst eo29
       go_wp2
       refine bodyPost_ret (results_ct rfl _ _ gb166 32 #[.int .i64 ((rd_L2 l0 0).length : Int), .int .i64 (l0.length : Int), .slice Ao29 x171002_2.length co29] (0, 0) _ rfl (by (with_reducible repeat (first | refine blk_drewN ?_ _ | refine blk_drew ?_ | refine blk_alloc ?_ _)); refine blk_put (cs := #[.int .i64 ((rd_L2 l0 0).length : Int), .int .i64 (l0.length : Int), .slice none 0 0]) ?_ 2 _ rfl; (with_reducible repeat (first | refine blk_drewN ?_ _ | refine blk_drew ?_ | refine blk_alloc ?_ _)); refine blk_put (cs := #[.int .i64 ((rd_L2 l0 0).length : Int), .int .i64 x167001_2, .slice none 0 0]) ?_ 1 _ rfl; (with_reducible repeat (first | refine blk_drewN ?_ _ | refine blk_drew ?_ | refine blk_alloc ?_ _)); refine blk_put (cs := #[.int .i64 x167000_2, .int .i64 x167001_2, .slice none 0 0]) ?_ 0 _ rfl; (with_reducible repeat (first | refine blk_drewN ?_ _ | refine blk_drew ?_ | refine blk_alloc ?_ _)); exact BK166.out) Try.underlying32 rfl (by kernel_rfl)) rfl ?_
       exact ⟨_, by first | rfl | (simp [errW_none, errW_some] <;> rfl) | (simp [*, errW_none, errW_some] <;> rfl), rf_ HO_171002.out BK166.out (by decide) (fun _ hk => trivial), bp_⟩
   rw [if_neg c9] at H
   exact absurd H (by simp)


/-! ### chequerlaw03_lives: function 16 -/
def chequerlaw03_lives.f (k : Nat)  : Option (Bool) := (rect_Of.f k (([(([1, 2] : List Int)), (([3, 4] : List Int))] : List (List Int)))).bind fun bt184 => ((rect_Matrix_Find.f k bt184.1 bt184.2.1 bt184.2.2.1 1 1 (([4] : List Int))).bind fun t194 => (if bt184.2.2.2 = 0 then (if (t194.length : Int) = 1 then (if 0 < (t194.length : Int) then (if ((rd_T36 t194 0).f0) = 1 then (some (((rd_T36 t194 0).f1) == 1)) else (some false)) else (none)) else (some false)) else (some false)))
theorem chequerlaw03_lives.mono : ∀ k, LeO (chequerlaw03_lives.f k ) (chequerlaw03_lives.f (k + 1) ) := by
 intro  k
 unfold chequerlaw03_lives.f
 repeat' first
  | (with_reducible exact rect_Matrix_Find.mono _ _ _ _ _ _ _)
  | (with_reducible exact rect_Of.mono _ _)
  | (with_reducible exact LeO.refl _)
  | (with_reducible exact LeO.none _)
  | (with_reducible refine LeO.ite ?_ ?_)
  | (with_reducible refine LeO.bind ?_ (fun _ => ?_))
  | exact rect_Matrix_Find.mono _ _ _ _ _ _ _
  | exact rect_Of.mono _ _
  | exact LeO.none _
  | refine LeO.ite ?_ ?_
  | refine LeO.bind ?_ (fun _ => ?_)
set_option maxHeartbeats 8000000 in
set_option maxRecDepth 100000 in
theorem chequerlaw03_lives.calls (k : Nat)  (r : Bool) (w : World) (h : chequerlaw03_lives.f k  = some r) :
 Calls Try.prog 16 #[] w fun e w' => e = .returned (.bool r) ∧ Below w.heap.size w w' := by
 have hu32 := Try.underlying32
 have HB := Aside0.mk (Below.refl w.heap.size w)
 have H : ((rect_Of.f k (([(([1, 2] : List Int)), (([3, 4] : List Int))] : List (List Int)))).bind fun bt184 => ((rect_Matrix_Find.f k bt184.1 bt184.2.1 bt184.2.2.1 1 1 (([4] : List Int))).bind fun t194 => (if bt184.2.2.2 = 0 then (if (t194.length : Int) = 1 then (if 0 < (t194.length : Int) then (if ((rd_T36 t194 0).f0) = 1 then (some (((rd_T36 t194 0).f1) == 1)) else (some false)) else (none)) else (some false)) else (some false)))) = some r := h
 clear h
 obtain ⟨y175, hy175⟩ : ∃ y_ : List Int, y_ = (([1, 2] : List Int)) := ⟨_, rfl⟩
 replace H : ((rect_Of.f k (([y175, (([3, 4] : List Int))] : List (List Int)))).bind fun bt184 => ((rect_Matrix_Find.f k bt184.1 bt184.2.1 bt184.2.2.1 1 1 (([4] : List Int))).bind fun t194 => (if bt184.2.2.2 = 0 then (if (t194.length : Int) = 1 then (if 0 < (t194.length : Int) then (if ((rd_T36 t194 0).f0) = 1 then (some (((rd_T36 t194 0).f1) == 1)) else (some false)) else (none)) else (some false)) else (some false)))) = some r := by first | (rw [hy175]; with_reducible exact H) | (have H2_ := (Option.bind_some _ _).symm.trans H; rw [hy175]; with_reducible exact H2_) | (have H2_ := (Option.bind_some _ _).symm.trans H; with_reducible exact H2_) | with_reducible exact H | (rw [hy175]; exact H) | exact H
 have Ny175 := Aside0.mk hy175
 clear hy175
 obtain ⟨y178, hy178⟩ : ∃ y_ : List Int, y_ = (([3, 4] : List Int)) := ⟨_, rfl⟩
 replace H : ((rect_Of.f k (([y175, y178] : List (List Int)))).bind fun bt184 => ((rect_Matrix_Find.f k bt184.1 bt184.2.1 bt184.2.2.1 1 1 (([4] : List Int))).bind fun t194 => (if bt184.2.2.2 = 0 then (if (t194.length : Int) = 1 then (if 0 < (t194.length : Int) then (if ((rd_T36 t194 0).f0) = 1 then (some (((rd_T36 t194 0).f1) == 1)) else (some false)) else (none)) else (some false)) else (some false)))) = some r := by first | (rw [hy178]; with_reducible exact H) | (have H2_ := (Option.bind_some _ _).symm.trans H; rw [hy178]; with_reducible exact H2_) | (have H2_ := (Option.bind_some _ _).symm.trans H; with_reducible exact H2_) | with_reducible exact H | (rw [hy178]; exact H) | exact H
 have Ny178 := Aside0.mk hy178
 clear hy178
 obtain ⟨y181, hy181⟩ : ∃ y_ : List (List Int), y_ = (([y175, y178] : List (List Int))) := ⟨_, rfl⟩
 replace H : ((rect_Of.f k y181).bind fun bt184 => ((rect_Matrix_Find.f k bt184.1 bt184.2.1 bt184.2.2.1 1 1 (([4] : List Int))).bind fun t194 => (if bt184.2.2.2 = 0 then (if (t194.length : Int) = 1 then (if 0 < (t194.length : Int) then (if ((rd_T36 t194 0).f0) = 1 then (some (((rd_T36 t194 0).f1) == 1)) else (some false)) else (none)) else (some false)) else (some false)))) = some r := by first | (rw [hy181]; with_reducible exact H) | (have H2_ := (Option.bind_some _ _).symm.trans H; rw [hy181]; with_reducible exact H2_) | (have H2_ := (Option.bind_some _ _).symm.trans H; with_reducible exact H2_) | with_reducible exact H | (rw [hy181]; exact H) | exact H
 have Ny181 := Aside0.mk hy181
 clear hy181
 replace H := Option.bind_eq_some_iff.mp H
 obtain ⟨⟨t184, t185, t186, t189⟩, A10, H⟩ := H
 replace H : ((rect_Matrix_Find.f k t184 t185 t186 1 1 (([4] : List Int))).bind fun t194 => (if t189 = 0 then (if (t194.length : Int) = 1 then (if 0 < (t194.length : Int) then (if ((rd_T36 t194 0).f0) = 1 then (some (((rd_T36 t194 0).f1) == 1)) else (some false)) else (none)) else (some false)) else (some false))) = some r := H
 have A1 := Aside0.mk A10
 clear A10
 obtain ⟨y191, hy191⟩ : ∃ y_ : List Int, y_ = (([4] : List Int)) := ⟨_, rfl⟩
 replace H : ((rect_Matrix_Find.f k t184 t185 t186 1 1 y191).bind fun t194 => (if t189 = 0 then (if (t194.length : Int) = 1 then (if 0 < (t194.length : Int) then (if ((rd_T36 t194 0).f0) = 1 then (some (((rd_T36 t194 0).f1) == 1)) else (some false)) else (none)) else (some false)) else (some false))) = some r := by first | (rw [hy191]; with_reducible exact H) | (have H2_ := (Option.bind_some _ _).symm.trans H; rw [hy191]; with_reducible exact H2_) | (have H2_ := (Option.bind_some _ _).symm.trans H; with_reducible exact H2_) | with_reducible exact H | (rw [hy191]; exact H) | exact H
 have Ny191 := Aside0.mk hy191
 clear hy191
 replace H := Option.bind_eq_some_iff.mp H
 obtain ⟨t194, A20, H⟩ := H
 replace H : (if t189 = 0 then (if (t194.length : Int) = 1 then (if 0 < (t194.length : Int) then (if ((rd_T36 t194 0).f0) = 1 then (some (((rd_T36 t194 0).f1) == 1)) else (some false)) else (none)) else (some false)) else (some false)) = some r := H
 have A2 := Aside0.mk A20
 clear A20
 by_cases c3 : t189 = 0
 · rw [if_pos c3] at H
   have c3b0 : (t189 == 0) = true := beq_iff_eq.mpr c3
   have c3b1 : (t189 != 0) = false := bne_eq_false_iff_eq.mpr c3
   clear c3
   by_cases c4 : (t194.length : Int) = 1
   · rw [if_pos c4] at H
     have c4b0 : ((t194.length : Int) == 1) = true := beq_iff_eq.mpr c4
     have c4b1 : ((t194.length : Int) != 1) = false := bne_eq_false_iff_eq.mpr c4
     clear c4
     by_cases c5 : 0 < (t194.length : Int)
     · rw [if_pos c5] at H
       have c5b0 : decide (0 < (t194.length : Int)) = true := decide_eq_true c5
       have c5b1 : decide (0 < t194.length) = true := decide_eq_true (by omega)
       clear c5
       by_cases c6 : ((rd_T36 t194 0).f0) = 1
       · rw [if_pos c6] at H
         have c6b0 : (((rd_T36 t194 0).f0) == 1) = true := beq_iff_eq.mpr c6
         have c6b1 : (((rd_T36 t194 0).f0) != 1) = false := bne_eq_false_iff_eq.mpr c6
         clear c6
         obtain rfl := Option.some.inj H
         go_enter Try.func16, Try.ntmps16
         go_wp2_with (first | ((with_reducible refine gate_dst (N := 5) rfl ?_); (try (refine gate_guard (by rfl) ?_; dsimp only)); refine Kd.R_lit (Kd.int .u64) _ 46 ?hg (N := 5) ?hd (xs := ([1, 2] : List Int)) (inner := [.int .u64 1, .int .u64 2]) (ok := fun _ => True) (okp := fun _ => True) ?hr ?hp (fun _ hk => hk) trivial (Below.refl _ _) (Nat.le_refl _) (by simp) ?_; (case hd => rfl); (case hg => rfl); (case hr => first | (go_simp; done) | (go_simp; rfl)); (case hp => exact (Reps.one (show Kd.M (Kd.int .u64) _ _ _ 1 [.int .u64 1] from rfl) (Reps.one (show Kd.M (Kd.int .u64) _ _ _ 2 [.int .u64 2] from rfl) (Reps.none _ _)))); intro v176 w7 ho8 hb hg_ hnew_; clear hg_ hnew_; (first | rw [← Ny175.out] at ho8 | (simp only [Int.reduceToNat] at ho8; rw [← Ny175.out] at ho8)); have HO177 := Aside0.mk (Kd.R_lower ho8 (below_size bp_)); replace HB := Aside0.mk (below_step bp_ hb); clear hb ho8) | ((with_reducible refine gate_dst (N := 6) rfl ?_); (try (refine gate_guard (by rfl) ?_; dsimp only)); refine Kd.R_lit (Kd.int .u64) _ 46 ?hg (N := 6) ?hd (xs := ([3, 4] : List Int)) (inner := [.int .u64 3, .int .u64 4]) (ok := fun _ => True) (okp := fun _ => True) ?hr ?hp (fun _ hk => hk) trivial (Below.refl _ _) (Nat.le_refl _) (by simp) ?_; (case hd => rfl); (case hg => rfl); (case hr => first | (go_simp; done) | (go_simp; rfl)); (case hp => exact (Reps.one (show Kd.M (Kd.int .u64) _ _ _ 3 [.int .u64 3] from rfl) (Reps.one (show Kd.M (Kd.int .u64) _ _ _ 4 [.int .u64 4] from rfl) (Reps.none _ _)))); intro v179 w9 ho10 hb hg_ hnew_; clear hg_ hnew_; (first | rw [← Ny178.out] at ho10 | (simp only [Int.reduceToNat] at ho10; rw [← Ny178.out] at ho10)); have HO180 := Aside0.mk (Kd.R_lower (Kd.R_new' ho10 (Kd.R_lt (rp_ HO177.out))) (below_size bp_)); replace HO177 := Aside0.mk (Kd.R_elder' (rp_ HO177.out) (Kd.R_base ho10) hb); replace HB := Aside0.mk (below_step bp_ hb); clear hb ho10; obtain ⟨Ao11, co11, eo11⟩ := Kd.R_slice HO177.out; subst eo11; obtain ⟨Ao12, co12, eo12⟩ := Kd.R_slice HO180.out; subst eo12) | ((with_reducible refine gate_dst (N := 7) rfl ?_); (try (refine gate_guard (by rfl) ?_; dsimp only)); refine Kd.N_lit (Kd.slice 46 (Kd.int .u64)) _ 22 ?hg (N' := 7) ?hd (xs := ([y175, y178] : List (List Int))) (inner := [.slice Ao11 y175.length co11, .slice Ao12 y178.length co12]) (ok := (fun _ => True)) (okp := (fun _ => True)) ?hr ?hp (fun _ hk => hk) ((show ∀ k_, w9.heap.size ≤ k_ → (fun _ => True) k_ from fun k_ hk => trivial) _ (Nat.le_refl _)) (Below.refl _ _) (Nat.le_refl _) (by simp) ?_; (case hd => rfl); (case hg => rfl); (case hr => first | (go_simp; done) | (go_simp; rfl)); (case hp => exact (Reps.one (show Kd.FK (Kd.slice 46 (Kd.int .u64)) _ _ y175 [.slice Ao11 y175.length co11] from (Kd.FK_slice_mk (Kd.R_reads' (Kd.R_mono (ok' := (fun _ => True)) (HO177.out) (fun k_ hk => trivial))).2.1 (Kd.R_F (Kd.R_mono (ok' := (fun _ => True)) (HO177.out) (fun k_ hk => trivial))))) (Reps.one (show Kd.FK (Kd.slice 46 (Kd.int .u64)) _ _ y178 [.slice Ao12 y178.length co12] from (Kd.FK_slice_mk (Kd.R_reads' (Kd.R_mono (ok' := (fun _ => True)) (HO180.out) (fun k_ hk => trivial))).2.1 (Kd.R_F (Kd.R_mono (ok' := (fun _ => True)) (HO180.out) (fun k_ hk => trivial))))) (Reps.none _ _)))); intro v182 w13 ho14 hb hg_ hnew_; clear hg_ hnew_; (first | rw [← Ny181.out] at ho14 | (simp only [Int.reduceToNat] at ho14; rw [← Ny181.out] at ho14)); have HO183 := Aside0.mk (Kd.N_lower ho14 (below_size bp_)); replace HB := Aside0.mk (below_step bp_ hb); clear HO177 HO180; clear hb ho14; obtain ⟨Ao15, co15, eo15⟩ := Kd.N_slice HO183.out; subst eo15) | ((with_reducible refine gate_callee (f := 29) rfl ?_); refine goQ_ (some 8) Try.func29 #[.slice Ao15 y181.length co15] ?_; (with_reducible refine (rect_Of.calls k _ _ y181 t184 t185 t186 t189 _ ?side1 ?side2 A1.out).mono ?_); (case side1 => repeat (first | exact (Kd.N_reads' HO183.out).2.2 | (with_reducible refine Kd.C_alloc ?_ _) | (with_reducible refine Kd.C_drewN ?_ _) | (with_reducible refine Kd.C_drew ?_))); (case side2 => exact (Kd.N_reads' HO183.out).2.1); rintro e w16 ⟨v187, rfl, ho0, hb⟩; refine ⟨_, rfl, ?_⟩; replace HO183 := Aside0.mk (Kd.N_elder' (np_ HO183.out) (Kd.R_base ho0) hb); have HO188 := Aside0.mk (Kd.R_lower ho0 (below_size bp_)); replace HB := Aside0.mk (below_step bp_ hb); (try clear hb); (try clear hb2); (try clear hk); (try clear hi); (try clear ho0)) | ((with_reducible refine gate_dst (N := 1) rfl ?_); (try (refine gate_guard (by rfl) ?_; dsimp only)); refine box_event ?hg (N := 1) ?hd (cs := #[.int .i64 0, .int .i64 0, .slice none 0 0]) (t := 32) ?hr ?_; (case hd => rfl); (case hg => rfl); (case hr => first | (go_simp; done) | (go_simp; rfl)); intro gb190 hg w17 hbox hb; replace HO183 := Aside0.mk (Kd.N_below (Kd.N_elderB (np_ HO183.out) gb190 (Nat.le_of_eq hg.symm)) hb); replace HO188 := rb_ HO188.out hb; have BK190 := Aside0.mk (hbox); have GW190 := Aside0.mk ((by rw [hg]; exact (below_size bp_) : w.heap.size ≤ gb190)); have GE190 := Aside0.mk ((by rw [hg]; exact (below_size bp_) : w.heap.size ≤ gb190)); replace HB := Aside0.mk (below_step bp_ hb); clear hb hbox hg; have hcz18_0 : w17.cell? ⟨gb190, 0, none⟩ = some (.int .i64 0) := bc_ BK190.out 0; have hcz18_1 : w17.cell? ⟨gb190, 1, none⟩ = some (.int .i64 0) := bc_ BK190.out 1; have hcz18_2 : w17.cell? ⟨gb190, 2, none⟩ = some (.slice none 0 0) := bc_ BK190.out 2; have hfz18_0 := blk_frozen BK190.out 0; have hfz18_1 := blk_frozen BK190.out 1; have hfz18_2 := blk_frozen BK190.out 2; obtain ⟨Ao19, co19, eo19⟩ := Kd.R_slice HO188.out; subst eo19) | ((with_reducible refine gate_dst (N := 12) rfl ?_); (try (refine gate_guard (by rfl) ?_; dsimp only)); refine Kd.R_lit (Kd.int .u64) _ 46 ?hg (N := 12) ?hd (xs := ([4] : List Int)) (inner := [.int .u64 4]) (ok := fun _ => True) (okp := fun _ => True) ?hr ?hp (fun _ hk => hk) trivial (Below.refl _ _) (Nat.le_refl _) (by simp) ?_; (case hd => rfl); (case hg => rfl); (case hr => first | (go_simp; done) | (go_simp; rfl)); (case hp => exact (Reps.one (show Kd.M (Kd.int .u64) _ _ _ 4 [.int .u64 4] from rfl) (Reps.none _ _))); intro v192 w20 ho21 hb hg_ hnew_; clear hg_ hnew_; (first | rw [← Ny191.out] at ho21 | (simp only [Int.reduceToNat] at ho21; rw [← Ny191.out] at ho21)); replace HO183 := Aside0.mk (Kd.N_elder' (by (with_reducible repeat (first | apply Kd.N_alloc | apply Kd.N_drewN | apply Kd.N_drew)); exact (Kd.N_mono (Kd.N_far (p := ⟨gb190, 2, none⟩) (Kd.N_far (p := ⟨gb190, 1, none⟩) (Kd.N_far (p := ⟨gb190, 0, none⟩) (Kd.N_mono HO183.out (fun k_ hk => (⟨hk, hk.2⟩ : _ ∧ k_ ≠ gb190))) (fun _ hk => hk.2) (.int .i64 t184)) (fun _ hk => hk.2) (.int .i64 t185)) (fun _ hk => hk.2) (.slice Ao19 t186.length co19)) (fun _ h_ => h_.1))) (Kd.R_base ho21) hb); have HO193 := Aside0.mk (Kd.R_lower (Kd.R_new' ho21 (Kd.R_lt (by (with_reducible repeat (first | apply Kd.R_alloc | apply Kd.R_drewN | apply Kd.R_drew)); exact (Kd.R_mono (Kd.R_far (p := ⟨gb190, 2, none⟩) (Kd.R_far (p := ⟨gb190, 1, none⟩) (Kd.R_far (p := ⟨gb190, 0, none⟩) (Kd.R_types HO188.out BK190.out (by decide)) (fun _ hk => hk.2) (.int .i64 t184)) (fun _ hk => hk.2) (.int .i64 t185)) (fun _ hk => hk.2) (.slice Ao19 t186.length co19)) (fun _ h_ => h_.1))))) (below_size bp_)); replace HO188 := Aside0.mk (Kd.R_elder' (by (with_reducible repeat (first | apply Kd.R_alloc | apply Kd.R_drewN | apply Kd.R_drew)); exact (Kd.R_mono (Kd.R_far (p := ⟨gb190, 2, none⟩) (Kd.R_far (p := ⟨gb190, 1, none⟩) (Kd.R_far (p := ⟨gb190, 0, none⟩) (Kd.R_types HO188.out BK190.out (by decide)) (fun _ hk => hk.2) (.int .i64 t184)) (fun _ hk => hk.2) (.int .i64 t185)) (fun _ hk => hk.2) (.slice Ao19 t186.length co19)) (fun _ h_ => h_.1))) (Kd.R_base ho21) hb); replace BK190 := Aside0.mk (blk_below (g := gb190) (o := .cells #[.int .i64 t184, .int .i64 t185, .slice Ao19 t186.length co19] 32 (0, 0)) (by (with_reducible repeat (first | refine blk_drewN ?_ _ | refine blk_drew ?_ | refine blk_alloc ?_ _)); refine blk_put (cs := #[.int .i64 t184, .int .i64 t185, .slice none 0 0]) ?_ 2 _ rfl; (with_reducible repeat (first | refine blk_drewN ?_ _ | refine blk_drew ?_ | refine blk_alloc ?_ _)); refine blk_put (cs := #[.int .i64 t184, .int .i64 0, .slice none 0 0]) ?_ 1 _ rfl; (with_reducible repeat (first | refine blk_drewN ?_ _ | refine blk_drew ?_ | refine blk_alloc ?_ _)); refine blk_put (cs := #[.int .i64 0, .int .i64 0, .slice none 0 0]) ?_ 0 _ rfl; (with_reducible repeat (first | refine blk_drewN ?_ _ | refine blk_drew ?_ | refine blk_alloc ?_ _)); exact BK190.out) hb); replace HB := Aside0.mk (below_step bp_ hb); clear hb ho21; obtain ⟨Ao22, co22, eo22⟩ := Kd.R_slice HO193.out; subst eo22) | ((with_reducible refine gate_callee (f := 14) rfl ?_); refine goQ_ (some 14) Try.func14 #[.agg #[.int .i64 t184, .int .i64 t185, .slice Ao19 t186.length co19], .agg #[.int .i64 1, .int .i64 1, .slice Ao22 y191.length co22]] ?_; (with_reducible refine (rect_Matrix_Find.calls k t184 t185 _ _ t186 1 1 _ _ y191 t194 _ ?side1 ?side2 ?side3 ?side4 A2.out).mono ?_); (case side1 => exact cp_ (Kd.R_reads' HO188.out).2.2); (case side2 => exact (Kd.R_reads' HO188.out).2.1); (case side3 => exact cp_ (Kd.R_reads' HO193.out).2.2); (case side4 => exact (Kd.R_reads' HO193.out).2.1); rintro e w23 ⟨v195, rfl, ho0, hb⟩; refine ⟨_, rfl, ?_⟩; replace HO183 := Aside0.mk (Kd.N_elder' (np_ HO183.out) (Kd.R_base ho0) hb); replace HO188 := rb_ HO188.out hb; replace HO193 := rb_ HO193.out hb; have HO196 := Aside0.mk (Kd.R_lower ho0 (below_size bp_)); replace HB := Aside0.mk (below_step bp_ hb); (try clear hb); (try clear hb2); (try clear hk); (try clear hi); (try clear ho0); obtain ⟨Ao24, co24, eo24⟩ := Kd.R_slice HO196.out; subst eo24; have p197 : 0 ≤ (0 : Int) := (by omega); have q197 : 0 < (t194.length : Int) := of_decide_eq_true (by first | (with_reducible assumption) | assumption); obtain ⟨ad197, e197, hx197_0, hx197_1⟩ := at_T36 (Kd.R_reads' HO196.out).2.2 0 p197 q197; cases e197; have qi197 : (0 < t194.length) = True := eq_true (by omega); (try rw [show ((0 : Int)).toNat = 0 from rfl] at hx197_0); (try rw [show 0 * 2 = 0 from rfl] at hx197_0); (try rw [Addr.add_zero'] at hx197_0); (try rw [show ((0 : Int)).toNat = 0 from rfl] at hx197_1); (try rw [show 0 * 2 = 0 from rfl] at hx197_1); (try rw [Addr.add_zero'] at hx197_1); replace p197 := eq_true p197; replace q197 := eq_true q197; have p198 : 0 ≤ (0 : Int) := (by omega); have q198 : 0 < (t194.length : Int) := of_decide_eq_true (by first | (with_reducible assumption) | assumption); obtain ⟨ad198, e198, hx198_0, hx198_1⟩ := at_T36 (Kd.R_reads' HO196.out).2.2 0 p198 q198; obtain rfl : ad197 = ad198 := (by injection e198); have qi198 : (0 < t194.length) = True := eq_true (by omega); (try rw [show ((0 : Int)).toNat = 0 from rfl] at hx198_0); (try rw [show 0 * 2 = 0 from rfl] at hx198_0); (try rw [Addr.add_zero'] at hx198_0); (try rw [show ((0 : Int)).toNat = 0 from rfl] at hx198_1); (try rw [show 0 * 2 = 0 from rfl] at hx198_1); (try rw [Addr.add_zero'] at hx198_1); replace p198 := eq_true p198; replace q198 := eq_true q198))
         go_ret
         exact ⟨by first | rfl | (simp [errW_none, errW_some] <;> rfl) | (simp [*, errW_none, errW_some] <;> rfl), bp_⟩
       rw [if_neg c6] at H
       have c6b0 : (((rd_T36 t194 0).f0) == 1) = false := beq_eq_false_iff_ne.mpr c6
       have c6b1 : (((rd_T36 t194 0).f0) != 1) = true := bne_iff_ne.mpr c6
       obtain rfl := Option.some.inj H
       go_enter Try.func16, Try.ntmps16
       go_wp2_with (first | ((with_reducible refine gate_dst (N := 5) rfl ?_); (try (refine gate_guard (by rfl) ?_; dsimp only)); refine Kd.R_lit (Kd.int .u64) _ 46 ?hg (N := 5) ?hd (xs := ([1, 2] : List Int)) (inner := [.int .u64 1, .int .u64 2]) (ok := fun _ => True) (okp := fun _ => True) ?hr ?hp (fun _ hk => hk) trivial (Below.refl _ _) (Nat.le_refl _) (by simp) ?_; (case hd => rfl); (case hg => rfl); (case hr => first | (go_simp; done) | (go_simp; rfl)); (case hp => exact (Reps.one (show Kd.M (Kd.int .u64) _ _ _ 1 [.int .u64 1] from rfl) (Reps.one (show Kd.M (Kd.int .u64) _ _ _ 2 [.int .u64 2] from rfl) (Reps.none _ _)))); intro v176 w25 ho26 hb hg_ hnew_; clear hg_ hnew_; (first | rw [← Ny175.out] at ho26 | (simp only [Int.reduceToNat] at ho26; rw [← Ny175.out] at ho26)); have HO177 := Aside0.mk (Kd.R_lower ho26 (below_size bp_)); replace HB := Aside0.mk (below_step bp_ hb); clear hb ho26) | ((with_reducible refine gate_dst (N := 6) rfl ?_); (try (refine gate_guard (by rfl) ?_; dsimp only)); refine Kd.R_lit (Kd.int .u64) _ 46 ?hg (N := 6) ?hd (xs := ([3, 4] : List Int)) (inner := [.int .u64 3, .int .u64 4]) (ok := fun _ => True) (okp := fun _ => True) ?hr ?hp (fun _ hk => hk) trivial (Below.refl _ _) (Nat.le_refl _) (by simp) ?_; (case hd => rfl); (case hg => rfl); (case hr => first | (go_simp; done) | (go_simp; rfl)); (case hp => exact (Reps.one (show Kd.M (Kd.int .u64) _ _ _ 3 [.int .u64 3] from rfl) (Reps.one (show Kd.M (Kd.int .u64) _ _ _ 4 [.int .u64 4] from rfl) (Reps.none _ _)))); intro v179 w27 ho28 hb hg_ hnew_; clear hg_ hnew_; (first | rw [← Ny178.out] at ho28 | (simp only [Int.reduceToNat] at ho28; rw [← Ny178.out] at ho28)); have HO180 := Aside0.mk (Kd.R_lower (Kd.R_new' ho28 (Kd.R_lt (rp_ HO177.out))) (below_size bp_)); replace HO177 := Aside0.mk (Kd.R_elder' (rp_ HO177.out) (Kd.R_base ho28) hb); replace HB := Aside0.mk (below_step bp_ hb); clear hb ho28; obtain ⟨Ao29, co29, eo29⟩ := Kd.R_slice HO177.out; subst eo29; obtain ⟨Ao30, co30, eo30⟩ := Kd.R_slice HO180.out; subst eo30) | ((with_reducible refine gate_dst (N := 7) rfl ?_); (try (refine gate_guard (by rfl) ?_; dsimp only)); refine Kd.N_lit (Kd.slice 46 (Kd.int .u64)) _ 22 ?hg (N' := 7) ?hd (xs := ([y175, y178] : List (List Int))) (inner := [.slice Ao29 y175.length co29, .slice Ao30 y178.length co30]) (ok := (fun _ => True)) (okp := (fun _ => True)) ?hr ?hp (fun _ hk => hk) ((show ∀ k_, w27.heap.size ≤ k_ → (fun _ => True) k_ from fun k_ hk => trivial) _ (Nat.le_refl _)) (Below.refl _ _) (Nat.le_refl _) (by simp) ?_; (case hd => rfl); (case hg => rfl); (case hr => first | (go_simp; done) | (go_simp; rfl)); (case hp => exact (Reps.one (show Kd.FK (Kd.slice 46 (Kd.int .u64)) _ _ y175 [.slice Ao29 y175.length co29] from (Kd.FK_slice_mk (Kd.R_reads' (Kd.R_mono (ok' := (fun _ => True)) (HO177.out) (fun k_ hk => trivial))).2.1 (Kd.R_F (Kd.R_mono (ok' := (fun _ => True)) (HO177.out) (fun k_ hk => trivial))))) (Reps.one (show Kd.FK (Kd.slice 46 (Kd.int .u64)) _ _ y178 [.slice Ao30 y178.length co30] from (Kd.FK_slice_mk (Kd.R_reads' (Kd.R_mono (ok' := (fun _ => True)) (HO180.out) (fun k_ hk => trivial))).2.1 (Kd.R_F (Kd.R_mono (ok' := (fun _ => True)) (HO180.out) (fun k_ hk => trivial))))) (Reps.none _ _)))); intro v182 w31 ho32 hb hg_ hnew_; clear hg_ hnew_; (first | rw [← Ny181.out] at ho32 | (simp only [Int.reduceToNat] at ho32; rw [← Ny181.out] at ho32)); have HO183 := Aside0.mk (Kd.N_lower ho32 (below_size bp_)); replace HB := Aside0.mk (below_step bp_ hb); clear HO177 HO180; clear hb ho32; obtain ⟨Ao33, co33, eo33⟩ := Kd.N_slice HO183.out; subst eo33) | ((with_reducible refine gate_callee (f := 29) rfl ?_); refine goQ_ (some 8) Try.func29 #[.slice Ao33 y181.length co33] ?_; (with_reducible refine (rect_Of.calls k _ _ y181 t184 t185 t186 t189 _ ?side1 ?side2 A1.out).mono ?_); (case side1 => repeat (first | exact (Kd.N_reads' HO183.out).2.2 | (with_reducible refine Kd.C_alloc ?_ _) | (with_reducible refine Kd.C_drewN ?_ _) | (with_reducible refine Kd.C_drew ?_))); (case side2 => exact (Kd.N_reads' HO183.out).2.1); rintro e w34 ⟨v187, rfl, ho0, hb⟩; refine ⟨_, rfl, ?_⟩; replace HO183 := Aside0.mk (Kd.N_elder' (np_ HO183.out) (Kd.R_base ho0) hb); have HO188 := Aside0.mk (Kd.R_lower ho0 (below_size bp_)); replace HB := Aside0.mk (below_step bp_ hb); (try clear hb); (try clear hb2); (try clear hk); (try clear hi); (try clear ho0)) | ((with_reducible refine gate_dst (N := 1) rfl ?_); (try (refine gate_guard (by rfl) ?_; dsimp only)); refine box_event ?hg (N := 1) ?hd (cs := #[.int .i64 0, .int .i64 0, .slice none 0 0]) (t := 32) ?hr ?_; (case hd => rfl); (case hg => rfl); (case hr => first | (go_simp; done) | (go_simp; rfl)); intro gb190 hg w35 hbox hb; replace HO183 := Aside0.mk (Kd.N_below (Kd.N_elderB (np_ HO183.out) gb190 (Nat.le_of_eq hg.symm)) hb); replace HO188 := rb_ HO188.out hb; have BK190 := Aside0.mk (hbox); have GW190 := Aside0.mk ((by rw [hg]; exact (below_size bp_) : w.heap.size ≤ gb190)); have GE190 := Aside0.mk ((by rw [hg]; exact (below_size bp_) : w.heap.size ≤ gb190)); replace HB := Aside0.mk (below_step bp_ hb); clear hb hbox hg; have hcz36_0 : w35.cell? ⟨gb190, 0, none⟩ = some (.int .i64 0) := bc_ BK190.out 0; have hcz36_1 : w35.cell? ⟨gb190, 1, none⟩ = some (.int .i64 0) := bc_ BK190.out 1; have hcz36_2 : w35.cell? ⟨gb190, 2, none⟩ = some (.slice none 0 0) := bc_ BK190.out 2; have hfz36_0 := blk_frozen BK190.out 0; have hfz36_1 := blk_frozen BK190.out 1; have hfz36_2 := blk_frozen BK190.out 2; obtain ⟨Ao37, co37, eo37⟩ := Kd.R_slice HO188.out; subst eo37) | ((with_reducible refine gate_dst (N := 12) rfl ?_); (try (refine gate_guard (by rfl) ?_; dsimp only)); refine Kd.R_lit (Kd.int .u64) _ 46 ?hg (N := 12) ?hd (xs := ([4] : List Int)) (inner := [.int .u64 4]) (ok := fun _ => True) (okp := fun _ => True) ?hr ?hp (fun _ hk => hk) trivial (Below.refl _ _) (Nat.le_refl _) (by simp) ?_; (case hd => rfl); (case hg => rfl); (case hr => first | (go_simp; done) | (go_simp; rfl)); (case hp => exact (Reps.one (show Kd.M (Kd.int .u64) _ _ _ 4 [.int .u64 4] from rfl) (Reps.none _ _))); intro v192 w38 ho39 hb hg_ hnew_; clear hg_ hnew_; (first | rw [← Ny191.out] at ho39 | (simp only [Int.reduceToNat] at ho39; rw [← Ny191.out] at ho39)); replace HO183 := Aside0.mk (Kd.N_elder' (by (with_reducible repeat (first | apply Kd.N_alloc | apply Kd.N_drewN | apply Kd.N_drew)); exact (Kd.N_mono (Kd.N_far (p := ⟨gb190, 2, none⟩) (Kd.N_far (p := ⟨gb190, 1, none⟩) (Kd.N_far (p := ⟨gb190, 0, none⟩) (Kd.N_mono HO183.out (fun k_ hk => (⟨hk, hk.2⟩ : _ ∧ k_ ≠ gb190))) (fun _ hk => hk.2) (.int .i64 t184)) (fun _ hk => hk.2) (.int .i64 t185)) (fun _ hk => hk.2) (.slice Ao37 t186.length co37)) (fun _ h_ => h_.1))) (Kd.R_base ho39) hb); have HO193 := Aside0.mk (Kd.R_lower (Kd.R_new' ho39 (Kd.R_lt (by (with_reducible repeat (first | apply Kd.R_alloc | apply Kd.R_drewN | apply Kd.R_drew)); exact (Kd.R_mono (Kd.R_far (p := ⟨gb190, 2, none⟩) (Kd.R_far (p := ⟨gb190, 1, none⟩) (Kd.R_far (p := ⟨gb190, 0, none⟩) (Kd.R_types HO188.out BK190.out (by decide)) (fun _ hk => hk.2) (.int .i64 t184)) (fun _ hk => hk.2) (.int .i64 t185)) (fun _ hk => hk.2) (.slice Ao37 t186.length co37)) (fun _ h_ => h_.1))))) (below_size bp_)); replace HO188 := Aside0.mk (Kd.R_elder' (by (with_reducible repeat (first | apply Kd.R_alloc | apply Kd.R_drewN | apply Kd.R_drew)); exact (Kd.R_mono (Kd.R_far (p := ⟨gb190, 2, none⟩) (Kd.R_far (p := ⟨gb190, 1, none⟩) (Kd.R_far (p := ⟨gb190, 0, none⟩) (Kd.R_types HO188.out BK190.out (by decide)) (fun _ hk => hk.2) (.int .i64 t184)) (fun _ hk => hk.2) (.int .i64 t185)) (fun _ hk => hk.2) (.slice Ao37 t186.length co37)) (fun _ h_ => h_.1))) (Kd.R_base ho39) hb); replace BK190 := Aside0.mk (blk_below (g := gb190) (o := .cells #[.int .i64 t184, .int .i64 t185, .slice Ao37 t186.length co37] 32 (0, 0)) (by (with_reducible repeat (first | refine blk_drewN ?_ _ | refine blk_drew ?_ | refine blk_alloc ?_ _)); refine blk_put (cs := #[.int .i64 t184, .int .i64 t185, .slice none 0 0]) ?_ 2 _ rfl; (with_reducible repeat (first | refine blk_drewN ?_ _ | refine blk_drew ?_ | refine blk_alloc ?_ _)); refine blk_put (cs := #[.int .i64 t184, .int .i64 0, .slice none 0 0]) ?_ 1 _ rfl; (with_reducible repeat (first | refine blk_drewN ?_ _ | refine blk_drew ?_ | refine blk_alloc ?_ _)); refine blk_put (cs := #[.int .i64 0, .int .i64 0, .slice none 0 0]) ?_ 0 _ rfl; (with_reducible repeat (first | refine blk_drewN ?_ _ | refine blk_drew ?_ | refine blk_alloc ?_ _)); exact BK190.out) hb); replace HB := Aside0.mk (below_step bp_ hb); clear hb ho39; obtain ⟨Ao40, co40, eo40⟩ := Kd.R_slice HO193.out; subst eo40) | ((with_reducible refine gate_callee (f := 14) rfl ?_); refine goQ_ (some 14) Try.func14 #[.agg #[.int .i64 t184, .int .i64 t185, .slice Ao37 t186.length co37], .agg #[.int .i64 1, .int .i64 1, .slice Ao40 y191.length co40]] ?_; (with_reducible refine (rect_Matrix_Find.calls k t184 t185 _ _ t186 1 1 _ _ y191 t194 _ ?side1 ?side2 ?side3 ?side4 A2.out).mono ?_); (case side1 => exact cp_ (Kd.R_reads' HO188.out).2.2); (case side2 => exact (Kd.R_reads' HO188.out).2.1); (case side3 => exact cp_ (Kd.R_reads' HO193.out).2.2); (case side4 => exact (Kd.R_reads' HO193.out).2.1); rintro e w41 ⟨v195, rfl, ho0, hb⟩; refine ⟨_, rfl, ?_⟩; replace HO183 := Aside0.mk (Kd.N_elder' (np_ HO183.out) (Kd.R_base ho0) hb); replace HO188 := rb_ HO188.out hb; replace HO193 := rb_ HO193.out hb; have HO196 := Aside0.mk (Kd.R_lower ho0 (below_size bp_)); replace HB := Aside0.mk (below_step bp_ hb); (try clear hb); (try clear hb2); (try clear hk); (try clear hi); (try clear ho0); obtain ⟨Ao42, co42, eo42⟩ := Kd.R_slice HO196.out; subst eo42; have p197 : 0 ≤ (0 : Int) := (by omega); have q197 : 0 < (t194.length : Int) := of_decide_eq_true (by first | (with_reducible assumption) | assumption); obtain ⟨ad197, e197, hx197_0, hx197_1⟩ := at_T36 (Kd.R_reads' HO196.out).2.2 0 p197 q197; cases e197; have qi197 : (0 < t194.length) = True := eq_true (by omega); (try rw [show ((0 : Int)).toNat = 0 from rfl] at hx197_0); (try rw [show 0 * 2 = 0 from rfl] at hx197_0); (try rw [Addr.add_zero'] at hx197_0); (try rw [show ((0 : Int)).toNat = 0 from rfl] at hx197_1); (try rw [show 0 * 2 = 0 from rfl] at hx197_1); (try rw [Addr.add_zero'] at hx197_1); replace p197 := eq_true p197; replace q197 := eq_true q197))
       go_ret
       exact ⟨by first | rfl | (simp [errW_none, errW_some] <;> rfl) | (simp [*, errW_none, errW_some] <;> rfl), bp_⟩
     rw [if_neg c5] at H
     exact absurd H (by simp)
   rw [if_neg c4] at H
   have c4b0 : ((t194.length : Int) == 1) = false := beq_eq_false_iff_ne.mpr c4
   have c4b1 : ((t194.length : Int) != 1) = true := bne_iff_ne.mpr c4
   obtain rfl := Option.some.inj H
   go_enter Try.func16, Try.ntmps16
   go_wp2_with (first | ((with_reducible refine gate_dst (N := 5) rfl ?_); (try (refine gate_guard (by rfl) ?_; dsimp only)); refine Kd.R_lit (Kd.int .u64) _ 46 ?hg (N := 5) ?hd (xs := ([1, 2] : List Int)) (inner := [.int .u64 1, .int .u64 2]) (ok := fun _ => True) (okp := fun _ => True) ?hr ?hp (fun _ hk => hk) trivial (Below.refl _ _) (Nat.le_refl _) (by simp) ?_; (case hd => rfl); (case hg => rfl); (case hr => first | (go_simp; done) | (go_simp; rfl)); (case hp => exact (Reps.one (show Kd.M (Kd.int .u64) _ _ _ 1 [.int .u64 1] from rfl) (Reps.one (show Kd.M (Kd.int .u64) _ _ _ 2 [.int .u64 2] from rfl) (Reps.none _ _)))); intro v176 w43 ho44 hb hg_ hnew_; clear hg_ hnew_; (first | rw [← Ny175.out] at ho44 | (simp only [Int.reduceToNat] at ho44; rw [← Ny175.out] at ho44)); have HO177 := Aside0.mk (Kd.R_lower ho44 (below_size bp_)); replace HB := Aside0.mk (below_step bp_ hb); clear hb ho44) | ((with_reducible refine gate_dst (N := 6) rfl ?_); (try (refine gate_guard (by rfl) ?_; dsimp only)); refine Kd.R_lit (Kd.int .u64) _ 46 ?hg (N := 6) ?hd (xs := ([3, 4] : List Int)) (inner := [.int .u64 3, .int .u64 4]) (ok := fun _ => True) (okp := fun _ => True) ?hr ?hp (fun _ hk => hk) trivial (Below.refl _ _) (Nat.le_refl _) (by simp) ?_; (case hd => rfl); (case hg => rfl); (case hr => first | (go_simp; done) | (go_simp; rfl)); (case hp => exact (Reps.one (show Kd.M (Kd.int .u64) _ _ _ 3 [.int .u64 3] from rfl) (Reps.one (show Kd.M (Kd.int .u64) _ _ _ 4 [.int .u64 4] from rfl) (Reps.none _ _)))); intro v179 w45 ho46 hb hg_ hnew_; clear hg_ hnew_; (first | rw [← Ny178.out] at ho46 | (simp only [Int.reduceToNat] at ho46; rw [← Ny178.out] at ho46)); have HO180 := Aside0.mk (Kd.R_lower (Kd.R_new' ho46 (Kd.R_lt (rp_ HO177.out))) (below_size bp_)); replace HO177 := Aside0.mk (Kd.R_elder' (rp_ HO177.out) (Kd.R_base ho46) hb); replace HB := Aside0.mk (below_step bp_ hb); clear hb ho46; obtain ⟨Ao47, co47, eo47⟩ := Kd.R_slice HO177.out; subst eo47; obtain ⟨Ao48, co48, eo48⟩ := Kd.R_slice HO180.out; subst eo48) | ((with_reducible refine gate_dst (N := 7) rfl ?_); (try (refine gate_guard (by rfl) ?_; dsimp only)); refine Kd.N_lit (Kd.slice 46 (Kd.int .u64)) _ 22 ?hg (N' := 7) ?hd (xs := ([y175, y178] : List (List Int))) (inner := [.slice Ao47 y175.length co47, .slice Ao48 y178.length co48]) (ok := (fun _ => True)) (okp := (fun _ => True)) ?hr ?hp (fun _ hk => hk) ((show ∀ k_, w45.heap.size ≤ k_ → (fun _ => True) k_ from fun k_ hk => trivial) _ (Nat.le_refl _)) (Below.refl _ _) (Nat.le_refl _) (by simp) ?_; (case hd => rfl); (case hg => rfl); (case hr => first | (go_simp; done) | (go_simp; rfl)); (case hp => exact (Reps.one (show Kd.FK (Kd.slice 46 (Kd.int .u64)) _ _ y175 [.slice Ao47 y175.length co47] from (Kd.FK_slice_mk (Kd.R_reads' (Kd.R_mono (ok' := (fun _ => True)) (HO177.out) (fun k_ hk => trivial))).2.1 (Kd.R_F (Kd.R_mono (ok' := (fun _ => True)) (HO177.out) (fun k_ hk => trivial))))) (Reps.one (show Kd.FK (Kd.slice 46 (Kd.int .u64)) _ _ y178 [.slice Ao48 y178.length co48] from (Kd.FK_slice_mk (Kd.R_reads' (Kd.R_mono (ok' := (fun _ => True)) (HO180.out) (fun k_ hk => trivial))).2.1 (Kd.R_F (Kd.R_mono (ok' := (fun _ => True)) (HO180.out) (fun k_ hk => trivial))))) (Reps.none _ _)))); intro v182 w49 ho50 hb hg_ hnew_; clear hg_ hnew_; (first | rw [← Ny181.out] at ho50 | (simp only [Int.reduceToNat] at ho50; rw [← Ny181.out] at ho50)); have HO183 := Aside0.mk (Kd.N_lower ho50 (below_size bp_)); replace HB := Aside0.mk (below_step bp_ hb); clear HO177 HO180; clear hb ho50; obtain ⟨Ao51, co51, eo51⟩ := Kd.N_slice HO183.out; subst eo51) | ((with_reducible refine gate_callee (f := 29) rfl ?_); refine goQ_ (some 8) Try.func29 #[.slice Ao51 y181.length co51] ?_; (with_reducible refine (rect_Of.calls k _ _ y181 t184 t185 t186 t189 _ ?side1 ?side2 A1.out).mono ?_); (case side1 => repeat (first | exact (Kd.N_reads' HO183.out).2.2 | (with_reducible refine Kd.C_alloc ?_ _) | (with_reducible refine Kd.C_drewN ?_ _) | (with_reducible refine Kd.C_drew ?_))); (case side2 => exact (Kd.N_reads' HO183.out).2.1); rintro e w52 ⟨v187, rfl, ho0, hb⟩; refine ⟨_, rfl, ?_⟩; replace HO183 := Aside0.mk (Kd.N_elder' (np_ HO183.out) (Kd.R_base ho0) hb); have HO188 := Aside0.mk (Kd.R_lower ho0 (below_size bp_)); replace HB := Aside0.mk (below_step bp_ hb); (try clear hb); (try clear hb2); (try clear hk); (try clear hi); (try clear ho0)) | ((with_reducible refine gate_dst (N := 1) rfl ?_); (try (refine gate_guard (by rfl) ?_; dsimp only)); refine box_event ?hg (N := 1) ?hd (cs := #[.int .i64 0, .int .i64 0, .slice none 0 0]) (t := 32) ?hr ?_; (case hd => rfl); (case hg => rfl); (case hr => first | (go_simp; done) | (go_simp; rfl)); intro gb190 hg w53 hbox hb; replace HO183 := Aside0.mk (Kd.N_below (Kd.N_elderB (np_ HO183.out) gb190 (Nat.le_of_eq hg.symm)) hb); replace HO188 := rb_ HO188.out hb; have BK190 := Aside0.mk (hbox); have GW190 := Aside0.mk ((by rw [hg]; exact (below_size bp_) : w.heap.size ≤ gb190)); have GE190 := Aside0.mk ((by rw [hg]; exact (below_size bp_) : w.heap.size ≤ gb190)); replace HB := Aside0.mk (below_step bp_ hb); clear hb hbox hg; have hcz54_0 : w53.cell? ⟨gb190, 0, none⟩ = some (.int .i64 0) := bc_ BK190.out 0; have hcz54_1 : w53.cell? ⟨gb190, 1, none⟩ = some (.int .i64 0) := bc_ BK190.out 1; have hcz54_2 : w53.cell? ⟨gb190, 2, none⟩ = some (.slice none 0 0) := bc_ BK190.out 2; have hfz54_0 := blk_frozen BK190.out 0; have hfz54_1 := blk_frozen BK190.out 1; have hfz54_2 := blk_frozen BK190.out 2; obtain ⟨Ao55, co55, eo55⟩ := Kd.R_slice HO188.out; subst eo55) | ((with_reducible refine gate_dst (N := 12) rfl ?_); (try (refine gate_guard (by rfl) ?_; dsimp only)); refine Kd.R_lit (Kd.int .u64) _ 46 ?hg (N := 12) ?hd (xs := ([4] : List Int)) (inner := [.int .u64 4]) (ok := fun _ => True) (okp := fun _ => True) ?hr ?hp (fun _ hk => hk) trivial (Below.refl _ _) (Nat.le_refl _) (by simp) ?_; (case hd => rfl); (case hg => rfl); (case hr => first | (go_simp; done) | (go_simp; rfl)); (case hp => exact (Reps.one (show Kd.M (Kd.int .u64) _ _ _ 4 [.int .u64 4] from rfl) (Reps.none _ _))); intro v192 w56 ho57 hb hg_ hnew_; clear hg_ hnew_; (first | rw [← Ny191.out] at ho57 | (simp only [Int.reduceToNat] at ho57; rw [← Ny191.out] at ho57)); replace HO183 := Aside0.mk (Kd.N_elder' (by (with_reducible repeat (first | apply Kd.N_alloc | apply Kd.N_drewN | apply Kd.N_drew)); exact (Kd.N_mono (Kd.N_far (p := ⟨gb190, 2, none⟩) (Kd.N_far (p := ⟨gb190, 1, none⟩) (Kd.N_far (p := ⟨gb190, 0, none⟩) (Kd.N_mono HO183.out (fun k_ hk => (⟨hk, hk.2⟩ : _ ∧ k_ ≠ gb190))) (fun _ hk => hk.2) (.int .i64 t184)) (fun _ hk => hk.2) (.int .i64 t185)) (fun _ hk => hk.2) (.slice Ao55 t186.length co55)) (fun _ h_ => h_.1))) (Kd.R_base ho57) hb); have HO193 := Aside0.mk (Kd.R_lower (Kd.R_new' ho57 (Kd.R_lt (by (with_reducible repeat (first | apply Kd.R_alloc | apply Kd.R_drewN | apply Kd.R_drew)); exact (Kd.R_mono (Kd.R_far (p := ⟨gb190, 2, none⟩) (Kd.R_far (p := ⟨gb190, 1, none⟩) (Kd.R_far (p := ⟨gb190, 0, none⟩) (Kd.R_types HO188.out BK190.out (by decide)) (fun _ hk => hk.2) (.int .i64 t184)) (fun _ hk => hk.2) (.int .i64 t185)) (fun _ hk => hk.2) (.slice Ao55 t186.length co55)) (fun _ h_ => h_.1))))) (below_size bp_)); replace HO188 := Aside0.mk (Kd.R_elder' (by (with_reducible repeat (first | apply Kd.R_alloc | apply Kd.R_drewN | apply Kd.R_drew)); exact (Kd.R_mono (Kd.R_far (p := ⟨gb190, 2, none⟩) (Kd.R_far (p := ⟨gb190, 1, none⟩) (Kd.R_far (p := ⟨gb190, 0, none⟩) (Kd.R_types HO188.out BK190.out (by decide)) (fun _ hk => hk.2) (.int .i64 t184)) (fun _ hk => hk.2) (.int .i64 t185)) (fun _ hk => hk.2) (.slice Ao55 t186.length co55)) (fun _ h_ => h_.1))) (Kd.R_base ho57) hb); replace BK190 := Aside0.mk (blk_below (g := gb190) (o := .cells #[.int .i64 t184, .int .i64 t185, .slice Ao55 t186.length co55] 32 (0, 0)) (by (with_reducible repeat (first | refine blk_drewN ?_ _ | refine blk_drew ?_ | refine blk_alloc ?_ _)); refine blk_put (cs := #[.int .i64 t184, .int .i64 t185, .slice none 0 0]) ?_ 2 _ rfl; (with_reducible repeat (first | refine blk_drewN ?_ _ | refine blk_drew ?_ | refine blk_alloc ?_ _)); refine blk_put (cs := #[.int .i64 t184, .int .i64 0, .slice none 0 0]) ?_ 1 _ rfl; (with_reducible repeat (first | refine blk_drewN ?_ _ | refine blk_drew ?_ | refine blk_alloc ?_ _)); refine blk_put (cs := #[.int .i64 0, .int .i64 0, .slice none 0 0]) ?_ 0 _ rfl; (with_reducible repeat (first | refine blk_drewN ?_ _ | refine blk_drew ?_ | refine blk_alloc ?_ _)); exact BK190.out) hb); replace HB := Aside0.mk (below_step bp_ hb); clear hb ho57; obtain ⟨Ao58, co58, eo58⟩ := Kd.R_slice HO193.out; subst eo58) | ((with_reducible refine gate_callee (f := 14) rfl ?_); refine goQ_ (some 14) Try.func14 #[.agg #[.int .i64 t184, .int .i64 t185, .slice Ao55 t186.length co55], .agg #[.int .i64 1, .int .i64 1, .slice Ao58 y191.length co58]] ?_; (with_reducible refine (rect_Matrix_Find.calls k t184 t185 _ _ t186 1 1 _ _ y191 t194 _ ?side1 ?side2 ?side3 ?side4 A2.out).mono ?_); (case side1 => exact cp_ (Kd.R_reads' HO188.out).2.2); (case side2 => exact (Kd.R_reads' HO188.out).2.1); (case side3 => exact cp_ (Kd.R_reads' HO193.out).2.2); (case side4 => exact (Kd.R_reads' HO193.out).2.1); rintro e w59 ⟨v195, rfl, ho0, hb⟩; refine ⟨_, rfl, ?_⟩; replace HO183 := Aside0.mk (Kd.N_elder' (np_ HO183.out) (Kd.R_base ho0) hb); replace HO188 := rb_ HO188.out hb; replace HO193 := rb_ HO193.out hb; have HO196 := Aside0.mk (Kd.R_lower ho0 (below_size bp_)); replace HB := Aside0.mk (below_step bp_ hb); (try clear hb); (try clear hb2); (try clear hk); (try clear hi); (try clear ho0); obtain ⟨Ao60, co60, eo60⟩ := Kd.R_slice HO196.out; subst eo60))
   go_ret
   exact ⟨by first | rfl | (simp [errW_none, errW_some] <;> rfl) | (simp [*, errW_none, errW_some] <;> rfl), bp_⟩
 rw [if_neg c3] at H
 have c3b0 : (t189 == 0) = false := beq_eq_false_iff_ne.mpr c3
 have c3b1 : (t189 != 0) = true := bne_iff_ne.mpr c3
 obtain rfl := Option.some.inj H
 go_enter Try.func16, Try.ntmps16
 go_wp2_with (first | ((with_reducible refine gate_dst (N := 5) rfl ?_); (try (refine gate_guard (by rfl) ?_; dsimp only)); refine Kd.R_lit (Kd.int .u64) _ 46 ?hg (N := 5) ?hd (xs := ([1, 2] : List Int)) (inner := [.int .u64 1, .int .u64 2]) (ok := fun _ => True) (okp := fun _ => True) ?hr ?hp (fun _ hk => hk) trivial (Below.refl _ _) (Nat.le_refl _) (by simp) ?_; (case hd => rfl); (case hg => rfl); (case hr => first | (go_simp; done) | (go_simp; rfl)); (case hp => exact (Reps.one (show Kd.M (Kd.int .u64) _ _ _ 1 [.int .u64 1] from rfl) (Reps.one (show Kd.M (Kd.int .u64) _ _ _ 2 [.int .u64 2] from rfl) (Reps.none _ _)))); intro v176 w61 ho62 hb hg_ hnew_; clear hg_ hnew_; (first | rw [← Ny175.out] at ho62 | (simp only [Int.reduceToNat] at ho62; rw [← Ny175.out] at ho62)); have HO177 := Aside0.mk (Kd.R_lower ho62 (below_size bp_)); replace HB := Aside0.mk (below_step bp_ hb); clear hb ho62) | ((with_reducible refine gate_dst (N := 6) rfl ?_); (try (refine gate_guard (by rfl) ?_; dsimp only)); refine Kd.R_lit (Kd.int .u64) _ 46 ?hg (N := 6) ?hd (xs := ([3, 4] : List Int)) (inner := [.int .u64 3, .int .u64 4]) (ok := fun _ => True) (okp := fun _ => True) ?hr ?hp (fun _ hk => hk) trivial (Below.refl _ _) (Nat.le_refl _) (by simp) ?_; (case hd => rfl); (case hg => rfl); (case hr => first | (go_simp; done) | (go_simp; rfl)); (case hp => exact (Reps.one (show Kd.M (Kd.int .u64) _ _ _ 3 [.int .u64 3] from rfl) (Reps.one (show Kd.M (Kd.int .u64) _ _ _ 4 [.int .u64 4] from rfl) (Reps.none _ _)))); intro v179 w63 ho64 hb hg_ hnew_; clear hg_ hnew_; (first | rw [← Ny178.out] at ho64 | (simp only [Int.reduceToNat] at ho64; rw [← Ny178.out] at ho64)); have HO180 := Aside0.mk (Kd.R_lower (Kd.R_new' ho64 (Kd.R_lt (rp_ HO177.out))) (below_size bp_)); replace HO177 := Aside0.mk (Kd.R_elder' (rp_ HO177.out) (Kd.R_base ho64) hb); replace HB := Aside0.mk (below_step bp_ hb); clear hb ho64; obtain ⟨Ao65, co65, eo65⟩ := Kd.R_slice HO177.out; subst eo65; obtain ⟨Ao66, co66, eo66⟩ := Kd.R_slice HO180.out; subst eo66) | ((with_reducible refine gate_dst (N := 7) rfl ?_); (try (refine gate_guard (by rfl) ?_; dsimp only)); refine Kd.N_lit (Kd.slice 46 (Kd.int .u64)) _ 22 ?hg (N' := 7) ?hd (xs := ([y175, y178] : List (List Int))) (inner := [.slice Ao65 y175.length co65, .slice Ao66 y178.length co66]) (ok := (fun _ => True)) (okp := (fun _ => True)) ?hr ?hp (fun _ hk => hk) ((show ∀ k_, w63.heap.size ≤ k_ → (fun _ => True) k_ from fun k_ hk => trivial) _ (Nat.le_refl _)) (Below.refl _ _) (Nat.le_refl _) (by simp) ?_; (case hd => rfl); (case hg => rfl); (case hr => first | (go_simp; done) | (go_simp; rfl)); (case hp => exact (Reps.one (show Kd.FK (Kd.slice 46 (Kd.int .u64)) _ _ y175 [.slice Ao65 y175.length co65] from (Kd.FK_slice_mk (Kd.R_reads' (Kd.R_mono (ok' := (fun _ => True)) (HO177.out) (fun k_ hk => trivial))).2.1 (Kd.R_F (Kd.R_mono (ok' := (fun _ => True)) (HO177.out) (fun k_ hk => trivial))))) (Reps.one (show Kd.FK (Kd.slice 46 (Kd.int .u64)) _ _ y178 [.slice Ao66 y178.length co66] from (Kd.FK_slice_mk (Kd.R_reads' (Kd.R_mono (ok' := (fun _ => True)) (HO180.out) (fun k_ hk => trivial))).2.1 (Kd.R_F (Kd.R_mono (ok' := (fun _ => True)) (HO180.out) (fun k_ hk => trivial))))) (Reps.none _ _)))); intro v182 w67 ho68 hb hg_ hnew_; clear hg_ hnew_; (first | rw [← Ny181.out] at ho68 | (simp only [Int.reduceToNat] at ho68; rw [← Ny181.out] at ho68)); have HO183 := Aside0.mk (Kd.N_lower ho68 (below_size bp_)); replace HB := Aside0.mk (below_step bp_ hb); clear HO177 HO180; clear hb ho68; obtain ⟨Ao69, co69, eo69⟩ := Kd.N_slice HO183.out; subst eo69) | ((with_reducible refine gate_callee (f := 29) rfl ?_); refine goQ_ (some 8) Try.func29 #[.slice Ao69 y181.length co69] ?_; (with_reducible refine (rect_Of.calls k _ _ y181 t184 t185 t186 t189 _ ?side1 ?side2 A1.out).mono ?_); (case side1 => repeat (first | exact (Kd.N_reads' HO183.out).2.2 | (with_reducible refine Kd.C_alloc ?_ _) | (with_reducible refine Kd.C_drewN ?_ _) | (with_reducible refine Kd.C_drew ?_))); (case side2 => exact (Kd.N_reads' HO183.out).2.1); rintro e w70 ⟨v187, rfl, ho0, hb⟩; refine ⟨_, rfl, ?_⟩; replace HO183 := Aside0.mk (Kd.N_elder' (np_ HO183.out) (Kd.R_base ho0) hb); have HO188 := Aside0.mk (Kd.R_lower ho0 (below_size bp_)); replace HB := Aside0.mk (below_step bp_ hb); (try clear hb); (try clear hb2); (try clear hk); (try clear hi); (try clear ho0)) | ((with_reducible refine gate_dst (N := 1) rfl ?_); (try (refine gate_guard (by rfl) ?_; dsimp only)); refine box_event ?hg (N := 1) ?hd (cs := #[.int .i64 0, .int .i64 0, .slice none 0 0]) (t := 32) ?hr ?_; (case hd => rfl); (case hg => rfl); (case hr => first | (go_simp; done) | (go_simp; rfl)); intro gb190 hg w71 hbox hb; replace HO183 := Aside0.mk (Kd.N_below (Kd.N_elderB (np_ HO183.out) gb190 (Nat.le_of_eq hg.symm)) hb); replace HO188 := rb_ HO188.out hb; have BK190 := Aside0.mk (hbox); have GW190 := Aside0.mk ((by rw [hg]; exact (below_size bp_) : w.heap.size ≤ gb190)); have GE190 := Aside0.mk ((by rw [hg]; exact (below_size bp_) : w.heap.size ≤ gb190)); replace HB := Aside0.mk (below_step bp_ hb); clear hb hbox hg; have hcz72_0 : w71.cell? ⟨gb190, 0, none⟩ = some (.int .i64 0) := bc_ BK190.out 0; have hcz72_1 : w71.cell? ⟨gb190, 1, none⟩ = some (.int .i64 0) := bc_ BK190.out 1; have hcz72_2 : w71.cell? ⟨gb190, 2, none⟩ = some (.slice none 0 0) := bc_ BK190.out 2; have hfz72_0 := blk_frozen BK190.out 0; have hfz72_1 := blk_frozen BK190.out 1; have hfz72_2 := blk_frozen BK190.out 2; obtain ⟨Ao73, co73, eo73⟩ := Kd.R_slice HO188.out; subst eo73) | ((with_reducible refine gate_dst (N := 12) rfl ?_); (try (refine gate_guard (by rfl) ?_; dsimp only)); refine Kd.R_lit (Kd.int .u64) _ 46 ?hg (N := 12) ?hd (xs := ([4] : List Int)) (inner := [.int .u64 4]) (ok := fun _ => True) (okp := fun _ => True) ?hr ?hp (fun _ hk => hk) trivial (Below.refl _ _) (Nat.le_refl _) (by simp) ?_; (case hd => rfl); (case hg => rfl); (case hr => first | (go_simp; done) | (go_simp; rfl)); (case hp => exact (Reps.one (show Kd.M (Kd.int .u64) _ _ _ 4 [.int .u64 4] from rfl) (Reps.none _ _))); intro v192 w74 ho75 hb hg_ hnew_; clear hg_ hnew_; (first | rw [← Ny191.out] at ho75 | (simp only [Int.reduceToNat] at ho75; rw [← Ny191.out] at ho75)); replace HO183 := Aside0.mk (Kd.N_elder' (by (with_reducible repeat (first | apply Kd.N_alloc | apply Kd.N_drewN | apply Kd.N_drew)); exact (Kd.N_mono (Kd.N_far (p := ⟨gb190, 2, none⟩) (Kd.N_far (p := ⟨gb190, 1, none⟩) (Kd.N_far (p := ⟨gb190, 0, none⟩) (Kd.N_mono HO183.out (fun k_ hk => (⟨hk, hk.2⟩ : _ ∧ k_ ≠ gb190))) (fun _ hk => hk.2) (.int .i64 t184)) (fun _ hk => hk.2) (.int .i64 t185)) (fun _ hk => hk.2) (.slice Ao73 t186.length co73)) (fun _ h_ => h_.1))) (Kd.R_base ho75) hb); have HO193 := Aside0.mk (Kd.R_lower (Kd.R_new' ho75 (Kd.R_lt (by (with_reducible repeat (first | apply Kd.R_alloc | apply Kd.R_drewN | apply Kd.R_drew)); exact (Kd.R_mono (Kd.R_far (p := ⟨gb190, 2, none⟩) (Kd.R_far (p := ⟨gb190, 1, none⟩) (Kd.R_far (p := ⟨gb190, 0, none⟩) (Kd.R_types HO188.out BK190.out (by decide)) (fun _ hk => hk.2) (.int .i64 t184)) (fun _ hk => hk.2) (.int .i64 t185)) (fun _ hk => hk.2) (.slice Ao73 t186.length co73)) (fun _ h_ => h_.1))))) (below_size bp_)); replace HO188 := Aside0.mk (Kd.R_elder' (by (with_reducible repeat (first | apply Kd.R_alloc | apply Kd.R_drewN | apply Kd.R_drew)); exact (Kd.R_mono (Kd.R_far (p := ⟨gb190, 2, none⟩) (Kd.R_far (p := ⟨gb190, 1, none⟩) (Kd.R_far (p := ⟨gb190, 0, none⟩) (Kd.R_types HO188.out BK190.out (by decide)) (fun _ hk => hk.2) (.int .i64 t184)) (fun _ hk => hk.2) (.int .i64 t185)) (fun _ hk => hk.2) (.slice Ao73 t186.length co73)) (fun _ h_ => h_.1))) (Kd.R_base ho75) hb); replace BK190 := Aside0.mk (blk_below (g := gb190) (o := .cells #[.int .i64 t184, .int .i64 t185, .slice Ao73 t186.length co73] 32 (0, 0)) (by (with_reducible repeat (first | refine blk_drewN ?_ _ | refine blk_drew ?_ | refine blk_alloc ?_ _)); refine blk_put (cs := #[.int .i64 t184, .int .i64 t185, .slice none 0 0]) ?_ 2 _ rfl; (with_reducible repeat (first | refine blk_drewN ?_ _ | refine blk_drew ?_ | refine blk_alloc ?_ _)); refine blk_put (cs := #[.int .i64 t184, .int .i64 0, .slice none 0 0]) ?_ 1 _ rfl; (with_reducible repeat (first | refine blk_drewN ?_ _ | refine blk_drew ?_ | refine blk_alloc ?_ _)); refine blk_put (cs := #[.int .i64 0, .int .i64 0, .slice none 0 0]) ?_ 0 _ rfl; (with_reducible repeat (first | refine blk_drewN ?_ _ | refine blk_drew ?_ | refine blk_alloc ?_ _)); exact BK190.out) hb); replace HB := Aside0.mk (below_step bp_ hb); clear hb ho75; obtain ⟨Ao76, co76, eo76⟩ := Kd.R_slice HO193.out; subst eo76) | ((with_reducible refine gate_callee (f := 14) rfl ?_); refine goQ_ (some 14) Try.func14 #[.agg #[.int .i64 t184, .int .i64 t185, .slice Ao73 t186.length co73], .agg #[.int .i64 1, .int .i64 1, .slice Ao76 y191.length co76]] ?_; (with_reducible refine (rect_Matrix_Find.calls k t184 t185 _ _ t186 1 1 _ _ y191 t194 _ ?side1 ?side2 ?side3 ?side4 A2.out).mono ?_); (case side1 => exact cp_ (Kd.R_reads' HO188.out).2.2); (case side2 => exact (Kd.R_reads' HO188.out).2.1); (case side3 => exact cp_ (Kd.R_reads' HO193.out).2.2); (case side4 => exact (Kd.R_reads' HO193.out).2.1); rintro e w77 ⟨v195, rfl, ho0, hb⟩; refine ⟨_, rfl, ?_⟩; replace HO183 := Aside0.mk (Kd.N_elder' (np_ HO183.out) (Kd.R_base ho0) hb); replace HO188 := rb_ HO188.out hb; replace HO193 := rb_ HO193.out hb; have HO196 := Aside0.mk (Kd.R_lower ho0 (below_size bp_)); replace HB := Aside0.mk (below_step bp_ hb); (try clear hb); (try clear hb2); (try clear hk); (try clear hi); (try clear ho0)))
 go_ret
 exact ⟨by first | rfl | (simp [errW_none, errW_some] <;> rfl) | (simp [*, errW_none, errW_some] <;> rfl), bp_⟩

end Go.Proofs.Ytidpaaemfiopkaa.Q
