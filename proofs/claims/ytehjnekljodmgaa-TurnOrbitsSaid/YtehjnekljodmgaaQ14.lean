-- written by our own program (wip/tools/myprint.py) out of the translation, by the kit's print; Lean checks it
import Derived.Test.YtehjnekljodmgaaQ0
import Derived.Test.YtehjnekljodmgaaIchequerref04_Lay
import Derived.Test.YtehjnekljodmgaaQ6
namespace Go.Proofs.Ytehjnekljodmgaa.Q
open Go.RowKit Go.Proofs.YtehjnekljodmgaaW.PrintWords Go.Proofs.YtehjnekljodmgaaW.PrintLast Go.Proofs.YtehjnekljodmgaaW.PrintMore
attribute [local go_sem] max2_int min2_int max_two min_two max_three min_three max_four min_four   -- for this text's walks alone
set_option linter.unusedVariables false
set_option linter.unusedSimpArgs false

abbrev Fl104 : Array Bool := #[true, true, true, true, true, true, true, true, true, true, false, false]
abbrev Fl105 : Array Bool := #[false, false, false, false, false, false, false, false, false, false]
abbrev Fl106 : Array Bool := #[true, false, false, false, false, false, false, false, false, false]
abbrev Fl107 : Array Bool := #[true, true, false, false, false, false, false, false, false, false]
abbrev Fl108 : Array Bool := #[true, true, true, false, false, false, false, false, false, false]
abbrev Fl109 : Array Bool := #[true, true, true, true, false, false, false, false, false, false]
abbrev Fl110 : Array Bool := #[true, true, true, true, true, false, false, false, false, false]
abbrev Fl111 : Array Bool := #[true, true, true, true, true, true, false, false, false, false]
abbrev Fl112 : Array Bool := #[true, true, true, true, true, true, true, false, false, false]
abbrev Fl113 : Array Bool := #[true, true, true, true, true, true, true, true, false, false]
abbrev Fl114 : Array Bool := #[true, true, true, true, true, true, true, true, true, false]
abbrev Fl115 : Array Bool := #[true, true, true, true, true, true, true, true, true, true]
abbrev Fl116 : Array Bool := #[false, false, false, false, false, false, false, false, false, false, false, false]
abbrev Fl117 : Array Bool := #[false, true, false, false, false, false, false, false, false, false, false, false]
abbrev Fl118 : Array Bool := #[false, true, true, false, false, false, false, false, false, false, false, false]
abbrev Fl119 : Array Bool := #[false, true, true, true, false, false, false, false, false, false, false, false]
abbrev Fl120 : Array Bool := #[true, true, true, true, false, false, false, false, false, false, false, false]
abbrev Fl121 : Array Bool := #[true, true, true, true, true, false, false, false, false, false, false, false]
abbrev Fl122 : Array Bool := #[true, true, true, true, true, false, false, false, false, true, false, false]
abbrev Fl123 : Array Bool := #[true, true, true, true, true, true, false, false, false, false, false, false]
abbrev Fl124 : Array Bool := #[true, true, true, true, true, true, false, false, false, true, false, false]
abbrev Fl125 : Array Bool := #[true, true, true, true, true, true, true, false, false, false, false, false]
abbrev Fl126 : Array Bool := #[true, true, true, true, true, true, true, false, false, true, false, false]
abbrev Fl127 : Array Bool := #[true, true, true, true, true, true, true, true, false, false, false, false]
abbrev Fl128 : Array Bool := #[true, true, true, true, true, true, true, true, false, true, false, false]
abbrev Fl129 : Array Bool := #[true, true, true, true, true, true, true, true, true, false, false, false]
abbrev Fl130 : Array Bool := #[true, true, true, true, true, true, true, true, true, true, true, false]
abbrev Fl131 : Array Bool := #[true, true, true, true, true, true, true, true, true, true, true, true]
/-! ### chequerref04_Orbit: function 29 -/
mutual
def chequerref04_Orbit.l0 : Nat → List Int → List (S24) → List Int → Int → Int → Int → List Int → Option ((List (S24)) × List Int)
 | 0, _, _, _, _, _, _, _ => none
 | k + 1, x1, x6, x7, x8, x408000, x408001, x408002 => if x8 < (x1.length : Int) then (if 0 ≤ x8 then ((chequerref04_Lay.f k x408000 x408001 x408002 (rd x1 x8)).bind fun bt409 => (if bt409.2.2.2 = 0 then (chequerref04_Orbit.l1 k x1 x6 x7 x8 (-1) 0 x408000 x408001 x408002 bt409.1 bt409.2.1 bt409.2.2.1) else (if x7.length < 17592186044416 then (chequerref04_Orbit.l0 k x1 x6 (x7 ++ [(-1)]) (wrap64 (x8 + 1)) x408000 x408001 x408002) else (none)))) else (none)) else (some (x6, x7))
def chequerref04_Orbit.l1 : Nat → List Int → List (S24) → List Int → Int → Int → Int → Int → Int → List Int → Int → Int → List Int → Option ((List (S24)) × List Int)
 | 0, _, _, _, _, _, _, _, _, _, _, _, _ => none
 | k + 1, x1, x6, x7, x8, x11, x12, x408000, x408001, x408002, x416000, x416001, x416002 => if x12 < (x6.length : Int) then (if x11 < 0 then (if 0 ≤ x12 then ((chequerref03_Same.f k ((rd_T24 x6 x12).f0) ((rd_T24 x6 x12).f1) ((rd_T24 x6 x12).f2) x416000 x416001 x416002).bind fun t420 => (if t420 = true then (chequerref04_Orbit.l1 k x1 x6 x7 x8 x12 (wrap64 (x12 + 1)) x408000 x408001 x408002 x416000 x416001 x416002) else (chequerref04_Orbit.l1 k x1 x6 x7 x8 x11 (wrap64 (x12 + 1)) x408000 x408001 x408002 x416000 x416001 x416002))) else (none)) else (chequerref04_Orbit.l1 k x1 x6 x7 x8 x11 (wrap64 (x12 + 1)) x408000 x408001 x408002 x416000 x416001 x416002)) else (if x11 < 0 then (if x6.length < 3518437208883 then (if x7.length < 17592186044416 then (chequerref04_Orbit.l0 k x1 (x6 ++ [(⟨x416000, x416001, x416002⟩ : S24)]) (x7 ++ [(x6.length : Int)]) (wrap64 (x8 + 1)) x408000 x408001 x408002) else (none)) else (none)) else (if x7.length < 17592186044416 then (chequerref04_Orbit.l0 k x1 x6 (x7 ++ [x11]) (wrap64 (x8 + 1)) x408000 x408001 x408002) else (none)))
end
def chequerref04_Orbit.f (k : Nat) (a0_0 : Int) (a0_1 : Int) (l0_2 : List Int) (l1 : List Int) : Option ((List (S24)) × List Int) := chequerref04_Orbit.l0 k l1 ([] : List (S24)) ([] : List Int) 0 a0_0 a0_1 l0_2
theorem chequerref04_Orbit.mono_l : ∀ k, (∀ y0 y1 y2 y3 y4 y5 y6, LeO (chequerref04_Orbit.l0 k y0 y1 y2 y3 y4 y5 y6) (chequerref04_Orbit.l0 (k + 1) y0 y1 y2 y3 y4 y5 y6)) ∧ (∀ y0 y1 y2 y3 y4 y5 y6 y7 y8 y9 y10 y11, LeO (chequerref04_Orbit.l1 k y0 y1 y2 y3 y4 y5 y6 y7 y8 y9 y10 y11) (chequerref04_Orbit.l1 (k + 1) y0 y1 y2 y3 y4 y5 y6 y7 y8 y9 y10 y11))
 | 0 => ⟨fun _ _ _ _ _ _ _ r h => by simp [chequerref04_Orbit.l0] at h, fun _ _ _ _ _ _ _ _ _ _ _ _ r h => by simp [chequerref04_Orbit.l1] at h⟩
 | k + 1 => by
  obtain ⟨ih0, ih1⟩ := chequerref04_Orbit.mono_l k
  refine ⟨?_, ?_⟩
  · intro y0 y1 y2 y3 y4 y5 y6
    unfold chequerref04_Orbit.l0
    repeat' first
    | (with_reducible exact ih0 _ _ _ _ _ _ _)
    | (with_reducible exact ih1 _ _ _ _ _ _ _ _ _ _ _ _)
    | (with_reducible exact chequerref03_Same.mono _ _ _ _ _ _ _)
    | (with_reducible exact chequerref04_Lay.mono _ _ _ _ _)
    | (with_reducible exact LeO.refl _)
    | (with_reducible exact LeO.none _)
    | (with_reducible refine LeO.ite ?_ ?_)
    | (with_reducible refine LeO.bind ?_ (fun _ => ?_))
    | exact ih0 _ _ _ _ _ _ _
    | exact ih1 _ _ _ _ _ _ _ _ _ _ _ _
    | exact chequerref03_Same.mono _ _ _ _ _ _ _
    | exact chequerref04_Lay.mono _ _ _ _ _
    | exact LeO.none _
    | refine LeO.ite ?_ ?_
    | refine LeO.bind ?_ (fun _ => ?_)
  · intro y0 y1 y2 y3 y4 y5 y6 y7 y8 y9 y10 y11
    unfold chequerref04_Orbit.l1
    repeat' first
    | (with_reducible exact ih0 _ _ _ _ _ _ _)
    | (with_reducible exact ih1 _ _ _ _ _ _ _ _ _ _ _ _)
    | (with_reducible exact chequerref03_Same.mono _ _ _ _ _ _ _)
    | (with_reducible exact chequerref04_Lay.mono _ _ _ _ _)
    | (with_reducible exact LeO.refl _)
    | (with_reducible exact LeO.none _)
    | (with_reducible refine LeO.ite ?_ ?_)
    | (with_reducible refine LeO.bind ?_ (fun _ => ?_))
    | exact ih0 _ _ _ _ _ _ _
    | exact ih1 _ _ _ _ _ _ _ _ _ _ _ _
    | exact chequerref03_Same.mono _ _ _ _ _ _ _
    | exact chequerref04_Lay.mono _ _ _ _ _
    | exact LeO.none _
    | refine LeO.ite ?_ ?_
    | refine LeO.bind ?_ (fun _ => ?_)
theorem chequerref04_Orbit.mono : ∀ a0 a1 a2 a3 k, LeO (chequerref04_Orbit.f k a0 a1 a2 a3) (chequerref04_Orbit.f (k + 1) a0 a1 a2 a3) := by
 intro a0 a1 a2 a3 k
 obtain ⟨ih0, ih1⟩ := chequerref04_Orbit.mono_l k
 unfold chequerref04_Orbit.f
 repeat' first
  | (with_reducible exact ih0 _ _ _ _ _ _ _)
  | (with_reducible exact ih1 _ _ _ _ _ _ _ _ _ _ _ _)
  | (with_reducible exact chequerref03_Same.mono _ _ _ _ _ _ _)
  | (with_reducible exact chequerref04_Lay.mono _ _ _ _ _)
  | (with_reducible exact LeO.refl _)
  | (with_reducible exact LeO.none _)
  | (with_reducible refine LeO.ite ?_ ?_)
  | (with_reducible refine LeO.bind ?_ (fun _ => ?_))
  | exact ih0 _ _ _ _ _ _ _
  | exact ih1 _ _ _ _ _ _ _ _ _ _ _ _
  | exact chequerref03_Same.mono _ _ _ _ _ _ _
  | exact chequerref04_Lay.mono _ _ _ _ _
  | exact LeO.none _
  | refine LeO.ite ?_ ?_
  | refine LeO.bind ?_ (fun _ => ?_)
def chequerref04_Orbit.T6 : Bool × List (List Nat × List Nat) := (true, [([], []), ([], []), ([], []), ([1, 2], [1, 2]), ([3], [3]), ([0, 4], [0, 4]), ([5], [5]), ([6], [6]), ([6], [6]), ([], []), ([9, 7, 5, 0, 1, 2, 3, 4, 5, 6, 7, 9], [7, 9]), ([8, 10, 0, 1, 2, 3, 4, 5, 6, 7, 8, 9, 10], [8])])
def chequerref04_Orbit.B6 : List Nat := [0, 0, 0, 6, 14, 31, 63, 127, 127, 0, 767, 2047]
theorem chequerref04_Orbit.tab6 : rtab .any (opsOf Try.f29 6) = chequerref04_Orbit.T6 := by kernel_rfl
theorem chequerref04_Orbit.bits6 : waitsOk chequerref04_Orbit.T6.2 chequerref04_Orbit.B6 = true := by kernel_rfl
def chequerref04_Orbit.T13 : Bool × List (List Nat × List Nat) := (true, [([], []), ([0], [0]), ([1], [1]), ([2], [2]), ([2], [2]), ([3, 4, 2], [2, 3, 4]), ([5, 2], [2, 5]), ([2], [2]), ([6, 7, 2, 2], [2, 6, 7]), ([2, 8], [2, 8])])
def chequerref04_Orbit.B13 : List Nat := [0, 1, 3, 7, 7, 31, 63, 7, 255, 511]
theorem chequerref04_Orbit.tab13 : rtab .any (opsOf Try.f29 13) = chequerref04_Orbit.T13 := by kernel_rfl
theorem chequerref04_Orbit.bits13 : waitsOk chequerref04_Orbit.T13.2 chequerref04_Orbit.B13 = true := by kernel_rfl
set_option maxHeartbeats 8000000 in
set_option maxRecDepth 100000 in
theorem chequerref04_Orbit.calls (k : Nat) (a0_0 : Int) (a0_1 : Int) (P0_2_ : Nat → Prop) (A0_2 : Option Addr) (c0_2 : Nat) (l0_2 : List Int) (A1 : Option Addr) (c1 : Nat) (l1 : List Int) (r1 : List (S24)) (r2 : List Int) (w : World) (hs0_2 : Kd.V (Kd.int .u64) 41 w w.heap.size (fun k_ => P0_2_ k_) (.slice A0_2 l0_2.length c0_2) l0_2) (hr1 : Kd.C (Kd.int .i64) w A1 l1.length l1) (hc1 : l1.length ≤ c1) (h : chequerref04_Orbit.f k a0_0 a0_1 l0_2 l1 = some (r1, r2)) :
 Calls Try.prog 29 #[.agg #[.int .i64 a0_0, .int .i64 a0_1, .slice A0_2 l0_2.length c0_2], .slice A1 l1.length c1] w fun e w' => ∃ v0_ v1_ : Value, e = .returned (.tuple #[v0_, v1_]) ∧ Kd.N k24 24 w' w.heap.size (fun k_ => (P0_2_ k_ ∨ w.heap.size ≤ k_) ∧ some k_ ≠ (v1_ : Value).ownBlock) v0_ r1 ∧ Kd.R (Kd.int .i64) 3 w' w.heap.size (fun k_ => (w.heap.size ≤ k_)) v1_ r2 ∧ Below w.heap.size w w' := by
 have hu24 := Try.underlying24
 have HO0_2 := Aside0.mk (show Kd.V (Kd.int .u64) 41 w w.heap.size (fun k_ => (P0_2_ k_ ∨ w.heap.size ≤ k_)) (.slice A0_2 l0_2.length c0_2) l0_2 from Kd.V_mono hs0_2 (fun k_ hk => .inl hk))
 have HR1 := Aside0.mk hr1
 have HC1 := Aside0.mk hc1
 clear hr1 hc1
 have HB := Aside0.mk (Below.refl w.heap.size w)
 have H : (chequerref04_Orbit.l0 k l1 ([] : List (S24)) ([] : List Int) 0 a0_0 a0_1 l0_2) = some (r1, r2) := h
 clear h
 have H' := Aside0.mk H
 clear H
 go_enter Try.func29, Try.ntmps29
 go_wp2_with (first | ((with_reducible refine gate_dst (N := 2) rfl ?_); refine box_event ?hg (N := 2) ?hd (cs := #[.int .i64 a0_0, .int .i64 a0_1, .slice A0_2 l0_2.length c0_2]) (t := 24) ?hr ?_; (case hd => rfl); (case hg => rfl); (case hr => first | (go_simp; done) | (go_simp; rfl)); intro gb407 hg w3 hbox hb; replace HO0_2 := Aside0.mk (Kd.V_below (Kd.V_elderB (vp_ HO0_2.out) gb407 (Nat.le_of_eq hg.symm)) hb); have BK407 := Aside0.mk (hbox); have GW407 := Aside0.mk ((by rw [hg]; exact (below_size bp_) : w.heap.size ≤ gb407)); have GE407 := Aside0.mk ((by rw [hg]; exact (below_size bp_) : w.heap.size ≤ gb407)); replace HB := Aside0.mk (below_step bp_ hb); clear hb hbox hg))
 go_loopg [6, 7, 8] k (fun kq v6 v7 v8 w' => ∃ (x6_1 : List (S24)) (x7_1 : List Int) (x8_1 : Int), v8 = .int .i64 x8_1 ∧ Aside0 (chequerref04_Orbit.l0 kq l1 x6_1 x7_1 x8_1 a0_0 a0_1 l0_2 = some (r1, r2)) ∧ Aside0 (kq ≤ k) ∧ Aside0 (Kd.N k24 24 w' w.heap.size (fun k_ => (P0_2_ k_ ∨ w.heap.size ≤ k_) ∧ some k_ ≠ (v7 : Value).ownBlock ∧ k_ ≠ gb407) v6 x6_1) ∧ Aside0 (Kd.R (Kd.int .i64) 3 w' w.heap.size (fun k_ => (w.heap.size ≤ k_)) v7 x7_1) ∧ Aside0 (Kd.V (Kd.int .u64) 41 w' w.heap.size (fun k_ => (P0_2_ k_ ∨ w.heap.size ≤ k_) ∧ some k_ ≠ (v6 : Value).ownBlock ∧ some k_ ≠ (v7 : Value).ownBlock ∧ k_ ≠ gb407) (.slice A0_2 l0_2.length c0_2) l0_2) ∧ Aside0 (w'.heap[gb407]? = some (.cells #[.int .i64 a0_0, .int .i64 a0_1, (.slice A0_2 l0_2.length c0_2)] 24 (0, 0))) ∧ Aside0 (Below w.heap.size w w'))
 case atStart => exact ⟨(([] : List (S24))), (([] : List Int)), (0), (by first | rfl | (simp; done) | (simp [*]; done)), H', ⟨Nat.le_refl _⟩, ⟨by first | exact Kd.S_nil _ _ _ _ _ | exact Kd.N_nil _ _ _ _ _ | exact Kd.V_nil _ _ _ _ _ | exact Kd.Q_nil _ _ _ _ _ | exact Kd.R_nil _ _ _ _ _⟩, ⟨by first | exact Kd.R_nil _ _ _ _ _ | exact Kd.N_nil _ _ _ _ _ | exact Kd.V_nil _ _ _ _ _ | exact Kd.Q_nil _ _ _ _ _ | exact Kd.S_nil _ _ _ _ _⟩, ⟨by (with_reducible repeat (first | apply Kd.V_alloc | apply Kd.V_drewN | apply Kd.V_drew)); exact Kd.V_mono HO0_2.out (fun _ hk => ⟨hk.1, ⟨(by simp [Value.ownBlock]), ⟨(by simp [Value.ownBlock]), hk.2⟩⟩⟩)⟩, ⟨hp_ BK407.out⟩, ⟨bp_⟩⟩
 case round =>
  clear H'
  try clear c1
  try clear c2
  try clear p2
  obtain ⟨x6_1, x7_1, x8_1, rfl, HA, HK1, HO_6, HO_7, HO_408002, BK407, HB⟩ := hrel
  cases gk with
  | zero => exact absurd HA.out (by simp [chequerref04_Orbit.l0])
  | succ k1 =>
   have H := HA.out
   clear HA
   simp only [chequerref04_Orbit.l0] at H
   by_cases c4 : x8_1 < (l1.length : Int)
   · rw [if_pos c4] at H
     have c4b0 : decide (x8_1 < (l1.length : Int)) = true := decide_eq_true c4
     clear c4
     by_cases c5 : 0 ≤ x8_1
     · rw [if_pos c5] at H
       have c5b0 : decide (0 ≤ x8_1) = true := decide_eq_true c5
       clear c5
       replace H := Option.bind_eq_some_iff.mp H
       obtain ⟨⟨t409, t410, t411, t414⟩, A60, H⟩ := H
       replace H : (if t414 = 0 then (chequerref04_Orbit.l1 k1 l1 x6_1 x7_1 x8_1 (-1) 0 a0_0 a0_1 l0_2 t409 t410 t411) else (if x7_1.length < 17592186044416 then (chequerref04_Orbit.l0 k1 l1 x6_1 (x7_1 ++ [(-1)]) (wrap64 (x8_1 + 1)) a0_0 a0_1 l0_2) else (none))) = some (r1, r2) := H
       have A6 := Aside0.mk A60
       clear A60
       by_cases c7 : t414 = 0
       · rw [if_pos c7] at H
         have c7b0 : (t414 == 0) = true := beq_iff_eq.mpr c7
         have c7b1 : (t414 != 0) = false := bne_eq_false_iff_eq.mpr c7
         clear c7
         have H' := Aside0.mk H
         clear H
         try go_wp2
         (try (rw [drewN_self wr]; generalize hq_ : World.drewN wr _ = wr; have n0_ := Aside0.mk (qvp_ hq_ HO_408002.out); have n1_ : Aside0 (Kd.N k24 24 wr w.heap.size (fun k_ => (P0_2_ k_ ∨ w.heap.size ≤ k_) ∧ some k_ ≠ (u7 : Value).ownBlock ∧ k_ ≠ gb407) u6 x6_1) := ⟨by rw [← hq_]; exact (by (with_reducible repeat (first | apply Kd.N_alloc | apply Kd.N_drewN | apply Kd.N_drew)); exact HO_6.out)⟩; have n2_ := Aside0.mk (qrp_ hq_ HO_7.out); have n3_ := Aside0.mk (qhp_ hq_ BK407.out); have n4_ : Aside0 (Below w.heap.size w wr) := ⟨qbp_ hq_⟩; clear HO_408002 HO_6 HO_7 BK407 HB hq_; have HO_408002 := n0_; have HO_6 := n1_; have HO_7 := n2_; have BK407 := n3_; have HB := n4_; clear n0_ n1_ n2_ n3_ n4_))
         replace HO_6 := Aside0.mk (Kd.N_drew HO_6.out)
         replace HO_7 := Aside0.mk (Kd.R_drew HO_7.out)
         replace HO_408002 := Aside0.mk (Kd.V_drew HO_408002.out)
         replace BK407 := Aside0.mk (blk_drew BK407.out)
         replace HB := Aside0.mk (below_drew1 HB.out)
         have p408 : 0 ≤ (x8_1 : Int) := of_decide_eq_true (by first | (with_reducible assumption) | assumption)
         have q408 : x8_1 < (l1.length : Int) := of_decide_eq_true (by first | (with_reducible assumption) | assumption)
         obtain ⟨ad408, e408, hx408_0⟩ := Kd.at_int HR1.out x8_1 p408 q408
         have hw408_0 := hx408_0
         cases e408
         replace hx408_0 := (HB.out.cell (World.block_lt_of_cell? w _ hx408_0)).trans hx408_0
         replace p408 := eq_true p408
         replace q408 := eq_true q408
         refine start_ (n := 12) (S := fun w' => w'.cell? ⟨gb407, 0, none⟩ = some (.int .i64 a0_0) ∧ w'.cell? ⟨gb407, 1, none⟩ = some (.int .i64 a0_1) ∧ w'.cell? ⟨gb407, 2, none⟩ = some (.slice A0_2 l0_2.length c0_2) ∧ w'.cell? (ad408.add (x8_1).toNat) = some (.int .i64 (rd l1 x8_1))) (ds := []) Fl116 (by kernel_rfl) rfl rfl ⟨(blk_cell BK407.out 0).trans rfl, (blk_cell BK407.out 1).trans rfl, (blk_cell BK407.out 2).trans rfl, ((HB.out.cell (World.block_lt_of_cell? w _ hw408_0)).trans hw408_0)⟩ (fun hHeld => ?_); refine with_tabW chequerref04_Orbit.tab6 chequerref04_Orbit.bits6 (fun HT_ HW_ => ?_)
         generalize wr.drew = w8 at HO_6 HO_7 HO_408002 BK407 HB hx408_0 hHeld ⊢
         refine pur_ (i := 1) (N := some 21) Fl117 (any_of HT_.out (by kernel_rfl)) ?_
         refine pur_ (i := 2) (N := some 22) Fl118 (any_of HT_.out (by kernel_rfl)) ?_
         refine pur_ (i := 3) (N := some 23) Fl119 (any_of HT_.out (by kernel_rfl)) ?_
         refine take_ (i := 0) (N := some 20) (v := ?_) (a' := ?_) Fl120 rfl rfl (take_ofW HT_.out HW_.out (by kernel_rfl)) (fun _ _ _ h => h) (Or.inl ⟨by rfl, ?_⟩) hHeld ?_ ?_
         rotate_left
         · rintro w' ⟨s0, s1, s2, s3⟩
           go_simp
           with_reducible rfl
         rotate_left
         · simp only [Act.put, List.setIfInBounds_toArray, List.set_cons_zero, List.set_cons_succ, i64_w, i32_w]
           rfl
         refine take_ (i := 4) (N := some 24) (v := ?_) (a' := ?_) Fl121 rfl rfl (take_ofW HT_.out HW_.out (by kernel_rfl)) (fun _ _ _ h => h) (Or.inl ⟨by rfl, ?_⟩) hHeld ?_ ?_
         rotate_left
         · rintro w' ⟨s0, s1, s2, s3⟩
           go_simp
           with_reducible rfl
         rotate_left
         · simp only [Act.put, List.setIfInBounds_toArray, List.set_cons_zero, List.set_cons_succ, i64_w, i32_w]
           rfl
         refine join_ (σ := Value × Nat) 2 Fl104 (fun s_ => [(25, .tuple #[.agg #[.int .i64 t409, .int .i64 t410, s_.1], .int .i64 t414]), (9, .pointer (some ⟨s_.2, 0, none⟩)), (19, .tuple #[.agg #[.int .i64 t409, .int .i64 t410, s_.1], .int .i64 t414]), (26, .agg #[.int .i64 t409, .int .i64 t410, s_.1]), (27, .int .i64 t414)]) (fun s_ w' => (w'.cell? ⟨gb407, 0, none⟩ = some (.int .i64 a0_0) ∧ w'.cell? ⟨gb407, 1, none⟩ = some (.int .i64 a0_1) ∧ w'.cell? ⟨gb407, 2, none⟩ = some (.slice A0_2 l0_2.length c0_2) ∧ w'.cell? (ad408.add (x8_1).toNat) = some (.int .i64 (rd l1 x8_1))) ∧ (Kd.V (Kd.int .u64) 41 w' w.heap.size (fun k_ => (P0_2_ k_ ∨ w.heap.size ≤ k_) ∧ some k_ ≠ (u6 : Value).ownBlock ∧ some k_ ≠ (u7 : Value).ownBlock ∧ k_ ≠ gb407 ∧ k_ ≠ s_.2) s_.1 t411) ∧ (Kd.V (Kd.int .u64) 41 w' w.heap.size (fun k_ => (P0_2_ k_ ∨ w.heap.size ≤ k_) ∧ some k_ ≠ (u6 : Value).ownBlock ∧ some k_ ≠ (u7 : Value).ownBlock ∧ k_ ≠ gb407 ∧ k_ ≠ s_.2) (.slice A0_2 l0_2.length c0_2) l0_2) ∧ (Kd.N k24 24 w' w.heap.size (fun k_ => (P0_2_ k_ ∨ w.heap.size ≤ k_) ∧ some k_ ≠ (u7 : Value).ownBlock ∧ k_ ≠ gb407 ∧ k_ ≠ s_.2) u6 x6_1) ∧ (Kd.R (Kd.int .i64) 3 w' w.heap.size (fun k_ => (w.heap.size ≤ k_)) u7 x7_1) ∧ (w'.heap[gb407]? = some (.cells #[.int .i64 a0_0, .int .i64 a0_1, .slice A0_2 l0_2.length c0_2] 24 (0, 0))) ∧ (w'.heap[s_.2]? = some (.cells #[.int .i64 0, .int .i64 0, .slice none 0 0] 24 (0, 0))) ∧ (w.heap.size ≤ s_.2) ∧ (w.heap.size ≤ s_.2) ∧ (gb407 ≠ s_.2) ∧ (s_.2 ≠ gb407) ∧ (Below w.heap.size w w')) ?_ ?_
         rotate_left
         · intro hCont
           refine two_ (i := 5) (j := 9) (Ni := some 25) (Nj := some 9) Fl123 Fl122 rfl rfl rfl rfl (two_of HT_.out (by kernel_rfl)) (by decide) (by decide) (fun K hK => ?_) (fun K hK => ?_)
           · skip
             refine goes_ Try.func14 (by kernel_rfl) rfl #[.agg #[.int .i64 a0_0, .int .i64 a0_1, .slice A0_2 l0_2.length c0_2], .int .i64 (rd l1 x8_1)] (by rfl) rfl rfl (by (try simp only [List.map_toArray, List.map_cons, List.map_nil]); first | done | rfl | (simp only [List.length_drop, List.length_take]; rfl)) ?_
             with_reducible refine (chequerref04_Lay.calls k1 a0_0 a0_1 (fun k_ => ((P0_2_ k_ ∨ w.heap.size ≤ k_) ∧ (some k_ ≠ (u6 : Value).ownBlock ∧ (some k_ ≠ (u7 : Value).ownBlock ∧ k_ ≠ gb407)))) _ _ l0_2 (rd l1 x8_1) t409 t410 t411 t414 _ ?side1 A6.out).mono ?_
             (case side1 => exact HO_408002.out)
             rintro e w9 ⟨v412, rfl, ho0, hb⟩
             refine ⟨_, rfl, ?_⟩
             replace HO_408002 := Aside0.mk (Kd.V_below (vp_ HO_408002.out) hb)
             have HO413 := Aside0.mk (Kd.V_lower (Kd.V_mono (ok' := fun k_ => (P0_2_ k_ ∨ w.heap.size ≤ k_) ∧ some k_ ≠ (u6 : Value).ownBlock ∧ some k_ ≠ (u7 : Value).ownBlock ∧ k_ ≠ gb407) ho0 (fun k_ hk_ => ⟨Or.elim hk_ (fun hs_ => hs_.1) (fun hn_ => (.inr (Nat.le_trans (below_size bp_) hn_))), Or.elim hk_ (fun hs_ => hs_.2.1) (fun hn_ => (Kd.fresh' (Kd.N_lt (by (with_reducible repeat (first | apply Kd.N_alloc | apply Kd.N_drewN | apply Kd.N_drew)); exact HO_6.out)) k_ hn_)), Or.elim hk_ (fun hs_ => hs_.2.2.1) (fun hn_ => (Kd.fresh' (Kd.R_lt (rp_ HO_7.out)) k_ hn_)), Or.elim hk_ (fun hs_ => hs_.2.2.2) (fun hn_ => (Kd.freshB (g := gb407) (o := .cells #[.int .i64 a0_0, .int .i64 a0_1, .slice A0_2 l0_2.length c0_2] 24 (0, 0)) (hp_ BK407.out) k_ hn_))⟩)) (below_size bp_))
             replace HO_6 := Aside0.mk (Kd.N_below (by (with_reducible repeat (first | apply Kd.N_alloc | apply Kd.N_drewN | apply Kd.N_drew)); exact HO_6.out) hb)
             replace HO_7 := Aside0.mk (Kd.R_below (rp_ HO_7.out) hb)
             replace BK407 := Aside0.mk (blk_below (hp_ BK407.out) hb)
             replace HB := Aside0.mk (below_step bp_ hb)
             (try clear hb)
             (try clear hb2)
             (try clear hk)
             (try clear hi)
             (try clear ho0)
             refine hK.out _ _ ⟨(blk_cell BK407.out 0).trans rfl, (blk_cell BK407.out 1).trans rfl, (blk_cell BK407.out 2).trans rfl, ((HB.out.cell (World.block_lt_of_cell? w _ hw408_0)).trans hw408_0)⟩ (fun hHeld => ?_)
             clear hK K
             refine norm_ (a' := ?_) ?_ ?_
             rotate_left
             · show Act.put _ (some 25) _ = _
               simp only [Act.put, List.setIfInBounds_toArray, List.set_cons_zero, List.set_cons_succ, i64_w, i32_w]
               rfl
             refine pur_ (i := 6) (N := some 19) Fl125 (any_of HT_.out (by kernel_rfl)) ?_
             refine pur_ (i := 7) (N := some 26) Fl127 (any_of HT_.out (by kernel_rfl)) ?_
             refine pur_ (i := 8) (N := some 27) Fl129 (any_of HT_.out (by kernel_rfl)) ?_
             refine one_ (i := 9) (N := some 9) Fl104 rfl rfl (one_of HT_.out (by kernel_rfl)) (by decide) (fun K hK => ?_)
             refine box_step ?hg (N := 9) ?hd (cs := #[.int .i64 0, .int .i64 0, .slice none 0 0]) (t := 24) ?hr ?_; (case hd => rfl); (case hg => rfl); (case hr => first | (go_simp; done) | (go_simp; rfl))
             intro gb415 hg w10 hbox hb
             replace HO_6 := Aside0.mk (Kd.N_below (Kd.N_elderB (by (with_reducible repeat (first | apply Kd.N_alloc | apply Kd.N_drewN | apply Kd.N_drew)); exact HO_6.out) gb415 (Nat.le_of_eq hg.symm)) hb)
             replace HO_7 := Aside0.mk (Kd.R_below (rp_ HO_7.out) hb)
             replace HO_408002 := Aside0.mk (Kd.V_below (Kd.V_elderB (vp_ HO_408002.out) gb415 (Nat.le_of_eq hg.symm)) hb)
             replace HO413 := Aside0.mk (Kd.V_below (Kd.V_elderB (vp_ HO413.out) gb415 (Nat.le_of_eq hg.symm)) hb)
             have BK415 := Aside0.mk (hbox)
             have GW415 := Aside0.mk ((by rw [hg]; exact (below_size bp_) : w.heap.size ≤ gb415))
             have GE415 := Aside0.mk ((by rw [hg]; exact (below_size bp_) : w.heap.size ≤ gb415))
             replace HB := Aside0.mk (below_step bp_ hb)
             have NB407_415 := Aside0.mk ((nlt_ hg (hp_ BK407.out)))
             have NB415_407 := Aside0.mk ((ngt_ hg (hp_ BK407.out)))
             replace BK407 := Aside0.mk (blk_below (hp_ BK407.out) hb)
             clear hb hbox hg
             refine hK.out _ _ ⟨(blk_cell BK407.out 0).trans rfl, (blk_cell BK407.out 1).trans rfl, (blk_cell BK407.out 2).trans rfl, ((HB.out.cell (World.block_lt_of_cell? w _ hw408_0)).trans hw408_0)⟩ (fun hHeld => ?_)
             clear hK K
             refine norm_ (a' := ?_) ?_ ?_
             rotate_left
             · show Act.put _ (some 9) _ = _
               simp only [Act.put, List.setIfInBounds_toArray, List.set_cons_zero, List.set_cons_succ, i64_w, i32_w]
               rfl
             exact norm_ (by simp only [putAll, Act.put, List.setIfInBounds_toArray, List.set_cons_zero, List.set_cons_succ]) (hCont (v412, gb415) _ ⟨hHeld, (by (with_reducible repeat (first | apply Kd.V_alloc | apply Kd.V_drewN | apply Kd.V_drew)); exact Kd.V_mono HO413.out (fun _ hk => ⟨hk.1.1, ⟨hk.1.2.1, ⟨hk.1.2.2.1, ⟨hk.1.2.2.2, hk.2⟩⟩⟩⟩)), (by (with_reducible repeat (first | apply Kd.V_alloc | apply Kd.V_drewN | apply Kd.V_drew)); exact Kd.V_mono HO_408002.out (fun _ hk => ⟨hk.1.1, ⟨hk.1.2.1, ⟨hk.1.2.2.1, ⟨hk.1.2.2.2, hk.2⟩⟩⟩⟩)), (by (with_reducible repeat (first | apply Kd.N_alloc | apply Kd.N_drewN | apply Kd.N_drew)); exact Kd.N_mono HO_6.out (fun _ hk => ⟨hk.1.1, ⟨hk.1.2.1, ⟨hk.1.2.2, hk.2⟩⟩⟩)), (rp_ HO_7.out), (hp_ BK407.out), (hp_ BK415.out), GW415.out, GE415.out, NB407_415.out, NB415_407.out, bp_⟩)
           · skip
             refine box_step ?hg (N := 9) ?hd (cs := #[.int .i64 0, .int .i64 0, .slice none 0 0]) (t := 24) ?hr ?_; (case hd => rfl); (case hg => rfl); (case hr => first | (go_simp; done) | (go_simp; rfl))
             intro gb415 hg w9 hbox hb
             replace HO_6 := Aside0.mk (Kd.N_below (Kd.N_elderB (by (with_reducible repeat (first | apply Kd.N_alloc | apply Kd.N_drewN | apply Kd.N_drew)); exact HO_6.out) gb415 (Nat.le_of_eq hg.symm)) hb)
             replace HO_7 := Aside0.mk (Kd.R_below (rp_ HO_7.out) hb)
             replace HO_408002 := Aside0.mk (Kd.V_below (Kd.V_elderB (vp_ HO_408002.out) gb415 (Nat.le_of_eq hg.symm)) hb)
             have BK415 := Aside0.mk (hbox)
             have GW415 := Aside0.mk ((by rw [hg]; exact (below_size bp_) : w.heap.size ≤ gb415))
             have GE415 := Aside0.mk ((by rw [hg]; exact (below_size bp_) : w.heap.size ≤ gb415))
             replace HB := Aside0.mk (below_step bp_ hb)
             have NB407_415 := Aside0.mk ((nlt_ hg (hp_ BK407.out)))
             have NB415_407 := Aside0.mk ((ngt_ hg (hp_ BK407.out)))
             replace BK407 := Aside0.mk (blk_below (hp_ BK407.out) hb)
             clear hb hbox hg
             refine hK.out _ _ ⟨(blk_cell BK407.out 0).trans rfl, (blk_cell BK407.out 1).trans rfl, (blk_cell BK407.out 2).trans rfl, ((HB.out.cell (World.block_lt_of_cell? w _ hw408_0)).trans hw408_0)⟩ (fun hHeld => ?_)
             clear hK K
             refine norm_ (a' := ?_) ?_ ?_
             rotate_left
             · show Act.put _ (some 9) _ = _
               simp only [Act.put, List.setIfInBounds_toArray, List.set_cons_zero, List.set_cons_succ, i64_w, i32_w]
               rfl
             refine one_ (i := 5) (N := some 25) Fl124 rfl rfl (one_of HT_.out (by kernel_rfl)) (by decide) (fun K hK => ?_)
             refine goes_ Try.func14 (by kernel_rfl) rfl #[.agg #[.int .i64 a0_0, .int .i64 a0_1, .slice A0_2 l0_2.length c0_2], .int .i64 (rd l1 x8_1)] (by rfl) rfl rfl (by (try simp only [List.map_toArray, List.map_cons, List.map_nil]); first | done | rfl | (simp only [List.length_drop, List.length_take]; rfl)) ?_
             with_reducible refine (chequerref04_Lay.calls k1 a0_0 a0_1 (fun k_ => (((P0_2_ k_ ∨ w.heap.size ≤ k_) ∧ (some k_ ≠ (u6 : Value).ownBlock ∧ (some k_ ≠ (u7 : Value).ownBlock ∧ k_ ≠ gb407))) ∧ k_ ≠ gb415)) _ _ l0_2 (rd l1 x8_1) t409 t410 t411 t414 _ ?side1 A6.out).mono ?_
             (case side1 => exact HO_408002.out)
             rintro e w10 ⟨v412, rfl, ho0, hb⟩
             refine ⟨_, rfl, ?_⟩
             replace HO_408002 := Aside0.mk (Kd.V_below (vp_ HO_408002.out) hb)
             have HO413 := Aside0.mk (Kd.V_lower (Kd.V_mono (ok' := fun k_ => (P0_2_ k_ ∨ w.heap.size ≤ k_) ∧ some k_ ≠ (u6 : Value).ownBlock ∧ some k_ ≠ (u7 : Value).ownBlock ∧ k_ ≠ gb407 ∧ k_ ≠ gb415) ho0 (fun k_ hk_ => ⟨Or.elim hk_ (fun hs_ => hs_.1.1) (fun hn_ => (.inr (Nat.le_trans (below_size bp_) hn_))), Or.elim hk_ (fun hs_ => hs_.1.2.1) (fun hn_ => (Kd.fresh' (Kd.N_lt (by (with_reducible repeat (first | apply Kd.N_alloc | apply Kd.N_drewN | apply Kd.N_drew)); exact HO_6.out)) k_ hn_)), Or.elim hk_ (fun hs_ => hs_.1.2.2.1) (fun hn_ => (Kd.fresh' (Kd.R_lt (rp_ HO_7.out)) k_ hn_)), Or.elim hk_ (fun hs_ => hs_.1.2.2.2) (fun hn_ => (Kd.freshB (g := gb407) (o := .cells #[.int .i64 a0_0, .int .i64 a0_1, .slice A0_2 l0_2.length c0_2] 24 (0, 0)) (hp_ BK407.out) k_ hn_)), Or.elim hk_ (fun hs_ => hs_.2) (fun hn_ => (Kd.freshB (g := gb415) (o := .cells #[.int .i64 0, .int .i64 0, .slice none 0 0] 24 (0, 0)) (hp_ BK415.out) k_ hn_))⟩)) (below_size bp_))
             replace HO_6 := Aside0.mk (Kd.N_below (by (with_reducible repeat (first | apply Kd.N_alloc | apply Kd.N_drewN | apply Kd.N_drew)); exact HO_6.out) hb)
             replace HO_7 := Aside0.mk (Kd.R_below (rp_ HO_7.out) hb)
             replace BK407 := Aside0.mk (blk_below (hp_ BK407.out) hb)
             replace BK415 := Aside0.mk (blk_below (hp_ BK415.out) hb)
             replace HB := Aside0.mk (below_step bp_ hb)
             (try clear hb)
             (try clear hb2)
             (try clear hk)
             (try clear hi)
             (try clear ho0)
             refine hK.out _ _ ⟨(blk_cell BK407.out 0).trans rfl, (blk_cell BK407.out 1).trans rfl, (blk_cell BK407.out 2).trans rfl, ((HB.out.cell (World.block_lt_of_cell? w _ hw408_0)).trans hw408_0)⟩ (fun hHeld => ?_)
             clear hK K
             refine norm_ (a' := ?_) ?_ ?_
             rotate_left
             · show Act.put _ (some 25) _ = _
               simp only [Act.put, List.setIfInBounds_toArray, List.set_cons_zero, List.set_cons_succ, i64_w, i32_w]
               rfl
             refine pur_ (i := 6) (N := some 19) Fl126 (any_of HT_.out (by kernel_rfl)) ?_
             refine pur_ (i := 7) (N := some 26) Fl128 (any_of HT_.out (by kernel_rfl)) ?_
             refine pur_ (i := 8) (N := some 27) Fl104 (any_of HT_.out (by kernel_rfl)) ?_
             exact norm_ (by simp only [putAll, Act.put, List.setIfInBounds_toArray, List.set_cons_zero, List.set_cons_succ]) (hCont (v412, gb415) _ ⟨hHeld, (vp_ HO413.out), (by (with_reducible repeat (first | apply Kd.V_alloc | apply Kd.V_drewN | apply Kd.V_drew)); exact Kd.V_mono HO_408002.out (fun _ hk => ⟨hk.1.1, ⟨hk.1.2.1, ⟨hk.1.2.2.1, ⟨hk.1.2.2.2, hk.2⟩⟩⟩⟩)), (by (with_reducible repeat (first | apply Kd.N_alloc | apply Kd.N_drewN | apply Kd.N_drew)); exact Kd.N_mono HO_6.out (fun _ hk => ⟨hk.1.1, ⟨hk.1.2.1, ⟨hk.1.2.2, hk.2⟩⟩⟩)), (rp_ HO_7.out), (hp_ BK407.out), (hp_ BK415.out), GW415.out, GE415.out, NB407_415.out, NB415_407.out, bp_⟩)
         rintro ⟨v412, gb415⟩ w11 ⟨hS_, h0_, h1_, h2_, h3_, h4_, h5_, h6_, h7_, h8_, h9_, h10_⟩
         have HO413 : Aside0 (Kd.V (Kd.int .u64) 41 w11 w.heap.size (fun k_ => (P0_2_ k_ ∨ w.heap.size ≤ k_) ∧ some k_ ≠ (u6 : Value).ownBlock ∧ some k_ ≠ (u7 : Value).ownBlock ∧ k_ ≠ gb407 ∧ k_ ≠ gb415) v412 t411) := ⟨h0_⟩
         replace HO_408002 : Aside0 (Kd.V (Kd.int .u64) 41 w11 w.heap.size (fun k_ => (P0_2_ k_ ∨ w.heap.size ≤ k_) ∧ some k_ ≠ (u6 : Value).ownBlock ∧ some k_ ≠ (u7 : Value).ownBlock ∧ k_ ≠ gb407 ∧ k_ ≠ gb415) (.slice A0_2 l0_2.length c0_2) l0_2) := ⟨h1_⟩
         replace HO_6 : Aside0 (Kd.N k24 24 w11 w.heap.size (fun k_ => (P0_2_ k_ ∨ w.heap.size ≤ k_) ∧ some k_ ≠ (u7 : Value).ownBlock ∧ k_ ≠ gb407 ∧ k_ ≠ gb415) u6 x6_1) := ⟨h2_⟩
         replace HO_7 : Aside0 (Kd.R (Kd.int .i64) 3 w11 w.heap.size (fun k_ => (w.heap.size ≤ k_)) u7 x7_1) := ⟨h3_⟩
         replace BK407 : Aside0 (w11.heap[gb407]? = some (.cells #[.int .i64 a0_0, .int .i64 a0_1, .slice A0_2 l0_2.length c0_2] 24 (0, 0))) := ⟨h4_⟩
         have BK415 : Aside0 (w11.heap[gb415]? = some (.cells #[.int .i64 0, .int .i64 0, .slice none 0 0] 24 (0, 0))) := ⟨h5_⟩
         have GW415 : Aside0 (w.heap.size ≤ gb415) := ⟨h6_⟩
         have GE415 : Aside0 (w.heap.size ≤ gb415) := ⟨h7_⟩
         have NB407_415 : Aside0 (gb407 ≠ gb415) := ⟨h8_⟩
         have NB415_407 : Aside0 (gb415 ≠ gb407) := ⟨h9_⟩
         replace HB : Aside0 (Below w.heap.size w w11) := ⟨h10_⟩
         clear h0_ h1_ h2_ h3_ h4_ h5_ h6_ h7_ h8_ h9_ h10_
         have hHeld : w11.cell? ⟨gb407, 0, none⟩ = some (.int .i64 a0_0) ∧ w11.cell? ⟨gb407, 1, none⟩ = some (.int .i64 a0_1) ∧ w11.cell? ⟨gb407, 2, none⟩ = some (.slice A0_2 l0_2.length c0_2) ∧ w11.cell? (ad408.add (x8_1).toNat) = some (.int .i64 (rd l1 x8_1)) := hS_
         obtain ⟨Ao14, co14, eo14⟩ := Kd.V_slice HO413.out
         (first | subst eo14 | (injection eo14 with f1_ f2_ f3_; have f4_ := f1_.symm; have f5_ := f3_.symm; clear f1_ f2_ f3_; subst f4_; subst f5_))
         refine norm_ (a' := ?_) ?_ ?_
         rotate_left
         · simp only [putAll, Act.put, List.setIfInBounds_toArray, List.set_cons_zero, List.set_cons_succ]
           rfl
         refine one_ (i := 10) (N := none) Fl130 rfl rfl (one_of HT_.out (by kernel_rfl)) (by decide) (fun K hK => ?_)
         have hs12 : w11.cell? ⟨gb415, 0, none⟩ = some (.int .i64 0) := (blk_cell BK415.out 0).trans rfl
         have hfs12 := blk_frozen BK415.out 0
         have hns12_0 := NB407_415.out
         have hms12_0 := NB415_407.out
         have hs13 : w11.cell? ⟨gb415, 1, none⟩ = some (.int .i64 0) := (blk_cell BK415.out 1).trans rfl
         have hfs13 := blk_frozen BK415.out 1
         have hns13_0 := NB407_415.out
         have hms13_0 := NB415_407.out
         have hs15 : w11.cell? ⟨gb415, 2, none⟩ = some (.slice none 0 0) := (blk_cell BK415.out 2).trans rfl
         have hfs15 := blk_frozen BK415.out 2
         have hns15_0 := NB407_415.out
         have hms15_0 := NB415_407.out
         refine skip_ (w1 := ?_) (by rfl) rfl ?_ ?_
         rotate_left
         · go_simp
           rfl
         refine hK.out _ _ ⟨((cell_far (p := ⟨gb415, _, none⟩) NB407_415.out _).trans (((cell_far (p := ⟨gb415, _, none⟩) NB407_415.out _).trans (((cell_far (p := ⟨gb415, _, none⟩) NB407_415.out _).trans (hHeld.1)))))), ((cell_far (p := ⟨gb415, _, none⟩) NB407_415.out _).trans (((cell_far (p := ⟨gb415, _, none⟩) NB407_415.out _).trans (((cell_far (p := ⟨gb415, _, none⟩) NB407_415.out _).trans (hHeld.2.1)))))), ((cell_far (p := ⟨gb415, _, none⟩) NB407_415.out _).trans (((cell_far (p := ⟨gb415, _, none⟩) NB407_415.out _).trans (((cell_far (p := ⟨gb415, _, none⟩) NB407_415.out _).trans (hHeld.2.2.1)))))), ((cell_far (p := ⟨gb415, _, none⟩) (by first | exact Nat.ne_of_lt (Nat.lt_of_lt_of_le (by have := World.block_lt_of_cell? _ _ hw408_0; first | rwa [add_block] at this | exact this) GW415.out) | (rw [add_block]; exact Nat.ne_of_lt (Nat.lt_of_lt_of_le (by have := World.block_lt_of_cell? _ _ hw408_0; first | rwa [add_block] at this | exact this) GW415.out)) | (show (Addr.add _ _).block ≠ _; rw [add_block]; exact Nat.ne_of_lt (Nat.lt_of_lt_of_le (by have := World.block_lt_of_cell? _ _ hw408_0; first | rwa [add_block] at this | exact this) GW415.out)) | (dsimp only; exact Nat.ne_of_lt (Nat.lt_of_lt_of_le (by have := World.block_lt_of_cell? _ _ hw408_0; first | rwa [add_block] at this | exact this) GW415.out))) _).trans (((cell_far (p := ⟨gb415, _, none⟩) (by first | exact Nat.ne_of_lt (Nat.lt_of_lt_of_le (by have := World.block_lt_of_cell? _ _ hw408_0; first | rwa [add_block] at this | exact this) GW415.out) | (rw [add_block]; exact Nat.ne_of_lt (Nat.lt_of_lt_of_le (by have := World.block_lt_of_cell? _ _ hw408_0; first | rwa [add_block] at this | exact this) GW415.out)) | (show (Addr.add _ _).block ≠ _; rw [add_block]; exact Nat.ne_of_lt (Nat.lt_of_lt_of_le (by have := World.block_lt_of_cell? _ _ hw408_0; first | rwa [add_block] at this | exact this) GW415.out)) | (dsimp only; exact Nat.ne_of_lt (Nat.lt_of_lt_of_le (by have := World.block_lt_of_cell? _ _ hw408_0; first | rwa [add_block] at this | exact this) GW415.out))) _).trans (((cell_far (p := ⟨gb415, _, none⟩) (by first | exact Nat.ne_of_lt (Nat.lt_of_lt_of_le (by have := World.block_lt_of_cell? _ _ hw408_0; first | rwa [add_block] at this | exact this) GW415.out) | (rw [add_block]; exact Nat.ne_of_lt (Nat.lt_of_lt_of_le (by have := World.block_lt_of_cell? _ _ hw408_0; first | rwa [add_block] at this | exact this) GW415.out)) | (show (Addr.add _ _).block ≠ _; rw [add_block]; exact Nat.ne_of_lt (Nat.lt_of_lt_of_le (by have := World.block_lt_of_cell? _ _ hw408_0; first | rwa [add_block] at this | exact this) GW415.out)) | (dsimp only; exact Nat.ne_of_lt (Nat.lt_of_lt_of_le (by have := World.block_lt_of_cell? _ _ hw408_0; first | rwa [add_block] at this | exact this) GW415.out))) _).trans (hHeld.2.2.2))))))⟩ (fun hHeld => ?_)
         clear hK K
         refine pur_ (i := 11) (N := some 10) Fl131 (any_of HT_.out (by kernel_rfl)) ?_
         refine done_ (done_of HT_.out (by kernel_rfl)) ?_
         try go_wp2
         go_loopg [11, 12] k1 (fun kq v11 v12 w' => ∃ (x11_2 : Int) (x12_2 : Int), v11 = .int .i64 x11_2 ∧ v12 = .int .i64 x12_2 ∧ Aside0 (chequerref04_Orbit.l1 kq l1 x6_1 x7_1 x8_1 x11_2 x12_2 a0_0 a0_1 l0_2 t409 t410 t411 = some (r1, r2)) ∧ Aside0 (kq ≤ k1) ∧ Aside0 (Kd.N k24 24 w' w.heap.size (fun k_ => (P0_2_ k_ ∨ w.heap.size ≤ k_) ∧ some k_ ≠ (u7 : Value).ownBlock ∧ k_ ≠ gb407 ∧ k_ ≠ gb415) u6 x6_1) ∧ Aside0 (Kd.R (Kd.int .i64) 3 w' w.heap.size (fun k_ => (w.heap.size ≤ k_)) u7 x7_1) ∧ Aside0 (Kd.V (Kd.int .u64) 41 w' w.heap.size (fun k_ => (P0_2_ k_ ∨ w.heap.size ≤ k_) ∧ some k_ ≠ (u6 : Value).ownBlock ∧ some k_ ≠ (u7 : Value).ownBlock ∧ k_ ≠ gb407 ∧ k_ ≠ gb415) (.slice A0_2 l0_2.length c0_2) l0_2) ∧ Aside0 (Kd.V (Kd.int .u64) 41 w' w.heap.size (fun k_ => (P0_2_ k_ ∨ w.heap.size ≤ k_) ∧ some k_ ≠ (u6 : Value).ownBlock ∧ some k_ ≠ (u7 : Value).ownBlock ∧ k_ ≠ gb407 ∧ k_ ≠ gb415) (.slice Ao14 t411.length co14) t411) ∧ Aside0 (w'.heap[gb407]? = some (.cells #[.int .i64 a0_0, .int .i64 a0_1, (.slice A0_2 l0_2.length c0_2)] 24 (0, 0))) ∧ Aside0 (w'.heap[gb415]? = some (.cells #[.int .i64 t409, .int .i64 t410, (.slice Ao14 t411.length co14)] 24 (0, 0))) ∧ Aside0 (Below w.heap.size w w'))
         case atStart => exact ⟨((-1)), (0), (by first | rfl | (simp; done) | (simp [*]; done)), (by first | rfl | (simp; done) | (simp [*]; done)), H', ⟨Nat.le_refl _⟩, ⟨by (with_reducible repeat (first | apply Kd.N_alloc | apply Kd.N_drewN | apply Kd.N_drew)); exact Kd.N_mono (Kd.N_far (p := ⟨gb415, 2, none⟩) (Kd.N_far (p := ⟨gb415, 1, none⟩) (Kd.N_far (p := ⟨gb415, 0, none⟩) (Kd.N_mono HO_6.out (fun k_ hk => (⟨hk, hk.2.2.2⟩ : _ ∧ k_ ≠ gb415))) (fun _ hk => hk.2) (.int .i64 t409)) (fun _ hk => hk.2) (.int .i64 t410)) (fun _ hk => hk.2) (.slice Ao14 t411.length co14)) (fun _ hk => ⟨hk.1.1, ⟨hk.1.2.1, ⟨hk.1.2.2.1, hk.1.2.2.2⟩⟩⟩)⟩, ⟨rf_ HO_7.out BK415.out (by decide) (fun _ hk => hk.1)⟩, ⟨by (with_reducible repeat (first | apply Kd.V_alloc | apply Kd.V_drewN | apply Kd.V_drew)); exact Kd.V_mono (Kd.V_far (p := ⟨gb415, 2, none⟩) (Kd.V_far (p := ⟨gb415, 1, none⟩) (Kd.V_far (p := ⟨gb415, 0, none⟩) (Kd.V_mono HO_408002.out (fun k_ hk => (⟨hk, hk.2.2.2.2⟩ : _ ∧ k_ ≠ gb415))) (fun _ hk => hk.2) (.int .i64 t409)) (fun _ hk => hk.2) (.int .i64 t410)) (fun _ hk => hk.2) (.slice Ao14 t411.length co14)) (fun _ hk => ⟨hk.1.1, ⟨hk.1.2.1, ⟨hk.1.2.2.1, ⟨hk.1.2.2.2.1, hk.1.2.2.2.2⟩⟩⟩⟩)⟩, ⟨by (with_reducible repeat (first | apply Kd.V_alloc | apply Kd.V_drewN | apply Kd.V_drew)); exact Kd.V_mono (Kd.V_far (p := ⟨gb415, 2, none⟩) (Kd.V_far (p := ⟨gb415, 1, none⟩) (Kd.V_far (p := ⟨gb415, 0, none⟩) (Kd.V_mono HO413.out (fun k_ hk => (⟨hk, hk.2.2.2.2⟩ : _ ∧ k_ ≠ gb415))) (fun _ hk => hk.2) (.int .i64 t409)) (fun _ hk => hk.2) (.int .i64 t410)) (fun _ hk => hk.2) (.slice Ao14 t411.length co14)) (fun _ hk => ⟨hk.1.1, ⟨hk.1.2.1, ⟨hk.1.2.2.1, ⟨hk.1.2.2.2.1, hk.1.2.2.2.2⟩⟩⟩⟩)⟩, ⟨hf_ BK407.out NB407_415.out⟩, ⟨by (with_reducible repeat (first | refine blk_drewN ?_ _ | refine blk_drew ?_ | refine blk_alloc ?_ _)); refine blk_put (cs := #[.int .i64 t409, .int .i64 t410, .slice none 0 0]) ?_ 2 _ rfl; (with_reducible repeat (first | refine blk_drewN ?_ _ | refine blk_drew ?_ | refine blk_alloc ?_ _)); refine blk_put (cs := #[.int .i64 t409, .int .i64 0, .slice none 0 0]) ?_ 1 _ rfl; (with_reducible repeat (first | refine blk_drewN ?_ _ | refine blk_drew ?_ | refine blk_alloc ?_ _)); refine blk_put (cs := #[.int .i64 0, .int .i64 0, .slice none 0 0]) ?_ 0 _ rfl; (with_reducible repeat (first | refine blk_drewN ?_ _ | refine blk_drew ?_ | refine blk_alloc ?_ _)); exact BK415.out⟩, ⟨bp_⟩⟩
         case round =>
          clear H'
          try clear c1
          try clear c2
          try clear p2
          try clear c4
          try clear c4b0
          try clear p4
          try clear q4
          try clear hx4
          try clear c5
          try clear c5b0
          try clear p6
          try clear c7
          try clear c7b0
          try clear c7b1
          try clear c14
          try clear hx408_0
          try clear p2
          try clear p408
          try clear q408
          obtain ⟨x11_2, x12_2, rfl, rfl, HA, HK2, HO_6, HO_7, HO_408002, HO_416002, BK407, BK415, HB⟩ := hrel
          cases gk with
          | zero => exact absurd HA.out (by simp [chequerref04_Orbit.l1])
          | succ k2 =>
           have H := HA.out
           clear HA
           simp only [chequerref04_Orbit.l1] at H
           by_cases c16 : x12_2 < (x6_1.length : Int)
           · rw [if_pos c16] at H
             have c16b0 : decide (x12_2 < (x6_1.length : Int)) = true := decide_eq_true c16
             clear c16
             by_cases c17 : x11_2 < 0
             · rw [if_pos c17] at H
               have c17b0 : decide (x11_2 < 0) = true := decide_eq_true c17
               clear c17
               by_cases c18 : 0 ≤ x12_2
               · rw [if_pos c18] at H
                 have c18b0 : decide (0 ≤ x12_2) = true := decide_eq_true c18
                 clear c18
                 replace H := Option.bind_eq_some_iff.mp H
                 obtain ⟨t420, A190, H⟩ := H
                 replace H : (if t420 = true then (chequerref04_Orbit.l1 k2 l1 x6_1 x7_1 x8_1 x12_2 (wrap64 (x12_2 + 1)) a0_0 a0_1 l0_2 t409 t410 t411) else (chequerref04_Orbit.l1 k2 l1 x6_1 x7_1 x8_1 x11_2 (wrap64 (x12_2 + 1)) a0_0 a0_1 l0_2 t409 t410 t411)) = some (r1, r2) := H
                 have A19 := Aside0.mk A190
                 clear A190
                 by_cases c20 : t420 = true
                 · subst c20
                   have H1 : (chequerref04_Orbit.l1 k2 l1 x6_1 x7_1 x8_1 x12_2 (wrap64 (x12_2 + 1)) a0_0 a0_1 l0_2 t409 t410 t411) = some (r1, r2) := by rw [if_pos rfl] at H; exact H
                   clear H
                   have H := H1
                   clear H1
                   have H' := Aside0.mk H
                   clear H
                   obtain ⟨Ao21, co21, eo21⟩ := Kd.N_slice HO_6.out
                   subst eo21
                   try go_wp2
                   (try (rw [drewN_self wr]; generalize hq_ : World.drewN wr _ = wr; have n0_ := Aside0.mk (qvp_ hq_ HO_408002.out); have n1_ := Aside0.mk (qvp_ hq_ HO_416002.out); have n2_ : Aside0 (Kd.N k24 24 wr w.heap.size (fun k_ => (P0_2_ k_ ∨ w.heap.size ≤ k_) ∧ some k_ ≠ (u7 : Value).ownBlock ∧ k_ ≠ gb407 ∧ k_ ≠ gb415) (.slice Ao21 x6_1.length co21) x6_1) := ⟨by rw [← hq_]; exact (by (with_reducible repeat (first | apply Kd.N_alloc | apply Kd.N_drewN | apply Kd.N_drew)); exact HO_6.out)⟩; have n3_ := Aside0.mk (qrp_ hq_ HO_7.out); have n4_ := Aside0.mk (qhp_ hq_ BK407.out); have n5_ := Aside0.mk (qhp_ hq_ BK415.out); have n6_ : Aside0 (Below w.heap.size w wr) := ⟨qbp_ hq_⟩; clear HO_408002 HO_416002 HO_6 HO_7 BK407 BK415 HB hq_; have HO_408002 := n0_; have HO_416002 := n1_; have HO_6 := n2_; have HO_7 := n3_; have BK407 := n4_; have BK415 := n5_; have HB := n6_; clear n0_ n1_ n2_ n3_ n4_ n5_ n6_))
                   replace HO_6 := Aside0.mk (Kd.N_drew HO_6.out)
                   replace HO_7 := Aside0.mk (Kd.R_drew HO_7.out)
                   replace HO_408002 := Aside0.mk (Kd.V_drew HO_408002.out)
                   replace HO_416002 := Aside0.mk (Kd.V_drew HO_416002.out)
                   replace BK407 := Aside0.mk (blk_drew BK407.out)
                   replace BK415 := Aside0.mk (blk_drew BK415.out)
                   replace HB := Aside0.mk (below_drew1 HB.out)
                   have p419 : 0 ≤ (x12_2 : Int) := of_decide_eq_true (by first | (with_reducible assumption) | assumption)
                   have q419 : x12_2 < (x6_1.length : Int) := of_decide_eq_true (by first | (with_reducible assumption) | assumption)
                   obtain ⟨ad419, A419_2, c419_2, e419, hx419_0, hx419_1, hx419_2, hl419_2, hi419_2⟩ := at_T24 (Kd.N_reads' HO_6.out).2.2 x12_2 p419 q419
                   cases e419
                   obtain ⟨ce419, hce419, hMe419, hcc419⟩ := Kd.N_get HO_6.out z24 x12_2 p419 (by first | exact q419 | exact of_decide_eq_true (by first | (with_reducible assumption) | assumption) | (have e_ := (Kd.N_reads' HO_6.out).1; omega))
                   obtain ⟨ua419_2, uc419_2, rfl, ul419_2, ge419_2⟩ := k24_openF hMe419
                   have hv419_2 := hcc419 2 _ rfl
                   rw [add_field _ _ 2 (by omega)] at hv419_2
                   replace hv419_2 := Option.some.inj (hv419_2.symm.trans hx419_2)
                   injection hv419_2 with hva_ hvn_ hvc_
                   rw [hva_] at ge419_2
                   rw [hvc_] at ul419_2
                   have HL419_2 := Aside0.mk (show Kd.V (Kd.int .u64) 41 _ w.heap.size _ _ ((rd_T24 x6_1 x12_2).f2) from Kd.V_mk ul419_2 ge419_2)
                   clear hva_ hvn_ hvc_ ge419_2 ul419_2
                   clear hcc419 hce419
                   have HR419_2 := Aside0.mk hi419_2
                   have HC419_2 := Aside0.mk hl419_2
                   clear hi419_2 hl419_2
                   replace p419 := eq_true p419
                   replace q419 := eq_true q419
                   refine start_ (n := 10) (S := fun w' => w'.cell? ⟨gb415, 0, none⟩ = some (.int .i64 t409) ∧ w'.cell? ⟨gb415, 1, none⟩ = some (.int .i64 t410) ∧ w'.cell? ⟨gb415, 2, none⟩ = some (.slice Ao14 t411.length co14) ∧ w'.cell? (ad419.add ((x12_2).toNat * 3)) = some (.int .i64 ((rd_T24 x6_1 x12_2).f0)) ∧ w'.cell? ⟨(ad419.add ((x12_2).toNat * 3)).block, (ad419.add ((x12_2).toNat * 3)).off + 1, none⟩ = some (.int .i64 ((rd_T24 x6_1 x12_2).f1)) ∧ w'.cell? ⟨(ad419.add ((x12_2).toNat * 3)).block, (ad419.add ((x12_2).toNat * 3)).off + 2, none⟩ = some (.slice A419_2 ((rd_T24 x6_1 x12_2).f2).length c419_2)) (ds := []) Fl105 (by kernel_rfl) rfl rfl ⟨(blk_cell BK415.out 0).trans rfl, (blk_cell BK415.out 1).trans rfl, (blk_cell BK415.out 2).trans rfl, hx419_0, hx419_1, hx419_2⟩ (fun hHeld => ?_); refine with_tabW chequerref04_Orbit.tab13 chequerref04_Orbit.bits13 (fun HT_ HW_ => ?_)
                   generalize wr.drew = w22 at HO_6 HO_7 HO_408002 HO_416002 BK407 BK415 HB HL419_2 HR419_2 hx419_0 hx419_1 hx419_2 hHeld ⊢
                   refine pur_ (i := 0) (N := some 39) Fl106 (any_of HT_.out (by kernel_rfl)) ?_
                   refine pur_ (i := 1) (N := some 40) Fl107 (any_of HT_.out (by kernel_rfl)) ?_
                   refine pur_ (i := 2) (N := some 41) Fl108 (any_of HT_.out (by kernel_rfl)) ?_
                   refine pur_ (i := 3) (N := some 42) Fl109 (any_of HT_.out (by kernel_rfl)) ?_
                   refine pur_ (i := 4) (N := some 43) Fl110 (any_of HT_.out (by kernel_rfl)) ?_
                   refine pur_ (i := 5) (N := some 44) Fl111 (any_of HT_.out (by kernel_rfl)) ?_
                   refine take_ (i := 6) (N := some 45) (v := ?_) (a' := ?_) Fl112 rfl rfl (take_ofW HT_.out HW_.out (by kernel_rfl)) (fun _ _ _ h => h) (Or.inl ⟨by rfl, ?_⟩) hHeld ?_ ?_
                   rotate_left
                   · rintro w' ⟨s0, s1, s2, s3, s4, s5⟩
                     go_simp
                     with_reducible rfl
                   rotate_left
                   · simp only [Act.put, List.setIfInBounds_toArray, List.set_cons_zero, List.set_cons_succ, i64_w, i32_w]
                     rfl
                   refine take_ (i := 7) (N := some 46) (v := ?_) (a' := ?_) Fl113 rfl rfl (take_ofW HT_.out HW_.out (by kernel_rfl)) (fun _ _ _ h => h) (Or.inl ⟨by rfl, ?_⟩) hHeld ?_ ?_
                   rotate_left
                   · rintro w' ⟨s0, s1, s2, s3, s4, s5⟩
                     go_simp
                     with_reducible rfl
                   rotate_left
                   · simp only [Act.put, List.setIfInBounds_toArray, List.set_cons_zero, List.set_cons_succ, i64_w, i32_w]
                     rfl
                   refine one_ (i := 8) (N := some 47) Fl114 rfl rfl (one_of HT_.out (by kernel_rfl)) (by decide) (fun K hK => ?_)
                   refine goes_ Try.func16 (by kernel_rfl) rfl #[.agg #[.int .i64 ((rd_T24 x6_1 x12_2).f0), .int .i64 ((rd_T24 x6_1 x12_2).f1), .slice A419_2 ((rd_T24 x6_1 x12_2).f2).length c419_2], .agg #[.int .i64 t409, .int .i64 t410, .slice Ao14 t411.length co14]] (by rfl) rfl rfl (by (try simp only [List.map_toArray, List.map_cons, List.map_nil]); first | done | rfl | (simp only [List.length_drop, List.length_take]; rfl)) ?_
                   with_reducible refine (chequerref03_Same.calls k2 ((rd_T24 x6_1 x12_2).f0) ((rd_T24 x6_1 x12_2).f1) _ _ ((rd_T24 x6_1 x12_2).f2) t409 t410 _ _ t411 true _ ?side1 ?side2 ?side3 ?side4 A19.out).mono ?_
                   (case side1 => repeat (first | exact (by repeat (first | (with_reducible exact HR419_2.out) | (with_reducible refine Kd.C_alloc ?_ _) | (with_reducible refine Kd.C_drewN ?_ _) | (with_reducible refine Kd.C_drew ?_) | exact HR419_2.out)) | (with_reducible refine Kd.C_alloc ?_ _) | (with_reducible refine Kd.C_drewN ?_ _) | (with_reducible refine Kd.C_drew ?_)))
                   (case side2 => exact HC419_2.out)
                   (case side3 => exact cp_ (Kd.V_reads' HO_416002.out).2.2)
                   (case side4 => exact (Kd.V_reads' HO_416002.out).2.1)
                   rintro e w23 ⟨rfl, hb⟩
                   have HS3_ := (hb.cell (World.block_lt_of_cell? _ _ (hHeld.2.2.2.1))).trans (hHeld.2.2.2.1)
                   have HS4_ := (hb.cell (World.block_lt_of_cell? _ _ (hHeld.2.2.2.2.1))).trans (hHeld.2.2.2.2.1)
                   have HS5_ := (hb.cell (World.block_lt_of_cell? _ _ (hHeld.2.2.2.2.2))).trans (hHeld.2.2.2.2.2)
                   refine ⟨_, rfl, ?_⟩
                   replace HO_6 := Aside0.mk (Kd.N_below (by (with_reducible repeat (first | apply Kd.N_alloc | apply Kd.N_drewN | apply Kd.N_drew)); exact HO_6.out) hb)
                   replace HO_7 := Aside0.mk (Kd.R_below (rp_ HO_7.out) hb)
                   replace HO_408002 := Aside0.mk (Kd.V_below (vp_ HO_408002.out) hb)
                   replace HO_416002 := Aside0.mk (Kd.V_below (vp_ HO_416002.out) hb)
                   replace HL419_2 := Aside0.mk (Kd.V_below (vp_ HL419_2.out) hb)
                   replace BK407 := Aside0.mk (blk_below (hp_ BK407.out) hb)
                   replace BK415 := Aside0.mk (blk_below (hp_ BK415.out) hb)
                   replace HR419_2 := Aside0.mk (Kd.C_below (by repeat (first | (with_reducible exact HR419_2.out) | (with_reducible refine Kd.C_alloc ?_ _) | (with_reducible refine Kd.C_drewN ?_ _) | (with_reducible refine Kd.C_drew ?_) | exact HR419_2.out)) hb)
                   replace HB := Aside0.mk (below_step bp_ hb)
                   (try clear hb)
                   (try clear hb2)
                   (try clear hk)
                   (try clear hi)
                   refine hK.out _ _ ⟨(blk_cell BK415.out 0).trans rfl, (blk_cell BK415.out 1).trans rfl, (blk_cell BK415.out 2).trans rfl, HS3_, HS4_, HS5_⟩ (fun hHeld => ?_)
                   clear hK K
                   refine norm_ (a' := ?_) ?_ ?_
                   rotate_left
                   · show Act.put _ (some 47) _ = _
                     simp only [Act.put, List.setIfInBounds_toArray, List.set_cons_zero, List.set_cons_succ, i64_w, i32_w]
                     rfl
                   refine pur_ (i := 9) (N := some 48) Fl115 (any_of HT_.out (by kernel_rfl)) ?_
                   refine done_ (done_of HT_.out (by kernel_rfl)) ?_
                   try go_wp2
                   go_roundg k2
                   case measure => have := HK1.out; have := HK2.out; omega
                   case rel => exact ⟨(x12_2), (wrap64 (x12_2 + 1)), (by first | rfl | (simp; done) | (simp [*]; done)), (by first | rfl | (simp; done) | (simp [*]; done)), H', ⟨by have := HK1.out; have := HK2.out; omega⟩, ⟨by (with_reducible repeat (first | apply Kd.N_alloc | apply Kd.N_drewN | apply Kd.N_drew)); exact HO_6.out⟩, ⟨rp_ HO_7.out⟩, ⟨vp_ HO_408002.out⟩, ⟨vp_ HO_416002.out⟩, ⟨hp_ BK407.out⟩, ⟨hp_ BK415.out⟩, ⟨bp_⟩⟩
                 · replace c20 := Bool.eq_false_iff.mpr c20
                   subst c20
                   have H1 : (chequerref04_Orbit.l1 k2 l1 x6_1 x7_1 x8_1 x11_2 (wrap64 (x12_2 + 1)) a0_0 a0_1 l0_2 t409 t410 t411) = some (r1, r2) := by rw [if_neg (show ¬ (false = true) by decide)] at H; exact H
                   clear H
                   have H := H1
                   clear H1
                   have H' := Aside0.mk H
                   clear H
                   obtain ⟨Ao24, co24, eo24⟩ := Kd.N_slice HO_6.out
                   subst eo24
                   try go_wp2
                   (try (rw [drewN_self wr]; generalize hq_ : World.drewN wr _ = wr; have n0_ := Aside0.mk (qvp_ hq_ HO_408002.out); have n1_ := Aside0.mk (qvp_ hq_ HO_416002.out); have n2_ : Aside0 (Kd.N k24 24 wr w.heap.size (fun k_ => (P0_2_ k_ ∨ w.heap.size ≤ k_) ∧ some k_ ≠ (u7 : Value).ownBlock ∧ k_ ≠ gb407 ∧ k_ ≠ gb415) (.slice Ao24 x6_1.length co24) x6_1) := ⟨by rw [← hq_]; exact (by (with_reducible repeat (first | apply Kd.N_alloc | apply Kd.N_drewN | apply Kd.N_drew)); exact HO_6.out)⟩; have n3_ := Aside0.mk (qrp_ hq_ HO_7.out); have n4_ := Aside0.mk (qhp_ hq_ BK407.out); have n5_ := Aside0.mk (qhp_ hq_ BK415.out); have n6_ : Aside0 (Below w.heap.size w wr) := ⟨qbp_ hq_⟩; clear HO_408002 HO_416002 HO_6 HO_7 BK407 BK415 HB hq_; have HO_408002 := n0_; have HO_416002 := n1_; have HO_6 := n2_; have HO_7 := n3_; have BK407 := n4_; have BK415 := n5_; have HB := n6_; clear n0_ n1_ n2_ n3_ n4_ n5_ n6_))
                   replace HO_6 := Aside0.mk (Kd.N_drew HO_6.out)
                   replace HO_7 := Aside0.mk (Kd.R_drew HO_7.out)
                   replace HO_408002 := Aside0.mk (Kd.V_drew HO_408002.out)
                   replace HO_416002 := Aside0.mk (Kd.V_drew HO_416002.out)
                   replace BK407 := Aside0.mk (blk_drew BK407.out)
                   replace BK415 := Aside0.mk (blk_drew BK415.out)
                   replace HB := Aside0.mk (below_drew1 HB.out)
                   have p419 : 0 ≤ (x12_2 : Int) := of_decide_eq_true (by first | (with_reducible assumption) | assumption)
                   have q419 : x12_2 < (x6_1.length : Int) := of_decide_eq_true (by first | (with_reducible assumption) | assumption)
                   obtain ⟨ad419, A419_2, c419_2, e419, hx419_0, hx419_1, hx419_2, hl419_2, hi419_2⟩ := at_T24 (Kd.N_reads' HO_6.out).2.2 x12_2 p419 q419
                   cases e419
                   obtain ⟨ce419, hce419, hMe419, hcc419⟩ := Kd.N_get HO_6.out z24 x12_2 p419 (by first | exact q419 | exact of_decide_eq_true (by first | (with_reducible assumption) | assumption) | (have e_ := (Kd.N_reads' HO_6.out).1; omega))
                   obtain ⟨ua419_2, uc419_2, rfl, ul419_2, ge419_2⟩ := k24_openF hMe419
                   have hv419_2 := hcc419 2 _ rfl
                   rw [add_field _ _ 2 (by omega)] at hv419_2
                   replace hv419_2 := Option.some.inj (hv419_2.symm.trans hx419_2)
                   injection hv419_2 with hva_ hvn_ hvc_
                   rw [hva_] at ge419_2
                   rw [hvc_] at ul419_2
                   have HL419_2 := Aside0.mk (show Kd.V (Kd.int .u64) 41 _ w.heap.size _ _ ((rd_T24 x6_1 x12_2).f2) from Kd.V_mk ul419_2 ge419_2)
                   clear hva_ hvn_ hvc_ ge419_2 ul419_2
                   clear hcc419 hce419
                   have HR419_2 := Aside0.mk hi419_2
                   have HC419_2 := Aside0.mk hl419_2
                   clear hi419_2 hl419_2
                   replace p419 := eq_true p419
                   replace q419 := eq_true q419
                   refine start_ (n := 10) (S := fun w' => w'.cell? ⟨gb415, 0, none⟩ = some (.int .i64 t409) ∧ w'.cell? ⟨gb415, 1, none⟩ = some (.int .i64 t410) ∧ w'.cell? ⟨gb415, 2, none⟩ = some (.slice Ao14 t411.length co14) ∧ w'.cell? (ad419.add ((x12_2).toNat * 3)) = some (.int .i64 ((rd_T24 x6_1 x12_2).f0)) ∧ w'.cell? ⟨(ad419.add ((x12_2).toNat * 3)).block, (ad419.add ((x12_2).toNat * 3)).off + 1, none⟩ = some (.int .i64 ((rd_T24 x6_1 x12_2).f1)) ∧ w'.cell? ⟨(ad419.add ((x12_2).toNat * 3)).block, (ad419.add ((x12_2).toNat * 3)).off + 2, none⟩ = some (.slice A419_2 ((rd_T24 x6_1 x12_2).f2).length c419_2)) (ds := []) Fl105 (by kernel_rfl) rfl rfl ⟨(blk_cell BK415.out 0).trans rfl, (blk_cell BK415.out 1).trans rfl, (blk_cell BK415.out 2).trans rfl, hx419_0, hx419_1, hx419_2⟩ (fun hHeld => ?_); refine with_tabW chequerref04_Orbit.tab13 chequerref04_Orbit.bits13 (fun HT_ HW_ => ?_)
                   generalize wr.drew = w25 at HO_6 HO_7 HO_408002 HO_416002 BK407 BK415 HB HL419_2 HR419_2 hx419_0 hx419_1 hx419_2 hHeld ⊢
                   refine pur_ (i := 0) (N := some 39) Fl106 (any_of HT_.out (by kernel_rfl)) ?_
                   refine pur_ (i := 1) (N := some 40) Fl107 (any_of HT_.out (by kernel_rfl)) ?_
                   refine pur_ (i := 2) (N := some 41) Fl108 (any_of HT_.out (by kernel_rfl)) ?_
                   refine pur_ (i := 3) (N := some 42) Fl109 (any_of HT_.out (by kernel_rfl)) ?_
                   refine pur_ (i := 4) (N := some 43) Fl110 (any_of HT_.out (by kernel_rfl)) ?_
                   refine pur_ (i := 5) (N := some 44) Fl111 (any_of HT_.out (by kernel_rfl)) ?_
                   refine take_ (i := 6) (N := some 45) (v := ?_) (a' := ?_) Fl112 rfl rfl (take_ofW HT_.out HW_.out (by kernel_rfl)) (fun _ _ _ h => h) (Or.inl ⟨by rfl, ?_⟩) hHeld ?_ ?_
                   rotate_left
                   · rintro w' ⟨s0, s1, s2, s3, s4, s5⟩
                     go_simp
                     with_reducible rfl
                   rotate_left
                   · simp only [Act.put, List.setIfInBounds_toArray, List.set_cons_zero, List.set_cons_succ, i64_w, i32_w]
                     rfl
                   refine take_ (i := 7) (N := some 46) (v := ?_) (a' := ?_) Fl113 rfl rfl (take_ofW HT_.out HW_.out (by kernel_rfl)) (fun _ _ _ h => h) (Or.inl ⟨by rfl, ?_⟩) hHeld ?_ ?_
                   rotate_left
                   · rintro w' ⟨s0, s1, s2, s3, s4, s5⟩
                     go_simp
                     with_reducible rfl
                   rotate_left
                   · simp only [Act.put, List.setIfInBounds_toArray, List.set_cons_zero, List.set_cons_succ, i64_w, i32_w]
                     rfl
                   refine one_ (i := 8) (N := some 47) Fl114 rfl rfl (one_of HT_.out (by kernel_rfl)) (by decide) (fun K hK => ?_)
                   refine goes_ Try.func16 (by kernel_rfl) rfl #[.agg #[.int .i64 ((rd_T24 x6_1 x12_2).f0), .int .i64 ((rd_T24 x6_1 x12_2).f1), .slice A419_2 ((rd_T24 x6_1 x12_2).f2).length c419_2], .agg #[.int .i64 t409, .int .i64 t410, .slice Ao14 t411.length co14]] (by rfl) rfl rfl (by (try simp only [List.map_toArray, List.map_cons, List.map_nil]); first | done | rfl | (simp only [List.length_drop, List.length_take]; rfl)) ?_
                   with_reducible refine (chequerref03_Same.calls k2 ((rd_T24 x6_1 x12_2).f0) ((rd_T24 x6_1 x12_2).f1) _ _ ((rd_T24 x6_1 x12_2).f2) t409 t410 _ _ t411 false _ ?side1 ?side2 ?side3 ?side4 A19.out).mono ?_
                   (case side1 => repeat (first | exact (by repeat (first | (with_reducible exact HR419_2.out) | (with_reducible refine Kd.C_alloc ?_ _) | (with_reducible refine Kd.C_drewN ?_ _) | (with_reducible refine Kd.C_drew ?_) | exact HR419_2.out)) | (with_reducible refine Kd.C_alloc ?_ _) | (with_reducible refine Kd.C_drewN ?_ _) | (with_reducible refine Kd.C_drew ?_)))
                   (case side2 => exact HC419_2.out)
                   (case side3 => exact cp_ (Kd.V_reads' HO_416002.out).2.2)
                   (case side4 => exact (Kd.V_reads' HO_416002.out).2.1)
                   rintro e w26 ⟨rfl, hb⟩
                   have HS3_ := (hb.cell (World.block_lt_of_cell? _ _ (hHeld.2.2.2.1))).trans (hHeld.2.2.2.1)
                   have HS4_ := (hb.cell (World.block_lt_of_cell? _ _ (hHeld.2.2.2.2.1))).trans (hHeld.2.2.2.2.1)
                   have HS5_ := (hb.cell (World.block_lt_of_cell? _ _ (hHeld.2.2.2.2.2))).trans (hHeld.2.2.2.2.2)
                   refine ⟨_, rfl, ?_⟩
                   replace HO_6 := Aside0.mk (Kd.N_below (by (with_reducible repeat (first | apply Kd.N_alloc | apply Kd.N_drewN | apply Kd.N_drew)); exact HO_6.out) hb)
                   replace HO_7 := Aside0.mk (Kd.R_below (rp_ HO_7.out) hb)
                   replace HO_408002 := Aside0.mk (Kd.V_below (vp_ HO_408002.out) hb)
                   replace HO_416002 := Aside0.mk (Kd.V_below (vp_ HO_416002.out) hb)
                   replace HL419_2 := Aside0.mk (Kd.V_below (vp_ HL419_2.out) hb)
                   replace BK407 := Aside0.mk (blk_below (hp_ BK407.out) hb)
                   replace BK415 := Aside0.mk (blk_below (hp_ BK415.out) hb)
                   replace HR419_2 := Aside0.mk (Kd.C_below (by repeat (first | (with_reducible exact HR419_2.out) | (with_reducible refine Kd.C_alloc ?_ _) | (with_reducible refine Kd.C_drewN ?_ _) | (with_reducible refine Kd.C_drew ?_) | exact HR419_2.out)) hb)
                   replace HB := Aside0.mk (below_step bp_ hb)
                   (try clear hb)
                   (try clear hb2)
                   (try clear hk)
                   (try clear hi)
                   refine hK.out _ _ ⟨(blk_cell BK415.out 0).trans rfl, (blk_cell BK415.out 1).trans rfl, (blk_cell BK415.out 2).trans rfl, HS3_, HS4_, HS5_⟩ (fun hHeld => ?_)
                   clear hK K
                   refine norm_ (a' := ?_) ?_ ?_
                   rotate_left
                   · show Act.put _ (some 47) _ = _
                     simp only [Act.put, List.setIfInBounds_toArray, List.set_cons_zero, List.set_cons_succ, i64_w, i32_w]
                     rfl
                   refine pur_ (i := 9) (N := some 48) Fl115 (any_of HT_.out (by kernel_rfl)) ?_
                   refine done_ (done_of HT_.out (by kernel_rfl)) ?_
                   try go_wp2
                   go_roundg k2
                   case measure => have := HK1.out; have := HK2.out; omega
                   case rel => exact ⟨(x11_2), (wrap64 (x12_2 + 1)), (by first | rfl | (simp; done) | (simp [*]; done)), (by first | rfl | (simp; done) | (simp [*]; done)), H', ⟨by have := HK1.out; have := HK2.out; omega⟩, ⟨by (with_reducible repeat (first | apply Kd.N_alloc | apply Kd.N_drewN | apply Kd.N_drew)); exact HO_6.out⟩, ⟨rp_ HO_7.out⟩, ⟨vp_ HO_408002.out⟩, ⟨vp_ HO_416002.out⟩, ⟨hp_ BK407.out⟩, ⟨hp_ BK415.out⟩, ⟨bp_⟩⟩
               · rw [if_neg c18] at H
                 exact absurd H (by simp)
             · rw [if_neg c17] at H
               have c17b0 : decide (x11_2 < 0) = false := decide_eq_false c17
               clear c17
               have H' := Aside0.mk H
               clear H
               obtain ⟨Ao27, co27, eo27⟩ := Kd.N_slice HO_6.out
               subst eo27
               try go_wp2
               (try (rw [drewN_self wr]; generalize hq_ : World.drewN wr _ = wr; have n0_ := Aside0.mk (qvp_ hq_ HO_408002.out); have n1_ := Aside0.mk (qvp_ hq_ HO_416002.out); have n2_ : Aside0 (Kd.N k24 24 wr w.heap.size (fun k_ => (P0_2_ k_ ∨ w.heap.size ≤ k_) ∧ some k_ ≠ (u7 : Value).ownBlock ∧ k_ ≠ gb407 ∧ k_ ≠ gb415) (.slice Ao27 x6_1.length co27) x6_1) := ⟨by rw [← hq_]; exact (by (with_reducible repeat (first | apply Kd.N_alloc | apply Kd.N_drewN | apply Kd.N_drew)); exact HO_6.out)⟩; have n3_ := Aside0.mk (qrp_ hq_ HO_7.out); have n4_ := Aside0.mk (qhp_ hq_ BK407.out); have n5_ := Aside0.mk (qhp_ hq_ BK415.out); have n6_ : Aside0 (Below w.heap.size w wr) := ⟨qbp_ hq_⟩; clear HO_408002 HO_416002 HO_6 HO_7 BK407 BK415 HB hq_; have HO_408002 := n0_; have HO_416002 := n1_; have HO_6 := n2_; have HO_7 := n3_; have BK407 := n4_; have BK415 := n5_; have HB := n6_; clear n0_ n1_ n2_ n3_ n4_ n5_ n6_))
               replace HO_6 := Aside0.mk (Kd.N_drew HO_6.out)
               replace HO_7 := Aside0.mk (Kd.R_drew HO_7.out)
               replace HO_408002 := Aside0.mk (Kd.V_drew HO_408002.out)
               replace HO_416002 := Aside0.mk (Kd.V_drew HO_416002.out)
               replace BK407 := Aside0.mk (blk_drew BK407.out)
               replace BK415 := Aside0.mk (blk_drew BK415.out)
               replace HB := Aside0.mk (below_drew1 HB.out)
               refine start_ (n := 10) (S := fun w' => True) (ds := []) Fl105 (by kernel_rfl) rfl rfl trivial (fun hHeld => ?_); refine with_tabW chequerref04_Orbit.tab13 chequerref04_Orbit.bits13 (fun HT_ HW_ => ?_)
               generalize wr.drew = w28 at HO_6 HO_7 HO_408002 HO_416002 BK407 BK415 HB hHeld ⊢
               refine pur_ (i := 0) (N := some 39) Fl106 (any_of HT_.out (by kernel_rfl)) ?_
               refine pur_ (i := 1) (N := some 40) Fl107 (any_of HT_.out (by kernel_rfl)) ?_
               refine pur_ (i := 2) (N := some 41) Fl108 (any_of HT_.out (by kernel_rfl)) ?_
               refine pun_ (i := 3) (N := some 42) Fl109 (any_of HT_.out (by kernel_rfl)) ?_
               refine pun_ (i := 4) (N := some 43) Fl110 (any_of HT_.out (by kernel_rfl)) ?_
               refine pun_ (i := 5) (N := some 44) Fl111 (any_of HT_.out (by kernel_rfl)) ?_
               refine pun_ (i := 6) (N := some 45) Fl112 (any_of HT_.out (by kernel_rfl)) ?_
               refine pun_ (i := 7) (N := some 46) Fl113 (any_of HT_.out (by kernel_rfl)) ?_
               refine pun_ (i := 8) (N := some 47) Fl114 (any_of HT_.out (by kernel_rfl)) ?_
               refine pur_ (i := 9) (N := some 48) Fl115 (any_of HT_.out (by kernel_rfl)) ?_
               refine done_ (done_of HT_.out (by kernel_rfl)) ?_
               try go_wp2
               go_roundg k2
               case measure => have := HK1.out; have := HK2.out; omega
               case rel => exact ⟨(x11_2), (wrap64 (x12_2 + 1)), (by first | rfl | (simp; done) | (simp [*]; done)), (by first | rfl | (simp; done) | (simp [*]; done)), H', ⟨by have := HK1.out; have := HK2.out; omega⟩, ⟨by (with_reducible repeat (first | apply Kd.N_alloc | apply Kd.N_drewN | apply Kd.N_drew)); exact HO_6.out⟩, ⟨rp_ HO_7.out⟩, ⟨vp_ HO_408002.out⟩, ⟨vp_ HO_416002.out⟩, ⟨hp_ BK407.out⟩, ⟨hp_ BK415.out⟩, ⟨bp_⟩⟩
           · rw [if_neg c16] at H
             have c16b0 : decide (x12_2 < (x6_1.length : Int)) = false := decide_eq_false c16
             clear c16
             by_cases c29 : x11_2 < 0
             · rw [if_pos c29] at H
               have c29b0 : decide (x11_2 < 0) = true := decide_eq_true c29
               clear c29
               by_cases c30 : x6_1.length < 3518437208883
               · rw [if_pos c30] at H
                 have LMc30 := Aside0.mk c30
                 clear c30
                 obtain ⟨y421, hy421⟩ : ∃ y_ : List (S24), y_ = (x6_1 ++ [(⟨t409, t410, t411⟩ : S24)]) := ⟨_, rfl⟩
                 replace H : (if x7_1.length < 17592186044416 then (chequerref04_Orbit.l0 k2 l1 y421 (x7_1 ++ [(x6_1.length : Int)]) (wrap64 (x8_1 + 1)) a0_0 a0_1 l0_2) else (none)) = some (r1, r2) := by first | (rw [hy421]; with_reducible exact H) | (have H2_ := (Option.bind_some _ _).symm.trans H; rw [hy421]; with_reducible exact H2_) | (have H2_ := (Option.bind_some _ _).symm.trans H; with_reducible exact H2_) | with_reducible exact H | (rw [hy421]; exact H) | exact H
                 have Ny421 := Aside0.mk hy421
                 clear hy421
                 by_cases c31 : x7_1.length < 17592186044416
                 · rw [if_pos c31] at H
                   have LMc31 := Aside0.mk c31
                   clear c31
                   obtain ⟨y424, hy424⟩ : ∃ y_ : List Int, y_ = (x7_1 ++ [(x6_1.length : Int)]) := ⟨_, rfl⟩
                   replace H : (chequerref04_Orbit.l0 k2 l1 y421 y424 (wrap64 (x8_1 + 1)) a0_0 a0_1 l0_2) = some (r1, r2) := by first | (rw [hy424]; with_reducible exact H) | (have H2_ := (Option.bind_some _ _).symm.trans H; rw [hy424]; with_reducible exact H2_) | (have H2_ := (Option.bind_some _ _).symm.trans H; with_reducible exact H2_) | with_reducible exact H | (rw [hy424]; exact H) | exact H
                   have Ny424 := Aside0.mk hy424
                   clear hy424
                   have H' := Aside0.mk H
                   clear H
                   obtain ⟨Ao32, co32, eo32⟩ := Kd.N_slice HO_6.out
                   subst eo32
                   have hnb33 := NB415_407.out
                   have hnc33 := NB407_415.out
                   have hcz34_0 : wr.cell? ⟨gb415, 0, none⟩ = some (.int .i64 t409) := (blk_cell BK415.out 0).trans rfl
                   have hcz34_1 : wr.cell? ⟨gb415, 1, none⟩ = some (.int .i64 t410) := (blk_cell BK415.out 1).trans rfl
                   have hcz34_2 : wr.cell? ⟨gb415, 2, none⟩ = some (.slice Ao14 t411.length co14) := (blk_cell BK415.out 2).trans rfl
                   have hfz34_0 := blk_frozen BK415.out 0
                   have hfz34_1 := blk_frozen BK415.out 1
                   have hfz34_2 := blk_frozen BK415.out 2
                   go_wp2_with (first | ((with_reducible refine gate_builtin (b := .append) (xs := #[.tmp 54, .tmp 56]) rfl ?_); at_builtin; refine Kd.N_append k24 (w0 := w) w.heap.size rfl (.tmp 54) (.tmp 56) 56 24 (.agg #[(.int .i64 0), (.int .i64 0), (.slice none 0 0)]) 40 rfl Try.underlying56 info24 rfl (by decide) (by omega) (.slice Ao32 x6_1.length co32) x6_1 (⟨t409, t410, t411⟩ : S24) [.int .i64 t409, .int .i64 t410, .slice Ao14 t411.length co14] (fun k_ => (P0_2_ k_ ∨ w.heap.size ≤ k_) ∧ some k_ ≠ (u7 : Value).ownBlock ∧ k_ ≠ gb407 ∧ k_ ≠ gb415) (fun k_ => ((fun k_ => (P0_2_ k_ ∨ w.heap.size ≤ k_) ∧ some k_ ≠ (u7 : Value).ownBlock ∧ k_ ≠ gb407 ∧ k_ ≠ gb415)) k_ ∧ some k_ ≠ (.slice Ao32 x6_1.length co32 : Value).ownBlock) rfl rfl ?aP (fun _ hk => hk) ?aF ?aO ?aB ?aS ?aL ?_; (case aP => exact (k24_mkF _ _ (⟨t409, t410, t411⟩ : S24) (Kd.V_reads' (Kd.V_mono (ok' := (fun k_ => ((fun k_ => (P0_2_ k_ ∨ w.heap.size ≤ k_) ∧ some k_ ≠ (u7 : Value).ownBlock ∧ k_ ≠ gb407 ∧ k_ ≠ gb415)) k_ ∧ some k_ ≠ (.slice Ao32 x6_1.length co32 : Value).ownBlock)) (HO_416002.out) (fun k_ hk => ⟨⟨hk.1, ⟨hk.2.2.1, ⟨hk.2.2.2.1, hk.2.2.2.2⟩⟩⟩, hk.2.1⟩))).2.1 (Kd.V_F (Kd.V_mono (ok' := (fun k_ => ((fun k_ => (P0_2_ k_ ∨ w.heap.size ≤ k_) ∧ some k_ ≠ (u7 : Value).ownBlock ∧ k_ ≠ gb407 ∧ k_ ≠ gb415)) k_ ∧ some k_ ≠ (.slice Ao32 x6_1.length co32 : Value).ownBlock)) (HO_416002.out) (fun k_ hk => ⟨⟨hk.1, ⟨hk.2.2.1, ⟨hk.2.2.2.1, hk.2.2.2.2⟩⟩⟩, hk.2.1⟩))))); (case aB => exact bp_); (case aF => exact (fun k_ hk => ⟨(.inr (Nat.le_trans (below_size bp_) hk)), Kd.fresh' (Kd.R_lt (rp_ HO_7.out)) k_ hk, Kd.freshB (g := gb407) (o := .cells #[.int .i64 a0_0, .int .i64 a0_1, .slice A0_2 l0_2.length c0_2] 24 (0, 0)) (hp_ BK407.out) k_ hk, Kd.freshB (g := gb415) (o := .cells #[.int .i64 t409, .int .i64 t410, .slice Ao14 t411.length co14] 24 (0, 0)) (hp_ BK415.out) k_ hk⟩)); (case aO => exact (by (with_reducible repeat (first | apply Kd.N_alloc | apply Kd.N_drewN | apply Kd.N_drew)); exact HO_6.out)); (case aS => exact (below_size bp_)); (case aL => have := LMc30.out; omega); intro v422 w35 ho hb hg hat; rw [← Ny421.out] at ho; replace HO_7 := Aside0.mk (Kd.R_over' (rp_ HO_7.out) (Kd.N_typed (by (with_reducible repeat (first | apply Kd.N_alloc | apply Kd.N_drewN | apply Kd.N_drew)); exact HO_6.out)) (by decide) hg); replace HO_408002 := Aside0.mk (Kd.V_afterv (ok := (fun k_ => (P0_2_ k_ ∨ w.heap.size ≤ k_) ∧ some k_ ≠ (u7 : Value).ownBlock ∧ k_ ≠ gb407 ∧ k_ ≠ gb415)) (by (with_reducible repeat (first | apply Kd.V_alloc | apply Kd.V_drewN | apply Kd.V_drew)); exact Kd.V_mono HO_408002.out (fun _ hk => ⟨⟨hk.1, ⟨hk.2.2.1, ⟨hk.2.2.2.1, hk.2.2.2.2⟩⟩⟩, hk.2.1⟩)) hg hat); replace HO_416002 := Aside0.mk (Kd.V_afterv (ok := (fun k_ => (P0_2_ k_ ∨ w.heap.size ≤ k_) ∧ some k_ ≠ (u7 : Value).ownBlock ∧ k_ ≠ gb407 ∧ k_ ≠ gb415)) (by (with_reducible repeat (first | apply Kd.V_alloc | apply Kd.V_drewN | apply Kd.V_drew)); exact Kd.V_mono HO_416002.out (fun _ hk => ⟨⟨hk.1, ⟨hk.2.2.1, ⟨hk.2.2.2.1, hk.2.2.2.2⟩⟩⟩, hk.2.1⟩)) hg hat); replace BK407 := Aside0.mk (blk_grown (g := gb407) (o := .cells #[.int .i64 a0_0, .int .i64 a0_1, .slice A0_2 l0_2.length c0_2] 24 (0, 0)) (hp_ BK407.out) hg (Kd.N_away HO_6.out (fun _ hk => hk.2.2.1))); replace BK415 := Aside0.mk (blk_grown (g := gb415) (o := .cells #[.int .i64 t409, .int .i64 t410, .slice Ao14 t411.length co14] 24 (0, 0)) (hp_ BK415.out) hg (Kd.N_away HO_6.out (fun _ hk => hk.2.2.2))); replace HB := Aside0.mk (hb); have HO423 := Aside0.mk (ho); clear HO_6; clear ho hb hg hat) | ((with_reducible refine gate_builtin (b := .append) (xs := #[.tmp 58, .tmp 60]) rfl ?_); at_builtin; refine Kd.R_append (Kd.int .i64) (w0 := w) w.heap.size rfl (.tmp 58) (.tmp 60) 51 3 (.int .i64 0) 8 rfl Try.underlying51 info3 rfl (by decide) (by omega) u7 x7_1 (x6_1.length : Int) [.int .i64 (x6_1.length : Int)] (fun k_ => (w.heap.size ≤ k_)) (fun _ => False) rfl rfl ?aP (fun _ hk => hk.elim) ?aF ?aO ?aB ?aS ?aL ?_; (case aP => exact rfl); (case aB => exact bp_); (case aF => exact (fun k_ hk => (Nat.le_trans (below_size bp_) hk))); (case aO => exact (rp_ HO_7.out)); (case aS => exact (below_size bp_)); (case aL => have := LMc31.out; omega); intro v425 w36 ho hb hg hat; rw [← Ny424.out] at ho; replace HO_408002 := Aside0.mk (Kd.V_afterv (ok := (fun k_ => (P0_2_ k_ ∨ w.heap.size ≤ k_) ∧ some k_ ≠ (v422 : Value).ownBlock ∧ k_ ≠ gb407 ∧ k_ ≠ gb415)) (by (with_reducible repeat (first | apply Kd.V_alloc | apply Kd.V_drewN | apply Kd.V_drew)); exact Kd.V_mono HO_408002.out (fun _ hk => ⟨⟨hk.1.1, ⟨hk.2, ⟨hk.1.2.2.1, hk.1.2.2.2⟩⟩⟩, hk.1.2.1⟩)) hg hat); replace HO_416002 := Aside0.mk (Kd.V_afterv (ok := (fun k_ => (P0_2_ k_ ∨ w.heap.size ≤ k_) ∧ some k_ ≠ (v422 : Value).ownBlock ∧ k_ ≠ gb407 ∧ k_ ≠ gb415)) (by (with_reducible repeat (first | apply Kd.V_alloc | apply Kd.V_drewN | apply Kd.V_drew)); exact Kd.V_mono HO_416002.out (fun _ hk => ⟨⟨hk.1.1, ⟨hk.2, ⟨hk.1.2.2.1, hk.1.2.2.2⟩⟩⟩, hk.1.2.1⟩)) hg hat); replace BK407 := Aside0.mk (blk_grown (g := gb407) (o := .cells #[.int .i64 a0_0, .int .i64 a0_1, .slice A0_2 l0_2.length c0_2] 24 (0, 0)) (hp_ BK407.out) hg (Kd.R_ne HO_7.out BK407.out (by decide))); replace BK415 := Aside0.mk (blk_grown (g := gb415) (o := .cells #[.int .i64 t409, .int .i64 t410, .slice Ao14 t411.length co14] 24 (0, 0)) (hp_ BK415.out) hg (Kd.R_ne HO_7.out BK415.out (by decide))); replace HO423 := Aside0.mk (Kd.N_afterv (ok := (fun k_ => (P0_2_ k_ ∨ w.heap.size ≤ k_) ∧ k_ ≠ gb407 ∧ k_ ≠ gb415)) (by (with_reducible repeat (first | apply Kd.N_alloc | apply Kd.N_drewN | apply Kd.N_drew)); exact Kd.N_mono HO423.out (fun _ hk => ⟨⟨hk.1, ⟨hk.2.2.1, hk.2.2.2⟩⟩, hk.2.1⟩)) hg hat); replace HB := Aside0.mk (hb); have HO426 := Aside0.mk (ho); clear HO_7; clear ho hb hg hat))
                   go_roundg k2
                   case measure => have := HK1.out; have := HK2.out; omega
                   case rel => exact ⟨(y421), (y424), (wrap64 (x8_1 + 1)), (by first | rfl | (simp; done) | (simp [*]; done)), H', ⟨by have := HK1.out; have := HK2.out; omega⟩, ⟨by (with_reducible repeat (first | apply Kd.N_alloc | apply Kd.N_drewN | apply Kd.N_drew)); exact Kd.N_mono HO423.out (fun _ hk => ⟨hk.1.1, ⟨hk.2, hk.1.2.1⟩⟩)⟩, ⟨rp_ HO426.out⟩, ⟨by (with_reducible repeat (first | apply Kd.V_alloc | apply Kd.V_drewN | apply Kd.V_drew)); exact Kd.V_mono HO_408002.out (fun _ hk => ⟨hk.1.1, ⟨hk.1.2.1, ⟨hk.2, hk.1.2.2.1⟩⟩⟩)⟩, ⟨hp_ BK407.out⟩, ⟨bp_⟩⟩
                 · rw [if_neg c31] at H
                   exact absurd H (by simp)
               · rw [if_neg c30] at H
                 exact absurd H (by simp)
             · rw [if_neg c29] at H
               have c29b0 : decide (x11_2 < 0) = false := decide_eq_false c29
               clear c29
               by_cases c37 : x7_1.length < 17592186044416
               · rw [if_pos c37] at H
                 have LMc37 := Aside0.mk c37
                 clear c37
                 obtain ⟨y427, hy427⟩ : ∃ y_ : List Int, y_ = (x7_1 ++ [x11_2]) := ⟨_, rfl⟩
                 replace H : (chequerref04_Orbit.l0 k2 l1 x6_1 y427 (wrap64 (x8_1 + 1)) a0_0 a0_1 l0_2) = some (r1, r2) := by first | (rw [hy427]; with_reducible exact H) | (have H2_ := (Option.bind_some _ _).symm.trans H; rw [hy427]; with_reducible exact H2_) | (have H2_ := (Option.bind_some _ _).symm.trans H; with_reducible exact H2_) | with_reducible exact H | (rw [hy427]; exact H) | exact H
                 have Ny427 := Aside0.mk hy427
                 clear hy427
                 have H' := Aside0.mk H
                 clear H
                 obtain ⟨Ao38, co38, eo38⟩ := Kd.N_slice HO_6.out
                 subst eo38
                 go_wp2_with (first | ((with_reducible refine gate_builtin (b := .append) (xs := #[.tmp 58, .tmp 60]) rfl ?_); at_builtin; refine Kd.R_append (Kd.int .i64) (w0 := w) w.heap.size rfl (.tmp 58) (.tmp 60) 51 3 (.int .i64 0) 8 rfl Try.underlying51 info3 rfl (by decide) (by omega) u7 x7_1 x11_2 [.int .i64 x11_2] (fun k_ => (w.heap.size ≤ k_)) (fun _ => False) rfl rfl ?aP (fun _ hk => hk.elim) ?aF ?aO ?aB ?aS ?aL ?_; (case aP => exact rfl); (case aB => exact bp_); (case aF => exact (fun k_ hk => (Nat.le_trans (below_size bp_) hk))); (case aO => exact (rp_ HO_7.out)); (case aS => exact (below_size bp_)); (case aL => have := LMc37.out; omega); intro v428 w39 ho hb hg hat; rw [← Ny427.out] at ho; replace HO_6 := Aside0.mk (Kd.N_afterv (ok := (fun k_ => (P0_2_ k_ ∨ w.heap.size ≤ k_) ∧ k_ ≠ gb407 ∧ k_ ≠ gb415)) (by (with_reducible repeat (first | apply Kd.N_alloc | apply Kd.N_drewN | apply Kd.N_drew)); exact Kd.N_mono HO_6.out (fun _ hk => ⟨⟨hk.1, ⟨hk.2.2.1, hk.2.2.2⟩⟩, hk.2.1⟩)) hg hat); replace HO_408002 := Aside0.mk (Kd.V_afterv (ok := (fun k_ => (P0_2_ k_ ∨ w.heap.size ≤ k_) ∧ some k_ ≠ (.slice Ao38 x6_1.length co38 : Value).ownBlock ∧ k_ ≠ gb407 ∧ k_ ≠ gb415)) (by (with_reducible repeat (first | apply Kd.V_alloc | apply Kd.V_drewN | apply Kd.V_drew)); exact Kd.V_mono HO_408002.out (fun _ hk => ⟨⟨hk.1, ⟨hk.2.1, ⟨hk.2.2.2.1, hk.2.2.2.2⟩⟩⟩, hk.2.2.1⟩)) hg hat); replace HO_416002 := Aside0.mk (Kd.V_afterv (ok := (fun k_ => (P0_2_ k_ ∨ w.heap.size ≤ k_) ∧ some k_ ≠ (.slice Ao38 x6_1.length co38 : Value).ownBlock ∧ k_ ≠ gb407 ∧ k_ ≠ gb415)) (by (with_reducible repeat (first | apply Kd.V_alloc | apply Kd.V_drewN | apply Kd.V_drew)); exact Kd.V_mono HO_416002.out (fun _ hk => ⟨⟨hk.1, ⟨hk.2.1, ⟨hk.2.2.2.1, hk.2.2.2.2⟩⟩⟩, hk.2.2.1⟩)) hg hat); replace BK407 := Aside0.mk (blk_grown (g := gb407) (o := .cells #[.int .i64 a0_0, .int .i64 a0_1, .slice A0_2 l0_2.length c0_2] 24 (0, 0)) (hp_ BK407.out) hg (Kd.R_ne HO_7.out BK407.out (by decide))); replace BK415 := Aside0.mk (blk_grown (g := gb415) (o := .cells #[.int .i64 t409, .int .i64 t410, .slice Ao14 t411.length co14] 24 (0, 0)) (hp_ BK415.out) hg (Kd.R_ne HO_7.out BK415.out (by decide))); replace HB := Aside0.mk (hb); have HO429 := Aside0.mk (ho); clear HO_7; clear ho hb hg hat))
                 go_roundg k2
                 case measure => have := HK1.out; have := HK2.out; omega
                 case rel => exact ⟨(x6_1), (y427), (wrap64 (x8_1 + 1)), (by first | rfl | (simp; done) | (simp [*]; done)), H', ⟨by have := HK1.out; have := HK2.out; omega⟩, ⟨by (with_reducible repeat (first | apply Kd.N_alloc | apply Kd.N_drewN | apply Kd.N_drew)); exact Kd.N_mono HO_6.out (fun _ hk => ⟨hk.1.1, ⟨hk.2, hk.1.2.1⟩⟩)⟩, ⟨rp_ HO429.out⟩, ⟨by (with_reducible repeat (first | apply Kd.V_alloc | apply Kd.V_drewN | apply Kd.V_drew)); exact Kd.V_mono HO_408002.out (fun _ hk => ⟨hk.1.1, ⟨hk.1.2.1, ⟨hk.2, hk.1.2.2.1⟩⟩⟩)⟩, ⟨hp_ BK407.out⟩, ⟨bp_⟩⟩
               · rw [if_neg c37] at H
                 exact absurd H (by simp)
       · rw [if_neg c7] at H
         have c7b0 : (t414 == 0) = false := beq_eq_false_iff_ne.mpr c7
         have c7b1 : (t414 != 0) = true := bne_iff_ne.mpr c7
         by_cases c40 : x7_1.length < 17592186044416
         · rw [if_pos c40] at H
           have LMc40 := Aside0.mk c40
           clear c40
           obtain ⟨y416, hy416⟩ : ∃ y_ : List Int, y_ = (x7_1 ++ [(-1)]) := ⟨_, rfl⟩
           replace H : (chequerref04_Orbit.l0 k1 l1 x6_1 y416 (wrap64 (x8_1 + 1)) a0_0 a0_1 l0_2) = some (r1, r2) := by first | (rw [hy416]; with_reducible exact H) | (have H2_ := (Option.bind_some _ _).symm.trans H; rw [hy416]; with_reducible exact H2_) | (have H2_ := (Option.bind_some _ _).symm.trans H; with_reducible exact H2_) | with_reducible exact H | (rw [hy416]; exact H) | exact H
           have Ny416 := Aside0.mk hy416
           clear hy416
           have H' := Aside0.mk H
           clear H
           try go_wp2
           (try (rw [drewN_self wr]; generalize hq_ : World.drewN wr _ = wr; have n0_ := Aside0.mk (qvp_ hq_ HO_408002.out); have n1_ : Aside0 (Kd.N k24 24 wr w.heap.size (fun k_ => (P0_2_ k_ ∨ w.heap.size ≤ k_) ∧ some k_ ≠ (u7 : Value).ownBlock ∧ k_ ≠ gb407) u6 x6_1) := ⟨by rw [← hq_]; exact (by (with_reducible repeat (first | apply Kd.N_alloc | apply Kd.N_drewN | apply Kd.N_drew)); exact HO_6.out)⟩; have n2_ := Aside0.mk (qrp_ hq_ HO_7.out); have n3_ := Aside0.mk (qhp_ hq_ BK407.out); have n4_ : Aside0 (Below w.heap.size w wr) := ⟨qbp_ hq_⟩; clear HO_408002 HO_6 HO_7 BK407 HB hq_; have HO_408002 := n0_; have HO_6 := n1_; have HO_7 := n2_; have BK407 := n3_; have HB := n4_; clear n0_ n1_ n2_ n3_ n4_))
           replace HO_6 := Aside0.mk (Kd.N_drew HO_6.out)
           replace HO_7 := Aside0.mk (Kd.R_drew HO_7.out)
           replace HO_408002 := Aside0.mk (Kd.V_drew HO_408002.out)
           replace BK407 := Aside0.mk (blk_drew BK407.out)
           replace HB := Aside0.mk (below_drew1 HB.out)
           have p408 : 0 ≤ (x8_1 : Int) := of_decide_eq_true (by first | (with_reducible assumption) | assumption)
           have q408 : x8_1 < (l1.length : Int) := of_decide_eq_true (by first | (with_reducible assumption) | assumption)
           obtain ⟨ad408, e408, hx408_0⟩ := Kd.at_int HR1.out x8_1 p408 q408
           have hw408_0 := hx408_0
           cases e408
           replace hx408_0 := (HB.out.cell (World.block_lt_of_cell? w _ hx408_0)).trans hx408_0
           replace p408 := eq_true p408
           replace q408 := eq_true q408
           refine start_ (n := 12) (S := fun w' => w'.cell? ⟨gb407, 0, none⟩ = some (.int .i64 a0_0) ∧ w'.cell? ⟨gb407, 1, none⟩ = some (.int .i64 a0_1) ∧ w'.cell? ⟨gb407, 2, none⟩ = some (.slice A0_2 l0_2.length c0_2) ∧ w'.cell? (ad408.add (x8_1).toNat) = some (.int .i64 (rd l1 x8_1))) (ds := []) Fl116 (by kernel_rfl) rfl rfl ⟨(blk_cell BK407.out 0).trans rfl, (blk_cell BK407.out 1).trans rfl, (blk_cell BK407.out 2).trans rfl, ((HB.out.cell (World.block_lt_of_cell? w _ hw408_0)).trans hw408_0)⟩ (fun hHeld => ?_); refine with_tabW chequerref04_Orbit.tab6 chequerref04_Orbit.bits6 (fun HT_ HW_ => ?_)
           generalize wr.drew = w41 at HO_6 HO_7 HO_408002 BK407 HB hx408_0 hHeld ⊢
           refine pur_ (i := 1) (N := some 21) Fl117 (any_of HT_.out (by kernel_rfl)) ?_
           refine pur_ (i := 2) (N := some 22) Fl118 (any_of HT_.out (by kernel_rfl)) ?_
           refine pur_ (i := 3) (N := some 23) Fl119 (any_of HT_.out (by kernel_rfl)) ?_
           refine take_ (i := 0) (N := some 20) (v := ?_) (a' := ?_) Fl120 rfl rfl (take_ofW HT_.out HW_.out (by kernel_rfl)) (fun _ _ _ h => h) (Or.inl ⟨by rfl, ?_⟩) hHeld ?_ ?_
           rotate_left
           · rintro w' ⟨s0, s1, s2, s3⟩
             go_simp
             with_reducible rfl
           rotate_left
           · simp only [Act.put, List.setIfInBounds_toArray, List.set_cons_zero, List.set_cons_succ, i64_w, i32_w]
             rfl
           refine take_ (i := 4) (N := some 24) (v := ?_) (a' := ?_) Fl121 rfl rfl (take_ofW HT_.out HW_.out (by kernel_rfl)) (fun _ _ _ h => h) (Or.inl ⟨by rfl, ?_⟩) hHeld ?_ ?_
           rotate_left
           · rintro w' ⟨s0, s1, s2, s3⟩
             go_simp
             with_reducible rfl
           rotate_left
           · simp only [Act.put, List.setIfInBounds_toArray, List.set_cons_zero, List.set_cons_succ, i64_w, i32_w]
             rfl
           refine join_ (σ := Value × Nat) 2 Fl104 (fun s_ => [(25, .tuple #[.agg #[.int .i64 t409, .int .i64 t410, s_.1], .int .i64 t414]), (9, .pointer (some ⟨s_.2, 0, none⟩)), (19, .tuple #[.agg #[.int .i64 t409, .int .i64 t410, s_.1], .int .i64 t414]), (26, .agg #[.int .i64 t409, .int .i64 t410, s_.1]), (27, .int .i64 t414)]) (fun s_ w' => (w'.cell? ⟨gb407, 0, none⟩ = some (.int .i64 a0_0) ∧ w'.cell? ⟨gb407, 1, none⟩ = some (.int .i64 a0_1) ∧ w'.cell? ⟨gb407, 2, none⟩ = some (.slice A0_2 l0_2.length c0_2) ∧ w'.cell? (ad408.add (x8_1).toNat) = some (.int .i64 (rd l1 x8_1))) ∧ (Kd.V (Kd.int .u64) 41 w' w.heap.size (fun k_ => (P0_2_ k_ ∨ w.heap.size ≤ k_) ∧ some k_ ≠ (u6 : Value).ownBlock ∧ some k_ ≠ (u7 : Value).ownBlock ∧ k_ ≠ gb407 ∧ k_ ≠ s_.2) s_.1 t411) ∧ (Kd.V (Kd.int .u64) 41 w' w.heap.size (fun k_ => (P0_2_ k_ ∨ w.heap.size ≤ k_) ∧ some k_ ≠ (u6 : Value).ownBlock ∧ some k_ ≠ (u7 : Value).ownBlock ∧ k_ ≠ gb407 ∧ k_ ≠ s_.2) (.slice A0_2 l0_2.length c0_2) l0_2) ∧ (Kd.N k24 24 w' w.heap.size (fun k_ => (P0_2_ k_ ∨ w.heap.size ≤ k_) ∧ some k_ ≠ (u7 : Value).ownBlock ∧ k_ ≠ gb407 ∧ k_ ≠ s_.2) u6 x6_1) ∧ (Kd.R (Kd.int .i64) 3 w' w.heap.size (fun k_ => (w.heap.size ≤ k_)) u7 x7_1) ∧ (w'.heap[gb407]? = some (.cells #[.int .i64 a0_0, .int .i64 a0_1, .slice A0_2 l0_2.length c0_2] 24 (0, 0))) ∧ (w'.heap[s_.2]? = some (.cells #[.int .i64 0, .int .i64 0, .slice none 0 0] 24 (0, 0))) ∧ (w.heap.size ≤ s_.2) ∧ (w.heap.size ≤ s_.2) ∧ (gb407 ≠ s_.2) ∧ (s_.2 ≠ gb407) ∧ (Below w.heap.size w w')) ?_ ?_
           rotate_left
           · intro hCont
             refine two_ (i := 5) (j := 9) (Ni := some 25) (Nj := some 9) Fl123 Fl122 rfl rfl rfl rfl (two_of HT_.out (by kernel_rfl)) (by decide) (by decide) (fun K hK => ?_) (fun K hK => ?_)
             · skip
               refine goes_ Try.func14 (by kernel_rfl) rfl #[.agg #[.int .i64 a0_0, .int .i64 a0_1, .slice A0_2 l0_2.length c0_2], .int .i64 (rd l1 x8_1)] (by rfl) rfl rfl (by (try simp only [List.map_toArray, List.map_cons, List.map_nil]); first | done | rfl | (simp only [List.length_drop, List.length_take]; rfl)) ?_
               with_reducible refine (chequerref04_Lay.calls k1 a0_0 a0_1 (fun k_ => ((P0_2_ k_ ∨ w.heap.size ≤ k_) ∧ (some k_ ≠ (u6 : Value).ownBlock ∧ (some k_ ≠ (u7 : Value).ownBlock ∧ k_ ≠ gb407)))) _ _ l0_2 (rd l1 x8_1) t409 t410 t411 t414 _ ?side1 A6.out).mono ?_
               (case side1 => exact HO_408002.out)
               rintro e w42 ⟨v412, rfl, ho0, hb⟩
               refine ⟨_, rfl, ?_⟩
               replace HO_408002 := Aside0.mk (Kd.V_below (vp_ HO_408002.out) hb)
               have HO413 := Aside0.mk (Kd.V_lower (Kd.V_mono (ok' := fun k_ => (P0_2_ k_ ∨ w.heap.size ≤ k_) ∧ some k_ ≠ (u6 : Value).ownBlock ∧ some k_ ≠ (u7 : Value).ownBlock ∧ k_ ≠ gb407) ho0 (fun k_ hk_ => ⟨Or.elim hk_ (fun hs_ => hs_.1) (fun hn_ => (.inr (Nat.le_trans (below_size bp_) hn_))), Or.elim hk_ (fun hs_ => hs_.2.1) (fun hn_ => (Kd.fresh' (Kd.N_lt (by (with_reducible repeat (first | apply Kd.N_alloc | apply Kd.N_drewN | apply Kd.N_drew)); exact HO_6.out)) k_ hn_)), Or.elim hk_ (fun hs_ => hs_.2.2.1) (fun hn_ => (Kd.fresh' (Kd.R_lt (rp_ HO_7.out)) k_ hn_)), Or.elim hk_ (fun hs_ => hs_.2.2.2) (fun hn_ => (Kd.freshB (g := gb407) (o := .cells #[.int .i64 a0_0, .int .i64 a0_1, .slice A0_2 l0_2.length c0_2] 24 (0, 0)) (hp_ BK407.out) k_ hn_))⟩)) (below_size bp_))
               replace HO_6 := Aside0.mk (Kd.N_below (by (with_reducible repeat (first | apply Kd.N_alloc | apply Kd.N_drewN | apply Kd.N_drew)); exact HO_6.out) hb)
               replace HO_7 := Aside0.mk (Kd.R_below (rp_ HO_7.out) hb)
               replace BK407 := Aside0.mk (blk_below (hp_ BK407.out) hb)
               replace HB := Aside0.mk (below_step bp_ hb)
               (try clear hb)
               (try clear hb2)
               (try clear hk)
               (try clear hi)
               (try clear ho0)
               refine hK.out _ _ ⟨(blk_cell BK407.out 0).trans rfl, (blk_cell BK407.out 1).trans rfl, (blk_cell BK407.out 2).trans rfl, ((HB.out.cell (World.block_lt_of_cell? w _ hw408_0)).trans hw408_0)⟩ (fun hHeld => ?_)
               clear hK K
               refine norm_ (a' := ?_) ?_ ?_
               rotate_left
               · show Act.put _ (some 25) _ = _
                 simp only [Act.put, List.setIfInBounds_toArray, List.set_cons_zero, List.set_cons_succ, i64_w, i32_w]
                 rfl
               refine pur_ (i := 6) (N := some 19) Fl125 (any_of HT_.out (by kernel_rfl)) ?_
               refine pur_ (i := 7) (N := some 26) Fl127 (any_of HT_.out (by kernel_rfl)) ?_
               refine pur_ (i := 8) (N := some 27) Fl129 (any_of HT_.out (by kernel_rfl)) ?_
               refine one_ (i := 9) (N := some 9) Fl104 rfl rfl (one_of HT_.out (by kernel_rfl)) (by decide) (fun K hK => ?_)
               refine box_step ?hg (N := 9) ?hd (cs := #[.int .i64 0, .int .i64 0, .slice none 0 0]) (t := 24) ?hr ?_; (case hd => rfl); (case hg => rfl); (case hr => first | (go_simp; done) | (go_simp; rfl))
               intro gb415 hg w43 hbox hb
               replace HO_6 := Aside0.mk (Kd.N_below (Kd.N_elderB (by (with_reducible repeat (first | apply Kd.N_alloc | apply Kd.N_drewN | apply Kd.N_drew)); exact HO_6.out) gb415 (Nat.le_of_eq hg.symm)) hb)
               replace HO_7 := Aside0.mk (Kd.R_below (rp_ HO_7.out) hb)
               replace HO_408002 := Aside0.mk (Kd.V_below (Kd.V_elderB (vp_ HO_408002.out) gb415 (Nat.le_of_eq hg.symm)) hb)
               replace HO413 := Aside0.mk (Kd.V_below (Kd.V_elderB (vp_ HO413.out) gb415 (Nat.le_of_eq hg.symm)) hb)
               have BK415 := Aside0.mk (hbox)
               have GW415 := Aside0.mk ((by rw [hg]; exact (below_size bp_) : w.heap.size ≤ gb415))
               have GE415 := Aside0.mk ((by rw [hg]; exact (below_size bp_) : w.heap.size ≤ gb415))
               replace HB := Aside0.mk (below_step bp_ hb)
               have NB407_415 := Aside0.mk ((nlt_ hg (hp_ BK407.out)))
               have NB415_407 := Aside0.mk ((ngt_ hg (hp_ BK407.out)))
               replace BK407 := Aside0.mk (blk_below (hp_ BK407.out) hb)
               clear hb hbox hg
               refine hK.out _ _ ⟨(blk_cell BK407.out 0).trans rfl, (blk_cell BK407.out 1).trans rfl, (blk_cell BK407.out 2).trans rfl, ((HB.out.cell (World.block_lt_of_cell? w _ hw408_0)).trans hw408_0)⟩ (fun hHeld => ?_)
               clear hK K
               refine norm_ (a' := ?_) ?_ ?_
               rotate_left
               · show Act.put _ (some 9) _ = _
                 simp only [Act.put, List.setIfInBounds_toArray, List.set_cons_zero, List.set_cons_succ, i64_w, i32_w]
                 rfl
               exact norm_ (by simp only [putAll, Act.put, List.setIfInBounds_toArray, List.set_cons_zero, List.set_cons_succ]) (hCont (v412, gb415) _ ⟨hHeld, (by (with_reducible repeat (first | apply Kd.V_alloc | apply Kd.V_drewN | apply Kd.V_drew)); exact Kd.V_mono HO413.out (fun _ hk => ⟨hk.1.1, ⟨hk.1.2.1, ⟨hk.1.2.2.1, ⟨hk.1.2.2.2, hk.2⟩⟩⟩⟩)), (by (with_reducible repeat (first | apply Kd.V_alloc | apply Kd.V_drewN | apply Kd.V_drew)); exact Kd.V_mono HO_408002.out (fun _ hk => ⟨hk.1.1, ⟨hk.1.2.1, ⟨hk.1.2.2.1, ⟨hk.1.2.2.2, hk.2⟩⟩⟩⟩)), (by (with_reducible repeat (first | apply Kd.N_alloc | apply Kd.N_drewN | apply Kd.N_drew)); exact Kd.N_mono HO_6.out (fun _ hk => ⟨hk.1.1, ⟨hk.1.2.1, ⟨hk.1.2.2, hk.2⟩⟩⟩)), (rp_ HO_7.out), (hp_ BK407.out), (hp_ BK415.out), GW415.out, GE415.out, NB407_415.out, NB415_407.out, bp_⟩)
             · skip
               refine box_step ?hg (N := 9) ?hd (cs := #[.int .i64 0, .int .i64 0, .slice none 0 0]) (t := 24) ?hr ?_; (case hd => rfl); (case hg => rfl); (case hr => first | (go_simp; done) | (go_simp; rfl))
               intro gb415 hg w42 hbox hb
               replace HO_6 := Aside0.mk (Kd.N_below (Kd.N_elderB (by (with_reducible repeat (first | apply Kd.N_alloc | apply Kd.N_drewN | apply Kd.N_drew)); exact HO_6.out) gb415 (Nat.le_of_eq hg.symm)) hb)
               replace HO_7 := Aside0.mk (Kd.R_below (rp_ HO_7.out) hb)
               replace HO_408002 := Aside0.mk (Kd.V_below (Kd.V_elderB (vp_ HO_408002.out) gb415 (Nat.le_of_eq hg.symm)) hb)
               have BK415 := Aside0.mk (hbox)
               have GW415 := Aside0.mk ((by rw [hg]; exact (below_size bp_) : w.heap.size ≤ gb415))
               have GE415 := Aside0.mk ((by rw [hg]; exact (below_size bp_) : w.heap.size ≤ gb415))
               replace HB := Aside0.mk (below_step bp_ hb)
               have NB407_415 := Aside0.mk ((nlt_ hg (hp_ BK407.out)))
               have NB415_407 := Aside0.mk ((ngt_ hg (hp_ BK407.out)))
               replace BK407 := Aside0.mk (blk_below (hp_ BK407.out) hb)
               clear hb hbox hg
               refine hK.out _ _ ⟨(blk_cell BK407.out 0).trans rfl, (blk_cell BK407.out 1).trans rfl, (blk_cell BK407.out 2).trans rfl, ((HB.out.cell (World.block_lt_of_cell? w _ hw408_0)).trans hw408_0)⟩ (fun hHeld => ?_)
               clear hK K
               refine norm_ (a' := ?_) ?_ ?_
               rotate_left
               · show Act.put _ (some 9) _ = _
                 simp only [Act.put, List.setIfInBounds_toArray, List.set_cons_zero, List.set_cons_succ, i64_w, i32_w]
                 rfl
               refine one_ (i := 5) (N := some 25) Fl124 rfl rfl (one_of HT_.out (by kernel_rfl)) (by decide) (fun K hK => ?_)
               refine goes_ Try.func14 (by kernel_rfl) rfl #[.agg #[.int .i64 a0_0, .int .i64 a0_1, .slice A0_2 l0_2.length c0_2], .int .i64 (rd l1 x8_1)] (by rfl) rfl rfl (by (try simp only [List.map_toArray, List.map_cons, List.map_nil]); first | done | rfl | (simp only [List.length_drop, List.length_take]; rfl)) ?_
               with_reducible refine (chequerref04_Lay.calls k1 a0_0 a0_1 (fun k_ => (((P0_2_ k_ ∨ w.heap.size ≤ k_) ∧ (some k_ ≠ (u6 : Value).ownBlock ∧ (some k_ ≠ (u7 : Value).ownBlock ∧ k_ ≠ gb407))) ∧ k_ ≠ gb415)) _ _ l0_2 (rd l1 x8_1) t409 t410 t411 t414 _ ?side1 A6.out).mono ?_
               (case side1 => exact HO_408002.out)
               rintro e w43 ⟨v412, rfl, ho0, hb⟩
               refine ⟨_, rfl, ?_⟩
               replace HO_408002 := Aside0.mk (Kd.V_below (vp_ HO_408002.out) hb)
               have HO413 := Aside0.mk (Kd.V_lower (Kd.V_mono (ok' := fun k_ => (P0_2_ k_ ∨ w.heap.size ≤ k_) ∧ some k_ ≠ (u6 : Value).ownBlock ∧ some k_ ≠ (u7 : Value).ownBlock ∧ k_ ≠ gb407 ∧ k_ ≠ gb415) ho0 (fun k_ hk_ => ⟨Or.elim hk_ (fun hs_ => hs_.1.1) (fun hn_ => (.inr (Nat.le_trans (below_size bp_) hn_))), Or.elim hk_ (fun hs_ => hs_.1.2.1) (fun hn_ => (Kd.fresh' (Kd.N_lt (by (with_reducible repeat (first | apply Kd.N_alloc | apply Kd.N_drewN | apply Kd.N_drew)); exact HO_6.out)) k_ hn_)), Or.elim hk_ (fun hs_ => hs_.1.2.2.1) (fun hn_ => (Kd.fresh' (Kd.R_lt (rp_ HO_7.out)) k_ hn_)), Or.elim hk_ (fun hs_ => hs_.1.2.2.2) (fun hn_ => (Kd.freshB (g := gb407) (o := .cells #[.int .i64 a0_0, .int .i64 a0_1, .slice A0_2 l0_2.length c0_2] 24 (0, 0)) (hp_ BK407.out) k_ hn_)), Or.elim hk_ (fun hs_ => hs_.2) (fun hn_ => (Kd.freshB (g := gb415) (o := .cells #[.int .i64 0, .int .i64 0, .slice none 0 0] 24 (0, 0)) (hp_ BK415.out) k_ hn_))⟩)) (below_size bp_))
               replace HO_6 := Aside0.mk (Kd.N_below (by (with_reducible repeat (first | apply Kd.N_alloc | apply Kd.N_drewN | apply Kd.N_drew)); exact HO_6.out) hb)
               replace HO_7 := Aside0.mk (Kd.R_below (rp_ HO_7.out) hb)
               replace BK407 := Aside0.mk (blk_below (hp_ BK407.out) hb)
               replace BK415 := Aside0.mk (blk_below (hp_ BK415.out) hb)
               replace HB := Aside0.mk (below_step bp_ hb)
               (try clear hb)
               (try clear hb2)
               (try clear hk)
               (try clear hi)
               (try clear ho0)
               refine hK.out _ _ ⟨(blk_cell BK407.out 0).trans rfl, (blk_cell BK407.out 1).trans rfl, (blk_cell BK407.out 2).trans rfl, ((HB.out.cell (World.block_lt_of_cell? w _ hw408_0)).trans hw408_0)⟩ (fun hHeld => ?_)
               clear hK K
               refine norm_ (a' := ?_) ?_ ?_
               rotate_left
               · show Act.put _ (some 25) _ = _
                 simp only [Act.put, List.setIfInBounds_toArray, List.set_cons_zero, List.set_cons_succ, i64_w, i32_w]
                 rfl
               refine pur_ (i := 6) (N := some 19) Fl126 (any_of HT_.out (by kernel_rfl)) ?_
               refine pur_ (i := 7) (N := some 26) Fl128 (any_of HT_.out (by kernel_rfl)) ?_
               refine pur_ (i := 8) (N := some 27) Fl104 (any_of HT_.out (by kernel_rfl)) ?_
               exact norm_ (by simp only [putAll, Act.put, List.setIfInBounds_toArray, List.set_cons_zero, List.set_cons_succ]) (hCont (v412, gb415) _ ⟨hHeld, (vp_ HO413.out), (by (with_reducible repeat (first | apply Kd.V_alloc | apply Kd.V_drewN | apply Kd.V_drew)); exact Kd.V_mono HO_408002.out (fun _ hk => ⟨hk.1.1, ⟨hk.1.2.1, ⟨hk.1.2.2.1, ⟨hk.1.2.2.2, hk.2⟩⟩⟩⟩)), (by (with_reducible repeat (first | apply Kd.N_alloc | apply Kd.N_drewN | apply Kd.N_drew)); exact Kd.N_mono HO_6.out (fun _ hk => ⟨hk.1.1, ⟨hk.1.2.1, ⟨hk.1.2.2, hk.2⟩⟩⟩)), (rp_ HO_7.out), (hp_ BK407.out), (hp_ BK415.out), GW415.out, GE415.out, NB407_415.out, NB415_407.out, bp_⟩)
           rintro ⟨v412, gb415⟩ w44 ⟨hS_, h0_, h1_, h2_, h3_, h4_, h5_, h6_, h7_, h8_, h9_, h10_⟩
           have HO413 : Aside0 (Kd.V (Kd.int .u64) 41 w44 w.heap.size (fun k_ => (P0_2_ k_ ∨ w.heap.size ≤ k_) ∧ some k_ ≠ (u6 : Value).ownBlock ∧ some k_ ≠ (u7 : Value).ownBlock ∧ k_ ≠ gb407 ∧ k_ ≠ gb415) v412 t411) := ⟨h0_⟩
           replace HO_408002 : Aside0 (Kd.V (Kd.int .u64) 41 w44 w.heap.size (fun k_ => (P0_2_ k_ ∨ w.heap.size ≤ k_) ∧ some k_ ≠ (u6 : Value).ownBlock ∧ some k_ ≠ (u7 : Value).ownBlock ∧ k_ ≠ gb407 ∧ k_ ≠ gb415) (.slice A0_2 l0_2.length c0_2) l0_2) := ⟨h1_⟩
           replace HO_6 : Aside0 (Kd.N k24 24 w44 w.heap.size (fun k_ => (P0_2_ k_ ∨ w.heap.size ≤ k_) ∧ some k_ ≠ (u7 : Value).ownBlock ∧ k_ ≠ gb407 ∧ k_ ≠ gb415) u6 x6_1) := ⟨h2_⟩
           replace HO_7 : Aside0 (Kd.R (Kd.int .i64) 3 w44 w.heap.size (fun k_ => (w.heap.size ≤ k_)) u7 x7_1) := ⟨h3_⟩
           replace BK407 : Aside0 (w44.heap[gb407]? = some (.cells #[.int .i64 a0_0, .int .i64 a0_1, .slice A0_2 l0_2.length c0_2] 24 (0, 0))) := ⟨h4_⟩
           have BK415 : Aside0 (w44.heap[gb415]? = some (.cells #[.int .i64 0, .int .i64 0, .slice none 0 0] 24 (0, 0))) := ⟨h5_⟩
           have GW415 : Aside0 (w.heap.size ≤ gb415) := ⟨h6_⟩
           have GE415 : Aside0 (w.heap.size ≤ gb415) := ⟨h7_⟩
           have NB407_415 : Aside0 (gb407 ≠ gb415) := ⟨h8_⟩
           have NB415_407 : Aside0 (gb415 ≠ gb407) := ⟨h9_⟩
           replace HB : Aside0 (Below w.heap.size w w44) := ⟨h10_⟩
           clear h0_ h1_ h2_ h3_ h4_ h5_ h6_ h7_ h8_ h9_ h10_
           have hHeld : w44.cell? ⟨gb407, 0, none⟩ = some (.int .i64 a0_0) ∧ w44.cell? ⟨gb407, 1, none⟩ = some (.int .i64 a0_1) ∧ w44.cell? ⟨gb407, 2, none⟩ = some (.slice A0_2 l0_2.length c0_2) ∧ w44.cell? (ad408.add (x8_1).toNat) = some (.int .i64 (rd l1 x8_1)) := hS_
           obtain ⟨Ao47, co47, eo47⟩ := Kd.V_slice HO413.out
           (first | subst eo47 | (injection eo47 with f1_ f2_ f3_; have f4_ := f1_.symm; have f5_ := f3_.symm; clear f1_ f2_ f3_; subst f4_; subst f5_))
           refine norm_ (a' := ?_) ?_ ?_
           rotate_left
           · simp only [putAll, Act.put, List.setIfInBounds_toArray, List.set_cons_zero, List.set_cons_succ]
             rfl
           refine one_ (i := 10) (N := none) Fl130 rfl rfl (one_of HT_.out (by kernel_rfl)) (by decide) (fun K hK => ?_)
           have hs45 : w44.cell? ⟨gb415, 0, none⟩ = some (.int .i64 0) := (blk_cell BK415.out 0).trans rfl
           have hfs45 := blk_frozen BK415.out 0
           have hns45_0 := NB407_415.out
           have hms45_0 := NB415_407.out
           have hs46 : w44.cell? ⟨gb415, 1, none⟩ = some (.int .i64 0) := (blk_cell BK415.out 1).trans rfl
           have hfs46 := blk_frozen BK415.out 1
           have hns46_0 := NB407_415.out
           have hms46_0 := NB415_407.out
           have hs48 : w44.cell? ⟨gb415, 2, none⟩ = some (.slice none 0 0) := (blk_cell BK415.out 2).trans rfl
           have hfs48 := blk_frozen BK415.out 2
           have hns48_0 := NB407_415.out
           have hms48_0 := NB415_407.out
           refine skip_ (w1 := ?_) (by rfl) rfl ?_ ?_
           rotate_left
           · go_simp
             rfl
           refine hK.out _ _ ⟨((cell_far (p := ⟨gb415, _, none⟩) NB407_415.out _).trans (((cell_far (p := ⟨gb415, _, none⟩) NB407_415.out _).trans (((cell_far (p := ⟨gb415, _, none⟩) NB407_415.out _).trans (hHeld.1)))))), ((cell_far (p := ⟨gb415, _, none⟩) NB407_415.out _).trans (((cell_far (p := ⟨gb415, _, none⟩) NB407_415.out _).trans (((cell_far (p := ⟨gb415, _, none⟩) NB407_415.out _).trans (hHeld.2.1)))))), ((cell_far (p := ⟨gb415, _, none⟩) NB407_415.out _).trans (((cell_far (p := ⟨gb415, _, none⟩) NB407_415.out _).trans (((cell_far (p := ⟨gb415, _, none⟩) NB407_415.out _).trans (hHeld.2.2.1)))))), ((cell_far (p := ⟨gb415, _, none⟩) (by first | exact Nat.ne_of_lt (Nat.lt_of_lt_of_le (by have := World.block_lt_of_cell? _ _ hw408_0; first | rwa [add_block] at this | exact this) GW415.out) | (rw [add_block]; exact Nat.ne_of_lt (Nat.lt_of_lt_of_le (by have := World.block_lt_of_cell? _ _ hw408_0; first | rwa [add_block] at this | exact this) GW415.out)) | (show (Addr.add _ _).block ≠ _; rw [add_block]; exact Nat.ne_of_lt (Nat.lt_of_lt_of_le (by have := World.block_lt_of_cell? _ _ hw408_0; first | rwa [add_block] at this | exact this) GW415.out)) | (dsimp only; exact Nat.ne_of_lt (Nat.lt_of_lt_of_le (by have := World.block_lt_of_cell? _ _ hw408_0; first | rwa [add_block] at this | exact this) GW415.out))) _).trans (((cell_far (p := ⟨gb415, _, none⟩) (by first | exact Nat.ne_of_lt (Nat.lt_of_lt_of_le (by have := World.block_lt_of_cell? _ _ hw408_0; first | rwa [add_block] at this | exact this) GW415.out) | (rw [add_block]; exact Nat.ne_of_lt (Nat.lt_of_lt_of_le (by have := World.block_lt_of_cell? _ _ hw408_0; first | rwa [add_block] at this | exact this) GW415.out)) | (show (Addr.add _ _).block ≠ _; rw [add_block]; exact Nat.ne_of_lt (Nat.lt_of_lt_of_le (by have := World.block_lt_of_cell? _ _ hw408_0; first | rwa [add_block] at this | exact this) GW415.out)) | (dsimp only; exact Nat.ne_of_lt (Nat.lt_of_lt_of_le (by have := World.block_lt_of_cell? _ _ hw408_0; first | rwa [add_block] at this | exact this) GW415.out))) _).trans (((cell_far (p := ⟨gb415, _, none⟩) (by first | exact Nat.ne_of_lt (Nat.lt_of_lt_of_le (by have := World.block_lt_of_cell? _ _ hw408_0; first | rwa [add_block] at this | exact this) GW415.out) | (rw [add_block]; exact Nat.ne_of_lt (Nat.lt_of_lt_of_le (by have := World.block_lt_of_cell? _ _ hw408_0; first | rwa [add_block] at this | exact this) GW415.out)) | (show (Addr.add _ _).block ≠ _; rw [add_block]; exact Nat.ne_of_lt (Nat.lt_of_lt_of_le (by have := World.block_lt_of_cell? _ _ hw408_0; first | rwa [add_block] at this | exact this) GW415.out)) | (dsimp only; exact Nat.ne_of_lt (Nat.lt_of_lt_of_le (by have := World.block_lt_of_cell? _ _ hw408_0; first | rwa [add_block] at this | exact this) GW415.out))) _).trans (hHeld.2.2.2))))))⟩ (fun hHeld => ?_)
           clear hK K
           refine pur_ (i := 11) (N := some 10) Fl131 (any_of HT_.out (by kernel_rfl)) ?_
           refine done_ (done_of HT_.out (by kernel_rfl)) ?_
           try go_wp2_with (first | ((with_reducible refine gate_builtin (b := .append) (xs := #[.tmp 30, .tmp 31]) rfl ?_); at_builtin; refine Kd.R_append (Kd.int .i64) (w0 := w) w.heap.size rfl (.tmp 30) (.tmp 31) 51 3 (.int .i64 0) 8 rfl Try.underlying51 info3 rfl (by decide) (by omega) u7 x7_1 (-1) [.int .i64 (-1)] (fun k_ => (w.heap.size ≤ k_)) (fun _ => False) rfl (by first | (go_simp; done) | (go_simp; rfl)) ?aP (fun _ hk => hk.elim) ?aF ?aO ?aB ?aS ?aL ?_; (case aP => exact rfl); (case aB => exact bp_); (case aF => exact (fun k_ hk => (Nat.le_trans (below_size bp_) hk))); (case aO => exact (rf_ HO_7.out BK415.out (by decide) (fun _ hk => hk.1))); (case aS => exact (below_size bp_)); (case aL => have := LMc40.out; omega); intro v417 w49 ho hb hg hat; rw [← Ny416.out] at ho; replace HO_6 := Aside0.mk (Kd.N_afterv (ok := (fun k_ => (P0_2_ k_ ∨ w.heap.size ≤ k_) ∧ k_ ≠ gb407 ∧ k_ ≠ gb415)) (by (with_reducible repeat (first | apply Kd.N_alloc | apply Kd.N_drewN | apply Kd.N_drew)); exact Kd.N_mono (Kd.N_far (p := ⟨gb415, 2, none⟩) (Kd.N_far (p := ⟨gb415, 1, none⟩) (Kd.N_far (p := ⟨gb415, 0, none⟩) (Kd.N_mono HO_6.out (fun k_ hk => (⟨hk, hk.2.2.2⟩ : _ ∧ k_ ≠ gb415))) (fun _ hk => hk.2) (.int .i64 t409)) (fun _ hk => hk.2) (.int .i64 t410)) (fun _ hk => hk.2) (.slice Ao47 t411.length co47)) (fun _ hk => ⟨⟨hk.1.1, ⟨hk.1.2.2.1, hk.1.2.2.2⟩⟩, hk.1.2.1⟩)) hg hat); replace HO_408002 := Aside0.mk (Kd.V_afterv (ok := (fun k_ => (P0_2_ k_ ∨ w.heap.size ≤ k_) ∧ some k_ ≠ (u6 : Value).ownBlock ∧ k_ ≠ gb407 ∧ k_ ≠ gb415)) (by (with_reducible repeat (first | apply Kd.V_alloc | apply Kd.V_drewN | apply Kd.V_drew)); exact Kd.V_mono (Kd.V_far (p := ⟨gb415, 2, none⟩) (Kd.V_far (p := ⟨gb415, 1, none⟩) (Kd.V_far (p := ⟨gb415, 0, none⟩) (Kd.V_mono HO_408002.out (fun k_ hk => (⟨hk, hk.2.2.2.2⟩ : _ ∧ k_ ≠ gb415))) (fun _ hk => hk.2) (.int .i64 t409)) (fun _ hk => hk.2) (.int .i64 t410)) (fun _ hk => hk.2) (.slice Ao47 t411.length co47)) (fun _ hk => ⟨⟨hk.1.1, ⟨hk.1.2.1, ⟨hk.1.2.2.2.1, hk.1.2.2.2.2⟩⟩⟩, hk.1.2.2.1⟩)) hg hat); replace BK407 := Aside0.mk (blk_grown (g := gb407) (o := .cells #[.int .i64 a0_0, .int .i64 a0_1, .slice A0_2 l0_2.length c0_2] 24 (0, 0)) (hf_ BK407.out NB407_415.out) hg (Kd.R_ne HO_7.out BK407.out (by decide))); replace HO413 := Aside0.mk (Kd.V_afterv (ok := (fun k_ => (P0_2_ k_ ∨ w.heap.size ≤ k_) ∧ some k_ ≠ (u6 : Value).ownBlock ∧ k_ ≠ gb407 ∧ k_ ≠ gb415)) (by (with_reducible repeat (first | apply Kd.V_alloc | apply Kd.V_drewN | apply Kd.V_drew)); exact Kd.V_mono (Kd.V_far (p := ⟨gb415, 2, none⟩) (Kd.V_far (p := ⟨gb415, 1, none⟩) (Kd.V_far (p := ⟨gb415, 0, none⟩) (Kd.V_mono HO413.out (fun k_ hk => (⟨hk, hk.2.2.2.2⟩ : _ ∧ k_ ≠ gb415))) (fun _ hk => hk.2) (.int .i64 t409)) (fun _ hk => hk.2) (.int .i64 t410)) (fun _ hk => hk.2) (.slice Ao47 t411.length co47)) (fun _ hk => ⟨⟨hk.1.1, ⟨hk.1.2.1, ⟨hk.1.2.2.2.1, hk.1.2.2.2.2⟩⟩⟩, hk.1.2.2.1⟩)) hg hat); replace BK415 := Aside0.mk (blk_grown (g := gb415) (o := .cells #[.int .i64 t409, .int .i64 t410, .slice Ao47 t411.length co47] 24 (0, 0)) (by (with_reducible repeat (first | refine blk_drewN ?_ _ | refine blk_drew ?_ | refine blk_alloc ?_ _)); refine blk_put (cs := #[.int .i64 t409, .int .i64 t410, .slice none 0 0]) ?_ 2 _ rfl; (with_reducible repeat (first | refine blk_drewN ?_ _ | refine blk_drew ?_ | refine blk_alloc ?_ _)); refine blk_put (cs := #[.int .i64 t409, .int .i64 0, .slice none 0 0]) ?_ 1 _ rfl; (with_reducible repeat (first | refine blk_drewN ?_ _ | refine blk_drew ?_ | refine blk_alloc ?_ _)); refine blk_put (cs := #[.int .i64 0, .int .i64 0, .slice none 0 0]) ?_ 0 _ rfl; (with_reducible repeat (first | refine blk_drewN ?_ _ | refine blk_drew ?_ | refine blk_alloc ?_ _)); exact BK415.out) hg (Kd.R_ne HO_7.out BK415.out (by decide))); replace HB := Aside0.mk (hb); have HO418 := Aside0.mk (ho); clear HO_7; clear ho hb hg hat))
           go_roundg k1
           case measure => have := HK1.out; omega
           case rel => exact ⟨(x6_1), (y416), (wrap64 (x8_1 + 1)), (by first | rfl | (simp; done) | (simp [*]; done)), H', ⟨by have := HK1.out; omega⟩, ⟨by (with_reducible repeat (first | apply Kd.N_alloc | apply Kd.N_drewN | apply Kd.N_drew)); exact Kd.N_mono HO_6.out (fun _ hk => ⟨hk.1.1, ⟨hk.2, hk.1.2.1⟩⟩)⟩, ⟨rp_ HO418.out⟩, ⟨by (with_reducible repeat (first | apply Kd.V_alloc | apply Kd.V_drewN | apply Kd.V_drew)); exact Kd.V_mono HO_408002.out (fun _ hk => ⟨hk.1.1, ⟨hk.1.2.1, ⟨hk.2, hk.1.2.2.1⟩⟩⟩)⟩, ⟨hp_ BK407.out⟩, ⟨bp_⟩⟩
         · rw [if_neg c40] at H
           exact absurd H (by simp)
     · rw [if_neg c5] at H
       exact absurd H (by simp)
   · rw [if_neg c4] at H
     have c4b0 : decide (x8_1 < (l1.length : Int)) = false := decide_eq_false c4
     clear c4
     simp only [Option.some.injEq, Prod.mk.injEq] at H
     obtain ⟨rfl, rfl⟩ := H
     go_wp2
     go_ret2
     exact ⟨_, _, by first | rfl | (simp [errW_none, errW_some] <;> rfl) | (simp [*, errW_none, errW_some] <;> rfl), by (with_reducible repeat (first | apply Kd.N_alloc | apply Kd.N_drewN | apply Kd.N_drew)); exact Kd.N_mono HO_6.out (fun _ hk => ⟨hk.1, hk.2.1⟩), by (with_reducible repeat (first | apply Kd.R_alloc | apply Kd.R_drewN | apply Kd.R_drew)); exact HO_7.out, bp_⟩

end Go.Proofs.Ytehjnekljodmgaa.Q
