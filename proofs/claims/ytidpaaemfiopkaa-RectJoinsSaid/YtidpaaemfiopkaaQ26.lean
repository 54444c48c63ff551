-- written by our own program (wip/tools/myprint.py) out of the translation, by the kit's print; Lean checks it
import Derived.Test.YtidpaaemfiopkaaQ0
import Derived.Test.YtidpaaemfiopkaaQ9
import Derived.Test.YtidpaaemfiopkaaQ15
namespace Go.Proofs.Ytidpaaemfiopkaa.Q
open Go.RowKit Go.Proofs.YtidpaaemfiopkaaW.PrintWords Go.Proofs.YtidpaaemfiopkaaW.PrintLast Go.Proofs.YtidpaaemfiopkaaW.PrintMore
attribute [local go_sem] max2_int min2_int max_two min_two max_three min_three max_four min_four   -- for this text's walks alone
set_option linter.unusedVariables false
set_option linter.unusedSimpArgs false


/-! ### chequerref03_Beside: function 41 -/
mutual
def chequerref03_Beside.j0 : Nat → Bool → Int → Int → List Int → Int → Int → List Int → Option (Int × Int × List Int × Int)
 | 0, _, _, _, _, _, _, _ => none
 | k + 1, x27, x663000, x663001, x663002, x664000, x664001, x664002 => if x27 = true then (some (0, 0, ([] : List Int), 1)) else ((chequerref03_Sized.f (wrap64 (x663000 + x664000)) x663001).bind fun t668 => (if t668 = true then (chequerref03_Beside.l0 k 0 x663000 x663001 x663002 x664000 x664001 x664002 (wrap64 (x663000 + x664000)) x663001 ([] : List Int)) else (some (0, 0, ([] : List Int), 1))))
def chequerref03_Beside.l0 : Nat → Int → Int → Int → List Int → Int → Int → List Int → Int → Int → List Int → Option (Int × Int × List Int × Int)
 | 0, _, _, _, _, _, _, _, _, _, _ => none
 | k + 1, x10, x663000, x663001, x663002, x664000, x664001, x664002, x668000, x668001, x668002 => if x10 < x663001 then ((chequerref03_Row.f k x663000 x663001 x663002 x10).bind fun t669 => (if x668002.length + t669.length < 17592186044416 then ((some (x668002 ++ t669 : List Int)).bind fun y672 => ((chequerref03_Row.f k x664000 x664001 x664002 x10).bind fun t675 => (if y672.length + t675.length < 17592186044416 then (chequerref03_Beside.l0 k (wrap64 (x10 + 1)) x663000 x663001 x663002 x664000 x664001 x664002 x668000 x668001 (y672 ++ t675)) else (none)))) else (none))) else (some (x668000, x668001, x668002, 0))
end
def chequerref03_Beside.f (k : Nat) (a0_0 : Int) (a0_1 : Int) (l0_2 : List Int) (a1_0 : Int) (a1_1 : Int) (l1_2 : List Int) : Option (Int × Int × List Int × Int) := (chequerref03_May.f a0_0 a0_1 l0_2).bind fun t665 => ((chequerref03_May.f a1_0 a1_1 l1_2).bind fun t666 => (if t665 = true then (if t666 = true then (chequerref03_Beside.j0 k (a0_1 != a1_1) a0_0 a0_1 l0_2 a1_0 a1_1 l1_2) else (chequerref03_Beside.j0 k true a0_0 a0_1 l0_2 a1_0 a1_1 l1_2)) else (chequerref03_Beside.j0 k true a0_0 a0_1 l0_2 a1_0 a1_1 l1_2)))
theorem chequerref03_Beside.mono_l : ∀ k, (∀ y0 y1 y2 y3 y4 y5 y6, LeO (chequerref03_Beside.j0 k y0 y1 y2 y3 y4 y5 y6) (chequerref03_Beside.j0 (k + 1) y0 y1 y2 y3 y4 y5 y6)) ∧ (∀ y0 y1 y2 y3 y4 y5 y6 y7 y8 y9, LeO (chequerref03_Beside.l0 k y0 y1 y2 y3 y4 y5 y6 y7 y8 y9) (chequerref03_Beside.l0 (k + 1) y0 y1 y2 y3 y4 y5 y6 y7 y8 y9))
 | 0 => ⟨fun _ _ _ _ _ _ _ r h => by simp [chequerref03_Beside.j0] at h, fun _ _ _ _ _ _ _ _ _ _ r h => by simp [chequerref03_Beside.l0] at h⟩
 | k + 1 => by
  obtain ⟨ih0, ih1⟩ := chequerref03_Beside.mono_l k
  refine ⟨?_, ?_⟩
  · intro y0 y1 y2 y3 y4 y5 y6
    unfold chequerref03_Beside.j0
    repeat' first
    | (with_reducible exact ih0 _ _ _ _ _ _ _)
    | (with_reducible exact ih1 _ _ _ _ _ _ _ _ _ _)
    | (with_reducible exact chequerref03_Row.mono _ _ _ _ _)
    | (with_reducible exact LeO.refl _)
    | (with_reducible exact LeO.none _)
    | (with_reducible refine LeO.ite ?_ ?_)
    | (with_reducible refine LeO.bind ?_ (fun _ => ?_))
    | exact ih0 _ _ _ _ _ _ _
    | exact ih1 _ _ _ _ _ _ _ _ _ _
    | exact chequerref03_Row.mono _ _ _ _ _
    | exact LeO.none _
    | refine LeO.ite ?_ ?_
    | refine LeO.bind ?_ (fun _ => ?_)
  intro y0 y1 y2 y3 y4 y5 y6 y7 y8 y9
  unfold chequerref03_Beside.l0
  repeat' first
  | (with_reducible exact ih0 _ _ _ _ _ _ _)
  | (with_reducible exact ih1 _ _ _ _ _ _ _ _ _ _)
  | (with_reducible exact chequerref03_Row.mono _ _ _ _ _)
  | (with_reducible exact LeO.refl _)
  | (with_reducible exact LeO.none _)
  | (with_reducible refine LeO.ite ?_ ?_)
  | (with_reducible refine LeO.bind ?_ (fun _ => ?_))
  | exact ih0 _ _ _ _ _ _ _
  | exact ih1 _ _ _ _ _ _ _ _ _ _
  | exact chequerref03_Row.mono _ _ _ _ _
  | exact LeO.none _
  | refine LeO.ite ?_ ?_
  | refine LeO.bind ?_ (fun _ => ?_)
theorem chequerref03_Beside.mono : ∀ a0 a1 a2 a3 a4 a5 k, LeO (chequerref03_Beside.f k a0 a1 a2 a3 a4 a5) (chequerref03_Beside.f (k + 1) a0 a1 a2 a3 a4 a5) := by
 intro a0 a1 a2 a3 a4 a5 k
 obtain ⟨ih0, ih1⟩ := chequerref03_Beside.mono_l k
 unfold chequerref03_Beside.f
 repeat' first
  | (with_reducible exact ih0 _ _ _ _ _ _ _)
  | (with_reducible exact ih1 _ _ _ _ _ _ _ _ _ _)
  | (with_reducible exact chequerref03_Row.mono _ _ _ _ _)
  | (with_reducible exact LeO.refl _)
  | (with_reducible exact LeO.none _)
  | (with_reducible refine LeO.ite ?_ ?_)
  | (with_reducible refine LeO.bind ?_ (fun _ => ?_))
  | exact ih0 _ _ _ _ _ _ _
  | exact ih1 _ _ _ _ _ _ _ _ _ _
  | exact chequerref03_Row.mono _ _ _ _ _
  | exact LeO.none _
  | refine LeO.ite ?_ ?_
  | refine LeO.bind ?_ (fun _ => ?_)
def chequerref03_Beside.T12 : Bool × List (List Nat × List Nat) := (true, [([], []), ([0], [0]), ([], []), ([], []), ([2, 3], [2, 3]), ([1, 4, 4], [1, 4]), ([0, 1, 2, 3, 4, 5], []), ([6, 5, 5, 0, 1, 2, 3, 4, 5], [5, 6])])
def chequerref03_Beside.B12 : List Nat := [0, 1, 0, 0, 12, 31, 63, 127]
theorem chequerref03_Beside.tab12 : rtab .any (opsOf Try.f41 12) = chequerref03_Beside.T12 := by kernel_rfl
theorem chequerref03_Beside.bits12 : waitsOk chequerref03_Beside.T12.2 chequerref03_Beside.B12 = true := by kernel_rfl
def chequerref03_Beside.T13 : Bool × List (List Nat × List Nat) := (true, [([], []), ([0], [0]), ([], []), ([], []), ([2, 3], [2, 3]), ([1, 4, 4], [1, 4]), ([0, 1, 2, 3, 4, 5], []), ([6, 5, 5, 0, 1, 2, 3, 4, 5], [5, 6])])
def chequerref03_Beside.B13 : List Nat := [0, 1, 0, 0, 12, 31, 63, 127]
theorem chequerref03_Beside.tab13 : rtab .any (opsOf Try.f41 13) = chequerref03_Beside.T13 := by kernel_rfl
theorem chequerref03_Beside.bits13 : waitsOk chequerref03_Beside.T13.2 chequerref03_Beside.B13 = true := by kernel_rfl
set_option maxHeartbeats 8000000 in
set_option maxRecDepth 100000 in
theorem chequerref03_Beside.calls (k : Nat) (a0_0 : Int) (a0_1 : Int) (A0_2 : Option Addr) (c0_2 : Nat) (l0_2 : List Int) (a1_0 : Int) (a1_1 : Int) (A1_2 : Option Addr) (c1_2 : Nat) (l1_2 : List Int) (r1 : Int) (r2 : Int) (r3 : List Int) (r4 : Int) (w : World) (hr0_2 : Kd.C (Kd.int .u64) w A0_2 l0_2.length l0_2) (hc0_2 : l0_2.length ≤ c0_2) (hr1_2 : Kd.C (Kd.int .u64) w A1_2 l1_2.length l1_2) (hc1_2 : l1_2.length ≤ c1_2) (h : chequerref03_Beside.f k a0_0 a0_1 l0_2 a1_0 a1_1 l1_2 = some (r1, r2, r3, r4)) :
 Calls Try.prog 41 #[.agg #[.int .i64 a0_0, .int .i64 a0_1, .slice A0_2 l0_2.length c0_2], .agg #[.int .i64 a1_0, .int .i64 a1_1, .slice A1_2 l1_2.length c1_2]] w fun e w' => ∃ v2_ : Value, e = .returned (.tuple #[.agg #[.int .i64 r1, .int .i64 r2, v2_], .int .i64 r4]) ∧ Kd.R (Kd.int .u64) 46 w' w.heap.size (fun _ => True) v2_ r3 ∧ Below w.heap.size w w' := by
 have hu24 := Try.underlying24
 have HR0_2 := Aside0.mk hr0_2
 have HC0_2 := Aside0.mk hc0_2
 clear hr0_2 hc0_2
 have HR1_2 := Aside0.mk hr1_2
 have HC1_2 := Aside0.mk hc1_2
 clear hr1_2 hc1_2
 have HB := Aside0.mk (Below.refl w.heap.size w)
 have H : ((chequerref03_May.f a0_0 a0_1 l0_2).bind fun t665 => ((chequerref03_May.f a1_0 a1_1 l1_2).bind fun t666 => (if t665 = true then (if t666 = true then (chequerref03_Beside.j0 k (a0_1 != a1_1) a0_0 a0_1 l0_2 a1_0 a1_1 l1_2) else (chequerref03_Beside.j0 k true a0_0 a0_1 l0_2 a1_0 a1_1 l1_2)) else (chequerref03_Beside.j0 k true a0_0 a0_1 l0_2 a1_0 a1_1 l1_2)))) = some (r1, r2, r3, r4) := h
 clear h
 replace H := Option.bind_eq_some_iff.mp H
 obtain ⟨t665, A30, H⟩ := H
 replace H : ((chequerref03_May.f a1_0 a1_1 l1_2).bind fun t666 => (if t665 = true then (if t666 = true then (chequerref03_Beside.j0 k (a0_1 != a1_1) a0_0 a0_1 l0_2 a1_0 a1_1 l1_2) else (chequerref03_Beside.j0 k true a0_0 a0_1 l0_2 a1_0 a1_1 l1_2)) else (chequerref03_Beside.j0 k true a0_0 a0_1 l0_2 a1_0 a1_1 l1_2))) = some (r1, r2, r3, r4) := H
 have A3 := Aside0.mk A30
 clear A30
 replace H := Option.bind_eq_some_iff.mp H
 obtain ⟨t666, A40, H⟩ := H
 replace H : (if t665 = true then (if t666 = true then (chequerref03_Beside.j0 k (a0_1 != a1_1) a0_0 a0_1 l0_2 a1_0 a1_1 l1_2) else (chequerref03_Beside.j0 k true a0_0 a0_1 l0_2 a1_0 a1_1 l1_2)) else (chequerref03_Beside.j0 k true a0_0 a0_1 l0_2 a1_0 a1_1 l1_2)) = some (r1, r2, r3, r4) := H
 have A4 := Aside0.mk A40
 clear A40
 have HC5 := Aside0.mk H
 clear H
 go_enter Try.func41, Try.ntmps41
 go_upto_region 3 with (first | ((with_reducible refine gate_dst (N := 2) rfl ?_); refine box_event ?hg (N := 2) ?hd (cs := #[.int .i64 a0_0, .int .i64 a0_1, .slice A0_2 l0_2.length c0_2]) (t := 24) ?hr ?_; (case hd => rfl); (case hg => rfl); (case hr => first | (go_simp; done) | (go_simp; rfl)); intro gb662 hg w6 hbox hb; have BK662 := Aside0.mk (hbox); have GW662 := Aside0.mk ((by rw [hg]; exact (below_size bp_) : w.heap.size ≤ gb662)); have GE662 := Aside0.mk ((by rw [hg]; exact (below_size bp_) : w.heap.size ≤ gb662)); replace HB := Aside0.mk (below_step bp_ hb); clear hb hbox hg) | ((with_reducible refine gate_dst (N := 3) rfl ?_); refine box_event ?hg (N := 3) ?hd (cs := #[.int .i64 a1_0, .int .i64 a1_1, .slice A1_2 l1_2.length c1_2]) (t := 24) ?hr ?_; (case hd => rfl); (case hg => rfl); (case hr => first | (go_simp; done) | (go_simp; rfl)); intro gb663 hg w7 hbox hb; have BK663 := Aside0.mk (hbox); have GW663 := Aside0.mk ((by rw [hg]; exact (below_size bp_) : w.heap.size ≤ gb663)); have GE663 := Aside0.mk ((by rw [hg]; exact (below_size bp_) : w.heap.size ≤ gb663)); replace HB := Aside0.mk (below_step bp_ hb); have NB662_663 := Aside0.mk ((nlt_ hg (hp_ BK662.out))); have NB663_662 := Aside0.mk ((ngt_ hg (hp_ BK662.out))); replace BK662 := kb_ BK662.out hb; clear hb hbox hg) | ((with_reducible refine gate_dst (N := 4) rfl ?_); refine box_event ?hg (N := 4) ?hd (cs := #[.int .i64 0, .int .i64 0, .slice none 0 0]) (t := 24) ?hr ?_; (case hd => rfl); (case hg => rfl); (case hr => first | (go_simp; done) | (go_simp; rfl)); intro gb664 hg w8 hbox hb; have BK664 := Aside0.mk (hbox); have GW664 := Aside0.mk ((by rw [hg]; exact (below_size bp_) : w.heap.size ≤ gb664)); have GE664 := Aside0.mk ((by rw [hg]; exact (below_size bp_) : w.heap.size ≤ gb664)); replace HB := Aside0.mk (below_step bp_ hb); have NB662_664 := Aside0.mk ((nlt_ hg (hp_ BK662.out))); have NB664_662 := Aside0.mk ((ngt_ hg (hp_ BK662.out))); replace BK662 := kb_ BK662.out hb; have NB663_664 := Aside0.mk ((nlt_ hg (hp_ BK663.out))); have NB664_663 := Aside0.mk ((ngt_ hg (hp_ BK663.out))); replace BK663 := kb_ BK663.out hb; clear hb hbox hg; have hnb9 := NB662_663.out; have hnc9 := NB663_662.out; have hnb10 := NB662_664.out; have hnc10 := NB664_662.out; have hcz11_0 : w8.cell? ⟨gb662, 0, none⟩ = some (.int .i64 a0_0) := bc_ BK662.out 0; have hcz11_1 : w8.cell? ⟨gb662, 1, none⟩ = some (.int .i64 a0_1) := bc_ BK662.out 1; have hcz11_2 : w8.cell? ⟨gb662, 2, none⟩ = some (.slice A0_2 l0_2.length c0_2) := bc_ BK662.out 2; have hfz11_0 := blk_frozen BK662.out 0; have hfz11_1 := blk_frozen BK662.out 1; have hfz11_2 := blk_frozen BK662.out 2) | ((with_reducible refine gate_callee (f := 20) rfl ?_); refine goQ_ (some 12) Try.func20 #[.agg #[.int .i64 a0_0, .int .i64 a0_1, .slice A0_2 l0_2.length c0_2]] ?_; (with_reducible refine (chequerref03_May.calls a0_0 a0_1 _ _ l0_2 t665 _ ?side1 ?side2 A3.out).mono ?_); (case side1 => repeat (first | exact (Kd.C_below HR0_2.out HB.out) | (with_reducible refine Kd.C_alloc ?_ _) | (with_reducible refine Kd.C_drewN ?_ _) | (with_reducible refine Kd.C_drew ?_))); (case side2 => exact HC0_2.out); rintro e w12 ⟨rfl, hb⟩; refine ⟨_, rfl, ?_⟩; replace BK662 := kb_ BK662.out hb; replace BK663 := kb_ BK663.out hb; replace BK664 := kb_ BK664.out hb; replace HB := Aside0.mk (below_step bp_ hb); (try clear hb); (try clear hb2); (try clear hk); (try clear hi); have hnb13 := NB663_664.out; have hnc13 := NB664_663.out; have hcz14_0 : w12.cell? ⟨gb663, 0, none⟩ = some (.int .i64 a1_0) := bc_ BK663.out 0; have hcz14_1 : w12.cell? ⟨gb663, 1, none⟩ = some (.int .i64 a1_1) := bc_ BK663.out 1; have hcz14_2 : w12.cell? ⟨gb663, 2, none⟩ = some (.slice A1_2 l1_2.length c1_2) := bc_ BK663.out 2; have hfz14_0 := blk_frozen BK663.out 0; have hfz14_1 := blk_frozen BK663.out 1; have hfz14_2 := blk_frozen BK663.out 2) | ((with_reducible refine gate_callee (f := 20) rfl ?_); refine goQ_ (some 14) Try.func20 #[.agg #[.int .i64 a1_0, .int .i64 a1_1, .slice A1_2 l1_2.length c1_2]] ?_; (with_reducible refine (chequerref03_May.calls a1_0 a1_1 _ _ l1_2 t666 _ ?side1 ?side2 A4.out).mono ?_); (case side1 => repeat (first | exact (Kd.C_below HR1_2.out HB.out) | (with_reducible refine Kd.C_alloc ?_ _) | (with_reducible refine Kd.C_drewN ?_ _) | (with_reducible refine Kd.C_drew ?_))); (case side2 => exact HC1_2.out); rintro e w15 ⟨rfl, hb⟩; refine ⟨_, rfl, ?_⟩; replace BK662 := kb_ BK662.out hb; replace BK663 := kb_ BK663.out hb; replace BK664 := kb_ BK664.out hb; replace HB := Aside0.mk (below_step bp_ hb); (try clear hb); (try clear hb2); (try clear hk); (try clear hi)))
 (try simp only [Act.put, List.setIfInBounds_toArray, List.set_cons_zero, List.set_cons_succ])
 go_cut [27] (fun v27 wc => ∃ (kq : Nat) (x27_4 : Bool), v27 = .bool x27_4 ∧ Aside0 (chequerref03_Beside.j0 kq x27_4 a0_0 a0_1 l0_2 a1_0 a1_1 l1_2 = some (r1, r2, r3, r4)) ∧ Aside0 (kq ≤ k) ∧ Aside0 (wc.heap[gb662]? = some (.cells #[.int .i64 a0_0, .int .i64 a0_1, (.slice A0_2 l0_2.length c0_2)] 24 (0, 0))) ∧ Aside0 (wc.heap[gb663]? = some (.cells #[.int .i64 a1_0, .int .i64 a1_1, (.slice A1_2 l1_2.length c1_2)] 24 (0, 0))) ∧ Aside0 (wc.heap[gb664]? = some (.cells #[.int .i64 0, .int .i64 0, (.slice none 0 0)] 24 (0, 0))) ∧ Aside0 (Below w.heap.size w wc))
 case first =>
  have H := HC5.out
  clear HC5
  by_cases c16 : t665 = true
  · subst c16
    have H1 : (if t666 = true then (chequerref03_Beside.j0 k (a0_1 != a1_1) a0_0 a0_1 l0_2 a1_0 a1_1 l1_2) else (chequerref03_Beside.j0 k true a0_0 a0_1 l0_2 a1_0 a1_1 l1_2)) = some (r1, r2, r3, r4) := by rw [if_pos rfl] at H; exact H
    clear H; have H := H1; clear H1
    by_cases c17 : t666 = true
    · subst c17
      have H1 : (chequerref03_Beside.j0 k (a0_1 != a1_1) a0_0 a0_1 l0_2 a1_0 a1_1 l1_2) = some (r1, r2, r3, r4) := by rw [if_pos rfl] at H; exact H
      clear H; have H := H1; clear H1
      have H' := Aside0.mk H
      clear H; have hnb18 := NB662_663.out; have hnc18 := NB663_662.out; have hnb19 := NB662_664.out; have hnc19 := NB664_662.out
      have hcz20_0 : w15.cell? ⟨gb662, 0, none⟩ = some (.int .i64 a0_0) := bc_ BK662.out 0
      have hcz20_1 : w15.cell? ⟨gb662, 1, none⟩ = some (.int .i64 a0_1) := bc_ BK662.out 1
      have hcz20_2 : w15.cell? ⟨gb662, 2, none⟩ = some (.slice A0_2 l0_2.length c0_2) := bc_ BK662.out 2
      have hfz20_0 := blk_frozen BK662.out 0; have hfz20_1 := blk_frozen BK662.out 1; have hfz20_2 := blk_frozen BK662.out 2; have hnb21 := NB663_664.out; have hnc21 := NB664_663.out
      have hcz22_0 : w15.cell? ⟨gb663, 0, none⟩ = some (.int .i64 a1_0) := bc_ BK663.out 0
      have hcz22_1 : w15.cell? ⟨gb663, 1, none⟩ = some (.int .i64 a1_1) := bc_ BK663.out 1
      have hcz22_2 : w15.cell? ⟨gb663, 2, none⟩ = some (.slice A1_2 l1_2.length c1_2) := bc_ BK663.out 2
      have hfz22_0 := blk_frozen BK663.out 0; have hfz22_1 := blk_frozen BK663.out 1; have hfz22_2 := blk_frozen BK663.out 2
      go_wp2
      go_meet
      case rel => exact ⟨_, ((a0_1 != a1_1)), (by first | rfl | (simp; done) | (simp [*]; done)), H', ⟨by first | omega | exact Nat.le_refl _⟩, ⟨hp_ BK662.out⟩, ⟨hp_ BK663.out⟩, ⟨hp_ BK664.out⟩, ⟨bp_⟩⟩
    replace c17 := Bool.eq_false_iff.mpr c17; subst c17
    have H1 : (chequerref03_Beside.j0 k true a0_0 a0_1 l0_2 a1_0 a1_1 l1_2) = some (r1, r2, r3, r4) := by rw [if_neg (show ¬ (false = true) by decide)] at H; exact H
    clear H; have H := H1; clear H1
    have H' := Aside0.mk H
    clear H
    go_wp2
    go_meet
    case rel => exact ⟨_, (true), (by first | rfl | (simp; done) | (simp [*]; done)), H', ⟨by first | omega | exact Nat.le_refl _⟩, ⟨hp_ BK662.out⟩, ⟨hp_ BK663.out⟩, ⟨hp_ BK664.out⟩, ⟨bp_⟩⟩
  replace c16 := Bool.eq_false_iff.mpr c16
  subst c16
  have H1 : (chequerref03_Beside.j0 k true a0_0 a0_1 l0_2 a1_0 a1_1 l1_2) = some (r1, r2, r3, r4) := by rw [if_neg (show ¬ (false = true) by decide)] at H; exact H
  clear H
  have H := H1
  clear H1
  have H' := Aside0.mk H
  clear H
  go_wp2
  go_meet
  case rel => exact ⟨_, (true), (by first | rfl | (simp; done) | (simp [*]; done)), H', ⟨by first | omega | exact Nat.le_refl _⟩, ⟨hp_ BK662.out⟩, ⟨hp_ BK663.out⟩, ⟨hp_ BK664.out⟩, ⟨bp_⟩⟩
 case rest =>
  clear HC5
  try clear c1
  try clear c2
  try clear p2
  try clear c4
  try clear c9
  try clear c10
  try clear c13
  try clear c16
  try clear c17
  try clear c18
  try clear c19
  try clear c20
  try clear c21
  try clear hcz11_0
  try clear hcz11_1
  try clear hcz11_2
  try clear hcz14_0
  try clear hcz14_1
  try clear hcz14_2
  try clear hcz20_0
  try clear hcz20_1
  try clear hcz20_2
  try clear hcz22_0
  try clear hcz22_1
  try clear hcz22_2
  try clear hfz11_0
  try clear hfz11_1
  try clear hfz11_2
  try clear hfz14_0
  try clear hfz14_1
  try clear hfz14_2
  try clear hfz20_0
  try clear hfz20_1
  try clear hfz20_2
  try clear hfz22_0
  try clear hfz22_1
  try clear hfz22_2
  obtain ⟨kq, x27_4, rfl, HA, HJ4, BK662, BK663, BK664, HB⟩ := hcut
  cases kq with
  | zero => exact absurd HA.out (by simp [chequerref03_Beside.j0])
  | succ kj4 =>
   have H := HA.out; clear HA; simp only [chequerref03_Beside.j0] at H
   by_cases c23 : x27_4 = true
   · subst c23
     have H1 : (some (0, 0, ([] : List Int), 1)) = some (r1, r2, r3, r4) := by rw [if_pos rfl] at H; exact H
     clear H; have H := H1; clear H1; simp only [Option.some.injEq, Prod.mk.injEq] at H; obtain ⟨rfl, rfl, rfl, rfl⟩ := H
     have hcz24_0 : wc.cell? ⟨gb664, 0, none⟩ = some (.int .i64 0) := bc_ BK664.out 0
     have hcz24_1 : wc.cell? ⟨gb664, 1, none⟩ = some (.int .i64 0) := bc_ BK664.out 1
     have hcz24_2 : wc.cell? ⟨gb664, 2, none⟩ = some (.slice none 0 0) := bc_ BK664.out 2
     have hfz24_0 := blk_frozen BK664.out 0; have hfz24_1 := blk_frozen BK664.out 1; have hfz24_2 := blk_frozen BK664.out 2
     go_wp2
     refine bodyPost_ret (results_ct rfl _ _ gb664 24 #[.int .i64 0, .int .i64 0, .slice none 0 0] (0, 0) _ rfl (by (with_reducible repeat (first | refine blk_drewN ?_ _ | refine blk_drew ?_ | refine blk_alloc ?_ _)); refine blk_put (cs := #[.int .i64 0, .int .i64 0, .slice none 0 0]) ?_ 2 _ rfl; (with_reducible repeat (first | refine blk_drewN ?_ _ | refine blk_drew ?_ | refine blk_alloc ?_ _)); refine blk_put (cs := #[.int .i64 0, .int .i64 0, .slice none 0 0]) ?_ 1 _ rfl; (with_reducible repeat (first | refine blk_drewN ?_ _ | refine blk_drew ?_ | refine blk_alloc ?_ _)); refine blk_put (cs := #[.int .i64 0, .int .i64 0, .slice none 0 0]) ?_ 0 _ rfl; (with_reducible repeat (first | refine blk_drewN ?_ _ | refine blk_drew ?_ | refine blk_alloc ?_ _)); exact BK664.out) Try.underlying24 rfl (by kernel_rfl)) rfl ?_
     exact ⟨_, by first | rfl | (simp [errW_none, errW_some] <;> rfl) | (simp [*, errW_none, errW_some] <;> rfl), by first | exact Kd.R_nil _ _ _ _ _ | exact Kd.N_nil _ _ _ _ _ | exact Kd.V_nil _ _ _ _ _ | exact Kd.Q_nil _ _ _ _ _ | exact Kd.S_nil _ _ _ _ _, bp_⟩
   replace c23 := Bool.eq_false_iff.mpr c23; subst c23
   have H1 : ((chequerref03_Sized.f (wrap64 (a0_0 + a1_0)) a0_1).bind fun t668 => (if t668 = true then (chequerref03_Beside.l0 kj4 0 a0_0 a0_1 l0_2 a1_0 a1_1 l1_2 (wrap64 (a0_0 + a1_0)) a0_1 ([] : List Int)) else (some (0, 0, ([] : List Int), 1)))) = some (r1, r2, r3, r4) := by rw [if_neg (show ¬ (false = true) by decide)] at H; exact H
   clear H; have H := H1; clear H1; replace H := Option.bind_eq_some_iff.mp H; obtain ⟨t668, A250, H⟩ := H
   replace H : (if t668 = true then (chequerref03_Beside.l0 kj4 0 a0_0 a0_1 l0_2 a1_0 a1_1 l1_2 (wrap64 (a0_0 + a1_0)) a0_1 ([] : List Int)) else (some (0, 0, ([] : List Int), 1))) = some (r1, r2, r3, r4) := H
   have A25 := Aside0.mk A250; clear A250
   by_cases c26 : t668 = true
   · subst c26
     have H1 : (chequerref03_Beside.l0 kj4 0 a0_0 a0_1 l0_2 a1_0 a1_1 l1_2 (wrap64 (a0_0 + a1_0)) a0_1 ([] : List Int)) = some (r1, r2, r3, r4) := by rw [if_pos rfl] at H; exact H
     clear H; have H := H1; clear H1
     have H' := Aside0.mk H
     clear H; have hnb27 := NB662_663.out; have hnc27 := NB663_662.out; have hnb28 := NB662_664.out; have hnc28 := NB664_662.out
     have hcz29_0 : wc.cell? ⟨gb662, 0, none⟩ = some (.int .i64 a0_0) := bc_ BK662.out 0
     have hcz29_1 : wc.cell? ⟨gb662, 1, none⟩ = some (.int .i64 a0_1) := bc_ BK662.out 1
     have hcz29_2 : wc.cell? ⟨gb662, 2, none⟩ = some (.slice A0_2 l0_2.length c0_2) := bc_ BK662.out 2
     have hfz29_0 := blk_frozen BK662.out 0; have hfz29_1 := blk_frozen BK662.out 1; have hfz29_2 := blk_frozen BK662.out 2; have hnb30 := NB663_664.out; have hnc30 := NB664_663.out
     have hcz31_0 : wc.cell? ⟨gb663, 0, none⟩ = some (.int .i64 a1_0) := bc_ BK663.out 0
     have hcz31_1 : wc.cell? ⟨gb663, 1, none⟩ = some (.int .i64 a1_1) := bc_ BK663.out 1
     have hcz31_2 : wc.cell? ⟨gb663, 2, none⟩ = some (.slice A1_2 l1_2.length c1_2) := bc_ BK663.out 2
     have hfz31_0 := blk_frozen BK663.out 0; have hfz31_1 := blk_frozen BK663.out 1; have hfz31_2 := blk_frozen BK663.out 2
     go_wp2_with (first | ((with_reducible refine gate_dst (N := 8) rfl ?_); refine box_event ?hg (N := 8) ?hd (cs := #[.int .i64 0, .int .i64 0, .slice none 0 0]) (t := 24) ?hr ?_; (case hd => rfl); (case hg => rfl); (case hr => first | (go_simp; done) | (go_simp; rfl)); intro gb667 hg w32 hbox hb; have BK667 := Aside0.mk (hbox); have GW667 := Aside0.mk ((by rw [hg]; exact (below_size bp_) : w.heap.size ≤ gb667)); have GE667 := Aside0.mk ((by rw [hg]; exact (below_size bp_) : w.heap.size ≤ gb667)); replace HB := Aside0.mk (below_step bp_ hb); have NB662_667 := Aside0.mk ((nlt_ hg (hp_ BK662.out))); have NB667_662 := Aside0.mk ((ngt_ hg (hp_ BK662.out))); replace BK662 := kb_ BK662.out hb; have NB663_667 := Aside0.mk ((nlt_ hg (hp_ BK663.out))); have NB667_663 := Aside0.mk ((ngt_ hg (hp_ BK663.out))); replace BK663 := kb_ BK663.out hb; have NB664_667 := Aside0.mk ((nlt_ hg (hp_ BK664.out))); have NB667_664 := Aside0.mk ((ngt_ hg (hp_ BK664.out))); replace BK664 := kb_ BK664.out hb; clear hb hbox hg; have hnb33 := NB667_662.out; have hnc33 := NB662_667.out; have hnb34 := NB667_663.out; have hnc34 := NB663_667.out; have hnb35 := NB667_664.out; have hnc35 := NB664_667.out; have hcz36_0 : w32.cell? ⟨gb667, 0, none⟩ = some (.int .i64 0) := bc_ BK667.out 0; have hcz36_1 : w32.cell? ⟨gb667, 1, none⟩ = some (.int .i64 0) := bc_ BK667.out 1; have hcz36_2 : w32.cell? ⟨gb667, 2, none⟩ = some (.slice none 0 0) := bc_ BK667.out 2; have hfz36_0 := blk_frozen BK667.out 0; have hfz36_1 := blk_frozen BK667.out 1; have hfz36_2 := blk_frozen BK667.out 2) | ((with_reducible refine gate_callee (f := 17) rfl ?_); refine goQ_ (some 41) Try.func17 #[.int .i64 (wrap64 (a0_0 + a1_0)), .int .i64 a0_1] ?_; (with_reducible refine (chequerref03_Sized.calls (wrap64 (a0_0 + a1_0)) a0_1 true _ A25.out).mono ?_); rintro e w' ⟨rfl, ⟨nd, rfl⟩⟩; refine ⟨_, rfl, ?_⟩))
     go_loopg [10] kj4 (fun kq v10 w' => ∃ (x10_2 : Int) (x668002_2 : List Int) (u668002 : Value), v10 = .int .i64 x10_2 ∧ Aside0 (chequerref03_Beside.l0 kq x10_2 a0_0 a0_1 l0_2 a1_0 a1_1 l1_2 (wrap64 (a0_0 + a1_0)) a0_1 x668002_2 = some (r1, r2, r3, r4)) ∧ Aside0 (kq ≤ kj4) ∧ Aside0 (Kd.R (Kd.int .u64) 46 w' w.heap.size (fun _ => True) u668002 x668002_2) ∧ Aside0 (w'.heap[gb662]? = some (.cells #[.int .i64 a0_0, .int .i64 a0_1, (.slice A0_2 l0_2.length c0_2)] 24 (0, 0))) ∧ Aside0 (w'.heap[gb663]? = some (.cells #[.int .i64 a1_0, .int .i64 a1_1, (.slice A1_2 l1_2.length c1_2)] 24 (0, 0))) ∧ Aside0 (w'.heap[gb664]? = some (.cells #[.int .i64 0, .int .i64 0, (.slice none 0 0)] 24 (0, 0))) ∧ Aside0 (w'.heap[gb667]? = some (.cells #[.int .i64 (wrap64 (a0_0 + a1_0)), .int .i64 a0_1, u668002] 24 (0, 0))) ∧ Aside0 (Below w.heap.size w w'))
     case atStart => exact ⟨(0), (([] : List Int)), (.slice none 0 0), (by first | rfl | (simp; done) | (simp [*]; done)), H', ⟨Nat.le_refl _⟩, ⟨by first | exact Kd.R_nil _ _ _ _ _ | exact Kd.N_nil _ _ _ _ _ | exact Kd.V_nil _ _ _ _ _ | exact Kd.Q_nil _ _ _ _ _ | exact Kd.S_nil _ _ _ _ _⟩, ⟨hf_ BK662.out NB662_667.out⟩, ⟨hf_ BK663.out NB663_667.out⟩, ⟨hf_ BK664.out NB664_667.out⟩, ⟨by (with_reducible repeat (first | refine blk_drewN ?_ _ | refine blk_drew ?_ | refine blk_alloc ?_ _)); refine blk_put (cs := #[.int .i64 (wrap64 (a0_0 + a1_0)), .int .i64 a0_1, .slice none 0 0]) ?_ 2 _ rfl; (with_reducible repeat (first | refine blk_drewN ?_ _ | refine blk_drew ?_ | refine blk_alloc ?_ _)); refine blk_put (cs := #[.int .i64 (wrap64 (a0_0 + a1_0)), .int .i64 0, .slice none 0 0]) ?_ 1 _ rfl; (with_reducible repeat (first | refine blk_drewN ?_ _ | refine blk_drew ?_ | refine blk_alloc ?_ _)); refine blk_put (cs := #[.int .i64 0, .int .i64 0, .slice none 0 0]) ?_ 0 _ rfl; (with_reducible repeat (first | refine blk_drewN ?_ _ | refine blk_drew ?_ | refine blk_alloc ?_ _)); exact BK667.out⟩, ⟨bp_⟩⟩
     case round =>
      clear H'
      try clear c1
      try clear c2
      try clear p2
      try clear c3
      try clear c4
      try clear p6
      try clear c9
      try clear c10
      try clear c13
      try clear c16
      try clear c17
      try clear c18
      try clear c19
      try clear c20
      try clear c21
      try clear c23
      try clear c26
      try clear c27
      try clear c28
      try clear c30
      try clear c33
      try clear c34
      try clear c35
      try clear hcz11_0
      try clear hcz11_1
      try clear hcz11_2
      try clear hcz14_0
      try clear hcz14_1
      try clear hcz14_2
      try clear hcz20_0
      try clear hcz20_1
      try clear hcz20_2
      try clear hcz22_0
      try clear hcz22_1
      try clear hcz22_2
      try clear hcz24_0
      try clear hcz24_1
      try clear hcz24_2
      try clear hcz29_0
      try clear hcz29_1
      try clear hcz29_2
      try clear hcz31_0
      try clear hcz31_1
      try clear hcz31_2
      try clear hcz36_0
      try clear hcz36_1
      try clear hcz36_2
      try clear hfz11_0
      try clear hfz11_1
      try clear hfz11_2
      try clear hfz14_0
      try clear hfz14_1
      try clear hfz14_2
      try clear hfz20_0
      try clear hfz20_1
      try clear hfz20_2
      try clear hfz22_0
      try clear hfz22_1
      try clear hfz22_2
      try clear hfz24_0
      try clear hfz24_1
      try clear hfz24_2
      try clear hfz29_0
      try clear hfz29_1
      try clear hfz29_2
      try clear hfz31_0
      try clear hfz31_1
      try clear hfz31_2
      try clear hfz36_0
      try clear hfz36_1
      try clear hfz36_2
      try clear p2
      obtain ⟨x10_2, x668002_2, u668002, rfl, HA, HK2, HO_668002, BK662, BK663, BK664, BK667, HB⟩ := hrel
      cases gk with
      | zero => exact absurd HA.out (by simp [chequerref03_Beside.l0])
      | succ k2 =>
       have H := HA.out; clear HA; simp only [chequerref03_Beside.l0] at H
       by_cases c37 : x10_2 < a0_1
       · rw [if_pos c37] at H
         have c37b0 : decide (x10_2 < a0_1) = true := decide_eq_true c37
         clear c37; replace H := Option.bind_eq_some_iff.mp H; obtain ⟨t669, A380, H⟩ := H
         replace H : (if x668002_2.length + t669.length < 17592186044416 then ((some (x668002_2 ++ t669 : List Int)).bind fun y672 => ((chequerref03_Row.f k2 a1_0 a1_1 l1_2 x10_2).bind fun t675 => (if y672.length + t675.length < 17592186044416 then (chequerref03_Beside.l0 k2 (wrap64 (x10_2 + 1)) a0_0 a0_1 l0_2 a1_0 a1_1 l1_2 (wrap64 (a0_0 + a1_0)) a0_1 (y672 ++ t675)) else (none)))) else (none)) = some (r1, r2, r3, r4) := H
         have A38 := Aside0.mk A380; clear A380
         by_cases c39 : x668002_2.length + t669.length < 17592186044416
         · rw [if_pos c39] at H; have LMc39 := Aside0.mk c39; clear c39
           obtain ⟨y672, hy672⟩ : ∃ y_ : List Int, y_ = (x668002_2 ++ t669) := ⟨_, rfl⟩
           replace H : ((chequerref03_Row.f k2 a1_0 a1_1 l1_2 x10_2).bind fun t675 => (if y672.length + t675.length < 17592186044416 then (chequerref03_Beside.l0 k2 (wrap64 (x10_2 + 1)) a0_0 a0_1 l0_2 a1_0 a1_1 l1_2 (wrap64 (a0_0 + a1_0)) a0_1 (y672 ++ t675)) else (none))) = some (r1, r2, r3, r4) := by first | (rw [hy672]; with_reducible exact H) | (have H2_ := (Option.bind_some _ _).symm.trans H; rw [hy672]; with_reducible exact H2_) | (have H2_ := (Option.bind_some _ _).symm.trans H; with_reducible exact H2_) | with_reducible exact H | (rw [hy672]; exact H) | exact H
           have Ny672 := Aside0.mk hy672; clear hy672; replace H := Option.bind_eq_some_iff.mp H; obtain ⟨t675, A400, H⟩ := H
           replace H : (if y672.length + t675.length < 17592186044416 then (chequerref03_Beside.l0 k2 (wrap64 (x10_2 + 1)) a0_0 a0_1 l0_2 a1_0 a1_1 l1_2 (wrap64 (a0_0 + a1_0)) a0_1 (y672 ++ t675)) else (none)) = some (r1, r2, r3, r4) := H
           have A40 := Aside0.mk A400; clear A400
           by_cases c41 : y672.length + t675.length < 17592186044416
           · rw [if_pos c41] at H; have LMc41 := Aside0.mk c41; clear c41
             obtain ⟨y678, hy678⟩ : ∃ y_ : List Int, y_ = (y672 ++ t675) := ⟨_, rfl⟩
             replace H : (chequerref03_Beside.l0 k2 (wrap64 (x10_2 + 1)) a0_0 a0_1 l0_2 a1_0 a1_1 l1_2 (wrap64 (a0_0 + a1_0)) a0_1 y678) = some (r1, r2, r3, r4) := by first | (rw [hy678]; with_reducible exact H) | (have H2_ := (Option.bind_some _ _).symm.trans H; rw [hy678]; with_reducible exact H2_) | (have H2_ := (Option.bind_some _ _).symm.trans H; with_reducible exact H2_) | with_reducible exact H | (rw [hy678]; exact H) | exact H
             have Ny678 := Aside0.mk hy678; clear hy678
             have H' := Aside0.mk H
             clear H; have hnb42 := NB662_663.out; have hnc42 := NB663_662.out; have hnb43 := NB662_664.out; have hnc43 := NB664_662.out; have hnb44 := NB662_667.out; have hnc44 := NB667_662.out
             have hcz45_0 : wr.cell? ⟨gb662, 0, none⟩ = some (.int .i64 a0_0) := bc_ BK662.out 0
             have hcz45_1 : wr.cell? ⟨gb662, 1, none⟩ = some (.int .i64 a0_1) := bc_ BK662.out 1
             have hcz45_2 : wr.cell? ⟨gb662, 2, none⟩ = some (.slice A0_2 l0_2.length c0_2) := bc_ BK662.out 2
             have hfz45_0 := blk_frozen BK662.out 0; have hfz45_1 := blk_frozen BK662.out 1; have hfz45_2 := blk_frozen BK662.out 2
             try go_wp2
             (try (rw [drewN_self wr]; generalize hq_ : World.drewN wr _ = wr; have n0_ := Aside0.mk (qrp_ hq_ HO_668002.out); have n1_ := Aside0.mk (qhp_ hq_ BK662.out); have n2_ := Aside0.mk (qhp_ hq_ BK663.out); have n3_ := Aside0.mk (qhp_ hq_ BK664.out); have n4_ := Aside0.mk (qhp_ hq_ BK667.out); have n5_ : Aside0 (Below w.heap.size w wr) := ⟨qbp_ hq_⟩; clear HO_668002 BK662 BK663 BK664 BK667 HB hq_; have HO_668002 := n0_; have BK662 := n1_; have BK663 := n2_; have BK664 := n3_; have BK667 := n4_; have HB := n5_; clear n0_ n1_ n2_ n3_ n4_ n5_))
             replace HO_668002 := Aside0.mk (Kd.R_drew HO_668002.out); replace BK662 := Aside0.mk (blk_drew BK662.out); replace BK663 := Aside0.mk (blk_drew BK663.out); replace BK664 := Aside0.mk (blk_drew BK664.out); replace BK667 := Aside0.mk (blk_drew BK667.out); replace HB := Aside0.mk (below_drew1 HB.out); refine start_ (n := 8) (S := fun w' => w'.cell? ⟨gb667, 0, none⟩ = some (.int .i64 (wrap64 (a0_0 + a1_0))) ∧ w'.cell? ⟨gb667, 1, none⟩ = some (.int .i64 a0_1) ∧ w'.cell? ⟨gb667, 2, none⟩ = some (u668002) ∧ w'.cell? ⟨gb662, 0, none⟩ = some (.int .i64 a0_0) ∧ w'.cell? ⟨gb662, 1, none⟩ = some (.int .i64 a0_1) ∧ w'.cell? ⟨gb662, 2, none⟩ = some (.slice A0_2 l0_2.length c0_2)) (ds := [7]) #[false, false, false, false, false, false, false, false] (by kernel_rfl) rfl rfl ⟨bc_ BK667.out 0, bc_ BK667.out 1, bc_ BK667.out 2, bc_ BK662.out 0, bc_ BK662.out 1, bc_ BK662.out 2⟩ (fun hHeld => ?_); refine with_tabW chequerref03_Beside.tab12 chequerref03_Beside.bits12 (fun HT_ HW_ => ?_)
             generalize wr.drew = w46 at HO_668002 BK662 BK663 BK664 BK667 HB hHeld ⊢
             refine pur_ (i := 0) (N := some 51) #[true, false, false, false, false, false, false, false] (any_of HT_.out (by kernel_rfl)) ?_; refine pur_ (i := 3) (N := some 54) #[true, false, false, true, false, false, false, false] (any_of HT_.out (by kernel_rfl)) ?_; refine tak_ (i := 1) (N := some 52) #[true, true, false, true, false, false, false, false] (take_ofW HT_.out HW_.out (by kernel_rfl)) hHeld ?_; refine tak_ (i := 2) (N := some 53) #[true, true, true, true, false, false, false, false] (take_ofW HT_.out HW_.out (by kernel_rfl)) hHeld ?_; refine one_ (i := 4) (N := some 55) #[true, true, true, true, true, false, false, false] rfl rfl (one_of HT_.out (by kernel_rfl)) (by decide) (fun K hK => ?_); refine goZ_ Try.func31 #[.agg #[.int .i64 a0_0, .int .i64 a0_1, .slice A0_2 l0_2.length c0_2], .int .i64 x10_2] ?_
             with_reducible refine (chequerref03_Row.calls k2 a0_0 a0_1 _ _ l0_2 x10_2 t669 _ ?side1 ?side2 A38.out).mono ?_
             (case side1 => repeat (first | exact (Kd.C_below HR0_2.out HB.out) | (with_reducible refine Kd.C_alloc ?_ _) | (with_reducible refine Kd.C_drewN ?_ _) | (with_reducible refine Kd.C_drew ?_)))
             (case side2 => exact HC0_2.out)
             rintro e w47 ⟨v670, rfl, ho0, hb⟩
             refine ⟨_, rfl, ?_⟩; have HO671 := Aside0.mk (Kd.R_lower (Kd.R_new' ho0 (Kd.R_lt (rp_ HO_668002.out))) (below_size bp_)); replace HO_668002 := Aside0.mk (Kd.R_elder' (rp_ HO_668002.out) (Kd.R_base ho0) hb); replace BK662 := kb_ BK662.out hb; replace BK663 := kb_ BK663.out hb; replace BK664 := kb_ BK664.out hb; replace BK667 := kb_ BK667.out hb; replace HB := Aside0.mk (below_step bp_ hb)
             (try clear hb)
             (try clear hb2)
             (try clear hk)
             (try clear hi)
             (try clear ho0)
             obtain ⟨Ao49, co49, eo49⟩ := Kd.R_slice HO671.out
             (first | subst eo49 | (injection eo49 with f1_ f2_ f3_; have f4_ := f1_.symm; have f5_ := f3_.symm; clear f1_ f2_ f3_; subst f4_; subst f5_))
             refine hK.out _ _ ⟨bc_ BK667.out 0, bc_ BK667.out 1, bc_ BK667.out 2, bc_ BK662.out 0, bc_ BK662.out 1, bc_ BK662.out 2⟩ (fun hHeld => ?_); clear hK K; refine nor_ (some 55) ?_; refine one_ (i := 5) (N := some 56) #[true, true, true, true, true, true, false, false] rfl rfl (one_of HT_.out (by kernel_rfl)) (by decide) (fun K hK => ?_); refine Kd.R_append_rows_step (Kd.int .u64) (w0 := w) w.heap.size (by rfl) (.tmp 52) (.tmp 55) 22 46 (.int .u64 0) 8 rfl Try.underlying22 info46 rfl (by decide) (by omega) u668002 x668002_2 t669 _ _ _ (fun k_ => some k_ ≠ (.slice Ao49 t669.length co49 : Value).ownBlock) (fun _ => False) rfl rfl ?aO ?aR (fun _ _ h => h) (fun _ h => h.elim) ?aF ?aB ?aS ?aL ?_
             (case aR => repeat (first | exact (Kd.R_reads' HO671.out).2.2 | (with_reducible refine Kd.C_alloc ?_ _) | (with_reducible refine Kd.C_drewN ?_ _) | (with_reducible refine Kd.C_drew ?_)))
             (case aB => exact bp_)
             (case aF => exact (fun k_ hk => Kd.fresh' (Kd.R_lt (rp_ HO671.out)) k_ hk))
             (case aO => exact (by (with_reducible repeat (first | apply Kd.R_alloc | apply Kd.R_drewN | apply Kd.R_drew)); exact Kd.R_mono HO_668002.out (fun _ hk => hk.2)))
             (case aS => exact (below_size bp_))
             (case aL => have := LMc39.out; omega)
             intro v673 w48 ho hb hg hat
             rw [← Ny672.out] at ho; replace BK662 := Aside0.mk (blk_grown (g := gb662) (o := .cells #[.int .i64 a0_0, .int .i64 a0_1, .slice A0_2 l0_2.length c0_2] 24 (0, 0)) (hp_ BK662.out) hg (Kd.R_ne HO_668002.out BK662.out (by decide))); replace BK663 := Aside0.mk (blk_grown (g := gb663) (o := .cells #[.int .i64 a1_0, .int .i64 a1_1, .slice A1_2 l1_2.length c1_2] 24 (0, 0)) (hp_ BK663.out) hg (Kd.R_ne HO_668002.out BK663.out (by decide))); replace BK664 := Aside0.mk (blk_grown (g := gb664) (o := .cells #[.int .i64 0, .int .i64 0, .slice none 0 0] 24 (0, 0)) (hp_ BK664.out) hg (Kd.R_ne HO_668002.out BK664.out (by decide))); replace BK667 := Aside0.mk (blk_grown (g := gb667) (o := .cells #[.int .i64 (wrap64 (a0_0 + a1_0)), .int .i64 a0_1, u668002] 24 (0, 0)) (hp_ BK667.out) hg (Kd.R_ne HO_668002.out BK667.out (by decide))); replace HO671 := Aside0.mk (Kd.R_after (ok := (fun _ => True)) (rp_ HO671.out) hg hat); replace HB := Aside0.mk (hb); have HO674 := Aside0.mk (ho); clear HO_668002; clear ho hb hg hat
             obtain ⟨Ao50, co50, eo50⟩ := Kd.R_slice HO674.out
             (first | subst eo50 | (injection eo50 with f1_ f2_ f3_; have f4_ := f1_.symm; have f5_ := f3_.symm; clear f1_ f2_ f3_; subst f4_; subst f5_))
             refine hK.out _ _ ⟨bc_ BK667.out 0, bc_ BK667.out 1, bc_ BK667.out 2, bc_ BK662.out 0, bc_ BK662.out 1, bc_ BK662.out 2⟩ (fun hHeld => ?_); clear hK K; refine nor_ (some 56) ?_; refine pur_ (i := 6) (N := some 57) #[true, true, true, true, true, true, true, false] (any_of HT_.out (by kernel_rfl)) ?_; refine last_ (i := 7) (N := none) #[true, true, true, true, true, true, true, true] rfl rfl (one_of HT_.out (by kernel_rfl)) (by decide) (fun K hK => ?_)
             have hs51 : w48.cell? ⟨gb667, 2, none⟩ = some (u668002) := bc_ BK667.out 2
             have hfs51 := blk_frozen BK667.out 2; have hns51_0 := NB662_667.out; have hns51_1 := NB663_667.out; have hns51_2 := NB664_667.out; have hms51_0 := NB667_662.out; have hms51_1 := NB667_663.out; have hms51_2 := NB667_664.out; refine skip_ (w1 := ?_) (by rfl) rfl ?_ ?_; rotate_left
             · go_simp; rfl
             refine hK.out _ _ ?_; clear hK K; refine done_ (done_of HT_.out (by kernel_rfl)) ?_
             try go_wp2
             generalize hW_ : (w48.setCell ⟨gb667, 2, none⟩ (.slice Ao50 y672.length co50)) = w52
             replace HO671 := Aside0.mk (rw_ hW_ HO671.out BK667.out); replace HO674 := Aside0.mk (rw_ hW_ HO674.out BK667.out); replace BK662 := Aside0.mk (bw_ hW_ BK662.out NB662_667.out); replace BK663 := Aside0.mk (bw_ hW_ BK663.out NB663_667.out); replace BK664 := Aside0.mk (bw_ hW_ BK664.out NB664_667.out)
             replace BK667 : Aside0 (w52.heap[gb667]? = some (.cells #[.int .i64 (wrap64 (a0_0 + a1_0)), .int .i64 a0_1, .slice Ao50 y672.length co50] 24 (0, 0))) := ⟨by rw [← hW_]; exact (by (with_reducible repeat (first | refine blk_drewN ?_ _ | refine blk_drew ?_ | refine blk_alloc ?_ _)); refine blk_put (cs := #[.int .i64 (wrap64 (a0_0 + a1_0)), .int .i64 a0_1, u668002]) ?_ 2 _ rfl; (with_reducible repeat (first | refine blk_drewN ?_ _ | refine blk_drew ?_ | refine blk_alloc ?_ _)); exact BK667.out)⟩
             replace HB : Aside0 (Below w.heap.size w w52) := ⟨by rw [← hW_]; exact bp_⟩
             clear hW_; replace HO671 := Aside0.mk (Kd.R_drew HO671.out); replace HO674 := Aside0.mk (Kd.R_drew HO674.out); replace BK662 := Aside0.mk (blk_drew BK662.out); replace BK663 := Aside0.mk (blk_drew BK663.out); replace BK664 := Aside0.mk (blk_drew BK664.out); replace BK667 := Aside0.mk (blk_drew BK667.out); replace HB := Aside0.mk (below_drew1 HB.out); refine start_ (n := 8) (S := fun w' => w'.cell? ⟨gb667, 0, none⟩ = some (.int .i64 (wrap64 (a0_0 + a1_0))) ∧ w'.cell? ⟨gb667, 1, none⟩ = some (.int .i64 a0_1) ∧ w'.cell? ⟨gb667, 2, none⟩ = some (.slice Ao50 y672.length co50) ∧ w'.cell? ⟨gb663, 0, none⟩ = some (.int .i64 a1_0) ∧ w'.cell? ⟨gb663, 1, none⟩ = some (.int .i64 a1_1) ∧ w'.cell? ⟨gb663, 2, none⟩ = some (.slice A1_2 l1_2.length c1_2)) (ds := [7]) #[false, false, false, false, false, false, false, false] (by kernel_rfl) rfl rfl ⟨bc_ BK667.out 0, bc_ BK667.out 1, bc_ BK667.out 2, bc_ BK663.out 0, bc_ BK663.out 1, bc_ BK663.out 2⟩ (fun hHeld => ?_); refine with_tabW chequerref03_Beside.tab13 chequerref03_Beside.bits13 (fun HT_ HW_ => ?_)
             generalize w52.drew = w53 at HO671 HO674 BK662 BK663 BK664 BK667 HB hHeld ⊢
             refine pur_ (i := 0) (N := some 58) #[true, false, false, false, false, false, false, false] (any_of HT_.out (by kernel_rfl)) ?_; refine pur_ (i := 3) (N := some 61) #[true, false, false, true, false, false, false, false] (any_of HT_.out (by kernel_rfl)) ?_; refine tak_ (i := 1) (N := some 59) #[true, true, false, true, false, false, false, false] (take_ofW HT_.out HW_.out (by kernel_rfl)) hHeld ?_; refine tak_ (i := 2) (N := some 60) #[true, true, true, true, false, false, false, false] (take_ofW HT_.out HW_.out (by kernel_rfl)) hHeld ?_; refine one_ (i := 4) (N := some 62) #[true, true, true, true, true, false, false, false] rfl rfl (one_of HT_.out (by kernel_rfl)) (by decide) (fun K hK => ?_); refine goZ_ Try.func31 #[.agg #[.int .i64 a1_0, .int .i64 a1_1, .slice A1_2 l1_2.length c1_2], .int .i64 x10_2] ?_
             with_reducible refine (chequerref03_Row.calls k2 a1_0 a1_1 _ _ l1_2 x10_2 t675 _ ?side1 ?side2 A40.out).mono ?_
             (case side1 => repeat (first | exact (Kd.C_below HR1_2.out HB.out) | (with_reducible refine Kd.C_alloc ?_ _) | (with_reducible refine Kd.C_drewN ?_ _) | (with_reducible refine Kd.C_drew ?_)))
             (case side2 => exact HC1_2.out)
             rintro e w54 ⟨v676, rfl, ho0, hb⟩
             refine ⟨_, rfl, ?_⟩; have HO677 := Aside0.mk (Kd.R_lower (Kd.R_new' (Kd.R_new' ho0 (Kd.R_lt (rp_ HO671.out))) (Kd.R_lt (rp_ HO674.out))) (below_size bp_)); replace HO671 := Aside0.mk (Kd.R_elder' (rp_ HO671.out) (Kd.R_base ho0) hb); replace HO674 := Aside0.mk (Kd.R_elder' (rp_ HO674.out) (Kd.R_base ho0) hb); replace BK662 := kb_ BK662.out hb; replace BK663 := kb_ BK663.out hb; replace BK664 := kb_ BK664.out hb; replace BK667 := kb_ BK667.out hb; replace HB := Aside0.mk (below_step bp_ hb)
             (try clear hb)
             (try clear hb2)
             (try clear hk)
             (try clear hi)
             (try clear ho0)
             obtain ⟨Ao56, co56, eo56⟩ := Kd.R_slice HO677.out
             (first | subst eo56 | (injection eo56 with f1_ f2_ f3_; have f4_ := f1_.symm; have f5_ := f3_.symm; clear f1_ f2_ f3_; subst f4_; subst f5_))
             refine hK.out _ _ ⟨bc_ BK667.out 0, bc_ BK667.out 1, bc_ BK667.out 2, bc_ BK663.out 0, bc_ BK663.out 1, bc_ BK663.out 2⟩ (fun hHeld => ?_); clear hK K; refine nor_ (some 62) ?_; refine one_ (i := 5) (N := some 63) #[true, true, true, true, true, true, false, false] rfl rfl (one_of HT_.out (by kernel_rfl)) (by decide) (fun K hK => ?_); refine Kd.R_append_rows_step (Kd.int .u64) (w0 := w) w.heap.size (by rfl) (.tmp 59) (.tmp 62) 22 46 (.int .u64 0) 8 rfl Try.underlying22 info46 rfl (by decide) (by omega) (.slice Ao50 y672.length co50) y672 t675 _ _ _ (fun k_ => some k_ ≠ (.slice Ao49 t669.length co49 : Value).ownBlock ∧ some k_ ≠ (.slice Ao56 t675.length co56 : Value).ownBlock) (fun _ => False) rfl rfl ?aO ?aR (fun _ _ h => h) (fun _ h => h.elim) ?aF ?aB ?aS ?aL ?_
             (case aR => repeat (first | exact (Kd.R_reads' HO677.out).2.2 | (with_reducible refine Kd.C_alloc ?_ _) | (with_reducible refine Kd.C_drewN ?_ _) | (with_reducible refine Kd.C_drew ?_)))
             (case aB => exact bp_)
             (case aF => exact (fun k_ hk => ⟨Kd.fresh' (Kd.R_lt (rp_ HO671.out)) k_ hk, Kd.fresh' (Kd.R_lt (rp_ HO677.out)) k_ hk⟩))
             (case aO => exact (rp_ HO674.out))
             (case aS => exact (below_size bp_))
             (case aL => have := LMc41.out; omega)
             intro v679 w55 ho hb hg hat
             rw [← Ny678.out] at ho; replace BK662 := Aside0.mk (blk_grown (g := gb662) (o := .cells #[.int .i64 a0_0, .int .i64 a0_1, .slice A0_2 l0_2.length c0_2] 24 (0, 0)) (hp_ BK662.out) hg (Kd.R_ne HO674.out BK662.out (by decide))); replace BK663 := Aside0.mk (blk_grown (g := gb663) (o := .cells #[.int .i64 a1_0, .int .i64 a1_1, .slice A1_2 l1_2.length c1_2] 24 (0, 0)) (hp_ BK663.out) hg (Kd.R_ne HO674.out BK663.out (by decide))); replace BK664 := Aside0.mk (blk_grown (g := gb664) (o := .cells #[.int .i64 0, .int .i64 0, .slice none 0 0] 24 (0, 0)) (hp_ BK664.out) hg (Kd.R_ne HO674.out BK664.out (by decide))); replace BK667 := Aside0.mk (blk_grown (g := gb667) (o := .cells #[.int .i64 (wrap64 (a0_0 + a1_0)), .int .i64 a0_1, .slice Ao50 y672.length co50] 24 (0, 0)) (hp_ BK667.out) hg (Kd.R_ne HO674.out BK667.out (by decide))); replace HO671 := Aside0.mk (Kd.R_after (ok := (fun k_ => some k_ ≠ (.slice Ao56 t675.length co56 : Value).ownBlock)) (by (with_reducible repeat (first | apply Kd.R_alloc | apply Kd.R_drewN | apply Kd.R_drew)); exact Kd.R_mono HO671.out (fun _ hk => ⟨hk.2, hk.1.2⟩)) hg hat); replace HO677 := Aside0.mk (Kd.R_after (ok := (fun k_ => some k_ ≠ (.slice Ao49 t669.length co49 : Value).ownBlock)) (by (with_reducible repeat (first | apply Kd.R_alloc | apply Kd.R_drewN | apply Kd.R_drew)); exact Kd.R_mono HO677.out (fun _ hk => ⟨hk.1.2, hk.2⟩)) hg hat); replace HB := Aside0.mk (hb); have HO680 := Aside0.mk (ho); clear HO674; clear ho hb hg hat
             obtain ⟨Ao57, co57, eo57⟩ := Kd.R_slice HO680.out
             (first | subst eo57 | (injection eo57 with f1_ f2_ f3_; have f4_ := f1_.symm; have f5_ := f3_.symm; clear f1_ f2_ f3_; subst f4_; subst f5_))
             refine hK.out _ _ ⟨bc_ BK667.out 0, bc_ BK667.out 1, bc_ BK667.out 2, bc_ BK663.out 0, bc_ BK663.out 1, bc_ BK663.out 2⟩ (fun hHeld => ?_); clear hK K; refine nor_ (some 63) ?_; refine pur_ (i := 6) (N := some 64) #[true, true, true, true, true, true, true, false] (any_of HT_.out (by kernel_rfl)) ?_; refine last_ (i := 7) (N := none) #[true, true, true, true, true, true, true, true] rfl rfl (one_of HT_.out (by kernel_rfl)) (by decide) (fun K hK => ?_)
             have hs58 : w55.cell? ⟨gb667, 2, none⟩ = some (.slice Ao50 y672.length co50) := bc_ BK667.out 2
             have hfs58 := blk_frozen BK667.out 2; have hns58_0 := NB662_667.out; have hns58_1 := NB663_667.out; have hns58_2 := NB664_667.out; have hms58_0 := NB667_662.out; have hms58_1 := NB667_663.out; have hms58_2 := NB667_664.out; refine skip_ (w1 := ?_) (by rfl) rfl ?_ ?_; rotate_left
             · go_simp; rfl
             refine hK.out _ _ ?_; clear hK K; refine done_ (done_of HT_.out (by kernel_rfl)) ?_
             try go_wp2
             go_roundg k2
             case measure => have := HJ4.out; have := HK2.out; omega
             case rel => exact ⟨(wrap64 (x10_2 + 1)), (y678), (.slice Ao57 y678.length co57), (by first | rfl | (simp; done) | (simp [*]; done)), H', ⟨by have := HJ4.out; have := HK2.out; omega⟩, ⟨rf_ HO680.out BK667.out (by decide) (fun _ hk => trivial)⟩, ⟨hf_ BK662.out NB662_667.out⟩, ⟨hf_ BK663.out NB663_667.out⟩, ⟨hf_ BK664.out NB664_667.out⟩, ⟨by (with_reducible repeat (first | refine blk_drewN ?_ _ | refine blk_drew ?_ | refine blk_alloc ?_ _)); refine blk_put (cs := #[.int .i64 (wrap64 (a0_0 + a1_0)), .int .i64 a0_1, .slice Ao50 y672.length co50]) ?_ 2 _ rfl; (with_reducible repeat (first | refine blk_drewN ?_ _ | refine blk_drew ?_ | refine blk_alloc ?_ _)); exact BK667.out⟩, ⟨bp_⟩⟩
           rw [if_neg c41] at H
           exact absurd H (by simp)
         rw [if_neg c39] at H
         exact absurd H (by simp)
       rw [if_neg c37] at H
       have c37b0 : decide (x10_2 < a0_1) = false := decide_eq_false c37
       clear c37; simp only [Option.some.injEq, Prod.mk.injEq] at H; obtain ⟨rfl, rfl, rfl, rfl⟩ := H; have hnb59 := NB662_664.out; have hnc59 := NB664_662.out; have hnb60 := NB662_667.out; have hnc60 := NB667_662.out
       have hcz61_0 : wr.cell? ⟨gb662, 0, none⟩ = some (.int .i64 a0_0) := bc_ BK662.out 0
       have hcz61_1 : wr.cell? ⟨gb662, 1, none⟩ = some (.int .i64 a0_1) := bc_ BK662.out 1
       have hcz61_2 : wr.cell? ⟨gb662, 2, none⟩ = some (.slice A0_2 l0_2.length c0_2) := bc_ BK662.out 2
       have hfz61_0 := blk_frozen BK662.out 0; have hfz61_1 := blk_frozen BK662.out 1; have hfz61_2 := blk_frozen BK662.out 2; have hnb62 := NB667_664.out; have hnc62 := NB664_667.out
       have hcz63_0 : wr.cell? ⟨gb667, 0, none⟩ = some (.int .i64 (wrap64 (a0_0 + a1_0))) := bc_ BK667.out 0
       have hcz63_1 : wr.cell? ⟨gb667, 1, none⟩ = some (.int .i64 a0_1) := bc_ BK667.out 1
       have hcz63_2 : wr.cell? ⟨gb667, 2, none⟩ = some (u668002) := bc_ BK667.out 2
       have hfz63_0 := blk_frozen BK667.out 0; have hfz63_1 := blk_frozen BK667.out 1; have hfz63_2 := blk_frozen BK667.out 2
       have hcz64_0 : wr.cell? ⟨gb664, 0, none⟩ = some (.int .i64 0) := bc_ BK664.out 0
       have hcz64_1 : wr.cell? ⟨gb664, 1, none⟩ = some (.int .i64 0) := bc_ BK664.out 1
       have hcz64_2 : wr.cell? ⟨gb664, 2, none⟩ = some (.slice none 0 0) := bc_ BK664.out 2
       have hfz64_0 := blk_frozen BK664.out 0; have hfz64_1 := blk_frozen BK664.out 1; have hfz64_2 := blk_frozen BK664.out 2
       obtain ⟨Ao65, co65, eo65⟩ := Kd.R_slice HO_668002.out
       subst eo65
       go_wp2
       refine bodyPost_ret (results_ct rfl _ _ gb664 24 #[.int .i64 (wrap64 (a0_0 + a1_0)), .int .i64 a0_1, .slice Ao65 x668002_2.length co65] (0, 0) _ rfl (by (with_reducible repeat (first | refine blk_drewN ?_ _ | refine blk_drew ?_ | refine blk_alloc ?_ _)); refine blk_put (cs := #[.int .i64 (wrap64 (a0_0 + a1_0)), .int .i64 a0_1, .slice none 0 0]) ?_ 2 _ rfl; (with_reducible repeat (first | refine blk_drewN ?_ _ | refine blk_drew ?_ | refine blk_alloc ?_ _)); refine blk_put (cs := #[.int .i64 (wrap64 (a0_0 + a1_0)), .int .i64 0, .slice none 0 0]) ?_ 1 _ rfl; (with_reducible repeat (first | refine blk_drewN ?_ _ | refine blk_drew ?_ | refine blk_alloc ?_ _)); refine blk_put (cs := #[.int .i64 0, .int .i64 0, .slice none 0 0]) ?_ 0 _ rfl; (with_reducible repeat (first | refine blk_drewN ?_ _ | refine blk_drew ?_ | refine blk_alloc ?_ _)); exact BK664.out) Try.underlying24 rfl (by kernel_rfl)) rfl ?_
       exact ⟨_, by first | rfl | (simp [errW_none, errW_some] <;> rfl) | (simp [*, errW_none, errW_some] <;> rfl), rf_ HO_668002.out BK664.out (by decide) (fun _ hk => trivial), bp_⟩
   replace c26 := Bool.eq_false_iff.mpr c26; subst c26
   have H1 : (some (0, 0, ([] : List Int), 1)) = some (r1, r2, r3, r4) := by rw [if_neg (show ¬ (false = true) by decide)] at H; exact H
   clear H; have H := H1; clear H1; simp only [Option.some.injEq, Prod.mk.injEq] at H; obtain ⟨rfl, rfl, rfl, rfl⟩ := H; have hnb66 := NB662_663.out; have hnc66 := NB663_662.out; have hnb67 := NB662_664.out; have hnc67 := NB664_662.out
   have hcz68_0 : wc.cell? ⟨gb662, 0, none⟩ = some (.int .i64 a0_0) := bc_ BK662.out 0
   have hcz68_1 : wc.cell? ⟨gb662, 1, none⟩ = some (.int .i64 a0_1) := bc_ BK662.out 1
   have hcz68_2 : wc.cell? ⟨gb662, 2, none⟩ = some (.slice A0_2 l0_2.length c0_2) := bc_ BK662.out 2
   have hfz68_0 := blk_frozen BK662.out 0; have hfz68_1 := blk_frozen BK662.out 1; have hfz68_2 := blk_frozen BK662.out 2; have hnb69 := NB663_664.out; have hnc69 := NB664_663.out
   have hcz70_0 : wc.cell? ⟨gb663, 0, none⟩ = some (.int .i64 a1_0) := bc_ BK663.out 0
   have hcz70_1 : wc.cell? ⟨gb663, 1, none⟩ = some (.int .i64 a1_1) := bc_ BK663.out 1
   have hcz70_2 : wc.cell? ⟨gb663, 2, none⟩ = some (.slice A1_2 l1_2.length c1_2) := bc_ BK663.out 2
   have hfz70_0 := blk_frozen BK663.out 0; have hfz70_1 := blk_frozen BK663.out 1; have hfz70_2 := blk_frozen BK663.out 2
   go_wp2_with (first | ((with_reducible refine gate_dst (N := 8) rfl ?_); refine box_event ?hg (N := 8) ?hd (cs := #[.int .i64 0, .int .i64 0, .slice none 0 0]) (t := 24) ?hr ?_; (case hd => rfl); (case hg => rfl); (case hr => first | (go_simp; done) | (go_simp; rfl)); intro gb667 hg w71 hbox hb; have BK667 := Aside0.mk (hbox); have GW667 := Aside0.mk ((by rw [hg]; exact (below_size bp_) : w.heap.size ≤ gb667)); have GE667 := Aside0.mk ((by rw [hg]; exact (below_size bp_) : w.heap.size ≤ gb667)); replace HB := Aside0.mk (below_step bp_ hb); have NB664_667 := Aside0.mk ((nlt_ hg (hp_ BK664.out))); have NB667_664 := Aside0.mk ((ngt_ hg (hp_ BK664.out))); replace BK664 := kb_ BK664.out hb; clear hb hbox hg; have hnb72 := NB667_664.out; have hnc72 := NB664_667.out; have hcz73_0 : w71.cell? ⟨gb667, 0, none⟩ = some (.int .i64 0) := bc_ BK667.out 0; have hcz73_1 : w71.cell? ⟨gb667, 1, none⟩ = some (.int .i64 0) := bc_ BK667.out 1; have hcz73_2 : w71.cell? ⟨gb667, 2, none⟩ = some (.slice none 0 0) := bc_ BK667.out 2; have hfz73_0 := blk_frozen BK667.out 0; have hfz73_1 := blk_frozen BK667.out 1; have hfz73_2 := blk_frozen BK667.out 2) | ((with_reducible refine gate_callee (f := 17) rfl ?_); refine goQ_ (some 41) Try.func17 #[.int .i64 (wrap64 (a0_0 + a1_0)), .int .i64 a0_1] ?_; (with_reducible refine (chequerref03_Sized.calls (wrap64 (a0_0 + a1_0)) a0_1 false _ A25.out).mono ?_); rintro e w' ⟨rfl, ⟨nd, rfl⟩⟩; refine ⟨_, rfl, ?_⟩; have hcz74_0 : w71.cell? ⟨gb664, 0, none⟩ = some (.int .i64 0) := bc_ BK664.out 0; have hcz74_1 : w71.cell? ⟨gb664, 1, none⟩ = some (.int .i64 0) := bc_ BK664.out 1; have hcz74_2 : w71.cell? ⟨gb664, 2, none⟩ = some (.slice none 0 0) := bc_ BK664.out 2; have hfz74_0 := blk_frozen BK664.out 0; have hfz74_1 := blk_frozen BK664.out 1; have hfz74_2 := blk_frozen BK664.out 2))
   refine bodyPost_ret (results_ct rfl _ _ gb664 24 #[.int .i64 0, .int .i64 0, .slice none 0 0] (0, 0) _ rfl (by (with_reducible repeat (first | refine blk_drewN ?_ _ | refine blk_drew ?_ | refine blk_alloc ?_ _)); refine blk_put (cs := #[.int .i64 0, .int .i64 0, .slice none 0 0]) ?_ 2 _ rfl; (with_reducible repeat (first | refine blk_drewN ?_ _ | refine blk_drew ?_ | refine blk_alloc ?_ _)); refine blk_put (cs := #[.int .i64 0, .int .i64 0, .slice none 0 0]) ?_ 1 _ rfl; (with_reducible repeat (first | refine blk_drewN ?_ _ | refine blk_drew ?_ | refine blk_alloc ?_ _)); refine blk_put (cs := #[.int .i64 0, .int .i64 0, .slice none 0 0]) ?_ 0 _ rfl; (with_reducible repeat (first | refine blk_drewN ?_ _ | refine blk_drew ?_ | refine blk_alloc ?_ _)); refine blk_far ?_ NB664_667.out _; (with_reducible repeat (first | refine blk_drewN ?_ _ | refine blk_drew ?_ | refine blk_alloc ?_ _)); refine blk_far ?_ NB664_667.out _; (with_reducible repeat (first | refine blk_drewN ?_ _ | refine blk_drew ?_ | refine blk_alloc ?_ _)); refine blk_far ?_ NB664_667.out _; (with_reducible repeat (first | refine blk_drewN ?_ _ | refine blk_drew ?_ | refine blk_alloc ?_ _)); exact BK664.out) Try.underlying24 rfl (by kernel_rfl)) rfl ?_
   exact ⟨_, by first | rfl | (simp [errW_none, errW_some] <;> rfl) | (simp [*, errW_none, errW_some] <;> rfl), by first | exact Kd.R_nil _ _ _ _ _ | exact Kd.N_nil _ _ _ _ _ | exact Kd.V_nil _ _ _ _ _ | exact Kd.Q_nil _ _ _ _ _ | exact Kd.S_nil _ _ _ _ _, bp_⟩

end Go.Proofs.Ytidpaaemfiopkaa.Q
