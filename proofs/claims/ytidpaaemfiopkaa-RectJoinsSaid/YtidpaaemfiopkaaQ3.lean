-- written by our own program (wip/tools/myprint.py) out of the translation, by the kit's print; Lean checks it
import Derived.Test.YtidpaaemfiopkaaQ0
import Derived.Test.YtidpaaemfiopkaaQ2
namespace Go.Proofs.Ytidpaaemfiopkaa.Q
open Go.RowKit Go.Proofs.YtidpaaemfiopkaaW.PrintWords Go.Proofs.YtidpaaemfiopkaaW.PrintLast Go.Proofs.YtidpaaemfiopkaaW.PrintMore
attribute [local go_sem] max2_int min2_int max_two min_two max_three min_three max_four min_four   -- for this text's walks alone
set_option linter.unusedVariables false
set_option linter.unusedSimpArgs false


/-! ### chequerref03_Sub: function 12 -/
mutual
def chequerref03_Sub.j0 : Nat → Int → Int → Int → Int → Bool → Int → Int → List Int → Option (Int × Int × List Int × Bool)
 | 0, _, _, _, _, _, _, _, _ => none
 | k + 1, x1, x2, x3, x4, x42, x116000, x116001, x116002 => if x42 = true then (some (0, 0, ([] : List Int), false)) else (if x3 > (wrap64 (x116000 - x1)) then (chequerref03_Sub.j1 k x1 x2 x3 x4 true x116000 x116001 x116002) else (chequerref03_Sub.j1 k x1 x2 x3 x4 (decide (x4 > (wrap64 (x116001 - x2)))) x116000 x116001 x116002))
def chequerref03_Sub.j1 : Nat → Int → Int → Int → Int → Bool → Int → Int → List Int → Option (Int × Int × List Int × Bool)
 | 0, _, _, _, _, _, _, _, _ => none
 | k + 1, x1, x2, x3, x4, x57, x116000, x116001, x116002 => if x57 = true then (some (0, 0, ([] : List Int), false)) else (chequerref03_Sub.l0 k x1 x2 x3 x4 0 x116000 x116001 x116002 x3 x4 ([] : List Int))
def chequerref03_Sub.l0 : Nat → Int → Int → Int → Int → Int → Int → Int → List Int → Int → Int → List Int → Option (Int × Int × List Int × Bool)
 | 0, _, _, _, _, _, _, _, _, _, _, _ => none
 | k + 1, x1, x2, x3, x4, x13, x116000, x116001, x116002, x118000, x118001, x118002 => if x13 < x4 then (chequerref03_Sub.l1 k x1 x2 x3 x4 x13 0 x116000 x116001 x116002 x118000 x118001 x118002) else (some (x118000, x118001, x118002, true))
def chequerref03_Sub.l1 : Nat → Int → Int → Int → Int → Int → Int → Int → Int → List Int → Int → Int → List Int → Option (Int × Int × List Int × Bool)
 | 0, _, _, _, _, _, _, _, _, _, _, _, _ => none
 | k + 1, x1, x2, x3, x4, x13, x14, x116000, x116001, x116002, x118000, x118001, x118002 => if x14 < x3 then ((chequerref03_At.f x116000 x116001 x116002 (wrap64 (x1 + x14)) (wrap64 (x2 + x13))).bind fun bt118 => (if x118002.length < 17592186044416 then (chequerref03_Sub.l1 k x1 x2 x3 x4 x13 (wrap64 (x14 + 1)) x116000 x116001 x116002 x118000 x118001 (x118002 ++ [bt118.1])) else (none))) else (chequerref03_Sub.l0 k x1 x2 x3 x4 (wrap64 (x13 + 1)) x116000 x116001 x116002 x118000 x118001 x118002)
end
def chequerref03_Sub.f (k : Nat) (a0_0 : Int) (a0_1 : Int) (l0_2 : List Int) (a1 : Int) (a2 : Int) (a3 : Int) (a4 : Int) : Option (Int × Int × List Int × Bool) := if a1 < 0 then (chequerref03_Sub.j0 k a1 a2 a3 a4 true a0_0 a0_1 l0_2) else (if a2 < 0 then (chequerref03_Sub.j0 k a1 a2 a3 a4 true a0_0 a0_1 l0_2) else (if a3 < 1 then (chequerref03_Sub.j0 k a1 a2 a3 a4 true a0_0 a0_1 l0_2) else (if a4 < 1 then (chequerref03_Sub.j0 k a1 a2 a3 a4 true a0_0 a0_1 l0_2) else (if a1 > a0_0 then (chequerref03_Sub.j0 k a1 a2 a3 a4 true a0_0 a0_1 l0_2) else (chequerref03_Sub.j0 k a1 a2 a3 a4 (decide (a2 > a0_1)) a0_0 a0_1 l0_2)))))
theorem chequerref03_Sub.mono_l : ∀ k, (∀ y0 y1 y2 y3 y4 y5 y6 y7, LeO (chequerref03_Sub.j0 k y0 y1 y2 y3 y4 y5 y6 y7) (chequerref03_Sub.j0 (k + 1) y0 y1 y2 y3 y4 y5 y6 y7)) ∧ (∀ y0 y1 y2 y3 y4 y5 y6 y7, LeO (chequerref03_Sub.j1 k y0 y1 y2 y3 y4 y5 y6 y7) (chequerref03_Sub.j1 (k + 1) y0 y1 y2 y3 y4 y5 y6 y7)) ∧ (∀ y0 y1 y2 y3 y4 y5 y6 y7 y8 y9 y10, LeO (chequerref03_Sub.l0 k y0 y1 y2 y3 y4 y5 y6 y7 y8 y9 y10) (chequerref03_Sub.l0 (k + 1) y0 y1 y2 y3 y4 y5 y6 y7 y8 y9 y10)) ∧ (∀ y0 y1 y2 y3 y4 y5 y6 y7 y8 y9 y10 y11, LeO (chequerref03_Sub.l1 k y0 y1 y2 y3 y4 y5 y6 y7 y8 y9 y10 y11) (chequerref03_Sub.l1 (k + 1) y0 y1 y2 y3 y4 y5 y6 y7 y8 y9 y10 y11))
 | 0 => ⟨fun _ _ _ _ _ _ _ _ r h => by simp [chequerref03_Sub.j0] at h, fun _ _ _ _ _ _ _ _ r h => by simp [chequerref03_Sub.j1] at h, fun _ _ _ _ _ _ _ _ _ _ _ r h => by simp [chequerref03_Sub.l0] at h, fun _ _ _ _ _ _ _ _ _ _ _ _ r h => by simp [chequerref03_Sub.l1] at h⟩
 | k + 1 => by
  obtain ⟨ih0, ih1, ih2, ih3⟩ := chequerref03_Sub.mono_l k
  refine ⟨?_, ?_, ?_, ?_⟩
  · intro y0 y1 y2 y3 y4 y5 y6 y7
    unfold chequerref03_Sub.j0
    repeat' first
    | (with_reducible exact ih0 _ _ _ _ _ _ _ _)
    | (with_reducible exact ih1 _ _ _ _ _ _ _ _)
    | (with_reducible exact ih2 _ _ _ _ _ _ _ _ _ _ _)
    | (with_reducible exact ih3 _ _ _ _ _ _ _ _ _ _ _ _)
    | (with_reducible exact LeO.refl _)
    | (with_reducible exact LeO.none _)
    | (with_reducible refine LeO.ite ?_ ?_)
    | (with_reducible refine LeO.bind ?_ (fun _ => ?_))
    | exact ih0 _ _ _ _ _ _ _ _
    | exact ih1 _ _ _ _ _ _ _ _
    | exact ih2 _ _ _ _ _ _ _ _ _ _ _
    | exact ih3 _ _ _ _ _ _ _ _ _ _ _ _
    | exact LeO.none _
    | refine LeO.ite ?_ ?_
    | refine LeO.bind ?_ (fun _ => ?_)
  · intro y0 y1 y2 y3 y4 y5 y6 y7
    unfold chequerref03_Sub.j1
    repeat' first
    | (with_reducible exact ih0 _ _ _ _ _ _ _ _)
    | (with_reducible exact ih1 _ _ _ _ _ _ _ _)
    | (with_reducible exact ih2 _ _ _ _ _ _ _ _ _ _ _)
    | (with_reducible exact ih3 _ _ _ _ _ _ _ _ _ _ _ _)
    | (with_reducible exact LeO.refl _)
    | (with_reducible exact LeO.none _)
    | (with_reducible refine LeO.ite ?_ ?_)
    | (with_reducible refine LeO.bind ?_ (fun _ => ?_))
    | exact ih0 _ _ _ _ _ _ _ _
    | exact ih1 _ _ _ _ _ _ _ _
    | exact ih2 _ _ _ _ _ _ _ _ _ _ _
    | exact ih3 _ _ _ _ _ _ _ _ _ _ _ _
    | exact LeO.none _
    | refine LeO.ite ?_ ?_
    | refine LeO.bind ?_ (fun _ => ?_)
  · intro y0 y1 y2 y3 y4 y5 y6 y7 y8 y9 y10
    unfold chequerref03_Sub.l0
    repeat' first
    | (with_reducible exact ih0 _ _ _ _ _ _ _ _)
    | (with_reducible exact ih1 _ _ _ _ _ _ _ _)
    | (with_reducible exact ih2 _ _ _ _ _ _ _ _ _ _ _)
    | (with_reducible exact ih3 _ _ _ _ _ _ _ _ _ _ _ _)
    | (with_reducible exact LeO.refl _)
    | (with_reducible exact LeO.none _)
    | (with_reducible refine LeO.ite ?_ ?_)
    | (with_reducible refine LeO.bind ?_ (fun _ => ?_))
    | exact ih0 _ _ _ _ _ _ _ _
    | exact ih1 _ _ _ _ _ _ _ _
    | exact ih2 _ _ _ _ _ _ _ _ _ _ _
    | exact ih3 _ _ _ _ _ _ _ _ _ _ _ _
    | exact LeO.none _
    | refine LeO.ite ?_ ?_
    | refine LeO.bind ?_ (fun _ => ?_)
  intro y0 y1 y2 y3 y4 y5 y6 y7 y8 y9 y10 y11
  unfold chequerref03_Sub.l1
  repeat' first
  | (with_reducible exact ih0 _ _ _ _ _ _ _ _)
  | (with_reducible exact ih1 _ _ _ _ _ _ _ _)
  | (with_reducible exact ih2 _ _ _ _ _ _ _ _ _ _ _)
  | (with_reducible exact ih3 _ _ _ _ _ _ _ _ _ _ _ _)
  | (with_reducible exact LeO.refl _)
  | (with_reducible exact LeO.none _)
  | (with_reducible refine LeO.ite ?_ ?_)
  | (with_reducible refine LeO.bind ?_ (fun _ => ?_))
  | exact ih0 _ _ _ _ _ _ _ _
  | exact ih1 _ _ _ _ _ _ _ _
  | exact ih2 _ _ _ _ _ _ _ _ _ _ _
  | exact ih3 _ _ _ _ _ _ _ _ _ _ _ _
  | exact LeO.none _
  | refine LeO.ite ?_ ?_
  | refine LeO.bind ?_ (fun _ => ?_)
theorem chequerref03_Sub.mono : ∀ a0 a1 a2 a3 a4 a5 a6 k, LeO (chequerref03_Sub.f k a0 a1 a2 a3 a4 a5 a6) (chequerref03_Sub.f (k + 1) a0 a1 a2 a3 a4 a5 a6) := by
 intro a0 a1 a2 a3 a4 a5 a6 k
 obtain ⟨ih0, ih1, ih2, ih3⟩ := chequerref03_Sub.mono_l k
 unfold chequerref03_Sub.f
 repeat' first
  | (with_reducible exact ih0 _ _ _ _ _ _ _ _)
  | (with_reducible exact ih1 _ _ _ _ _ _ _ _)
  | (with_reducible exact ih2 _ _ _ _ _ _ _ _ _ _ _)
  | (with_reducible exact ih3 _ _ _ _ _ _ _ _ _ _ _ _)
  | (with_reducible exact LeO.refl _)
  | (with_reducible exact LeO.none _)
  | (with_reducible refine LeO.ite ?_ ?_)
  | (with_reducible refine LeO.bind ?_ (fun _ => ?_))
  | exact ih0 _ _ _ _ _ _ _ _
  | exact ih1 _ _ _ _ _ _ _ _
  | exact ih2 _ _ _ _ _ _ _ _ _ _ _
  | exact ih3 _ _ _ _ _ _ _ _ _ _ _ _
  | exact LeO.none _
  | refine LeO.ite ?_ ?_
  | refine LeO.bind ?_ (fun _ => ?_)
set_option maxHeartbeats 8000000 in
set_option maxRecDepth 100000 in
theorem chequerref03_Sub.calls (k : Nat) (a0_0 : Int) (a0_1 : Int) (A0_2 : Option Addr) (c0_2 : Nat) (l0_2 : List Int) (a1 : Int) (a2 : Int) (a3 : Int) (a4 : Int) (r1 : Int) (r2 : Int) (r3 : List Int) (r4 : Bool) (w : World) (hr0_2 : Kd.C (Kd.int .u64) w A0_2 l0_2.length l0_2) (hc0_2 : l0_2.length ≤ c0_2) (h : chequerref03_Sub.f k a0_0 a0_1 l0_2 a1 a2 a3 a4 = some (r1, r2, r3, r4)) :
 Calls Try.prog 12 #[.agg #[.int .i64 a0_0, .int .i64 a0_1, .slice A0_2 l0_2.length c0_2], .int .i64 a1, .int .i64 a2, .int .i64 a3, .int .i64 a4] w fun e w' => ∃ v2_ : Value, e = .returned (.tuple #[.agg #[.int .i64 r1, .int .i64 r2, v2_], .bool r4]) ∧ Kd.R (Kd.int .u64) 46 w' w.heap.size (fun _ => True) v2_ r3 ∧ Below w.heap.size w w' := by
 have hu24 := Try.underlying24
 have HR0_2 := Aside0.mk hr0_2
 have HC0_2 := Aside0.mk hc0_2
 clear hr0_2 hc0_2
 have HB := Aside0.mk (Below.refl w.heap.size w)
 have H : (if a1 < 0 then (chequerref03_Sub.j0 k a1 a2 a3 a4 true a0_0 a0_1 l0_2) else (if a2 < 0 then (chequerref03_Sub.j0 k a1 a2 a3 a4 true a0_0 a0_1 l0_2) else (if a3 < 1 then (chequerref03_Sub.j0 k a1 a2 a3 a4 true a0_0 a0_1 l0_2) else (if a4 < 1 then (chequerref03_Sub.j0 k a1 a2 a3 a4 true a0_0 a0_1 l0_2) else (if a1 > a0_0 then (chequerref03_Sub.j0 k a1 a2 a3 a4 true a0_0 a0_1 l0_2) else (chequerref03_Sub.j0 k a1 a2 a3 a4 (decide (a2 > a0_1)) a0_0 a0_1 l0_2)))))) = some (r1, r2, r3, r4) := h
 clear h
 have HC6 := Aside0.mk H
 clear H
 go_enter Try.func12, Try.ntmps12
 go_upto_region 1 with (first | ((with_reducible refine gate_dst (N := 5) rfl ?_); refine box_event ?hg (N := 5) ?hd (cs := #[.int .i64 a0_0, .int .i64 a0_1, .slice A0_2 l0_2.length c0_2]) (t := 24) ?hr ?_; (case hd => rfl); (case hg => rfl); (case hr => first | (go_simp; done) | (go_simp; rfl)); intro gb115 hg w7 hbox hb; have BK115 := Aside0.mk (hbox); have GW115 := Aside0.mk ((by rw [hg]; exact (below_size bp_) : w.heap.size ≤ gb115)); have GE115 := Aside0.mk ((by rw [hg]; exact (below_size bp_) : w.heap.size ≤ gb115)); replace HB := Aside0.mk (below_step bp_ hb); clear hb hbox hg) | ((with_reducible refine gate_dst (N := 10) rfl ?_); refine box_event ?hg (N := 10) ?hd (cs := #[.int .i64 0, .int .i64 0, .slice none 0 0]) (t := 24) ?hr ?_; (case hd => rfl); (case hg => rfl); (case hr => first | (go_simp; done) | (go_simp; rfl)); intro gb116 hg w8 hbox hb; have BK116 := Aside0.mk (hbox); have GW116 := Aside0.mk ((by rw [hg]; exact (below_size bp_) : w.heap.size ≤ gb116)); have GE116 := Aside0.mk ((by rw [hg]; exact (below_size bp_) : w.heap.size ≤ gb116)); replace HB := Aside0.mk (below_step bp_ hb); have NB115_116 := Aside0.mk ((nlt_ hg (hp_ BK115.out))); have NB116_115 := Aside0.mk ((ngt_ hg (hp_ BK115.out))); replace BK115 := kb_ BK115.out hb; clear hb hbox hg))
 (try simp only [Act.put, List.setIfInBounds_toArray, List.set_cons_zero, List.set_cons_succ])
 go_cut [42] (fun v42 wc => ∃ (kq : Nat) (x42_5 : Bool), v42 = .bool x42_5 ∧ Aside0 (chequerref03_Sub.j0 kq a1 a2 a3 a4 x42_5 a0_0 a0_1 l0_2 = some (r1, r2, r3, r4)) ∧ Aside0 (kq ≤ k) ∧ Aside0 (wc.heap[gb115]? = some (.cells #[.int .i64 a0_0, .int .i64 a0_1, (.slice A0_2 l0_2.length c0_2)] 24 (0, 0))) ∧ Aside0 (wc.heap[gb116]? = some (.cells #[.int .i64 0, .int .i64 0, (.slice none 0 0)] 24 (0, 0))) ∧ Aside0 (Below w.heap.size w wc))
 case first =>
  have H := HC6.out
  clear HC6
  by_cases c9 : a1 < 0
  · rw [if_pos c9] at H
    have c9b0 : decide (a1 < 0) = true := decide_eq_true c9
    clear c9
    (first | rw [c9b0] | (simp only [i64_w, i32_w]; rw [c9b0]) | skip)
    have H' := Aside0.mk H
    clear H
    go_wp2
    go_meet
    case rel => exact ⟨_, (true), (by first | rfl | (simp; done) | (simp [*]; done)), H', ⟨by first | omega | exact Nat.le_refl _⟩, ⟨hp_ BK115.out⟩, ⟨hp_ BK116.out⟩, ⟨bp_⟩⟩
  rw [if_neg c9] at H
  have c9b0 : decide (a1 < 0) = false := decide_eq_false c9
  clear c9
  (first | rw [c9b0] | (simp only [i64_w, i32_w]; rw [c9b0]) | skip)
  by_cases c10 : a2 < 0
  · rw [if_pos c10] at H
    have c10b0 : decide (a2 < 0) = true := decide_eq_true c10
    clear c10
    have H' := Aside0.mk H
    clear H
    go_wp2
    go_meet
    case rel => exact ⟨_, (true), (by first | rfl | (simp; done) | (simp [*]; done)), H', ⟨by first | omega | exact Nat.le_refl _⟩, ⟨hp_ BK115.out⟩, ⟨hp_ BK116.out⟩, ⟨bp_⟩⟩
  rw [if_neg c10] at H
  have c10b0 : decide (a2 < 0) = false := decide_eq_false c10
  clear c10
  by_cases c11 : a3 < 1
  · rw [if_pos c11] at H
    have c11b0 : decide (a3 < 1) = true := decide_eq_true c11
    clear c11
    have H' := Aside0.mk H
    clear H
    go_wp2
    go_meet
    case rel => exact ⟨_, (true), (by first | rfl | (simp; done) | (simp [*]; done)), H', ⟨by first | omega | exact Nat.le_refl _⟩, ⟨hp_ BK115.out⟩, ⟨hp_ BK116.out⟩, ⟨bp_⟩⟩
  rw [if_neg c11] at H
  have c11b0 : decide (a3 < 1) = false := decide_eq_false c11
  clear c11
  by_cases c12 : a4 < 1
  · rw [if_pos c12] at H
    have c12b0 : decide (a4 < 1) = true := decide_eq_true c12
    clear c12
    have H' := Aside0.mk H
    clear H
    go_wp2
    go_meet
    case rel => exact ⟨_, (true), (by first | rfl | (simp; done) | (simp [*]; done)), H', ⟨by first | omega | exact Nat.le_refl _⟩, ⟨hp_ BK115.out⟩, ⟨hp_ BK116.out⟩, ⟨bp_⟩⟩
  rw [if_neg c12] at H
  have c12b0 : decide (a4 < 1) = false := decide_eq_false c12
  clear c12
  by_cases c13 : a1 > a0_0
  · rw [if_pos c13] at H
    have c13b0 : decide (a0_0 < a1) = true := decide_eq_true c13
    clear c13
    have H' := Aside0.mk H
    clear H; have hnb14 := NB115_116.out; have hnc14 := NB116_115.out
    have hcz15_0 : w8.cell? ⟨gb115, 0, none⟩ = some (.int .i64 a0_0) := bc_ BK115.out 0
    have hcz15_1 : w8.cell? ⟨gb115, 1, none⟩ = some (.int .i64 a0_1) := bc_ BK115.out 1
    have hcz15_2 : w8.cell? ⟨gb115, 2, none⟩ = some (.slice A0_2 l0_2.length c0_2) := bc_ BK115.out 2
    have hfz15_0 := blk_frozen BK115.out 0; have hfz15_1 := blk_frozen BK115.out 1; have hfz15_2 := blk_frozen BK115.out 2
    go_wp2
    go_meet
    case rel => exact ⟨_, (true), (by first | rfl | (simp; done) | (simp [*]; done)), H', ⟨by first | omega | exact Nat.le_refl _⟩, ⟨hp_ BK115.out⟩, ⟨hp_ BK116.out⟩, ⟨bp_⟩⟩
  rw [if_neg c13] at H
  have c13b0 : decide (a0_0 < a1) = false := decide_eq_false c13
  clear c13
  have H' := Aside0.mk H
  clear H
  have hnb16 := NB115_116.out
  have hnc16 := NB116_115.out
  have hcz17_0 : w8.cell? ⟨gb115, 0, none⟩ = some (.int .i64 a0_0) := bc_ BK115.out 0
  have hcz17_1 : w8.cell? ⟨gb115, 1, none⟩ = some (.int .i64 a0_1) := bc_ BK115.out 1
  have hcz17_2 : w8.cell? ⟨gb115, 2, none⟩ = some (.slice A0_2 l0_2.length c0_2) := bc_ BK115.out 2
  have hfz17_0 := blk_frozen BK115.out 0
  have hfz17_1 := blk_frozen BK115.out 1
  have hfz17_2 := blk_frozen BK115.out 2
  go_wp2
  go_meet
  case rel => exact ⟨_, (decide (a2 > a0_1)), (by first | rfl | (simp; done) | (simp [*]; done)), H', ⟨by first | omega | exact Nat.le_refl _⟩, ⟨hp_ BK115.out⟩, ⟨hp_ BK116.out⟩, ⟨bp_⟩⟩
 case rest =>
  clear HC6
  try clear c1
  try clear p2
  try clear c9
  try clear c9b0
  try clear c10
  try clear c10b0
  try clear c11
  try clear c11b0
  try clear c12
  try clear c12b0
  try clear c13
  try clear c13b0
  try clear c14
  try clear c16
  try clear hcz15_0
  try clear hcz15_1
  try clear hcz15_2
  try clear hcz17_0
  try clear hcz17_1
  try clear hcz17_2
  try clear hfz15_0
  try clear hfz15_1
  try clear hfz15_2
  try clear hfz17_0
  try clear hfz17_1
  try clear hfz17_2
  obtain ⟨kq, x42_5, rfl, HA, HJ5, BK115, BK116, HB⟩ := hcut
  cases kq with
  | zero => exact absurd HA.out (by simp [chequerref03_Sub.j0])
  | succ kj5 =>
   have H := HA.out; clear HA; simp only [chequerref03_Sub.j0] at H
   by_cases c18 : x42_5 = true
   · subst c18
     have H1 : (some (0, 0, ([] : List Int), false)) = some (r1, r2, r3, r4) := by rw [if_pos rfl] at H; exact H
     clear H; have H := H1; clear H1; simp only [Option.some.injEq, Prod.mk.injEq] at H; obtain ⟨rfl, rfl, rfl, rfl⟩ := H
     have hcz19_0 : wc.cell? ⟨gb116, 0, none⟩ = some (.int .i64 0) := bc_ BK116.out 0
     have hcz19_1 : wc.cell? ⟨gb116, 1, none⟩ = some (.int .i64 0) := bc_ BK116.out 1
     have hcz19_2 : wc.cell? ⟨gb116, 2, none⟩ = some (.slice none 0 0) := bc_ BK116.out 2
     have hfz19_0 := blk_frozen BK116.out 0; have hfz19_1 := blk_frozen BK116.out 1; have hfz19_2 := blk_frozen BK116.out 2
     go_wp2
     refine bodyPost_ret (results_ct rfl _ _ gb116 24 #[.int .i64 0, .int .i64 0, .slice none 0 0] (0, 0) _ rfl (by (with_reducible repeat (first | refine blk_drewN ?_ _ | refine blk_drew ?_ | refine blk_alloc ?_ _)); refine blk_put (cs := #[.int .i64 0, .int .i64 0, .slice none 0 0]) ?_ 2 _ rfl; (with_reducible repeat (first | refine blk_drewN ?_ _ | refine blk_drew ?_ | refine blk_alloc ?_ _)); refine blk_put (cs := #[.int .i64 0, .int .i64 0, .slice none 0 0]) ?_ 1 _ rfl; (with_reducible repeat (first | refine blk_drewN ?_ _ | refine blk_drew ?_ | refine blk_alloc ?_ _)); refine blk_put (cs := #[.int .i64 0, .int .i64 0, .slice none 0 0]) ?_ 0 _ rfl; (with_reducible repeat (first | refine blk_drewN ?_ _ | refine blk_drew ?_ | refine blk_alloc ?_ _)); exact BK116.out) Try.underlying24 rfl (by kernel_rfl)) rfl ?_
     exact ⟨_, by first | rfl | (simp [errW_none, errW_some] <;> rfl) | (simp [*, errW_none, errW_some] <;> rfl), by first | exact Kd.R_nil _ _ _ _ _ | exact Kd.N_nil _ _ _ _ _ | exact Kd.V_nil _ _ _ _ _ | exact Kd.Q_nil _ _ _ _ _ | exact Kd.S_nil _ _ _ _ _, bp_⟩
   replace c18 := Bool.eq_false_iff.mpr c18; subst c18
   have H1 : (if a3 > (wrap64 (a0_0 - a1)) then (chequerref03_Sub.j1 kj5 a1 a2 a3 a4 true a0_0 a0_1 l0_2) else (chequerref03_Sub.j1 kj5 a1 a2 a3 a4 (decide (a4 > (wrap64 (a0_1 - a2)))) a0_0 a0_1 l0_2)) = some (r1, r2, r3, r4) := by rw [if_neg (show ¬ (false = true) by decide)] at H; exact H
   clear H; have H := H1; clear H1; have HC20 := Aside0.mk H; clear H
   go_upto_region 3 with (fail)
   go_cut [57] (fun v57 wc => ∃ (kq : Nat) (x57_19 : Bool), v57 = .bool x57_19 ∧ Aside0 (chequerref03_Sub.j1 kq a1 a2 a3 a4 x57_19 a0_0 a0_1 l0_2 = some (r1, r2, r3, r4)) ∧ Aside0 (kq ≤ kj5) ∧ Aside0 (wc.heap[gb115]? = some (.cells #[.int .i64 a0_0, .int .i64 a0_1, (.slice A0_2 l0_2.length c0_2)] 24 (0, 0))) ∧ Aside0 (wc.heap[gb116]? = some (.cells #[.int .i64 0, .int .i64 0, (.slice none 0 0)] 24 (0, 0))) ∧ Aside0 (Below w.heap.size w wc))
   case first =>
    have H := HC20.out; clear HC20
    by_cases c21 : a3 > (wrap64 (a0_0 - a1))
    · rw [if_pos c21] at H
      have c21b0 : decide ((wrap64 (a0_0 - a1)) < a3) = true := decide_eq_true c21
      clear c21
      (first | rw [c21b0] | (simp only [i64_w, i32_w]; rw [c21b0]) | skip)
      have H' := Aside0.mk H
      clear H; have hnb22 := NB115_116.out; have hnc22 := NB116_115.out
      have hcz23_0 : wc.cell? ⟨gb115, 0, none⟩ = some (.int .i64 a0_0) := bc_ BK115.out 0
      have hcz23_1 : wc.cell? ⟨gb115, 1, none⟩ = some (.int .i64 a0_1) := bc_ BK115.out 1
      have hcz23_2 : wc.cell? ⟨gb115, 2, none⟩ = some (.slice A0_2 l0_2.length c0_2) := bc_ BK115.out 2
      have hfz23_0 := blk_frozen BK115.out 0; have hfz23_1 := blk_frozen BK115.out 1; have hfz23_2 := blk_frozen BK115.out 2
      go_wp2
      go_meet
      case rel => exact ⟨_, (true), (by first | rfl | (simp; done) | (simp [*]; done)), H', ⟨by have := HJ5.out; first | omega | exact Nat.le_refl _⟩, ⟨hp_ BK115.out⟩, ⟨hp_ BK116.out⟩, ⟨bp_⟩⟩
    rw [if_neg c21] at H
    have c21b0 : decide ((wrap64 (a0_0 - a1)) < a3) = false := decide_eq_false c21
    clear c21
    (first | rw [c21b0] | (simp only [i64_w, i32_w]; rw [c21b0]) | skip)
    have H' := Aside0.mk H
    clear H; have hnb24 := NB115_116.out; have hnc24 := NB116_115.out
    have hcz25_0 : wc.cell? ⟨gb115, 0, none⟩ = some (.int .i64 a0_0) := bc_ BK115.out 0
    have hcz25_1 : wc.cell? ⟨gb115, 1, none⟩ = some (.int .i64 a0_1) := bc_ BK115.out 1
    have hcz25_2 : wc.cell? ⟨gb115, 2, none⟩ = some (.slice A0_2 l0_2.length c0_2) := bc_ BK115.out 2
    have hfz25_0 := blk_frozen BK115.out 0; have hfz25_1 := blk_frozen BK115.out 1; have hfz25_2 := blk_frozen BK115.out 2
    go_wp2
    go_meet
    case rel => exact ⟨_, (decide (a4 > (wrap64 (a0_1 - a2)))), (by first | rfl | (simp; done) | (simp [*]; done)), H', ⟨by have := HJ5.out; first | omega | exact Nat.le_refl _⟩, ⟨hp_ BK115.out⟩, ⟨hp_ BK116.out⟩, ⟨bp_⟩⟩
   case rest =>
    clear HC20
    try clear c1
    try clear c2
    try clear p2
    try clear p6
    try clear c9
    try clear c9b0
    try clear c10
    try clear c10b0
    try clear c11
    try clear c11b0
    try clear c12
    try clear c12b0
    try clear c13
    try clear c13b0
    try clear c14
    try clear c16
    try clear c18
    try clear c21
    try clear c21b0
    try clear c22
    try clear c24
    try clear hcz15_0
    try clear hcz15_1
    try clear hcz15_2
    try clear hcz17_0
    try clear hcz17_1
    try clear hcz17_2
    try clear hcz19_0
    try clear hcz19_1
    try clear hcz19_2
    try clear hcz23_0
    try clear hcz23_1
    try clear hcz23_2
    try clear hcz25_0
    try clear hcz25_1
    try clear hcz25_2
    try clear hfz15_0
    try clear hfz15_1
    try clear hfz15_2
    try clear hfz17_0
    try clear hfz17_1
    try clear hfz17_2
    try clear hfz19_0
    try clear hfz19_1
    try clear hfz19_2
    try clear hfz23_0
    try clear hfz23_1
    try clear hfz23_2
    try clear hfz25_0
    try clear hfz25_1
    try clear hfz25_2
    try clear p2
    obtain ⟨kq, x57_19, rfl, HA, HJ19, BK115, BK116, HB⟩ := hcut
    cases kq with
    | zero => exact absurd HA.out (by simp [chequerref03_Sub.j1])
    | succ kj19 =>
     have H := HA.out; clear HA; simp only [chequerref03_Sub.j1] at H
     by_cases c26 : x57_19 = true
     · subst c26
       have H1 : (some (0, 0, ([] : List Int), false)) = some (r1, r2, r3, r4) := by rw [if_pos rfl] at H; exact H
       clear H; have H := H1; clear H1; simp only [Option.some.injEq, Prod.mk.injEq] at H; obtain ⟨rfl, rfl, rfl, rfl⟩ := H
       have hcz27_0 : wc.cell? ⟨gb116, 0, none⟩ = some (.int .i64 0) := bc_ BK116.out 0
       have hcz27_1 : wc.cell? ⟨gb116, 1, none⟩ = some (.int .i64 0) := bc_ BK116.out 1
       have hcz27_2 : wc.cell? ⟨gb116, 2, none⟩ = some (.slice none 0 0) := bc_ BK116.out 2
       have hfz27_0 := blk_frozen BK116.out 0; have hfz27_1 := blk_frozen BK116.out 1; have hfz27_2 := blk_frozen BK116.out 2
       go_wp2
       refine bodyPost_ret (results_ct rfl _ _ gb116 24 #[.int .i64 0, .int .i64 0, .slice none 0 0] (0, 0) _ rfl (by (with_reducible repeat (first | refine blk_drewN ?_ _ | refine blk_drew ?_ | refine blk_alloc ?_ _)); refine blk_put (cs := #[.int .i64 0, .int .i64 0, .slice none 0 0]) ?_ 2 _ rfl; (with_reducible repeat (first | refine blk_drewN ?_ _ | refine blk_drew ?_ | refine blk_alloc ?_ _)); refine blk_put (cs := #[.int .i64 0, .int .i64 0, .slice none 0 0]) ?_ 1 _ rfl; (with_reducible repeat (first | refine blk_drewN ?_ _ | refine blk_drew ?_ | refine blk_alloc ?_ _)); refine blk_put (cs := #[.int .i64 0, .int .i64 0, .slice none 0 0]) ?_ 0 _ rfl; (with_reducible repeat (first | refine blk_drewN ?_ _ | refine blk_drew ?_ | refine blk_alloc ?_ _)); exact BK116.out) Try.underlying24 rfl (by kernel_rfl)) rfl ?_
       exact ⟨_, by first | rfl | (simp [errW_none, errW_some] <;> rfl) | (simp [*, errW_none, errW_some] <;> rfl), by first | exact Kd.R_nil _ _ _ _ _ | exact Kd.N_nil _ _ _ _ _ | exact Kd.V_nil _ _ _ _ _ | exact Kd.Q_nil _ _ _ _ _ | exact Kd.S_nil _ _ _ _ _, bp_⟩
     replace c26 := Bool.eq_false_iff.mpr c26; subst c26
     have H1 : (chequerref03_Sub.l0 kj19 a1 a2 a3 a4 0 a0_0 a0_1 l0_2 a3 a4 ([] : List Int)) = some (r1, r2, r3, r4) := by rw [if_neg (show ¬ (false = true) by decide)] at H; exact H
     clear H; have H := H1; clear H1
     have H' := Aside0.mk H
     clear H
     go_wp2_with (first | ((with_reducible refine gate_dst (N := 12) rfl ?_); refine box_event ?hg (N := 12) ?hd (cs := #[.int .i64 0, .int .i64 0, .slice none 0 0]) (t := 24) ?hr ?_; (case hd => rfl); (case hg => rfl); (case hr => first | (go_simp; done) | (go_simp; rfl)); intro gb117 hg w28 hbox hb; have BK117 := Aside0.mk (hbox); have GW117 := Aside0.mk ((by rw [hg]; exact (below_size bp_) : w.heap.size ≤ gb117)); have GE117 := Aside0.mk ((by rw [hg]; exact (below_size bp_) : w.heap.size ≤ gb117)); replace HB := Aside0.mk (below_step bp_ hb); have NB115_117 := Aside0.mk ((nlt_ hg (hp_ BK115.out))); have NB117_115 := Aside0.mk ((ngt_ hg (hp_ BK115.out))); replace BK115 := kb_ BK115.out hb; have NB116_117 := Aside0.mk ((nlt_ hg (hp_ BK116.out))); have NB117_116 := Aside0.mk ((ngt_ hg (hp_ BK116.out))); replace BK116 := kb_ BK116.out hb; clear hb hbox hg; have hnb29 := NB117_115.out; have hnc29 := NB115_117.out; have hnb30 := NB117_116.out; have hnc30 := NB116_117.out; have hcz31_0 : w28.cell? ⟨gb117, 0, none⟩ = some (.int .i64 0) := bc_ BK117.out 0; have hcz31_1 : w28.cell? ⟨gb117, 1, none⟩ = some (.int .i64 0) := bc_ BK117.out 1; have hcz31_2 : w28.cell? ⟨gb117, 2, none⟩ = some (.slice none 0 0) := bc_ BK117.out 2; have hfz31_0 := blk_frozen BK117.out 0; have hfz31_1 := blk_frozen BK117.out 1; have hfz31_2 := blk_frozen BK117.out 2))
     go_loopg [13] kj19 (fun kq v13 w' => ∃ (x13_3 : Int) (x118002_3 : List Int) (u118002 : Value), v13 = .int .i64 x13_3 ∧ Aside0 (chequerref03_Sub.l0 kq a1 a2 a3 a4 x13_3 a0_0 a0_1 l0_2 a3 a4 x118002_3 = some (r1, r2, r3, r4)) ∧ Aside0 (kq ≤ kj19) ∧ Aside0 (Kd.R (Kd.int .u64) 46 w' w.heap.size (fun _ => True) u118002 x118002_3) ∧ Aside0 (w'.heap[gb115]? = some (.cells #[.int .i64 a0_0, .int .i64 a0_1, (.slice A0_2 l0_2.length c0_2)] 24 (0, 0))) ∧ Aside0 (w'.heap[gb116]? = some (.cells #[.int .i64 0, .int .i64 0, (.slice none 0 0)] 24 (0, 0))) ∧ Aside0 (w'.heap[gb117]? = some (.cells #[.int .i64 a3, .int .i64 a4, u118002] 24 (0, 0))) ∧ Aside0 (Below w.heap.size w w'))
     case atStart => exact ⟨(0), (([] : List Int)), (.slice none 0 0), (by first | rfl | (simp; done) | (simp [*]; done)), H', ⟨Nat.le_refl _⟩, ⟨by first | exact Kd.R_nil _ _ _ _ _ | exact Kd.N_nil _ _ _ _ _ | exact Kd.V_nil _ _ _ _ _ | exact Kd.Q_nil _ _ _ _ _ | exact Kd.S_nil _ _ _ _ _⟩, ⟨hf_ BK115.out NB115_117.out⟩, ⟨hf_ BK116.out NB116_117.out⟩, ⟨by (with_reducible repeat (first | refine blk_drewN ?_ _ | refine blk_drew ?_ | refine blk_alloc ?_ _)); refine blk_put (cs := #[.int .i64 a3, .int .i64 a4, .slice none 0 0]) ?_ 2 _ rfl; (with_reducible repeat (first | refine blk_drewN ?_ _ | refine blk_drew ?_ | refine blk_alloc ?_ _)); refine blk_put (cs := #[.int .i64 a3, .int .i64 0, .slice none 0 0]) ?_ 1 _ rfl; (with_reducible repeat (first | refine blk_drewN ?_ _ | refine blk_drew ?_ | refine blk_alloc ?_ _)); refine blk_put (cs := #[.int .i64 0, .int .i64 0, .slice none 0 0]) ?_ 0 _ rfl; (with_reducible repeat (first | refine blk_drewN ?_ _ | refine blk_drew ?_ | refine blk_alloc ?_ _)); exact BK117.out⟩, ⟨bp_⟩⟩
     case round =>
      clear H'
      try clear c1
      try clear c2
      try clear p2
      try clear c3
      try clear p6
      try clear c9
      try clear c9b0
      try clear c10
      try clear c10b0
      try clear c11
      try clear c11b0
      try clear c12
      try clear c12b0
      try clear c13
      try clear c13b0
      try clear c14
      try clear c16
      try clear c18
      try clear c21
      try clear c21b0
      try clear c22
      try clear c24
      try clear c26
      try clear c29
      try clear c30
      try clear hcz15_0
      try clear hcz15_1
      try clear hcz15_2
      try clear hcz17_0
      try clear hcz17_1
      try clear hcz17_2
      try clear hcz19_0
      try clear hcz19_1
      try clear hcz19_2
      try clear hcz23_0
      try clear hcz23_1
      try clear hcz23_2
      try clear hcz25_0
      try clear hcz25_1
      try clear hcz25_2
      try clear hcz27_0
      try clear hcz27_1
      try clear hcz27_2
      try clear hcz31_0
      try clear hcz31_1
      try clear hcz31_2
      try clear hfz15_0
      try clear hfz15_1
      try clear hfz15_2
      try clear hfz17_0
      try clear hfz17_1
      try clear hfz17_2
      try clear hfz19_0
      try clear hfz19_1
      try clear hfz19_2
      try clear hfz23_0
      try clear hfz23_1
      try clear hfz23_2
      try clear hfz25_0
      try clear hfz25_1
      try clear hfz25_2
      try clear hfz27_0
      try clear hfz27_1
      try clear hfz27_2
      try clear hfz31_0
      try clear hfz31_1
      try clear hfz31_2
      try clear p2
      try clear p6
      obtain ⟨x13_3, x118002_3, u118002, rfl, HA, HK3, HO_118002, BK115, BK116, BK117, HB⟩ := hrel
      cases gk with
      | zero => exact absurd HA.out (by simp [chequerref03_Sub.l0])
      | succ k3 =>
       have H := HA.out; clear HA; simp only [chequerref03_Sub.l0] at H
       by_cases c32 : x13_3 < a4
       · rw [if_pos c32] at H
         have c32b0 : decide (x13_3 < a4) = true := decide_eq_true c32
         clear c32
         have H' := Aside0.mk H
         clear H
         go_wp2
         go_loopg [14] k3 (fun kq v14 w' => ∃ (x14_4 : Int) (x118002_4 : List Int) (u118002 : Value), v14 = .int .i64 x14_4 ∧ Aside0 (chequerref03_Sub.l1 kq a1 a2 a3 a4 x13_3 x14_4 a0_0 a0_1 l0_2 a3 a4 x118002_4 = some (r1, r2, r3, r4)) ∧ Aside0 (kq ≤ k3) ∧ Aside0 (Kd.R (Kd.int .u64) 46 w' w.heap.size (fun _ => True) u118002 x118002_4) ∧ Aside0 (w'.heap[gb115]? = some (.cells #[.int .i64 a0_0, .int .i64 a0_1, (.slice A0_2 l0_2.length c0_2)] 24 (0, 0))) ∧ Aside0 (w'.heap[gb116]? = some (.cells #[.int .i64 0, .int .i64 0, (.slice none 0 0)] 24 (0, 0))) ∧ Aside0 (w'.heap[gb117]? = some (.cells #[.int .i64 a3, .int .i64 a4, u118002] 24 (0, 0))) ∧ Aside0 (Below w.heap.size w w'))
         case atStart => exact ⟨(0), (x118002_3), (u118002), (by first | rfl | (simp; done) | (simp [*]; done)), H', ⟨Nat.le_refl _⟩, ⟨rp_ HO_118002.out⟩, ⟨hp_ BK115.out⟩, ⟨hp_ BK116.out⟩, ⟨hp_ BK117.out⟩, ⟨bp_⟩⟩
         case round =>
          clear H'
          try clear c1
          try clear c2
          try clear p2
          try clear c3
          try clear p6
          try clear c9
          try clear c9b0
          try clear c10
          try clear c10b0
          try clear c11
          try clear c11b0
          try clear c12
          try clear c12b0
          try clear c13
          try clear c13b0
          try clear c14
          try clear c16
          try clear c18
          try clear c21
          try clear c21b0
          try clear c22
          try clear c24
          try clear c26
          try clear c29
          try clear c30
          try clear c32
          try clear c32b0
          try clear hcz15_0
          try clear hcz15_1
          try clear hcz15_2
          try clear hcz17_0
          try clear hcz17_1
          try clear hcz17_2
          try clear hcz19_0
          try clear hcz19_1
          try clear hcz19_2
          try clear hcz23_0
          try clear hcz23_1
          try clear hcz23_2
          try clear hcz25_0
          try clear hcz25_1
          try clear hcz25_2
          try clear hcz27_0
          try clear hcz27_1
          try clear hcz27_2
          try clear hcz31_0
          try clear hcz31_1
          try clear hcz31_2
          try clear hfz15_0
          try clear hfz15_1
          try clear hfz15_2
          try clear hfz17_0
          try clear hfz17_1
          try clear hfz17_2
          try clear hfz19_0
          try clear hfz19_1
          try clear hfz19_2
          try clear hfz23_0
          try clear hfz23_1
          try clear hfz23_2
          try clear hfz25_0
          try clear hfz25_1
          try clear hfz25_2
          try clear hfz27_0
          try clear hfz27_1
          try clear hfz27_2
          try clear hfz31_0
          try clear hfz31_1
          try clear hfz31_2
          try clear p2
          try clear p6
          obtain ⟨x14_4, x118002_4, u118002, rfl, HA, HK4, HO_118002, BK115, BK116, BK117, HB⟩ := hrel
          cases gk with
          | zero => exact absurd HA.out (by simp [chequerref03_Sub.l1])
          | succ k4 =>
           have H := HA.out; clear HA; simp only [chequerref03_Sub.l1] at H
           by_cases c33 : x14_4 < a3
           · rw [if_pos c33] at H
             have c33b0 : decide (x14_4 < a3) = true := decide_eq_true c33
             clear c33; replace H := Option.bind_eq_some_iff.mp H; obtain ⟨⟨t118, t119⟩, A340, H⟩ := H
             replace H : (if x118002_4.length < 17592186044416 then (chequerref03_Sub.l1 k4 a1 a2 a3 a4 x13_3 (wrap64 (x14_4 + 1)) a0_0 a0_1 l0_2 a3 a4 (x118002_4 ++ [t118])) else (none)) = some (r1, r2, r3, r4) := H
             have A34 := Aside0.mk A340; clear A340
             by_cases c35 : x118002_4.length < 17592186044416
             · rw [if_pos c35] at H; have LMc35 := Aside0.mk c35; clear c35
               obtain ⟨y120, hy120⟩ : ∃ y_ : List Int, y_ = (x118002_4 ++ [t118]) := ⟨_, rfl⟩
               replace H : (chequerref03_Sub.l1 k4 a1 a2 a3 a4 x13_3 (wrap64 (x14_4 + 1)) a0_0 a0_1 l0_2 a3 a4 y120) = some (r1, r2, r3, r4) := by first | (rw [hy120]; with_reducible exact H) | (have H2_ := (Option.bind_some _ _).symm.trans H; rw [hy120]; with_reducible exact H2_) | (have H2_ := (Option.bind_some _ _).symm.trans H; with_reducible exact H2_) | with_reducible exact H | (rw [hy120]; exact H) | exact H
               have Ny120 := Aside0.mk hy120; clear hy120
               have H' := Aside0.mk H
               clear H; have hnb36 := NB115_116.out; have hnc36 := NB116_115.out; have hnb37 := NB115_117.out; have hnc37 := NB117_115.out
               have hcz38_0 : wr.cell? ⟨gb115, 0, none⟩ = some (.int .i64 a0_0) := bc_ BK115.out 0
               have hcz38_1 : wr.cell? ⟨gb115, 1, none⟩ = some (.int .i64 a0_1) := bc_ BK115.out 1
               have hcz38_2 : wr.cell? ⟨gb115, 2, none⟩ = some (.slice A0_2 l0_2.length c0_2) := bc_ BK115.out 2
               have hfz38_0 := blk_frozen BK115.out 0; have hfz38_1 := blk_frozen BK115.out 1; have hfz38_2 := blk_frozen BK115.out 2
               go_wp2_with (first | ((with_reducible refine gate_callee (f := 25) rfl ?_); refine goQ_ (some 80) Try.func25 #[.agg #[.int .i64 a0_0, .int .i64 a0_1, .slice A0_2 l0_2.length c0_2], .int .i64 (wrap64 (a1 + x14_4)), .int .i64 (wrap64 (a2 + x13_3))] ?_; (with_reducible refine (chequerref03_At.calls a0_0 a0_1 _ _ l0_2 (wrap64 (a1 + x14_4)) (wrap64 (a2 + x13_3)) t118 t119 _ ?side1 ?side2 A34.out).mono ?_); (case side1 => repeat (first | exact (Kd.C_below HR0_2.out HB.out) | (with_reducible refine Kd.C_alloc ?_ _) | (with_reducible refine Kd.C_drewN ?_ _) | (with_reducible refine Kd.C_drew ?_))); (case side2 => exact HC0_2.out); rintro e w39 ⟨rfl, hb⟩; refine ⟨_, rfl, ?_⟩; replace HO_118002 := rb_ HO_118002.out hb; replace BK115 := kb_ BK115.out hb; replace BK116 := kb_ BK116.out hb; replace BK117 := kb_ BK117.out hb; replace HB := Aside0.mk (below_step bp_ hb); (try clear hb); (try clear hb2); (try clear hk); (try clear hi); have hnb40 := NB117_116.out; have hnc40 := NB116_117.out; have hcz41_0 : w39.cell? ⟨gb117, 0, none⟩ = some (.int .i64 a3) := bc_ BK117.out 0; have hcz41_1 : w39.cell? ⟨gb117, 1, none⟩ = some (.int .i64 a4) := bc_ BK117.out 1; have hcz41_2 : w39.cell? ⟨gb117, 2, none⟩ = some (u118002) := bc_ BK117.out 2; have hfz41_0 := blk_frozen BK117.out 0; have hfz41_1 := blk_frozen BK117.out 1; have hfz41_2 := blk_frozen BK117.out 2) | ((with_reducible refine gate_builtin (b := .append) (xs := #[.tmp 84, .tmp 86]) rfl ?_); at_builtin; refine Kd.R_append (Kd.int .u64) (w0 := w) w.heap.size rfl (.tmp 84) (.tmp 86) 22 46 (.int .u64 0) 8 rfl Try.underlying22 info46 rfl (by decide) (by omega) u118002 x118002_4 t118 [.int .u64 t118] (fun _ => True) (fun _ => False) rfl rfl ?aP (fun _ hk => hk.elim) ?aF ?aO ?aB ?aS ?aL ?_; (case aP => exact rfl); (case aB => exact bp_); (case aF => exact (fun _ _ => trivial)); (case aO => exact (rp_ HO_118002.out)); (case aS => exact (below_size bp_)); (case aL => have := LMc35.out; omega); intro v121 w42 ho hb hg hat; rw [← Ny120.out] at ho; replace BK115 := Aside0.mk (blk_grown (g := gb115) (o := .cells #[.int .i64 a0_0, .int .i64 a0_1, .slice A0_2 l0_2.length c0_2] 24 (0, 0)) (hp_ BK115.out) hg (Kd.R_ne HO_118002.out BK115.out (by decide))); replace BK116 := Aside0.mk (blk_grown (g := gb116) (o := .cells #[.int .i64 0, .int .i64 0, .slice none 0 0] 24 (0, 0)) (hp_ BK116.out) hg (Kd.R_ne HO_118002.out BK116.out (by decide))); replace BK117 := Aside0.mk (blk_grown (g := gb117) (o := .cells #[.int .i64 a3, .int .i64 a4, u118002] 24 (0, 0)) (hp_ BK117.out) hg (Kd.R_ne HO_118002.out BK117.out (by decide))); replace HB := Aside0.mk (hb); have HO122 := Aside0.mk (ho); clear HO_118002; clear ho hb hg hat; obtain ⟨Ao43, co43, eo43⟩ := Kd.R_slice HO122.out; subst eo43; have hcz44_0 : w42.cell? ⟨gb117, 0, none⟩ = some (.int .i64 a3) := bc_ BK117.out 0; have hcz44_1 : w42.cell? ⟨gb117, 1, none⟩ = some (.int .i64 a4) := bc_ BK117.out 1; have hcz44_2 : w42.cell? ⟨gb117, 2, none⟩ = some (u118002) := bc_ BK117.out 2; have hfz44_0 := blk_frozen BK117.out 0; have hfz44_1 := blk_frozen BK117.out 1; have hfz44_2 := blk_frozen BK117.out 2))
               go_roundg k4
               case measure => have := HJ5.out; have := HJ19.out; have := HK3.out; have := HK4.out; omega
               case rel => exact ⟨(wrap64 (x14_4 + 1)), (y120), (.slice Ao43 y120.length co43), (by first | rfl | (simp; done) | (simp [*]; done)), H', ⟨by have := HJ5.out; have := HJ19.out; have := HK3.out; have := HK4.out; omega⟩, ⟨rf_ HO122.out BK117.out (by decide) (fun _ hk => trivial)⟩, ⟨hf_ BK115.out NB115_117.out⟩, ⟨hf_ BK116.out NB116_117.out⟩, ⟨by (with_reducible repeat (first | refine blk_drewN ?_ _ | refine blk_drew ?_ | refine blk_alloc ?_ _)); refine blk_put (cs := #[.int .i64 a3, .int .i64 a4, u118002]) ?_ 2 _ rfl; (with_reducible repeat (first | refine blk_drewN ?_ _ | refine blk_drew ?_ | refine blk_alloc ?_ _)); exact BK117.out⟩, ⟨bp_⟩⟩
             rw [if_neg c35] at H
             exact absurd H (by simp)
           rw [if_neg c33] at H
           have c33b0 : decide (x14_4 < a3) = false := decide_eq_false c33
           clear c33
           have H' := Aside0.mk H
           clear H
           go_wp2
           go_roundg k4
           case measure => have := HJ5.out; have := HJ19.out; have := HK3.out; have := HK4.out; omega
           case rel => exact ⟨(wrap64 (x13_3 + 1)), (x118002_4), (u118002), (by first | rfl | (simp; done) | (simp [*]; done)), H', ⟨by have := HJ5.out; have := HJ19.out; have := HK3.out; have := HK4.out; omega⟩, ⟨rp_ HO_118002.out⟩, ⟨hp_ BK115.out⟩, ⟨hp_ BK116.out⟩, ⟨hp_ BK117.out⟩, ⟨bp_⟩⟩
       rw [if_neg c32] at H
       have c32b0 : decide (x13_3 < a4) = false := decide_eq_false c32
       clear c32; simp only [Option.some.injEq, Prod.mk.injEq] at H; obtain ⟨rfl, rfl, rfl, rfl⟩ := H; have hnb45 := NB117_116.out; have hnc45 := NB116_117.out
       have hcz46_0 : wr.cell? ⟨gb117, 0, none⟩ = some (.int .i64 a3) := bc_ BK117.out 0
       have hcz46_1 : wr.cell? ⟨gb117, 1, none⟩ = some (.int .i64 a4) := bc_ BK117.out 1
       have hcz46_2 : wr.cell? ⟨gb117, 2, none⟩ = some (u118002) := bc_ BK117.out 2
       have hfz46_0 := blk_frozen BK117.out 0; have hfz46_1 := blk_frozen BK117.out 1; have hfz46_2 := blk_frozen BK117.out 2
       have hcz47_0 : wr.cell? ⟨gb116, 0, none⟩ = some (.int .i64 0) := bc_ BK116.out 0
       have hcz47_1 : wr.cell? ⟨gb116, 1, none⟩ = some (.int .i64 0) := bc_ BK116.out 1
       have hcz47_2 : wr.cell? ⟨gb116, 2, none⟩ = some (.slice none 0 0) := bc_ BK116.out 2
       have hfz47_0 := blk_frozen BK116.out 0; have hfz47_1 := blk_frozen BK116.out 1; have hfz47_2 := blk_frozen BK116.out 2
       obtain ⟨Ao48, co48, eo48⟩ := Kd.R_slice HO_118002.out
       subst eo48
       go_wp2
       refine bodyPost_ret (results_ct rfl _ _ gb116 24 #[.int .i64 a3, .int .i64 a4, .slice Ao48 x118002_3.length co48] (0, 0) _ rfl (by (with_reducible repeat (first | refine blk_drewN ?_ _ | refine blk_drew ?_ | refine blk_alloc ?_ _)); refine blk_put (cs := #[.int .i64 a3, .int .i64 a4, .slice none 0 0]) ?_ 2 _ rfl; (with_reducible repeat (first | refine blk_drewN ?_ _ | refine blk_drew ?_ | refine blk_alloc ?_ _)); refine blk_put (cs := #[.int .i64 a3, .int .i64 0, .slice none 0 0]) ?_ 1 _ rfl; (with_reducible repeat (first | refine blk_drewN ?_ _ | refine blk_drew ?_ | refine blk_alloc ?_ _)); refine blk_put (cs := #[.int .i64 0, .int .i64 0, .slice none 0 0]) ?_ 0 _ rfl; (with_reducible repeat (first | refine blk_drewN ?_ _ | refine blk_drew ?_ | refine blk_alloc ?_ _)); exact BK116.out) Try.underlying24 rfl (by kernel_rfl)) rfl ?_
       exact ⟨_, by first | rfl | (simp [errW_none, errW_some] <;> rfl) | (simp [*, errW_none, errW_some] <;> rfl), rf_ HO_118002.out BK116.out (by decide) (fun _ hk => trivial), bp_⟩

/-! ### chequerlaw03_of: function 13 -/
def chequerlaw03_of.f (a0_0 : Int) (a0_1 : Int) (l0_2 : List Int) : Option (Int × Int × List Int) := some (a0_0, a0_1, l0_2)
set_option maxHeartbeats 8000000 in
set_option maxRecDepth 100000 in
theorem chequerlaw03_of.calls (a0_0 : Int) (a0_1 : Int) (P0_2_ : Nat → Prop) (A0_2 : Option Addr) (c0_2 : Nat) (l0_2 : List Int) (r1 : Int) (r2 : Int) (r3 : List Int) (w : World) (hs0_2 : Kd.V (Kd.int .u64) 46 w w.heap.size (fun k_ => P0_2_ k_) (.slice A0_2 l0_2.length c0_2) l0_2) (h : chequerlaw03_of.f a0_0 a0_1 l0_2 = some (r1, r2, r3)) :
    Calls Try.prog 13 #[.agg #[.int .i64 a0_0, .int .i64 a0_1, .slice A0_2 l0_2.length c0_2]] w fun e w' => ∃ v2_ : Value, e = .returned (.agg #[.int .i64 r1, .int .i64 r2, v2_]) ∧ Kd.V (Kd.int .u64) 46 w' w.heap.size (fun k_ => (P0_2_ k_ ∨ w.heap.size ≤ k_)) v2_ r3 ∧ Below w.heap.size w w' := by
  have hu24 := Try.underlying24
  have hu32 := Try.underlying32
  have HO0_2 := Aside0.mk (show Kd.V (Kd.int .u64) 46 w w.heap.size (fun k_ => (P0_2_ k_ ∨ w.heap.size ≤ k_)) (.slice A0_2 l0_2.length c0_2) l0_2 from Kd.V_mono hs0_2 (fun k_ hk => .inl hk))
  have HB := Aside0.mk (Below.refl w.heap.size w)
  have H : (some (a0_0, a0_1, l0_2)) = some (r1, r2, r3) := h
  clear h
  simp only [Option.some.injEq, Prod.mk.injEq] at H
  obtain ⟨rfl, rfl, rfl⟩ := H
  go_enter Try.func13, Try.ntmps13
  go_wp2_with (first | ((with_reducible refine gate_dst (N := 1) rfl ?_); refine box_event ?hg (N := 1) ?hd (cs := #[.int .i64 a0_0, .int .i64 a0_1, .slice A0_2 l0_2.length c0_2]) (t := 24) ?hr ?_; (case hd => rfl); (case hg => rfl); (case hr => first | (go_simp; done) | (go_simp; rfl)); intro gb123 hg w2 hbox hb; have n0_ := Aside0.mk (Kd.V_below (Kd.V_elderB (by (with_reducible repeat (first | apply Kd.V_alloc | apply Kd.V_drewN | apply Kd.V_drew)); exact HO0_2.out) gb123 (Nat.le_of_eq hg.symm)) hb); have n1_ := Aside0.mk (below_step (by repeat (first | (with_reducible first | exact HB.out | apply below_alloc | apply pw_below_drewN | apply below_drew1) | exact HB.out)) hb); have n2_ := Aside0.mk (hbox); have n3_ := Aside0.mk ((by rw [hg]; exact (below_size (by repeat (first | (with_reducible first | exact HB.out | apply below_alloc | apply pw_below_drewN | apply below_drew1) | exact HB.out))) : w.heap.size ≤ gb123)); have n4_ := Aside0.mk ((by rw [hg]; exact (below_size (by repeat (first | (with_reducible first | exact HB.out | apply below_alloc | apply pw_below_drewN | apply below_drew1) | exact HB.out))) : w.heap.size ≤ gb123)); clear HO0_2; clear HB; have HO0_2 := n0_; have HB := n1_; have BK123 := n2_; have GW123 := n3_; have GE123 := n4_; clear n0_ n1_ n2_ n3_ n4_; clear hb hbox hg) | ((with_reducible refine gate_dst (N := 2) rfl ?_); refine box_event ?hg (N := 2) ?hd (cs := #[.int .i64 0, .int .i64 0, .slice none 0 0]) (t := 32) ?hr ?_; (case hd => rfl); (case hg => rfl); (case hr => first | (go_simp; done) | (go_simp; rfl)); intro gb124 hg w3 hbox hb; have n0_ := Aside0.mk (Kd.V_below (Kd.V_elderB (by (with_reducible repeat (first | apply Kd.V_alloc | apply Kd.V_drewN | apply Kd.V_drew)); exact HO0_2.out) gb124 (Nat.le_of_eq hg.symm)) hb); have n1_ := Aside0.mk (blk_below (g := gb123) (o := .cells #[.int .i64 a0_0, .int .i64 a0_1, .slice A0_2 l0_2.length c0_2] 24 (0, 0)) (by (with_reducible repeat (first | refine blk_drewN ?_ _ | refine blk_drew ?_ | refine blk_alloc ?_ _)); exact BK123.out) hb); have n2_ := Aside0.mk (below_step (by repeat (first | (with_reducible first | exact HB.out | apply below_alloc | apply pw_below_drewN | apply below_drew1 | refine below_set ?_ GE123.out) | exact HB.out)) hb); have n3_ := Aside0.mk (hbox); have n4_ := Aside0.mk ((by rw [hg]; exact (below_size (by repeat (first | (with_reducible first | exact HB.out | apply below_alloc | apply pw_below_drewN | apply below_drew1 | refine below_set ?_ GE123.out) | exact HB.out))) : w.heap.size ≤ gb124)); have n5_ := Aside0.mk ((by rw [hg]; exact (below_size (by repeat (first | (with_reducible first | exact HB.out | apply below_alloc | apply pw_below_drewN | apply below_drew1 | refine below_set ?_ GE123.out) | exact HB.out))) : w.heap.size ≤ gb124)); have n6_ := Aside0.mk ((by rw [hg]; exact Nat.ne_of_lt (blk_lt (g := gb123) (o := .cells #[.int .i64 a0_0, .int .i64 a0_1, .slice A0_2 l0_2.length c0_2] 24 (0, 0)) (by (with_reducible repeat (first | refine blk_drewN ?_ _ | refine blk_drew ?_ | refine blk_alloc ?_ _)); exact BK123.out)) : gb123 ≠ gb124)); have n7_ := Aside0.mk ((by rw [hg]; exact Nat.ne_of_gt (blk_lt (g := gb123) (o := .cells #[.int .i64 a0_0, .int .i64 a0_1, .slice A0_2 l0_2.length c0_2] 24 (0, 0)) (by (with_reducible repeat (first | refine blk_drewN ?_ _ | refine blk_drew ?_ | refine blk_alloc ?_ _)); exact BK123.out)) : gb124 ≠ gb123)); clear HO0_2; clear BK123; clear HB; have HO0_2 := n0_; have BK123 := n1_; have HB := n2_; have BK124 := n3_; have GW124 := n4_; have GE124 := n5_; have NB123_124 := n6_; have NB124_123 := n7_; clear n0_ n1_ n2_ n3_ n4_ n5_ n6_ n7_; clear hb hbox hg; have hnb4 := NB123_124.out; have hnc4 := NB124_123.out; have hcz5_0 : w3.cell? ⟨gb123, 0, none⟩ = some (.int .i64 a0_0) := (blk_cell BK123.out 0).trans rfl; have hcz5_1 : w3.cell? ⟨gb123, 1, none⟩ = some (.int .i64 a0_1) := (blk_cell BK123.out 1).trans rfl; have hcz5_2 : w3.cell? ⟨gb123, 2, none⟩ = some (.slice A0_2 l0_2.length c0_2) := (blk_cell BK123.out 2).trans rfl; have hfz5_0 := blk_frozen BK123.out 0; have hfz5_1 := blk_frozen BK123.out 1; have hfz5_2 := blk_frozen BK123.out 2; have hcz6_0 : w3.cell? ⟨gb124, 0, none⟩ = some (.int .i64 0) := (blk_cell BK124.out 0).trans rfl; have hcz6_1 : w3.cell? ⟨gb124, 1, none⟩ = some (.int .i64 0) := (blk_cell BK124.out 1).trans rfl; have hcz6_2 : w3.cell? ⟨gb124, 2, none⟩ = some (.slice none 0 0) := (blk_cell BK124.out 2).trans rfl; have hfz6_0 := blk_frozen BK124.out 0; have hfz6_1 := blk_frozen BK124.out 1; have hfz6_2 := blk_frozen BK124.out 2))
  refine bodyPost_ret (results_cell_row rfl _ _ gb124 32 #[.int .i64 a0_0, .int .i64 a0_1, .slice A0_2 l0_2.length c0_2] (0, 0) _ rfl (by (with_reducible repeat (first | refine blk_drewN ?_ _ | refine blk_drew ?_ | refine blk_alloc ?_ _)); refine blk_put (cs := #[.int .i64 a0_0, .int .i64 a0_1, .slice none 0 0]) ?_ 2 _ rfl; (with_reducible repeat (first | refine blk_drewN ?_ _ | refine blk_drew ?_ | refine blk_alloc ?_ _)); refine blk_put (cs := #[.int .i64 a0_0, .int .i64 0, .slice none 0 0]) ?_ 1 _ rfl; (with_reducible repeat (first | refine blk_drewN ?_ _ | refine blk_drew ?_ | refine blk_alloc ?_ _)); refine blk_put (cs := #[.int .i64 0, .int .i64 0, .slice none 0 0]) ?_ 0 _ rfl; (with_reducible repeat (first | refine blk_drewN ?_ _ | refine blk_drew ?_ | refine blk_alloc ?_ _)); exact BK124.out) Try.underlying32 rfl (by kernel_rfl)) rfl ?_
  exact ⟨_, by first | rfl | (simp [errW_none, errW_some] <;> rfl) | (simp [*, errW_none, errW_some] <;> rfl), by (with_reducible repeat (first | apply Kd.V_alloc | apply Kd.V_drewN | apply Kd.V_drew)); exact Kd.V_mono (Kd.V_far (p := ⟨gb124, 2, none⟩) (Kd.V_far (p := ⟨gb124, 1, none⟩) (Kd.V_far (p := ⟨gb124, 0, none⟩) (Kd.V_mono HO0_2.out (fun k_ hk => (⟨hk, hk.2⟩ : _ ∧ k_ ≠ gb124))) (fun _ hk => hk.2) (.int .i64 a0_0)) (fun _ hk => hk.2) (.int .i64 a0_1)) (fun _ hk => hk.2) (.slice A0_2 l0_2.length c0_2)) (fun _ hk => hk.1.1.1), by repeat (first | (with_reducible first | exact HB.out | apply below_alloc | apply pw_below_drewN | apply below_drew1 | refine below_set ?_ GE124.out) | exact HB.out)⟩


/-! ### rect_Matrix_inside: function 44 -/
def rect_Matrix_inside.f (a0_0 : Int) (a0_1 : Int) (l0_2 : List Int) (a1 : Int) (a2 : Int) (a3 : Int) (a4 : Int) : Option (Bool) := if a3 ≥ 1 then (if a4 ≥ 1 then (if a1 ≥ 0 then (if a2 ≥ 0 then (if a3 ≤ a0_0 then (if a4 ≤ a0_1 then (if a1 ≤ (wrap64 (a0_0 - a3)) then (some (decide (a2 ≤ (wrap64 (a0_1 - a4))))) else (some false)) else (some false)) else (some false)) else (some false)) else (some false)) else (some false)) else (some false)
set_option maxHeartbeats 8000000 in
set_option maxRecDepth 100000 in
theorem rect_Matrix_inside.calls (a0_0 : Int) (a0_1 : Int) (A0_2 : Option Addr) (c0_2 : Nat) (l0_2 : List Int) (a1 : Int) (a2 : Int) (a3 : Int) (a4 : Int) (r : Bool) (w : World) (hr0_2 : Kd.C (Kd.int .u64) w A0_2 l0_2.length l0_2) (hc0_2 : l0_2.length ≤ c0_2) (h : rect_Matrix_inside.f a0_0 a0_1 l0_2 a1 a2 a3 a4 = some r) :
 Calls Try.prog 44 #[.agg #[.int .i64 a0_0, .int .i64 a0_1, .slice A0_2 l0_2.length c0_2], .int .i64 a1, .int .i64 a2, .int .i64 a3, .int .i64 a4] w fun e w' => e = .returned (.bool r) ∧ Below w.heap.size w w' := by
 have hu32 := Try.underlying32
 have HR0_2 := Aside0.mk hr0_2
 have HC0_2 := Aside0.mk hc0_2
 clear hr0_2 hc0_2
 have HB := Aside0.mk (Below.refl w.heap.size w)
 have H : (if a3 ≥ 1 then (if a4 ≥ 1 then (if a1 ≥ 0 then (if a2 ≥ 0 then (if a3 ≤ a0_0 then (if a4 ≤ a0_1 then (if a1 ≤ (wrap64 (a0_0 - a3)) then (some (decide (a2 ≤ (wrap64 (a0_1 - a4))))) else (some false)) else (some false)) else (some false)) else (some false)) else (some false)) else (some false)) else (some false)) = some r := h
 clear h
 by_cases c6 : a3 ≥ 1
 · rw [if_pos c6] at H
   have c6b0 : decide (1 ≤ a3) = true := decide_eq_true c6
   clear c6
   by_cases c7 : a4 ≥ 1
   · rw [if_pos c7] at H
     have c7b0 : decide (1 ≤ a4) = true := decide_eq_true c7
     clear c7
     by_cases c8 : a1 ≥ 0
     · rw [if_pos c8] at H
       have c8b0 : decide (0 ≤ a1) = true := decide_eq_true c8
       clear c8
       by_cases c9 : a2 ≥ 0
       · rw [if_pos c9] at H
         have c9b0 : decide (0 ≤ a2) = true := decide_eq_true c9
         clear c9
         by_cases c10 : a3 ≤ a0_0
         · rw [if_pos c10] at H
           have c10b0 : decide (a3 ≤ a0_0) = true := decide_eq_true c10
           clear c10
           by_cases c11 : a4 ≤ a0_1
           · rw [if_pos c11] at H
             have c11b0 : decide (a4 ≤ a0_1) = true := decide_eq_true c11
             clear c11
             by_cases c12 : a1 ≤ (wrap64 (a0_0 - a3))
             · rw [if_pos c12] at H
               have c12b0 : decide (a1 ≤ (wrap64 (a0_0 - a3))) = true := decide_eq_true c12
               clear c12
               obtain rfl := Option.some.inj H
               go_enter Try.func44, Try.ntmps44
               go_wp2_with (first | ((with_reducible refine gate_dst (N := 5) rfl ?_); refine box_event ?hg (N := 5) ?hd (cs := #[.int .i64 a0_0, .int .i64 a0_1, .slice A0_2 l0_2.length c0_2]) (t := 32) ?hr ?_; (case hd => rfl); (case hg => rfl); (case hr => first | (go_simp; done) | (go_simp; rfl)); intro gb125 hg w13 hbox hb; have BK125 := Aside0.mk (hbox); have GW125 := Aside0.mk ((by rw [hg]; exact (below_size bp_) : w.heap.size ≤ gb125)); have GE125 := Aside0.mk ((by rw [hg]; exact (below_size bp_) : w.heap.size ≤ gb125)); replace HB := Aside0.mk (below_step bp_ hb); clear hb hbox hg; have hcz14_0 : w13.cell? ⟨gb125, 0, none⟩ = some (.int .i64 a0_0) := bc_ BK125.out 0; have hcz14_1 : w13.cell? ⟨gb125, 1, none⟩ = some (.int .i64 a0_1) := bc_ BK125.out 1; have hcz14_2 : w13.cell? ⟨gb125, 2, none⟩ = some (.slice A0_2 l0_2.length c0_2) := bc_ BK125.out 2; have hfz14_0 := blk_frozen BK125.out 0; have hfz14_1 := blk_frozen BK125.out 1; have hfz14_2 := blk_frozen BK125.out 2))
               go_ret
               exact ⟨by first | rfl | (simp [errW_none, errW_some] <;> rfl) | (simp [*, errW_none, errW_some] <;> rfl), bp_⟩
             rw [if_neg c12] at H
             have c12b0 : decide (a1 ≤ (wrap64 (a0_0 - a3))) = false := decide_eq_false c12
             clear c12
             obtain rfl := Option.some.inj H
             go_enter Try.func44, Try.ntmps44
             go_wp2_with (first | ((with_reducible refine gate_dst (N := 5) rfl ?_); refine box_event ?hg (N := 5) ?hd (cs := #[.int .i64 a0_0, .int .i64 a0_1, .slice A0_2 l0_2.length c0_2]) (t := 32) ?hr ?_; (case hd => rfl); (case hg => rfl); (case hr => first | (go_simp; done) | (go_simp; rfl)); intro gb125 hg w15 hbox hb; have BK125 := Aside0.mk (hbox); have GW125 := Aside0.mk ((by rw [hg]; exact (below_size bp_) : w.heap.size ≤ gb125)); have GE125 := Aside0.mk ((by rw [hg]; exact (below_size bp_) : w.heap.size ≤ gb125)); replace HB := Aside0.mk (below_step bp_ hb); clear hb hbox hg; have hcz16_0 : w15.cell? ⟨gb125, 0, none⟩ = some (.int .i64 a0_0) := bc_ BK125.out 0; have hcz16_1 : w15.cell? ⟨gb125, 1, none⟩ = some (.int .i64 a0_1) := bc_ BK125.out 1; have hcz16_2 : w15.cell? ⟨gb125, 2, none⟩ = some (.slice A0_2 l0_2.length c0_2) := bc_ BK125.out 2; have hfz16_0 := blk_frozen BK125.out 0; have hfz16_1 := blk_frozen BK125.out 1; have hfz16_2 := blk_frozen BK125.out 2))
             go_ret
             exact ⟨by first | rfl | (simp [errW_none, errW_some] <;> rfl) | (simp [*, errW_none, errW_some] <;> rfl), bp_⟩
           rw [if_neg c11] at H
           have c11b0 : decide (a4 ≤ a0_1) = false := decide_eq_false c11
           clear c11
           obtain rfl := Option.some.inj H
           go_enter Try.func44, Try.ntmps44
           go_wp2_with (first | ((with_reducible refine gate_dst (N := 5) rfl ?_); refine box_event ?hg (N := 5) ?hd (cs := #[.int .i64 a0_0, .int .i64 a0_1, .slice A0_2 l0_2.length c0_2]) (t := 32) ?hr ?_; (case hd => rfl); (case hg => rfl); (case hr => first | (go_simp; done) | (go_simp; rfl)); intro gb125 hg w17 hbox hb; have BK125 := Aside0.mk (hbox); have GW125 := Aside0.mk ((by rw [hg]; exact (below_size bp_) : w.heap.size ≤ gb125)); have GE125 := Aside0.mk ((by rw [hg]; exact (below_size bp_) : w.heap.size ≤ gb125)); replace HB := Aside0.mk (below_step bp_ hb); clear hb hbox hg; have hcz18_0 : w17.cell? ⟨gb125, 0, none⟩ = some (.int .i64 a0_0) := bc_ BK125.out 0; have hcz18_1 : w17.cell? ⟨gb125, 1, none⟩ = some (.int .i64 a0_1) := bc_ BK125.out 1; have hcz18_2 : w17.cell? ⟨gb125, 2, none⟩ = some (.slice A0_2 l0_2.length c0_2) := bc_ BK125.out 2; have hfz18_0 := blk_frozen BK125.out 0; have hfz18_1 := blk_frozen BK125.out 1; have hfz18_2 := blk_frozen BK125.out 2))
           go_ret
           exact ⟨by first | rfl | (simp [errW_none, errW_some] <;> rfl) | (simp [*, errW_none, errW_some] <;> rfl), bp_⟩
         rw [if_neg c10] at H
         have c10b0 : decide (a3 ≤ a0_0) = false := decide_eq_false c10
         clear c10
         obtain rfl := Option.some.inj H
         go_enter Try.func44, Try.ntmps44
         go_wp2_with (first | ((with_reducible refine gate_dst (N := 5) rfl ?_); refine box_event ?hg (N := 5) ?hd (cs := #[.int .i64 a0_0, .int .i64 a0_1, .slice A0_2 l0_2.length c0_2]) (t := 32) ?hr ?_; (case hd => rfl); (case hg => rfl); (case hr => first | (go_simp; done) | (go_simp; rfl)); intro gb125 hg w19 hbox hb; have BK125 := Aside0.mk (hbox); have GW125 := Aside0.mk ((by rw [hg]; exact (below_size bp_) : w.heap.size ≤ gb125)); have GE125 := Aside0.mk ((by rw [hg]; exact (below_size bp_) : w.heap.size ≤ gb125)); replace HB := Aside0.mk (below_step bp_ hb); clear hb hbox hg; have hcz20_0 : w19.cell? ⟨gb125, 0, none⟩ = some (.int .i64 a0_0) := bc_ BK125.out 0; have hcz20_1 : w19.cell? ⟨gb125, 1, none⟩ = some (.int .i64 a0_1) := bc_ BK125.out 1; have hcz20_2 : w19.cell? ⟨gb125, 2, none⟩ = some (.slice A0_2 l0_2.length c0_2) := bc_ BK125.out 2; have hfz20_0 := blk_frozen BK125.out 0; have hfz20_1 := blk_frozen BK125.out 1; have hfz20_2 := blk_frozen BK125.out 2))
         go_ret
         exact ⟨by first | rfl | (simp [errW_none, errW_some] <;> rfl) | (simp [*, errW_none, errW_some] <;> rfl), bp_⟩
       rw [if_neg c9] at H
       have c9b0 : decide (0 ≤ a2) = false := decide_eq_false c9
       clear c9
       obtain rfl := Option.some.inj H
       go_enter Try.func44, Try.ntmps44
       go_wp2_with (first | ((with_reducible refine gate_dst (N := 5) rfl ?_); refine box_event ?hg (N := 5) ?hd (cs := #[.int .i64 a0_0, .int .i64 a0_1, .slice A0_2 l0_2.length c0_2]) (t := 32) ?hr ?_; (case hd => rfl); (case hg => rfl); (case hr => first | (go_simp; done) | (go_simp; rfl)); intro gb125 hg w21 hbox hb; have BK125 := Aside0.mk (hbox); have GW125 := Aside0.mk ((by rw [hg]; exact (below_size bp_) : w.heap.size ≤ gb125)); have GE125 := Aside0.mk ((by rw [hg]; exact (below_size bp_) : w.heap.size ≤ gb125)); replace HB := Aside0.mk (below_step bp_ hb); clear hb hbox hg))
       go_ret
       exact ⟨by first | rfl | (simp [errW_none, errW_some] <;> rfl) | (simp [*, errW_none, errW_some] <;> rfl), bp_⟩
     rw [if_neg c8] at H
     have c8b0 : decide (0 ≤ a1) = false := decide_eq_false c8
     clear c8
     obtain rfl := Option.some.inj H
     go_enter Try.func44, Try.ntmps44
     go_wp2_with (first | ((with_reducible refine gate_dst (N := 5) rfl ?_); refine box_event ?hg (N := 5) ?hd (cs := #[.int .i64 a0_0, .int .i64 a0_1, .slice A0_2 l0_2.length c0_2]) (t := 32) ?hr ?_; (case hd => rfl); (case hg => rfl); (case hr => first | (go_simp; done) | (go_simp; rfl)); intro gb125 hg w22 hbox hb; have BK125 := Aside0.mk (hbox); have GW125 := Aside0.mk ((by rw [hg]; exact (below_size bp_) : w.heap.size ≤ gb125)); have GE125 := Aside0.mk ((by rw [hg]; exact (below_size bp_) : w.heap.size ≤ gb125)); replace HB := Aside0.mk (below_step bp_ hb); clear hb hbox hg))
     go_ret
     exact ⟨by first | rfl | (simp [errW_none, errW_some] <;> rfl) | (simp [*, errW_none, errW_some] <;> rfl), bp_⟩
   rw [if_neg c7] at H
   have c7b0 : decide (1 ≤ a4) = false := decide_eq_false c7
   clear c7
   obtain rfl := Option.some.inj H
   go_enter Try.func44, Try.ntmps44
   go_wp2_with (first | ((with_reducible refine gate_dst (N := 5) rfl ?_); refine box_event ?hg (N := 5) ?hd (cs := #[.int .i64 a0_0, .int .i64 a0_1, .slice A0_2 l0_2.length c0_2]) (t := 32) ?hr ?_; (case hd => rfl); (case hg => rfl); (case hr => first | (go_simp; done) | (go_simp; rfl)); intro gb125 hg w23 hbox hb; have BK125 := Aside0.mk (hbox); have GW125 := Aside0.mk ((by rw [hg]; exact (below_size bp_) : w.heap.size ≤ gb125)); have GE125 := Aside0.mk ((by rw [hg]; exact (below_size bp_) : w.heap.size ≤ gb125)); replace HB := Aside0.mk (below_step bp_ hb); clear hb hbox hg))
   go_ret
   exact ⟨by first | rfl | (simp [errW_none, errW_some] <;> rfl) | (simp [*, errW_none, errW_some] <;> rfl), bp_⟩
 rw [if_neg c6] at H
 have c6b0 : decide (1 ≤ a3) = false := decide_eq_false c6
 clear c6
 obtain rfl := Option.some.inj H
 go_enter Try.func44, Try.ntmps44
 go_wp2_with (first | ((with_reducible refine gate_dst (N := 5) rfl ?_); refine box_event ?hg (N := 5) ?hd (cs := #[.int .i64 a0_0, .int .i64 a0_1, .slice A0_2 l0_2.length c0_2]) (t := 32) ?hr ?_; (case hd => rfl); (case hg => rfl); (case hr => first | (go_simp; done) | (go_simp; rfl)); intro gb125 hg w24 hbox hb; have BK125 := Aside0.mk (hbox); have GW125 := Aside0.mk ((by rw [hg]; exact (below_size bp_) : w.heap.size ≤ gb125)); have GE125 := Aside0.mk ((by rw [hg]; exact (below_size bp_) : w.heap.size ≤ gb125)); replace HB := Aside0.mk (below_step bp_ hb); clear hb hbox hg))
 go_ret
 exact ⟨by first | rfl | (simp [errW_none, errW_some] <;> rfl) | (simp [*, errW_none, errW_some] <;> rfl), bp_⟩

end Go.Proofs.Ytidpaaemfiopkaa.Q
