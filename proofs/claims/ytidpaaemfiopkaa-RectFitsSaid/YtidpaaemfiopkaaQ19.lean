-- written by our own program (wip/tools/myprint.py) out of the translation, by the kit's print; Lean checks it
import Derived.Test.YtidpaaemfiopkaaQ0
import Derived.Test.YtidpaaemfiopkaaIpix_Unpack
namespace Go.Proofs.Ytidpaaemfiopkaa.Q
open Go.RowKit Go.Proofs.YtidpaaemfiopkaaW.PrintWords Go.Proofs.YtidpaaemfiopkaaW.PrintLast Go.Proofs.YtidpaaemfiopkaaW.PrintMore
attribute [local go_sem] max2_int min2_int max_two min_two max_three min_three max_four min_four   -- for this text's walks alone
set_option linter.unusedVariables false
set_option linter.unusedSimpArgs false


/-! ### pix_Format: function 59 -/
def pix_Format.f (a0_0 : Int) (a0_1 : Int) : Option (Bool) := if a0_0 = 1 then (if a0_1 ≥ 1 then (some (decide (a0_1 ≤ 65535))) else (some false)) else (if a0_0 = 3 then (if a0_1 ≥ 1 then (some (decide (a0_1 ≤ 65535))) else (some false)) else (some false))
set_option maxHeartbeats 8000000 in
set_option maxRecDepth 100000 in
theorem pix_Format.calls (a0_0 : Int) (a0_1 : Int) (r : Bool) (w : World) (h : pix_Format.f a0_0 a0_1 = some r) :
 Calls Try.prog 59 #[.agg #[.int .i64 a0_0, .int .i64 a0_1]] w fun e w' => e = .returned (.bool r) ∧ Below w.heap.size w w' := by
 have hu70 := Try.underlying70
 have HB := Aside0.mk (Below.refl w.heap.size w)
 have H : (if a0_0 = 1 then (if a0_1 ≥ 1 then (some (decide (a0_1 ≤ 65535))) else (some false)) else (if a0_0 = 3 then (if a0_1 ≥ 1 then (some (decide (a0_1 ≤ 65535))) else (some false)) else (some false))) = some r := h
 clear h
 by_cases c2 : a0_0 = 1
 · rw [if_pos c2] at H
   have c2b0 : (a0_0 == 1) = true := beq_iff_eq.mpr c2
   have c2b1 : (a0_0 != 1) = false := bne_eq_false_iff_eq.mpr c2
   clear c2
   by_cases c3 : a0_1 ≥ 1
   · rw [if_pos c3] at H
     have c3b0 : decide (1 ≤ a0_1) = true := decide_eq_true c3
     clear c3
     obtain rfl := Option.some.inj H
     go_enter Try.func59, Try.ntmps59
     go_wp2_with (first | ((with_reducible refine gate_dst (N := 1) rfl ?_); refine box_event ?hg (N := 1) ?hd (cs := #[.int .i64 a0_0, .int .i64 a0_1]) (t := 70) ?hr ?_; (case hd => rfl); (case hg => rfl); (case hr => first | (go_simp; done) | (go_simp; rfl)); intro gb578 hg w4 hbox hb; have BK578 := Aside0.mk (hbox); have GW578 := Aside0.mk ((by rw [hg]; exact (below_size bp_) : w.heap.size ≤ gb578)); have GE578 := Aside0.mk ((by rw [hg]; exact (below_size bp_) : w.heap.size ≤ gb578)); replace HB := Aside0.mk (below_step bp_ hb); clear hb hbox hg; have hcz5_0 : w4.cell? ⟨gb578, 0, none⟩ = some (.int .i64 a0_0) := (blk_cell BK578.out 0).trans rfl; have hcz5_1 : w4.cell? ⟨gb578, 1, none⟩ = some (.int .i64 a0_1) := (blk_cell BK578.out 1).trans rfl; have hfz5_0 := blk_frozen BK578.out 0; have hfz5_1 := blk_frozen BK578.out 1))
     go_ret
     exact ⟨by first | rfl | (simp [errW_none, errW_some] <;> rfl) | (simp [*, errW_none, errW_some] <;> rfl), bp_⟩
   · rw [if_neg c3] at H
     have c3b0 : decide (1 ≤ a0_1) = false := decide_eq_false c3
     clear c3
     obtain rfl := Option.some.inj H
     go_enter Try.func59, Try.ntmps59
     go_wp2_with (first | ((with_reducible refine gate_dst (N := 1) rfl ?_); refine box_event ?hg (N := 1) ?hd (cs := #[.int .i64 a0_0, .int .i64 a0_1]) (t := 70) ?hr ?_; (case hd => rfl); (case hg => rfl); (case hr => first | (go_simp; done) | (go_simp; rfl)); intro gb578 hg w6 hbox hb; have BK578 := Aside0.mk (hbox); have GW578 := Aside0.mk ((by rw [hg]; exact (below_size bp_) : w.heap.size ≤ gb578)); have GE578 := Aside0.mk ((by rw [hg]; exact (below_size bp_) : w.heap.size ≤ gb578)); replace HB := Aside0.mk (below_step bp_ hb); clear hb hbox hg; have hcz7_0 : w6.cell? ⟨gb578, 0, none⟩ = some (.int .i64 a0_0) := (blk_cell BK578.out 0).trans rfl; have hcz7_1 : w6.cell? ⟨gb578, 1, none⟩ = some (.int .i64 a0_1) := (blk_cell BK578.out 1).trans rfl; have hfz7_0 := blk_frozen BK578.out 0; have hfz7_1 := blk_frozen BK578.out 1))
     go_ret
     exact ⟨by first | rfl | (simp [errW_none, errW_some] <;> rfl) | (simp [*, errW_none, errW_some] <;> rfl), bp_⟩
 · rw [if_neg c2] at H
   have c2b0 : (a0_0 == 1) = false := beq_eq_false_iff_ne.mpr c2
   have c2b1 : (a0_0 != 1) = true := bne_iff_ne.mpr c2
   by_cases c8 : a0_0 = 3
   · rw [if_pos c8] at H
     have c8b0 : (a0_0 == 3) = true := beq_iff_eq.mpr c8
     have c8b1 : (a0_0 != 3) = false := bne_eq_false_iff_eq.mpr c8
     clear c8
     by_cases c9 : a0_1 ≥ 1
     · rw [if_pos c9] at H
       have c9b0 : decide (1 ≤ a0_1) = true := decide_eq_true c9
       clear c9
       obtain rfl := Option.some.inj H
       go_enter Try.func59, Try.ntmps59
       go_wp2_with (first | ((with_reducible refine gate_dst (N := 1) rfl ?_); refine box_event ?hg (N := 1) ?hd (cs := #[.int .i64 a0_0, .int .i64 a0_1]) (t := 70) ?hr ?_; (case hd => rfl); (case hg => rfl); (case hr => first | (go_simp; done) | (go_simp; rfl)); intro gb578 hg w10 hbox hb; have BK578 := Aside0.mk (hbox); have GW578 := Aside0.mk ((by rw [hg]; exact (below_size bp_) : w.heap.size ≤ gb578)); have GE578 := Aside0.mk ((by rw [hg]; exact (below_size bp_) : w.heap.size ≤ gb578)); replace HB := Aside0.mk (below_step bp_ hb); clear hb hbox hg; have hcz11_0 : w10.cell? ⟨gb578, 0, none⟩ = some (.int .i64 a0_0) := (blk_cell BK578.out 0).trans rfl; have hcz11_1 : w10.cell? ⟨gb578, 1, none⟩ = some (.int .i64 a0_1) := (blk_cell BK578.out 1).trans rfl; have hfz11_0 := blk_frozen BK578.out 0; have hfz11_1 := blk_frozen BK578.out 1))
       go_ret
       exact ⟨by first | rfl | (simp [errW_none, errW_some] <;> rfl) | (simp [*, errW_none, errW_some] <;> rfl), bp_⟩
     · rw [if_neg c9] at H
       have c9b0 : decide (1 ≤ a0_1) = false := decide_eq_false c9
       clear c9
       obtain rfl := Option.some.inj H
       go_enter Try.func59, Try.ntmps59
       go_wp2_with (first | ((with_reducible refine gate_dst (N := 1) rfl ?_); refine box_event ?hg (N := 1) ?hd (cs := #[.int .i64 a0_0, .int .i64 a0_1]) (t := 70) ?hr ?_; (case hd => rfl); (case hg => rfl); (case hr => first | (go_simp; done) | (go_simp; rfl)); intro gb578 hg w12 hbox hb; have BK578 := Aside0.mk (hbox); have GW578 := Aside0.mk ((by rw [hg]; exact (below_size bp_) : w.heap.size ≤ gb578)); have GE578 := Aside0.mk ((by rw [hg]; exact (below_size bp_) : w.heap.size ≤ gb578)); replace HB := Aside0.mk (below_step bp_ hb); clear hb hbox hg; have hcz13_0 : w12.cell? ⟨gb578, 0, none⟩ = some (.int .i64 a0_0) := (blk_cell BK578.out 0).trans rfl; have hcz13_1 : w12.cell? ⟨gb578, 1, none⟩ = some (.int .i64 a0_1) := (blk_cell BK578.out 1).trans rfl; have hfz13_0 := blk_frozen BK578.out 0; have hfz13_1 := blk_frozen BK578.out 1))
       go_ret
       exact ⟨by first | rfl | (simp [errW_none, errW_some] <;> rfl) | (simp [*, errW_none, errW_some] <;> rfl), bp_⟩
   · rw [if_neg c8] at H
     have c8b0 : (a0_0 == 3) = false := beq_eq_false_iff_ne.mpr c8
     have c8b1 : (a0_0 != 3) = true := bne_iff_ne.mpr c8
     obtain rfl := Option.some.inj H
     go_enter Try.func59, Try.ntmps59
     go_wp2_with (first | ((with_reducible refine gate_dst (N := 1) rfl ?_); refine box_event ?hg (N := 1) ?hd (cs := #[.int .i64 a0_0, .int .i64 a0_1]) (t := 70) ?hr ?_; (case hd => rfl); (case hg => rfl); (case hr => first | (go_simp; done) | (go_simp; rfl)); intro gb578 hg w14 hbox hb; have BK578 := Aside0.mk (hbox); have GW578 := Aside0.mk ((by rw [hg]; exact (below_size bp_) : w.heap.size ≤ gb578)); have GE578 := Aside0.mk ((by rw [hg]; exact (below_size bp_) : w.heap.size ≤ gb578)); replace HB := Aside0.mk (below_step bp_ hb); clear hb hbox hg; have hcz15_0 : w14.cell? ⟨gb578, 0, none⟩ = some (.int .i64 a0_0) := (blk_cell BK578.out 0).trans rfl; have hcz15_1 : w14.cell? ⟨gb578, 1, none⟩ = some (.int .i64 a0_1) := (blk_cell BK578.out 1).trans rfl; have hfz15_0 := blk_frozen BK578.out 0; have hfz15_1 := blk_frozen BK578.out 1))
     go_ret
     exact ⟨by first | rfl | (simp [errW_none, errW_some] <;> rfl) | (simp [*, errW_none, errW_some] <;> rfl), bp_⟩

/-! ### slices_Max_int_int: function 60 -/
def slices_Max_int_int.l0 : Nat → List Int → Int → Int → Option (Int)
  | 0, _, _, _ => none
  | k + 1, x0, x3, x4 => if x4 < (x0.length : Int) then (if 0 ≤ x4 then (slices_Max_int_int.l0 k x0 (mx x3 (rd x0 x4)) (wrap64 (x4 + 1))) else (none)) else (some x3)
def slices_Max_int_int.f (k : Nat) (l0 : List Int) : Option (Int) := if (l0.length : Int) < 1 then (none) else (if 0 < (l0.length : Int) then (slices_Max_int_int.l0 k l0 (rd l0 0) 1) else (none))
theorem slices_Max_int_int.mono_l : ∀ k, (∀ y0 y1 y2, LeO (slices_Max_int_int.l0 k y0 y1 y2) (slices_Max_int_int.l0 (k + 1) y0 y1 y2))
  | 0 => fun _ _ _ r h => by simp [slices_Max_int_int.l0] at h
  | k + 1 => by
    have ih0 := slices_Max_int_int.mono_l k
    · intro y0 y1 y2
      unfold slices_Max_int_int.l0
      repeat' first
      | (with_reducible exact ih0 _ _ _)
      | (with_reducible exact LeO.refl _)
      | (with_reducible exact LeO.none _)
      | (with_reducible refine LeO.ite ?_ ?_)
      | (with_reducible refine LeO.bind ?_ (fun _ => ?_))
      | exact ih0 _ _ _
      | exact LeO.none _
      | refine LeO.ite ?_ ?_
      | refine LeO.bind ?_ (fun _ => ?_)
theorem slices_Max_int_int.mono : ∀ a0 k, LeO (slices_Max_int_int.f k a0) (slices_Max_int_int.f (k + 1) a0) := by
  intro a0 k
  have ih0 := slices_Max_int_int.mono_l k
  unfold slices_Max_int_int.f
  repeat' first
      | (with_reducible exact ih0 _ _ _)
      | (with_reducible exact LeO.refl _)
      | (with_reducible exact LeO.none _)
      | (with_reducible refine LeO.ite ?_ ?_)
      | (with_reducible refine LeO.bind ?_ (fun _ => ?_))
      | exact ih0 _ _ _
      | exact LeO.none _
      | refine LeO.ite ?_ ?_
      | refine LeO.bind ?_ (fun _ => ?_)
set_option maxHeartbeats 8000000 in
set_option maxRecDepth 100000 in
theorem slices_Max_int_int.calls (k : Nat) (A0 : Option Addr) (c0 : Nat) (l0 : List Int) (r : Int) (w : World) (hr0 : Kd.C (Kd.int .i64) w A0 l0.length l0) (hc0 : l0.length ≤ c0) (h : slices_Max_int_int.f k l0 = some r) :
    Calls Try.prog 60 #[.slice A0 l0.length c0] w fun e w' => e = .returned (.int .i64 r) ∧ Below w.heap.size w w' := by
  have HR0 := Aside0.mk hr0
  have HC0 := Aside0.mk hc0
  clear hr0 hc0
  have HB := Aside0.mk (Below.refl w.heap.size w)
  have H : (if (l0.length : Int) < 1 then (none) else (if 0 < (l0.length : Int) then (slices_Max_int_int.l0 k l0 (rd l0 0) 1) else (none))) = some r := h
  clear h
  by_cases c2 : (l0.length : Int) < 1
  · rw [if_pos c2] at H
    exact absurd H (by simp)
  · rw [if_neg c2] at H
    have c2b0 : decide ((l0.length : Int) < 1) = false := decide_eq_false c2
    have c2b1 : decide (l0.length < 1) = false := decide_eq_false (by omega)
    clear c2
    by_cases c3 : 0 < (l0.length : Int)
    · rw [if_pos c3] at H
      have c3b0 : decide (0 < (l0.length : Int)) = true := decide_eq_true c3
      have c3b1 : decide (0 < l0.length) = true := decide_eq_true (by omega)
      clear c3
      have H' := Aside0.mk H
      clear H
      have p579 : 0 ≤ (0 : Int) := (by omega)
      have q579 : 0 < (l0.length : Int) := of_decide_eq_true (by first | (with_reducible assumption) | assumption)
      obtain ⟨ad579, e579, hx579_0⟩ := Kd.at_int HR0.out 0 p579 q579
      cases e579
      have qi579 : (0 < l0.length) = True := eq_true (by omega)
      (try rw [show ((0 : Int)).toNat = 0 from rfl] at hx579_0)
      (try rw [Addr.add_zero'] at hx579_0)
      replace p579 := eq_true p579
      replace q579 := eq_true q579
      go_enter Try.func60, Try.ntmps60
      go_wp2
      go_loopg [3, 4] k (fun kq v3 v4 w' => ∃ (x3_1 : Int) (x4_1 : Int), v3 = .int .i64 x3_1 ∧ v4 = .int .i64 x4_1 ∧ Aside0 (slices_Max_int_int.l0 kq l0 x3_1 x4_1 = some r) ∧ Aside0 (kq ≤ k) ∧ Aside0 (Below w.heap.size w w'))
      case atStart => exact ⟨(rd l0 0), (1), (by first | rfl | (simp; done) | (simp [*]; done)), (by first | rfl | (simp; done) | (simp [*]; done)), H', ⟨Nat.le_refl _⟩, ⟨by repeat (first | (with_reducible first | exact HB.out | apply below_alloc | apply pw_below_drewN | apply below_drew1) | exact HB.out)⟩⟩
      case round =>
        clear H'
        try clear c2
        try clear c2b0
        try clear c2b1
        try clear p2
        try clear c3
        try clear c3b0
        try clear c3b1
        try clear hx579_0
        try clear p579
        try clear q579
        obtain ⟨x3_1, x4_1, rfl, rfl, HA, HK1, HB⟩ := hrel
        cases gk with
        | zero => exact absurd HA.out (by simp [slices_Max_int_int.l0])
        | succ k1 =>
          have H := HA.out
          clear HA
          simp only [slices_Max_int_int.l0] at H
          by_cases c4 : x4_1 < (l0.length : Int)
          · rw [if_pos c4] at H
            have c4b0 : decide (x4_1 < (l0.length : Int)) = true := decide_eq_true c4
            clear c4
            by_cases c5 : 0 ≤ x4_1
            · rw [if_pos c5] at H
              have c5b0 : decide (0 ≤ x4_1) = true := decide_eq_true c5
              clear c5
              obtain ⟨ji6, hji6⟩ : ∃ j_ : Int, (mx x3_1 (rd l0 x4_1)) = j_ := ⟨_, rfl⟩
              replace H : (slices_Max_int_int.l0 k1 l0 ji6 (wrap64 (x4_1 + 1))) = some r := by first | (rw [hji6] at H; exact H) | (simp only [hji6] at H ⊢; exact H)
              have hji6_ : (if x3_1 < (rd l0 x4_1) then (rd l0 x4_1) else x3_1) = ji6 := hji6
              have H' := Aside0.mk H
              clear H
              have p580 : 0 ≤ (x4_1 : Int) := of_decide_eq_true (by first | (with_reducible assumption) | assumption)
              have q580 : x4_1 < (l0.length : Int) := of_decide_eq_true (by first | (with_reducible assumption) | assumption)
              obtain ⟨ad580, e580, hx580_0⟩ := Kd.at_int HR0.out x4_1 p580 q580
              obtain rfl : ad579 = ad580 := (by injection e580)
              replace hx580_0 := (HB.out.cell (World.block_lt_of_cell? w _ hx580_0)).trans hx580_0
              replace p580 := eq_true p580
              replace q580 := eq_true q580
              go_wp2
              go_roundg k1
              case measure => have := HK1.out; omega
              case rel => exact ⟨(ji6), (wrap64 (x4_1 + 1)), (by first | rfl | (simp; done) | (simp only [← hji6] <;> (first | rfl | simp)) | (simp [*]; done)), (by first | rfl | (simp; done) | (simp [*]; done)), H', ⟨by have := HK1.out; omega⟩, ⟨by repeat (first | (with_reducible first | exact HB.out | apply below_alloc | apply pw_below_drewN | apply below_drew1) | exact HB.out)⟩⟩
            · rw [if_neg c5] at H
              exact absurd H (by simp)
          · rw [if_neg c4] at H
            have c4b0 : decide (x4_1 < (l0.length : Int)) = false := decide_eq_false c4
            clear c4
            obtain rfl := Option.some.inj H
            go_wp2
            go_ret
            exact ⟨by first | rfl | (simp [errW_none, errW_some] <;> rfl) | (simp [*, errW_none, errW_some] <;> rfl), by repeat (first | (with_reducible first | exact HB.out | apply below_alloc | apply pw_below_drewN | apply below_drew1) | exact HB.out)⟩
    · rw [if_neg c3] at H
      exact absurd H (by simp)

abbrev Fl219 : Array Bool := #[false, false, false, false, false, false, false, false, false, false, false, false, false, false, false, false, false]
abbrev Fl220 : Array Bool := #[true, false, false, false, false, false, false, false, false, false, false, false, false, false, false, false, false]
abbrev Fl221 : Array Bool := #[true, true, false, false, false, false, false, false, false, false, false, false, false, false, false, false, false]
abbrev Fl222 : Array Bool := #[true, true, true, false, false, false, false, false, false, false, false, false, false, false, false, false, false]
abbrev Fl223 : Array Bool := #[true, true, true, true, false, false, false, false, false, false, false, false, false, false, false, false, false]
abbrev Fl224 : Array Bool := #[true, true, true, true, true, false, false, false, false, false, false, false, false, false, false, false, false]
abbrev Fl225 : Array Bool := #[true, true, true, true, true, true, false, false, false, false, false, false, false, false, false, false, false]
abbrev Fl226 : Array Bool := #[true, true, true, true, true, true, true, false, false, false, false, false, false, false, false, false, false]
abbrev Fl227 : Array Bool := #[true, true, true, true, true, true, true, true, false, false, false, false, false, false, false, false, false]
abbrev Fl228 : Array Bool := #[true, true, true, true, true, true, true, true, true, false, false, false, false, false, false, false, false]
abbrev Fl229 : Array Bool := #[true, true, true, true, true, true, true, true, true, true, false, false, false, false, false, false, false]
abbrev Fl230 : Array Bool := #[true, true, true, true, true, true, true, true, true, true, true, false, false, false, false, false, false]
abbrev Fl231 : Array Bool := #[true, true, true, true, true, true, true, true, true, true, true, true, true, true, false, false, false]
abbrev Fl232 : Array Bool := #[true, true, true, true, true, true, true, true, true, true, true, true, true, true, true, false, false]
abbrev Fl233 : Array Bool := #[true, true, true, true, true, true, true, true, true, true, true, true, true, true, true, true, false]
abbrev Fl234 : Array Bool := #[true, true, true, true, true, true, true, true, true, true, true, true, true, true, true, true, true]
abbrev Fl235 : Array Bool := #[true, true, true, true, true, true, true, true, true, true, true, true, false, false, false, false, false]
abbrev Fl236 : Array Bool := #[true, true, true, true, true, true, true, true, true, true, true, true, true, false, false, false, false]
/-! ### pix_Fits: function 53 -/
def pix_Fits.f (k : Nat) (a0 : Int) (a1_0 : Int) (a1_1 : Int) : Option (Bool) := (pix_Unpack.f a0).bind fun t582 => ((pix_Format.f a1_0 a1_1).bind fun t585 => (if t585 = true then (if (t582.length : Int) = a1_0 then ((slices_Max_int_int.f k t582).bind fun t586 => (some (decide (t586 ≤ a1_1)))) else (some false)) else (some false)))
theorem pix_Fits.mono : ∀ a0 a1 a2 k, LeO (pix_Fits.f k a0 a1 a2) (pix_Fits.f (k + 1) a0 a1 a2) := by
 intro a0 a1 a2 k
 unfold pix_Fits.f
 repeat' first
  | (with_reducible exact slices_Max_int_int.mono _ _)
  | (with_reducible exact LeO.refl _)
  | (with_reducible exact LeO.none _)
  | (with_reducible refine LeO.ite ?_ ?_)
  | (with_reducible refine LeO.bind ?_ (fun _ => ?_))
  | exact slices_Max_int_int.mono _ _
  | exact LeO.none _
  | refine LeO.ite ?_ ?_
  | refine LeO.bind ?_ (fun _ => ?_)
def pix_Fits.T2 : Bool × List (List Nat × List Nat) := (true, [([], []), ([0], [0]), ([1, 1], [1]), ([2], [2]), ([3, 2], [2, 3]), ([2], [2]), ([5, 2], [2, 5]), ([4, 6, 2], [2, 4, 6]), ([2, 7], [2, 7]), ([8, 2], [8]), ([9], [9]), ([10, 9, 9], [9, 10]), ([9], [9]), ([12, 9], [9, 12]), ([11, 13, 9], [9, 11, 13]), ([9, 14], [9, 14]), ([15, 11, 0, 1, 2, 3, 4, 5, 6, 7, 8, 9, 10, 11, 12, 13, 14, 15], [15])])
def pix_Fits.B2 : List Nat := [0, 1, 3, 7, 15, 7, 39, 127, 255, 511, 1023, 2047, 1023, 5119, 16383, 32767, 65535]
theorem pix_Fits.tab2 : rtab .any (opsOf Try.f53 2) = pix_Fits.T2 := by kernel_rfl
theorem pix_Fits.bits2 : waitsOk pix_Fits.T2.2 pix_Fits.B2 = true := by kernel_rfl
set_option maxHeartbeats 8000000 in
set_option maxRecDepth 100000 in
theorem pix_Fits.calls (k : Nat) (a0 : Int) (a1_0 : Int) (a1_1 : Int) (r : Bool) (w : World) (h : pix_Fits.f k a0 a1_0 a1_1 = some r) :
 Calls Try.prog 53 #[.int .u64 a0, .agg #[.int .i64 a1_0, .int .i64 a1_1]] w fun e w' => e = .returned (.bool r) ∧ Below w.heap.size w w' := by
 have hu70 := Try.underlying70
 have HB := Aside0.mk (Below.refl w.heap.size w)
 have H : ((pix_Unpack.f a0).bind fun t582 => ((pix_Format.f a1_0 a1_1).bind fun t585 => (if t585 = true then (if (t582.length : Int) = a1_0 then ((slices_Max_int_int.f k t582).bind fun t586 => (some (decide (t586 ≤ a1_1)))) else (some false)) else (some false)))) = some r := h
 clear h
 replace H := Option.bind_eq_some_iff.mp H
 obtain ⟨t582, A30, H⟩ := H
 replace H : ((pix_Format.f a1_0 a1_1).bind fun t585 => (if t585 = true then (if (t582.length : Int) = a1_0 then ((slices_Max_int_int.f k t582).bind fun t586 => (some (decide (t586 ≤ a1_1)))) else (some false)) else (some false))) = some r := H
 have A3 := Aside0.mk A30
 clear A30
 replace H := Option.bind_eq_some_iff.mp H
 obtain ⟨t585, A40, H⟩ := H
 replace H : (if t585 = true then (if (t582.length : Int) = a1_0 then ((slices_Max_int_int.f k t582).bind fun t586 => (some (decide (t586 ≤ a1_1)))) else (some false)) else (some false)) = some r := H
 have A4 := Aside0.mk A40
 clear A40
 by_cases c5 : t585 = true
 · subst c5
   have H1 : (if (t582.length : Int) = a1_0 then ((slices_Max_int_int.f k t582).bind fun t586 => (some (decide (t586 ≤ a1_1)))) else (some false)) = some r := by rw [if_pos rfl] at H; exact H
   clear H
   have H := H1
   clear H1
   by_cases c6 : (t582.length : Int) = a1_0
   · rw [if_pos c6] at H
     have c6b0 : ((t582.length : Int) == a1_0) = true := beq_iff_eq.mpr c6
     have c6b1 : ((t582.length : Int) != a1_0) = false := bne_eq_false_iff_eq.mpr c6
     clear c6
     replace H := Option.bind_eq_some_iff.mp H
     obtain ⟨t586, A70, H⟩ := H
     replace H : (some (decide (t586 ≤ a1_1))) = some r := H
     have A7 := Aside0.mk A70
     clear A70
     obtain rfl := Option.some.inj H
     go_enter Try.func53, Try.ntmps53
     try go_wp2_with (first | ((with_reducible refine gate_dst (N := 3) rfl ?_); (try (refine gate_guard (by rfl) ?_; dsimp only)); refine box_event ?hg (N := 3) ?hd (cs := #[.int .i64 a1_0, .int .i64 a1_1]) (t := 70) ?hr ?_; (case hd => rfl); (case hg => rfl); (case hr => first | (go_simp; done) | (go_simp; rfl)); intro gb581 hg w8 hbox hb; have BK581 := Aside0.mk (hbox); have GW581 := Aside0.mk ((by rw [hg]; exact (below_size bp_) : w.heap.size ≤ gb581)); have GE581 := Aside0.mk ((by rw [hg]; exact (below_size bp_) : w.heap.size ≤ gb581)); replace HB := Aside0.mk (below_step bp_ hb); clear hb hbox hg) | ((with_reducible refine gate_callee (f := 58) rfl ?_); refine goQ_ (some 7) Try.func58 #[.int .u64 a0] ?_; (with_reducible refine (pix_Unpack.calls a0 t582 _ A3.out).mono ?_); rintro e w9 ⟨v583, rfl, ho0, hb⟩; refine ⟨_, rfl, ?_⟩; have HO584 := Aside0.mk (Kd.V_lower (Kd.V_mono (ok' := fun k_ => k_ ≠ gb581) ho0 (fun k_ hk_ => (Kd.freshB (g := gb581) (o := .cells #[.int .i64 a1_0, .int .i64 a1_1] 70 (0, 0)) (hp_ BK581.out) k_ hk_))) (below_size bp_)); replace BK581 := Aside0.mk (blk_below (hp_ BK581.out) hb); replace HB := Aside0.mk (below_step bp_ hb); (try clear hb); (try clear hb2); (try clear hk); (try clear hi); (try clear ho0)))
     replace HO584 := Aside0.mk (Kd.V_drew HO584.out)
     replace BK581 := Aside0.mk (blk_drew BK581.out)
     replace HB := Aside0.mk (below_drew1 HB.out)
     refine start_ (n := 17) (S := fun w' => w'.cell? ⟨gb581, 0, none⟩ = some (.int .i64 a1_0) ∧ w'.cell? ⟨gb581, 1, none⟩ = some (.int .i64 a1_1)) (ds := []) Fl219 (by kernel_rfl) rfl rfl ⟨(blk_cell BK581.out 0).trans rfl, (blk_cell BK581.out 1).trans rfl⟩ (fun hHeld => ?_); refine with_tabW pix_Fits.tab2 pix_Fits.bits2 (fun HT_ HW_ => ?_)
     generalize w9.drew = w10 at HO584 BK581 HB hHeld ⊢
     refine take_ (i := 0) (N := some 8) (v := ?_) (a' := ?_) Fl220 rfl rfl (take_ofW HT_.out HW_.out (by kernel_rfl)) (fun _ _ _ h => h) (Or.inl ⟨by rfl, ?_⟩) hHeld ?_ ?_
     rotate_left
     · rintro w' ⟨s0, s1⟩
       go_simp
       with_reducible rfl
     rotate_left
     · simp only [Act.put, List.setIfInBounds_toArray, List.set_cons_zero, List.set_cons_succ, i64_w, i32_w]
       rfl
     refine one_ (i := 1) (N := some 9) Fl221 rfl rfl (one_of HT_.out (by kernel_rfl)) (by decide) (fun K hK => ?_)
     refine goes_ Try.func59 (by kernel_rfl) rfl #[.agg #[.int .i64 a1_0, .int .i64 a1_1]] (by rfl) rfl rfl (by (try simp only [List.map_toArray, List.map_cons, List.map_nil]); first | done | rfl | (simp only [List.length_drop, List.length_take]; rfl)) ?_
     with_reducible refine (pix_Format.calls a1_0 a1_1 true _ A4.out).mono ?_
     rintro e w11 ⟨rfl, hb⟩
     refine ⟨_, rfl, ?_⟩
     replace HO584 := Aside0.mk (Kd.V_below (vp_ HO584.out) hb)
     replace BK581 := Aside0.mk (blk_below (hp_ BK581.out) hb)
     replace HB := Aside0.mk (below_step bp_ hb)
     (try clear hb)
     (try clear hb2)
     (try clear hk)
     (try clear hi)
     obtain ⟨Ao12, co12, eo12⟩ := Kd.V_slice HO584.out
     (first | subst eo12 | (injection eo12 with f1_ f2_ f3_; have f4_ := f1_.symm; have f5_ := f3_.symm; clear f1_ f2_ f3_; subst f4_; subst f5_))
     refine hK.out _ _ ⟨(blk_cell BK581.out 0).trans rfl, (blk_cell BK581.out 1).trans rfl⟩ (fun hHeld => ?_)
     clear hK K
     refine norm_ (a' := ?_) ?_ ?_
     rotate_left
     · show Act.put _ (some 9) _ = _
       simp only [Act.put, List.setIfInBounds_toArray, List.set_cons_zero, List.set_cons_succ, i64_w, i32_w]
       rfl
     refine pur_ (i := 2) (N := some 10) Fl222 (any_of HT_.out (by kernel_rfl)) ?_
     refine pur_ (i := 3) (N := some 11) Fl223 (any_of HT_.out (by kernel_rfl)) ?_
     refine pur_ (i := 4) (N := some 12) Fl224 (any_of HT_.out (by kernel_rfl)) ?_
     refine pur_ (i := 5) (N := some 13) Fl225 (any_of HT_.out (by kernel_rfl)) ?_
     refine take_ (i := 6) (N := some 14) (v := ?_) (a' := ?_) Fl226 rfl rfl (take_ofW HT_.out HW_.out (by kernel_rfl)) (fun _ _ _ h => h) (Or.inl ⟨by rfl, ?_⟩) hHeld ?_ ?_
     rotate_left
     · rintro w' ⟨s0, s1⟩
       go_simp
       with_reducible rfl
     rotate_left
     · simp only [Act.put, List.setIfInBounds_toArray, List.set_cons_zero, List.set_cons_succ, i64_w, i32_w]
       rfl
     refine pur_ (i := 7) (N := some 15) Fl227 (any_of HT_.out (by kernel_rfl)) ?_
     refine pur_ (i := 8) (N := some 16) Fl228 (any_of HT_.out (by kernel_rfl)) ?_
     refine pur_ (i := 9) (N := some 17) Fl229 (any_of HT_.out (by kernel_rfl)) ?_
     refine pur_ (i := 10) (N := some 18) Fl230 (any_of HT_.out (by kernel_rfl)) ?_
     refine pur_ (i := 12) (N := some 20) #[true, true, true, true, true, true, true, true, true, true, true, false, true, false, false, false, false] (any_of HT_.out (by kernel_rfl)) ?_
     refine take_ (i := 13) (N := some 21) (v := ?_) (a' := ?_) #[true, true, true, true, true, true, true, true, true, true, true, false, true, true, false, false, false] rfl rfl (take_ofW HT_.out HW_.out (by kernel_rfl)) (fun _ _ _ h => h) (Or.inl ⟨by rfl, ?_⟩) hHeld ?_ ?_
     rotate_left
     · rintro w' ⟨s0, s1⟩
       go_simp
       with_reducible rfl
     rotate_left
     · simp only [Act.put, List.setIfInBounds_toArray, List.set_cons_zero, List.set_cons_succ, i64_w, i32_w]
       rfl
     refine one_ (i := 11) (N := some 19) Fl231 rfl rfl (one_of HT_.out (by kernel_rfl)) (by decide) (fun K hK => ?_)
     refine goes_ Try.func60 (by kernel_rfl) rfl #[.slice Ao12 t582.length co12] (by rfl) rfl rfl (by (try simp only [List.map_toArray, List.map_cons, List.map_nil]); first | done | rfl | (simp only [List.length_drop, List.length_take]; rfl)) ?_
     with_reducible refine (slices_Max_int_int.calls k _ _ t582 t586 _ ?side1 ?side2 A7.out).mono ?_
     (case side1 => exact cp_ (Kd.V_reads' HO584.out).2.2)
     (case side2 => exact (Kd.V_reads' HO584.out).2.1)
     rintro e w13 ⟨rfl, hb⟩
     refine ⟨_, rfl, ?_⟩
     replace HO584 := Aside0.mk (Kd.V_below (vp_ HO584.out) hb)
     replace BK581 := Aside0.mk (blk_below (hp_ BK581.out) hb)
     replace HB := Aside0.mk (below_step bp_ hb)
     (try clear hb)
     (try clear hb2)
     (try clear hk)
     (try clear hi)
     refine hK.out _ _ ⟨(blk_cell BK581.out 0).trans rfl, (blk_cell BK581.out 1).trans rfl⟩ (fun hHeld => ?_)
     clear hK K
     refine norm_ (a' := ?_) ?_ ?_
     rotate_left
     · show Act.put _ (some 19) _ = _
       simp only [Act.put, List.setIfInBounds_toArray, List.set_cons_zero, List.set_cons_succ, i64_w, i32_w]
       rfl
     refine pur_ (i := 14) (N := some 22) Fl232 (any_of HT_.out (by kernel_rfl)) ?_
     refine pur_ (i := 15) (N := some 23) Fl233 (any_of HT_.out (by kernel_rfl)) ?_
     refine pur_ (i := 16) (N := some 4) Fl234 (any_of HT_.out (by kernel_rfl)) ?_
     refine done_ (done_of HT_.out (by kernel_rfl)) ?_
     try go_wp2
     go_ret
     exact ⟨by first | rfl | (simp [errW_none, errW_some] <;> rfl) | (simp [*, errW_none, errW_some] <;> rfl), bp_⟩
   · rw [if_neg c6] at H
     have c6b0 : ((t582.length : Int) == a1_0) = false := beq_eq_false_iff_ne.mpr c6
     have c6b1 : ((t582.length : Int) != a1_0) = true := bne_iff_ne.mpr c6
     obtain rfl := Option.some.inj H
     go_enter Try.func53, Try.ntmps53
     try go_wp2_with (first | ((with_reducible refine gate_dst (N := 3) rfl ?_); (try (refine gate_guard (by rfl) ?_; dsimp only)); refine box_event ?hg (N := 3) ?hd (cs := #[.int .i64 a1_0, .int .i64 a1_1]) (t := 70) ?hr ?_; (case hd => rfl); (case hg => rfl); (case hr => first | (go_simp; done) | (go_simp; rfl)); intro gb581 hg w14 hbox hb; have BK581 := Aside0.mk (hbox); have GW581 := Aside0.mk ((by rw [hg]; exact (below_size bp_) : w.heap.size ≤ gb581)); have GE581 := Aside0.mk ((by rw [hg]; exact (below_size bp_) : w.heap.size ≤ gb581)); replace HB := Aside0.mk (below_step bp_ hb); clear hb hbox hg) | ((with_reducible refine gate_callee (f := 58) rfl ?_); refine goQ_ (some 7) Try.func58 #[.int .u64 a0] ?_; (with_reducible refine (pix_Unpack.calls a0 t582 _ A3.out).mono ?_); rintro e w15 ⟨v583, rfl, ho0, hb⟩; refine ⟨_, rfl, ?_⟩; have HO584 := Aside0.mk (Kd.V_lower (Kd.V_mono (ok' := fun k_ => k_ ≠ gb581) ho0 (fun k_ hk_ => (Kd.freshB (g := gb581) (o := .cells #[.int .i64 a1_0, .int .i64 a1_1] 70 (0, 0)) (hp_ BK581.out) k_ hk_))) (below_size bp_)); replace BK581 := Aside0.mk (blk_below (hp_ BK581.out) hb); replace HB := Aside0.mk (below_step bp_ hb); (try clear hb); (try clear hb2); (try clear hk); (try clear hi); (try clear ho0)))
     replace HO584 := Aside0.mk (Kd.V_drew HO584.out)
     replace BK581 := Aside0.mk (blk_drew BK581.out)
     replace HB := Aside0.mk (below_drew1 HB.out)
     refine start_ (n := 17) (S := fun w' => w'.cell? ⟨gb581, 0, none⟩ = some (.int .i64 a1_0) ∧ w'.cell? ⟨gb581, 1, none⟩ = some (.int .i64 a1_1)) (ds := []) Fl219 (by kernel_rfl) rfl rfl ⟨(blk_cell BK581.out 0).trans rfl, (blk_cell BK581.out 1).trans rfl⟩ (fun hHeld => ?_); refine with_tabW pix_Fits.tab2 pix_Fits.bits2 (fun HT_ HW_ => ?_)
     generalize w15.drew = w16 at HO584 BK581 HB hHeld ⊢
     refine take_ (i := 0) (N := some 8) (v := ?_) (a' := ?_) Fl220 rfl rfl (take_ofW HT_.out HW_.out (by kernel_rfl)) (fun _ _ _ h => h) (Or.inl ⟨by rfl, ?_⟩) hHeld ?_ ?_
     rotate_left
     · rintro w' ⟨s0, s1⟩
       go_simp
       with_reducible rfl
     rotate_left
     · simp only [Act.put, List.setIfInBounds_toArray, List.set_cons_zero, List.set_cons_succ, i64_w, i32_w]
       rfl
     refine one_ (i := 1) (N := some 9) Fl221 rfl rfl (one_of HT_.out (by kernel_rfl)) (by decide) (fun K hK => ?_)
     refine goes_ Try.func59 (by kernel_rfl) rfl #[.agg #[.int .i64 a1_0, .int .i64 a1_1]] (by rfl) rfl rfl (by (try simp only [List.map_toArray, List.map_cons, List.map_nil]); first | done | rfl | (simp only [List.length_drop, List.length_take]; rfl)) ?_
     with_reducible refine (pix_Format.calls a1_0 a1_1 true _ A4.out).mono ?_
     rintro e w17 ⟨rfl, hb⟩
     refine ⟨_, rfl, ?_⟩
     replace HO584 := Aside0.mk (Kd.V_below (vp_ HO584.out) hb)
     replace BK581 := Aside0.mk (blk_below (hp_ BK581.out) hb)
     replace HB := Aside0.mk (below_step bp_ hb)
     (try clear hb)
     (try clear hb2)
     (try clear hk)
     (try clear hi)
     obtain ⟨Ao18, co18, eo18⟩ := Kd.V_slice HO584.out
     (first | subst eo18 | (injection eo18 with f1_ f2_ f3_; have f4_ := f1_.symm; have f5_ := f3_.symm; clear f1_ f2_ f3_; subst f4_; subst f5_))
     refine hK.out _ _ ⟨(blk_cell BK581.out 0).trans rfl, (blk_cell BK581.out 1).trans rfl⟩ (fun hHeld => ?_)
     clear hK K
     refine norm_ (a' := ?_) ?_ ?_
     rotate_left
     · show Act.put _ (some 9) _ = _
       simp only [Act.put, List.setIfInBounds_toArray, List.set_cons_zero, List.set_cons_succ, i64_w, i32_w]
       rfl
     refine pur_ (i := 2) (N := some 10) Fl222 (any_of HT_.out (by kernel_rfl)) ?_
     refine pur_ (i := 3) (N := some 11) Fl223 (any_of HT_.out (by kernel_rfl)) ?_
     refine pur_ (i := 4) (N := some 12) Fl224 (any_of HT_.out (by kernel_rfl)) ?_
     refine pur_ (i := 5) (N := some 13) Fl225 (any_of HT_.out (by kernel_rfl)) ?_
     refine take_ (i := 6) (N := some 14) (v := ?_) (a' := ?_) Fl226 rfl rfl (take_ofW HT_.out HW_.out (by kernel_rfl)) (fun _ _ _ h => h) (Or.inl ⟨by rfl, ?_⟩) hHeld ?_ ?_
     rotate_left
     · rintro w' ⟨s0, s1⟩
       go_simp
       with_reducible rfl
     rotate_left
     · simp only [Act.put, List.setIfInBounds_toArray, List.set_cons_zero, List.set_cons_succ, i64_w, i32_w]
       rfl
     refine pur_ (i := 7) (N := some 15) Fl227 (any_of HT_.out (by kernel_rfl)) ?_
     refine pur_ (i := 8) (N := some 16) Fl228 (any_of HT_.out (by kernel_rfl)) ?_
     refine pur_ (i := 9) (N := some 17) Fl229 (any_of HT_.out (by kernel_rfl)) ?_
     refine pun_ (i := 10) (N := some 18) Fl230 (any_of HT_.out (by kernel_rfl)) ?_
     refine pun_ (i := 11) (N := some 19) Fl235 (any_of HT_.out (by kernel_rfl)) ?_
     refine pun_ (i := 12) (N := some 20) Fl236 (any_of HT_.out (by kernel_rfl)) ?_
     refine pun_ (i := 13) (N := some 21) Fl231 (any_of HT_.out (by kernel_rfl)) ?_
     refine pun_ (i := 14) (N := some 22) Fl232 (any_of HT_.out (by kernel_rfl)) ?_
     refine pur_ (i := 15) (N := some 23) Fl233 (any_of HT_.out (by kernel_rfl)) ?_
     refine pur_ (i := 16) (N := some 4) Fl234 (any_of HT_.out (by kernel_rfl)) ?_
     refine done_ (done_of HT_.out (by kernel_rfl)) ?_
     try go_wp2
     go_ret
     exact ⟨by first | rfl | (simp [errW_none, errW_some] <;> rfl) | (simp [*, errW_none, errW_some] <;> rfl), bp_⟩
 · replace c5 := Bool.eq_false_iff.mpr c5
   subst c5
   have H1 : (some false) = some r := by rw [if_neg (show ¬ (false = true) by decide)] at H; exact H
   clear H
   have H := H1
   clear H1
   obtain rfl := Option.some.inj H
   go_enter Try.func53, Try.ntmps53
   try go_wp2_with (first | ((with_reducible refine gate_dst (N := 3) rfl ?_); (try (refine gate_guard (by rfl) ?_; dsimp only)); refine box_event ?hg (N := 3) ?hd (cs := #[.int .i64 a1_0, .int .i64 a1_1]) (t := 70) ?hr ?_; (case hd => rfl); (case hg => rfl); (case hr => first | (go_simp; done) | (go_simp; rfl)); intro gb581 hg w19 hbox hb; have BK581 := Aside0.mk (hbox); have GW581 := Aside0.mk ((by rw [hg]; exact (below_size bp_) : w.heap.size ≤ gb581)); have GE581 := Aside0.mk ((by rw [hg]; exact (below_size bp_) : w.heap.size ≤ gb581)); replace HB := Aside0.mk (below_step bp_ hb); clear hb hbox hg) | ((with_reducible refine gate_callee (f := 58) rfl ?_); refine goQ_ (some 7) Try.func58 #[.int .u64 a0] ?_; (with_reducible refine (pix_Unpack.calls a0 t582 _ A3.out).mono ?_); rintro e w20 ⟨v583, rfl, ho0, hb⟩; refine ⟨_, rfl, ?_⟩; have HO584 := Aside0.mk (Kd.V_lower (Kd.V_mono (ok' := fun k_ => k_ ≠ gb581) ho0 (fun k_ hk_ => (Kd.freshB (g := gb581) (o := .cells #[.int .i64 a1_0, .int .i64 a1_1] 70 (0, 0)) (hp_ BK581.out) k_ hk_))) (below_size bp_)); replace BK581 := Aside0.mk (blk_below (hp_ BK581.out) hb); replace HB := Aside0.mk (below_step bp_ hb); (try clear hb); (try clear hb2); (try clear hk); (try clear hi); (try clear ho0)))
   replace HO584 := Aside0.mk (Kd.V_drew HO584.out)
   replace BK581 := Aside0.mk (blk_drew BK581.out)
   replace HB := Aside0.mk (below_drew1 HB.out)
   refine start_ (n := 17) (S := fun w' => w'.cell? ⟨gb581, 0, none⟩ = some (.int .i64 a1_0) ∧ w'.cell? ⟨gb581, 1, none⟩ = some (.int .i64 a1_1)) (ds := []) Fl219 (by kernel_rfl) rfl rfl ⟨(blk_cell BK581.out 0).trans rfl, (blk_cell BK581.out 1).trans rfl⟩ (fun hHeld => ?_); refine with_tabW pix_Fits.tab2 pix_Fits.bits2 (fun HT_ HW_ => ?_)
   generalize w20.drew = w21 at HO584 BK581 HB hHeld ⊢
   refine take_ (i := 0) (N := some 8) (v := ?_) (a' := ?_) Fl220 rfl rfl (take_ofW HT_.out HW_.out (by kernel_rfl)) (fun _ _ _ h => h) (Or.inl ⟨by rfl, ?_⟩) hHeld ?_ ?_
   rotate_left
   · rintro w' ⟨s0, s1⟩
     go_simp
     with_reducible rfl
   rotate_left
   · simp only [Act.put, List.setIfInBounds_toArray, List.set_cons_zero, List.set_cons_succ, i64_w, i32_w]
     rfl
   refine one_ (i := 1) (N := some 9) Fl221 rfl rfl (one_of HT_.out (by kernel_rfl)) (by decide) (fun K hK => ?_)
   refine goes_ Try.func59 (by kernel_rfl) rfl #[.agg #[.int .i64 a1_0, .int .i64 a1_1]] (by rfl) rfl rfl (by (try simp only [List.map_toArray, List.map_cons, List.map_nil]); first | done | rfl | (simp only [List.length_drop, List.length_take]; rfl)) ?_
   with_reducible refine (pix_Format.calls a1_0 a1_1 false _ A4.out).mono ?_
   rintro e w22 ⟨rfl, hb⟩
   refine ⟨_, rfl, ?_⟩
   replace HO584 := Aside0.mk (Kd.V_below (vp_ HO584.out) hb)
   replace BK581 := Aside0.mk (blk_below (hp_ BK581.out) hb)
   replace HB := Aside0.mk (below_step bp_ hb)
   (try clear hb)
   (try clear hb2)
   (try clear hk)
   (try clear hi)
   refine hK.out _ _ ⟨(blk_cell BK581.out 0).trans rfl, (blk_cell BK581.out 1).trans rfl⟩ (fun hHeld => ?_)
   clear hK K
   refine norm_ (a' := ?_) ?_ ?_
   rotate_left
   · show Act.put _ (some 9) _ = _
     simp only [Act.put, List.setIfInBounds_toArray, List.set_cons_zero, List.set_cons_succ, i64_w, i32_w]
     rfl
   refine pur_ (i := 2) (N := some 10) Fl222 (any_of HT_.out (by kernel_rfl)) ?_
   refine pun_ (i := 3) (N := some 11) Fl223 (any_of HT_.out (by kernel_rfl)) ?_
   refine pun_ (i := 4) (N := some 12) Fl224 (any_of HT_.out (by kernel_rfl)) ?_
   refine pun_ (i := 5) (N := some 13) Fl225 (any_of HT_.out (by kernel_rfl)) ?_
   refine pun_ (i := 6) (N := some 14) Fl226 (any_of HT_.out (by kernel_rfl)) ?_
   refine pun_ (i := 7) (N := some 15) Fl227 (any_of HT_.out (by kernel_rfl)) ?_
   refine pur_ (i := 8) (N := some 16) Fl228 (any_of HT_.out (by kernel_rfl)) ?_
   refine pur_ (i := 9) (N := some 17) Fl229 (any_of HT_.out (by kernel_rfl)) ?_
   refine pun_ (i := 10) (N := some 18) Fl230 (any_of HT_.out (by kernel_rfl)) ?_
   refine pun_ (i := 11) (N := some 19) Fl235 (any_of HT_.out (by kernel_rfl)) ?_
   refine pun_ (i := 12) (N := some 20) Fl236 (any_of HT_.out (by kernel_rfl)) ?_
   refine pun_ (i := 13) (N := some 21) Fl231 (any_of HT_.out (by kernel_rfl)) ?_
   refine pun_ (i := 14) (N := some 22) Fl232 (any_of HT_.out (by kernel_rfl)) ?_
   refine pur_ (i := 15) (N := some 23) Fl233 (any_of HT_.out (by kernel_rfl)) ?_
   refine pur_ (i := 16) (N := some 4) Fl234 (any_of HT_.out (by kernel_rfl)) ?_
   refine done_ (done_of HT_.out (by kernel_rfl)) ?_
   try go_wp2
   go_ret
   exact ⟨by first | rfl | (simp [errW_none, errW_some] <;> rfl) | (simp [*, errW_none, errW_some] <;> rfl), bp_⟩

end Go.Proofs.Ytidpaaemfiopkaa.Q
