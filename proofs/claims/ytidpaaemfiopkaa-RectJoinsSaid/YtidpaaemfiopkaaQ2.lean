-- written by our own program (wip/tools/myprint.py) out of the translation, by the kit's print; Lean checks it
import Derived.Test.YtidpaaemfiopkaaQ0
namespace Go.Proofs.Ytidpaaemfiopkaa.Q
open Go.RowKit Go.Proofs.YtidpaaemfiopkaaW.PrintWords Go.Proofs.YtidpaaemfiopkaaW.PrintLast Go.Proofs.YtidpaaemfiopkaaW.PrintMore
attribute [local go_sem] max2_int min2_int max_two min_two max_three min_three max_four min_four   -- for this text's walks alone
set_option linter.unusedVariables false
set_option linter.unusedSimpArgs false

/-! ### chequerref01_Around: function 11 -/
def chequerref01_Around.f (a0 : Int) (a1 : Int) : Option (Int) := if a0 < 0 then (if a1 = 0 then (none) else (some (Int.tmod (wrap64 (-(wrap64 (a0 + 1)))) a1))) else (if a1 = 0 then (none) else (some (Int.tmod a0 a1)))
set_option maxHeartbeats 8000000 in
set_option maxRecDepth 100000 in
theorem chequerref01_Around.calls (a0 : Int) (a1 : Int) (r : Int) (w : World) (h : chequerref01_Around.f a0 a1 = some r) :
    Calls Try.prog 11 #[.int .i64 a0, .int .i64 a1] w fun e w' => e = .returned (.int .i64 r) ∧ Drawn0 w w' := by
  have H : (if a0 < 0 then (if a1 = 0 then (none) else (some (Int.tmod (wrap64 (-(wrap64 (a0 + 1)))) a1))) else (if a1 = 0 then (none) else (some (Int.tmod a0 a1)))) = some r := h
  clear h
  by_cases c3 : a0 < 0
  · rw [if_pos c3] at H
    have c3b0 : decide (a0 < 0) = true := decide_eq_true c3
    clear c3
    by_cases c4 : a1 = 0
    · rw [if_pos c4] at H
      exact absurd H (by simp)
    rw [if_neg c4] at H
    have c4b0 : (a1 == 0) = false := beq_eq_false_iff_ne.mpr c4
    have c4b1 : (a1 != 0) = true := bne_iff_ne.mpr c4
    obtain rfl := Option.some.inj H
    go_enter Try.func11, Try.ntmps11
    go_wp2
    go_ret
    exact ⟨by first | rfl | (simp; done) | (simp [*]; done), by repeat (first | exact Drawn0.refl _ | apply Drawn0.step)⟩
  rw [if_neg c3] at H
  have c3b0 : decide (a0 < 0) = false := decide_eq_false c3
  clear c3
  by_cases c5 : a1 = 0
  · rw [if_pos c5] at H
    exact absurd H (by simp)
  rw [if_neg c5] at H
  have c5b0 : (a1 == 0) = false := beq_eq_false_iff_ne.mpr c5
  have c5b1 : (a1 != 0) = true := bne_iff_ne.mpr c5
  obtain rfl := Option.some.inj H
  go_enter Try.func11, Try.ntmps11
  go_wp2
  go_ret
  exact ⟨by first | rfl | (simp; done) | (simp [*]; done), by repeat (first | exact Drawn0.refl _ | apply Drawn0.step)⟩

abbrev Fl1 : Array Bool := #[true, true, true, true, true, true, true, true, true, true, true, true, false]
abbrev Fl2 : Array Bool := #[true, true, true, true, true, true, true, true, false, false, false, true, false]
abbrev Fl3 : Array Bool := #[true, true, true, true, true, true, true, true, true, false, false, true, false]
abbrev Fl4 : Array Bool := #[true, true, true, true, true, true, true, true, true, true, false, true, false]
/-! ### chequerref03_Good: function 10 -/
def chequerref03_Good.l0 : Nat → Int → Int → Int → List Int → Int → Int → List Int → Option (Int × Int × List Int)
 | 0, _, _, _, _, _, _, _ => none
 | k + 1, x6, x102000, x102001, x102002, x106000, x106001, x106002 => if x6 < (wrap64 (x106000 * x106001)) then (if (x102002.length : Int) > 0 then (if (x102002.length : Int) = 0 then (none) else (if 0 ≤ (Int.tmod x6 (x102002.length : Int)) then (if (Int.tmod x6 (x102002.length : Int)) < (x102002.length : Int) then (if x106002.length < 17592186044416 then (chequerref03_Good.l0 k (wrap64 (x6 + 1)) x102000 x102001 x102002 x106000 x106001 (x106002 ++ [Int.tmod (rd x102002 (Int.tmod x6 (x102002.length : Int))) 3])) else (none)) else (none)) else (none))) else (if x106002.length < 17592186044416 then (chequerref03_Good.l0 k (wrap64 (x6 + 1)) x102000 x102001 x102002 x106000 x106001 (x106002 ++ [0])) else (none))) else (some (x106000, x106001, x106002))
def chequerref03_Good.f (k : Nat) (a0_0 : Int) (a0_1 : Int) (l0_2 : List Int) (a1 : Int) : Option (Int × Int × List Int) := (chequerref01_Around.f a0_0 a1).bind fun t103 => ((chequerref01_Around.f a0_1 a1).bind fun t104 => (chequerref03_Good.l0 k 0 a0_0 a0_1 l0_2 (wrap64 (1 + t103)) (wrap64 (1 + t104)) ([] : List Int)))
theorem chequerref03_Good.mono_l : ∀ k, (∀ y0 y1 y2 y3 y4 y5 y6, LeO (chequerref03_Good.l0 k y0 y1 y2 y3 y4 y5 y6) (chequerref03_Good.l0 (k + 1) y0 y1 y2 y3 y4 y5 y6))
 | 0 => fun _ _ _ _ _ _ _ r h => by simp [chequerref03_Good.l0] at h
 | k + 1 => by
  have ih0 := chequerref03_Good.mono_l k
  · intro y0 y1 y2 y3 y4 y5 y6
    unfold chequerref03_Good.l0
    repeat' first
    | (with_reducible exact ih0 _ _ _ _ _ _ _)
    | (with_reducible exact LeO.refl _)
    | (with_reducible exact LeO.none _)
    | (with_reducible refine LeO.ite ?_ ?_)
    | (with_reducible refine LeO.bind ?_ (fun _ => ?_))
    | exact ih0 _ _ _ _ _ _ _
    | exact LeO.none _
    | refine LeO.ite ?_ ?_
    | refine LeO.bind ?_ (fun _ => ?_)
theorem chequerref03_Good.mono : ∀ a0 a1 a2 a3 k, LeO (chequerref03_Good.f k a0 a1 a2 a3) (chequerref03_Good.f (k + 1) a0 a1 a2 a3) := by
 intro a0 a1 a2 a3 k
 have ih0 := chequerref03_Good.mono_l k
 unfold chequerref03_Good.f
 repeat' first
  | (with_reducible exact ih0 _ _ _ _ _ _ _)
  | (with_reducible exact LeO.refl _)
  | (with_reducible exact LeO.none _)
  | (with_reducible refine LeO.ite ?_ ?_)
  | (with_reducible refine LeO.bind ?_ (fun _ => ?_))
  | exact ih0 _ _ _ _ _ _ _
  | exact LeO.none _
  | refine LeO.ite ?_ ?_
  | refine LeO.bind ?_ (fun _ => ?_)
def chequerref03_Good.T1 : Bool × List (List Nat × List Nat) := (true, [([], []), ([0], [0]), ([], []), ([1, 2], [1, 2]), ([3], [3]), ([], []), ([5], [5]), ([], []), ([6, 7, 3], [6, 7]), ([8], [8]), ([4, 9], [4, 9]), ([], []), ([11, 10, 8, 0, 1, 2, 3, 4, 5, 6, 7, 8, 9, 10, 11], [10, 11])])
def chequerref03_Good.B1 : List Nat := [0, 1, 0, 7, 15, 0, 32, 0, 239, 495, 1023, 0, 4095]
theorem chequerref03_Good.tab1 : rtab .any (opsOf Try.f10 1) = chequerref03_Good.T1 := by kernel_rfl
theorem chequerref03_Good.bits1 : waitsOk chequerref03_Good.T1.2 chequerref03_Good.B1 = true := by kernel_rfl
def chequerref03_Good.T7 : Bool × List (List Nat × List Nat) := (true, [([], []), ([0], [0]), ([], []), ([], []), ([3], [3]), ([4], [4]), ([2, 5], [2, 5]), ([1, 6], [1, 6]), ([7], [7]), ([8], [8]), ([9, 0, 1, 2, 3, 4, 5, 6, 7, 8, 9], [9])])
def chequerref03_Good.B7 : List Nat := [0, 1, 0, 0, 8, 24, 60, 127, 255, 511, 1023]
theorem chequerref03_Good.tab7 : rtab .any (opsOf Try.f10 7) = chequerref03_Good.T7 := by kernel_rfl
theorem chequerref03_Good.bits7 : waitsOk chequerref03_Good.T7.2 chequerref03_Good.B7 = true := by kernel_rfl
set_option maxHeartbeats 8000000 in
set_option maxRecDepth 100000 in
theorem chequerref03_Good.calls (k : Nat) (a0_0 : Int) (a0_1 : Int) (A0_2 : Option Addr) (c0_2 : Nat) (l0_2 : List Int) (a1 : Int) (r1 : Int) (r2 : Int) (r3 : List Int) (w : World) (hr0_2 : Kd.C (Kd.int .u64) w A0_2 l0_2.length l0_2) (hc0_2 : l0_2.length ≤ c0_2) (h : chequerref03_Good.f k a0_0 a0_1 l0_2 a1 = some (r1, r2, r3)) :
 Calls Try.prog 10 #[.agg #[.int .i64 a0_0, .int .i64 a0_1, .slice A0_2 l0_2.length c0_2], .int .i64 a1] w fun e w' => ∃ v2_ : Value, e = .returned (.agg #[.int .i64 r1, .int .i64 r2, v2_]) ∧ Kd.V (Kd.int .u64) 46 w' w.heap.size (fun k_ => (w.heap.size ≤ k_)) v2_ r3 ∧ Below w.heap.size w w' := by
 have hu24 := Try.underlying24
 have HR0_2 := Aside0.mk hr0_2
 have HC0_2 := Aside0.mk hc0_2
 clear hr0_2 hc0_2
 have HB := Aside0.mk (Below.refl w.heap.size w)
 have H : ((chequerref01_Around.f a0_0 a1).bind fun t103 => ((chequerref01_Around.f a0_1 a1).bind fun t104 => (chequerref03_Good.l0 k 0 a0_0 a0_1 l0_2 (wrap64 (1 + t103)) (wrap64 (1 + t104)) ([] : List Int)))) = some (r1, r2, r3) := h
 clear h
 replace H := Option.bind_eq_some_iff.mp H
 obtain ⟨t103, A30, H⟩ := H
 replace H : ((chequerref01_Around.f a0_1 a1).bind fun t104 => (chequerref03_Good.l0 k 0 a0_0 a0_1 l0_2 (wrap64 (1 + t103)) (wrap64 (1 + t104)) ([] : List Int))) = some (r1, r2, r3) := H
 have A3 := Aside0.mk A30
 clear A30
 replace H := Option.bind_eq_some_iff.mp H
 obtain ⟨t104, A40, H⟩ := H
 replace H : (chequerref03_Good.l0 k 0 a0_0 a0_1 l0_2 (wrap64 (1 + t103)) (wrap64 (1 + t104)) ([] : List Int)) = some (r1, r2, r3) := H
 have A4 := Aside0.mk A40
 clear A40
 have H' := Aside0.mk H
 clear H
 go_enter Try.func10, Try.ntmps10
 try go_wp2_with (first | ((with_reducible refine gate_dst (N := 2) rfl ?_); refine box_event ?hg (N := 2) ?hd (cs := #[.int .i64 a0_0, .int .i64 a0_1, .slice A0_2 l0_2.length c0_2]) (t := 24) ?hr ?_; (case hd => rfl); (case hg => rfl); (case hr => first | (go_simp; done) | (go_simp; rfl)); intro gb101 hg w5 hbox hb; have BK101 := Aside0.mk (hbox); have GW101 := Aside0.mk ((by rw [hg]; exact (below_size bp_) : w.heap.size ≤ gb101)); have GE101 := Aside0.mk ((by rw [hg]; exact (below_size bp_) : w.heap.size ≤ gb101)); replace HB := Aside0.mk (below_step bp_ hb); clear hb hbox hg) | ((with_reducible refine gate_dst (N := 4) rfl ?_); refine box_event ?hg (N := 4) ?hd (cs := #[.int .i64 0, .int .i64 0, .slice none 0 0]) (t := 24) ?hr ?_; (case hd => rfl); (case hg => rfl); (case hr => first | (go_simp; done) | (go_simp; rfl)); intro gb102 hg w6 hbox hb; have BK102 := Aside0.mk (hbox); have GW102 := Aside0.mk ((by rw [hg]; exact (below_size bp_) : w.heap.size ≤ gb102)); have GE102 := Aside0.mk ((by rw [hg]; exact (below_size bp_) : w.heap.size ≤ gb102)); replace HB := Aside0.mk (below_step bp_ hb); have NB101_102 := Aside0.mk ((nlt_ hg (hp_ BK101.out))); have NB102_101 := Aside0.mk ((ngt_ hg (hp_ BK101.out))); replace BK101 := kb_ BK101.out hb; clear hb hbox hg))
 replace BK101 := Aside0.mk (blk_drew BK101.out)
 replace BK102 := Aside0.mk (blk_drew BK102.out)
 replace HB := Aside0.mk (below_drew1 HB.out)
 refine start_ (n := 13) (S := fun w' => w'.cell? ⟨gb101, 0, none⟩ = some (.int .i64 a0_0) ∧ w'.cell? ⟨gb101, 1, none⟩ = some (.int .i64 a0_1) ∧ w'.cell? ⟨gb101, 2, none⟩ = some (.slice A0_2 l0_2.length c0_2)) (ds := []) #[false, false, false, false, false, false, false, false, false, false, false, false, false] (by kernel_rfl) rfl rfl ⟨bc_ BK101.out 0, bc_ BK101.out 1, bc_ BK101.out 2⟩ (fun hHeld => ?_); refine with_tabW chequerref03_Good.tab1 chequerref03_Good.bits1 (fun HT_ HW_ => ?_)
 generalize w6.drew = w7 at BK101 BK102 HB hHeld ⊢
 refine pur_ (i := 0) (N := some 8) #[true, false, false, false, false, false, false, false, false, false, false, false, false] (any_of HT_.out (by kernel_rfl)) ?_
 refine pur_ (i := 2) (N := some 10) #[true, false, true, false, false, false, false, false, false, false, false, false, false] (any_of HT_.out (by kernel_rfl)) ?_
 refine pur_ (i := 5) (N := some 13) #[true, false, true, false, false, true, false, false, false, false, false, false, false] (any_of HT_.out (by kernel_rfl)) ?_
 refine pur_ (i := 7) (N := some 15) #[true, false, true, false, false, true, false, true, false, false, false, false, false] (any_of HT_.out (by kernel_rfl)) ?_
 refine tak_ (i := 1) (N := some 9) #[true, true, true, false, false, true, false, true, false, false, false, false, false] (take_ofW HT_.out HW_.out (by kernel_rfl)) hHeld ?_
 refine tak_ (i := 6) (N := some 14) #[true, true, true, false, false, true, true, true, false, false, false, false, false] (take_ofW HT_.out HW_.out (by kernel_rfl)) hHeld ?_
 refine join_ (σ := Nat) 1 Fl1 (fun s_ => [(11, .int .i64 t103), (16, .int .i64 t104), (5, .pointer (some ⟨s_, 0, none⟩)), (12, .int .i64 (wrap64 (1 + t103))), (17, .int .i64 (wrap64 (1 + t104))), (18, .agg #[.int .i64 (wrap64 (1 + t103)), .int .i64 (wrap64 (1 + t104)), .slice none 0 0])]) (fun s_ w' => (w'.cell? ⟨gb101, 0, none⟩ = some (.int .i64 a0_0) ∧ w'.cell? ⟨gb101, 1, none⟩ = some (.int .i64 a0_1) ∧ w'.cell? ⟨gb101, 2, none⟩ = some (.slice A0_2 l0_2.length c0_2)) ∧ (w'.heap[gb101]? = some (.cells #[.int .i64 a0_0, .int .i64 a0_1, .slice A0_2 l0_2.length c0_2] 24 (0, 0))) ∧ (w'.heap[gb102]? = some (.cells #[.int .i64 0, .int .i64 0, .slice none 0 0] 24 (0, 0))) ∧ (w'.heap[s_]? = some (.cells #[.int .i64 0, .int .i64 0, .slice none 0 0] 24 (0, 0))) ∧ (w.heap.size ≤ s_) ∧ (w.heap.size ≤ s_) ∧ (gb101 ≠ s_) ∧ (s_ ≠ gb101) ∧ (gb102 ≠ s_) ∧ (s_ ≠ gb102) ∧ (Below w.heap.size w w')) ?_ ?_
 rotate_left
 · intro hCont
   refine two_ (i := 3) (j := 11) (Ni := some 11) (Nj := some 5) #[true, true, true, true, false, true, true, true, false, false, false, false, false] #[true, true, true, false, false, true, true, true, false, false, false, true, false] rfl rfl rfl rfl (two_of HT_.out (by kernel_rfl)) (by decide) (by decide) (fun K hK => ?_) (fun K hK => ?_)
   · skip
     refine goZ_ Try.func11 #[.int .i64 a0_0, .int .i64 a1] ?_
     with_reducible refine (chequerref01_Around.calls a0_0 a1 t103 _ A3.out).mono ?_
     rintro e w' ⟨rfl, ⟨nd, rfl⟩⟩
     refine ⟨_, rfl, ?_⟩; refine hK.out _ _ ⟨bc_ BK101.out 0, bc_ BK101.out 1, bc_ BK101.out 2⟩ (fun hHeld => ?_); clear hK K; refine nor_ (some 11) ?_; refine pur_ (i := 4) (N := some 12) #[true, true, true, true, true, true, true, true, false, false, false, false, false] (any_of HT_.out (by kernel_rfl)) ?_; refine two_ (i := 8) (j := 11) (Ni := some 16) (Nj := some 5) #[true, true, true, true, true, true, true, true, true, false, false, false, false] Fl2 rfl rfl rfl rfl (two_of HT_.out (by kernel_rfl)) (by decide) (by decide) (fun K hK => ?_) (fun K hK => ?_)
     · skip
       refine goZ_ Try.func11 #[.int .i64 a0_1, .int .i64 a1] ?_
       with_reducible refine (chequerref01_Around.calls a0_1 a1 t104 _ A4.out).mono ?_
       rintro e w' ⟨rfl, ⟨nd, rfl⟩⟩
       refine ⟨_, rfl, ?_⟩; refine hK.out _ _ ⟨bc_ BK101.out 0, bc_ BK101.out 1, bc_ BK101.out 2⟩ (fun hHeld => ?_); clear hK K; refine nor_ (some 16) ?_; refine pur_ (i := 9) (N := some 17) #[true, true, true, true, true, true, true, true, true, true, false, false, false] (any_of HT_.out (by kernel_rfl)) ?_; refine pur_ (i := 10) (N := some 18) #[true, true, true, true, true, true, true, true, true, true, true, false, false] (any_of HT_.out (by kernel_rfl)) ?_; refine one_ (i := 11) (N := some 5) Fl1 rfl rfl (one_of HT_.out (by kernel_rfl)) (by decide) (fun K hK => ?_); refine box_step ?hg (N := 5) ?hd (cs := #[.int .i64 0, .int .i64 0, .slice none 0 0]) (t := 24) ?hr ?_; (case hd => rfl); (case hg => rfl); (case hr => first | (go_simp; done) | (go_simp; rfl))
       intro gb105 hg w8 hbox hb
       have BK105 := Aside0.mk (hbox); have GW105 := Aside0.mk ((by rw [hg]; exact (below_size bp_) : w.heap.size ≤ gb105)); have GE105 := Aside0.mk ((by rw [hg]; exact (below_size bp_) : w.heap.size ≤ gb105)); replace HB := Aside0.mk (below_step bp_ hb); have NB101_105 := Aside0.mk ((nlt_ hg (hp_ BK101.out))); have NB105_101 := Aside0.mk ((ngt_ hg (hp_ BK101.out))); replace BK101 := kb_ BK101.out hb; have NB102_105 := Aside0.mk ((nlt_ hg (hp_ BK102.out))); have NB105_102 := Aside0.mk ((ngt_ hg (hp_ BK102.out))); replace BK102 := kb_ BK102.out hb; clear hb hbox hg; refine hK.out _ _ ⟨bc_ BK101.out 0, bc_ BK101.out 1, bc_ BK101.out 2⟩ (fun hHeld => ?_); clear hK K; refine nor_ (some 5) ?_
       exact norm_ (by simp only [putAll, Act.put, List.setIfInBounds_toArray, List.set_cons_zero, List.set_cons_succ]) (hCont (gb105) _ ⟨hHeld, (hp_ BK101.out), (hp_ BK102.out), (hp_ BK105.out), GW105.out, GE105.out, NB101_105.out, NB105_101.out, NB102_105.out, NB105_102.out, bp_⟩)
     skip
     refine box_step ?hg (N := 5) ?hd (cs := #[.int .i64 0, .int .i64 0, .slice none 0 0]) (t := 24) ?hr ?_; (case hd => rfl); (case hg => rfl); (case hr => first | (go_simp; done) | (go_simp; rfl))
     intro gb105 hg w8 hbox hb
     have BK105 := Aside0.mk (hbox); have GW105 := Aside0.mk ((by rw [hg]; exact (below_size bp_) : w.heap.size ≤ gb105)); have GE105 := Aside0.mk ((by rw [hg]; exact (below_size bp_) : w.heap.size ≤ gb105)); replace HB := Aside0.mk (below_step bp_ hb); have NB101_105 := Aside0.mk ((nlt_ hg (hp_ BK101.out))); have NB105_101 := Aside0.mk ((ngt_ hg (hp_ BK101.out))); replace BK101 := kb_ BK101.out hb; have NB102_105 := Aside0.mk ((nlt_ hg (hp_ BK102.out))); have NB105_102 := Aside0.mk ((ngt_ hg (hp_ BK102.out))); replace BK102 := kb_ BK102.out hb; clear hb hbox hg; refine hK.out _ _ ⟨bc_ BK101.out 0, bc_ BK101.out 1, bc_ BK101.out 2⟩ (fun hHeld => ?_); clear hK K; refine nor_ (some 5) ?_; refine one_ (i := 8) (N := some 16) Fl3 rfl rfl (one_of HT_.out (by kernel_rfl)) (by decide) (fun K hK => ?_); refine goZ_ Try.func11 #[.int .i64 a0_1, .int .i64 a1] ?_
     with_reducible refine (chequerref01_Around.calls a0_1 a1 t104 _ A4.out).mono ?_
     rintro e w' ⟨rfl, ⟨nd, rfl⟩⟩
     refine ⟨_, rfl, ?_⟩; refine hK.out _ _ ⟨bc_ BK101.out 0, bc_ BK101.out 1, bc_ BK101.out 2⟩ (fun hHeld => ?_); clear hK K; refine nor_ (some 16) ?_; refine pur_ (i := 9) (N := some 17) Fl4 (any_of HT_.out (by kernel_rfl)) ?_; refine pur_ (i := 10) (N := some 18) Fl1 (any_of HT_.out (by kernel_rfl)) ?_
     exact norm_ (by simp only [putAll, Act.put, List.setIfInBounds_toArray, List.set_cons_zero, List.set_cons_succ]) (hCont (gb105) _ ⟨hHeld, (hp_ BK101.out), (hp_ BK102.out), (hp_ BK105.out), GW105.out, GE105.out, NB101_105.out, NB105_101.out, NB102_105.out, NB105_102.out, bp_⟩)
   skip
   refine box_step ?hg (N := 5) ?hd (cs := #[.int .i64 0, .int .i64 0, .slice none 0 0]) (t := 24) ?hr ?_; (case hd => rfl); (case hg => rfl); (case hr => first | (go_simp; done) | (go_simp; rfl))
   intro gb105 hg w8 hbox hb
   have BK105 := Aside0.mk (hbox); have GW105 := Aside0.mk ((by rw [hg]; exact (below_size bp_) : w.heap.size ≤ gb105)); have GE105 := Aside0.mk ((by rw [hg]; exact (below_size bp_) : w.heap.size ≤ gb105)); replace HB := Aside0.mk (below_step bp_ hb); have NB101_105 := Aside0.mk ((nlt_ hg (hp_ BK101.out))); have NB105_101 := Aside0.mk ((ngt_ hg (hp_ BK101.out))); replace BK101 := kb_ BK101.out hb; have NB102_105 := Aside0.mk ((nlt_ hg (hp_ BK102.out))); have NB105_102 := Aside0.mk ((ngt_ hg (hp_ BK102.out))); replace BK102 := kb_ BK102.out hb; clear hb hbox hg; refine hK.out _ _ ⟨bc_ BK101.out 0, bc_ BK101.out 1, bc_ BK101.out 2⟩ (fun hHeld => ?_); clear hK K; refine nor_ (some 5) ?_; refine one_ (i := 3) (N := some 11) #[true, true, true, true, false, true, true, true, false, false, false, true, false] rfl rfl (one_of HT_.out (by kernel_rfl)) (by decide) (fun K hK => ?_); refine goZ_ Try.func11 #[.int .i64 a0_0, .int .i64 a1] ?_
   with_reducible refine (chequerref01_Around.calls a0_0 a1 t103 _ A3.out).mono ?_
   rintro e w' ⟨rfl, ⟨nd, rfl⟩⟩
   refine ⟨_, rfl, ?_⟩; refine hK.out _ _ ⟨bc_ BK101.out 0, bc_ BK101.out 1, bc_ BK101.out 2⟩ (fun hHeld => ?_); clear hK K; refine nor_ (some 11) ?_; refine pur_ (i := 4) (N := some 12) Fl2 (any_of HT_.out (by kernel_rfl)) ?_; refine one_ (i := 8) (N := some 16) Fl3 rfl rfl (one_of HT_.out (by kernel_rfl)) (by decide) (fun K hK => ?_); refine goZ_ Try.func11 #[.int .i64 a0_1, .int .i64 a1] ?_
   with_reducible refine (chequerref01_Around.calls a0_1 a1 t104 _ A4.out).mono ?_
   rintro e w' ⟨rfl, ⟨nd, rfl⟩⟩
   refine ⟨_, rfl, ?_⟩; refine hK.out _ _ ⟨bc_ BK101.out 0, bc_ BK101.out 1, bc_ BK101.out 2⟩ (fun hHeld => ?_); clear hK K; refine nor_ (some 16) ?_; refine pur_ (i := 9) (N := some 17) Fl4 (any_of HT_.out (by kernel_rfl)) ?_; refine pur_ (i := 10) (N := some 18) Fl1 (any_of HT_.out (by kernel_rfl)) ?_
   exact norm_ (by simp only [putAll, Act.put, List.setIfInBounds_toArray, List.set_cons_zero, List.set_cons_succ]) (hCont (gb105) _ ⟨hHeld, (hp_ BK101.out), (hp_ BK102.out), (hp_ BK105.out), GW105.out, GE105.out, NB101_105.out, NB105_101.out, NB102_105.out, NB105_102.out, bp_⟩)
 rintro gb105 w9 ⟨hS_, h0_, h1_, h2_, h3_, h4_, h5_, h6_, h7_, h8_, h9_⟩
 replace BK101 : Aside0 (w9.heap[gb101]? = some (.cells #[.int .i64 a0_0, .int .i64 a0_1, .slice A0_2 l0_2.length c0_2] 24 (0, 0))) := ⟨h0_⟩
 replace BK102 : Aside0 (w9.heap[gb102]? = some (.cells #[.int .i64 0, .int .i64 0, .slice none 0 0] 24 (0, 0))) := ⟨h1_⟩
 have BK105 : Aside0 (w9.heap[gb105]? = some (.cells #[.int .i64 0, .int .i64 0, .slice none 0 0] 24 (0, 0))) := ⟨h2_⟩
 have GW105 : Aside0 (w.heap.size ≤ gb105) := ⟨h3_⟩
 have GE105 : Aside0 (w.heap.size ≤ gb105) := ⟨h4_⟩
 have NB101_105 : Aside0 (gb101 ≠ gb105) := ⟨h5_⟩
 have NB105_101 : Aside0 (gb105 ≠ gb101) := ⟨h6_⟩
 have NB102_105 : Aside0 (gb102 ≠ gb105) := ⟨h7_⟩
 have NB105_102 : Aside0 (gb105 ≠ gb102) := ⟨h8_⟩
 replace HB : Aside0 (Below w.heap.size w w9) := ⟨h9_⟩
 clear h0_ h1_ h2_ h3_ h4_ h5_ h6_ h7_ h8_ h9_
 have hHeld : w9.cell? ⟨gb101, 0, none⟩ = some (.int .i64 a0_0) ∧ w9.cell? ⟨gb101, 1, none⟩ = some (.int .i64 a0_1) ∧ w9.cell? ⟨gb101, 2, none⟩ = some (.slice A0_2 l0_2.length c0_2) := hS_
 refine norm_ (a' := ?_) ?_ ?_
 rotate_left
 · simp only [putAll, Act.put, List.setIfInBounds_toArray, List.set_cons_zero, List.set_cons_succ]
   rfl
 refine one_ (i := 12) (N := none) #[true, true, true, true, true, true, true, true, true, true, true, true, true] rfl rfl (one_of HT_.out (by kernel_rfl)) (by decide) (fun K hK => ?_)
 have hs10 : w9.cell? ⟨gb105, 0, none⟩ = some (.int .i64 0) := bc_ BK105.out 0
 have hfs10 := blk_frozen BK105.out 0
 have hns10_0 := NB101_105.out
 have hns10_1 := NB102_105.out
 have hms10_0 := NB105_101.out
 have hms10_1 := NB105_102.out
 have hs11 : w9.cell? ⟨gb105, 1, none⟩ = some (.int .i64 0) := bc_ BK105.out 1
 have hfs11 := blk_frozen BK105.out 1
 have hns11_0 := NB101_105.out
 have hns11_1 := NB102_105.out
 have hms11_0 := NB105_101.out
 have hms11_1 := NB105_102.out
 have hs12 : w9.cell? ⟨gb105, 2, none⟩ = some (.slice none 0 0) := bc_ BK105.out 2
 have hfs12 := blk_frozen BK105.out 2
 have hns12_0 := NB101_105.out
 have hns12_1 := NB102_105.out
 have hms12_0 := NB105_101.out
 have hms12_1 := NB105_102.out
 refine skip_ (w1 := ?_) (by rfl) rfl ?_ ?_
 rotate_left
 · go_simp
   rfl
 refine hK.out _ _ ⟨((cell_far (p := ⟨gb105, _, none⟩) NB101_105.out _).trans (((cell_far (p := ⟨gb105, _, none⟩) NB101_105.out _).trans (((cell_far (p := ⟨gb105, _, none⟩) NB101_105.out _).trans (hHeld.1)))))), ((cell_far (p := ⟨gb105, _, none⟩) NB101_105.out _).trans (((cell_far (p := ⟨gb105, _, none⟩) NB101_105.out _).trans (((cell_far (p := ⟨gb105, _, none⟩) NB101_105.out _).trans (hHeld.2.1)))))), ((cell_far (p := ⟨gb105, _, none⟩) NB101_105.out _).trans (((cell_far (p := ⟨gb105, _, none⟩) NB101_105.out _).trans (((cell_far (p := ⟨gb105, _, none⟩) NB101_105.out _).trans (hHeld.2.2))))))⟩ (fun hHeld => ?_)
 clear hK K
 refine done_ (done_of HT_.out (by kernel_rfl)) ?_
 try go_wp2
 go_loopg [6] k (fun kq v6 w' => ∃ (x6_1 : Int) (x106002_1 : List Int) (u106002 : Value), v6 = .int .i64 x6_1 ∧ Aside0 (chequerref03_Good.l0 kq x6_1 a0_0 a0_1 l0_2 (wrap64 (1 + t103)) (wrap64 (1 + t104)) x106002_1 = some (r1, r2, r3)) ∧ Aside0 (kq ≤ k) ∧ Aside0 (Kd.R (Kd.int .u64) 46 w' w.heap.size (fun k_ => (w.heap.size ≤ k_)) u106002 x106002_1) ∧ Aside0 (w'.heap[gb101]? = some (.cells #[.int .i64 a0_0, .int .i64 a0_1, (.slice A0_2 l0_2.length c0_2)] 24 (0, 0))) ∧ Aside0 (w'.heap[gb102]? = some (.cells #[.int .i64 0, .int .i64 0, (.slice none 0 0)] 24 (0, 0))) ∧ Aside0 (w'.heap[gb105]? = some (.cells #[.int .i64 (wrap64 (1 + t103)), .int .i64 (wrap64 (1 + t104)), u106002] 24 (0, 0))) ∧ Aside0 (Below w.heap.size w w'))
 case atStart => exact ⟨(0), (([] : List Int)), (.slice none 0 0), (by first | rfl | (simp; done) | (simp [*]; done)), H', ⟨Nat.le_refl _⟩, ⟨by first | exact Kd.R_nil _ _ _ _ _ | exact Kd.N_nil _ _ _ _ _ | exact Kd.V_nil _ _ _ _ _ | exact Kd.Q_nil _ _ _ _ _ | exact Kd.S_nil _ _ _ _ _⟩, ⟨hf_ BK101.out NB101_105.out⟩, ⟨hf_ BK102.out NB102_105.out⟩, ⟨by (with_reducible repeat (first | refine blk_drewN ?_ _ | refine blk_drew ?_ | refine blk_alloc ?_ _)); refine blk_put (cs := #[.int .i64 (wrap64 (1 + t103)), .int .i64 (wrap64 (1 + t104)), .slice none 0 0]) ?_ 2 _ rfl; (with_reducible repeat (first | refine blk_drewN ?_ _ | refine blk_drew ?_ | refine blk_alloc ?_ _)); refine blk_put (cs := #[.int .i64 (wrap64 (1 + t103)), .int .i64 0, .slice none 0 0]) ?_ 1 _ rfl; (with_reducible repeat (first | refine blk_drewN ?_ _ | refine blk_drew ?_ | refine blk_alloc ?_ _)); refine blk_put (cs := #[.int .i64 0, .int .i64 0, .slice none 0 0]) ?_ 0 _ rfl; (with_reducible repeat (first | refine blk_drewN ?_ _ | refine blk_drew ?_ | refine blk_alloc ?_ _)); exact BK105.out⟩, ⟨bp_⟩⟩
 case round =>
  clear H'
  try clear c1
  try clear p2
  try clear p6
  try clear c10
  try clear c11
  obtain ⟨x6_1, x106002_1, u106002, rfl, HA, HK1, HO_106002, BK101, BK102, BK105, HB⟩ := hrel
  cases gk with
  | zero => exact absurd HA.out (by simp [chequerref03_Good.l0])
  | succ k1 =>
   have H := HA.out; clear HA; simp only [chequerref03_Good.l0] at H
   by_cases c13 : x6_1 < (wrap64 ((wrap64 (1 + t103)) * (wrap64 (1 + t104))))
   · rw [if_pos c13] at H
     have c13b0 : decide (x6_1 < (wrap64 ((wrap64 (1 + t103)) * (wrap64 (1 + t104))))) = true := decide_eq_true c13
     clear c13
     by_cases c14 : (l0_2.length : Int) > 0
     · rw [if_pos c14] at H
       have c14b0 : decide (0 < (l0_2.length : Int)) = true := decide_eq_true c14
       have c14b1 : decide (0 < l0_2.length) = true := decide_eq_true (by omega)
       clear c14
       by_cases c15 : (l0_2.length : Int) = 0
       · rw [if_pos c15] at H
         exact absurd H (by simp)
       rw [if_neg c15] at H
       have c15b0 : ((l0_2.length : Int) == 0) = false := beq_eq_false_iff_ne.mpr c15
       have c15b1 : ((l0_2.length : Int) != 0) = true := bne_iff_ne.mpr c15
       have c15b2 : ¬ (l0_2 = []) := fun h_ => c15 (by rw [h_]; rfl)
       obtain ⟨ji16, hji16⟩ : ∃ j_ : Int, (Int.tmod x6_1 (l0_2.length : Int)) = j_ := ⟨_, rfl⟩
       replace H : (if 0 ≤ (ji16) then (if (ji16) < (l0_2.length : Int) then (if x106002_1.length < 17592186044416 then (chequerref03_Good.l0 k1 (wrap64 (x6_1 + 1)) a0_0 a0_1 l0_2 (wrap64 (1 + t103)) (wrap64 (1 + t104)) (x106002_1 ++ [Int.tmod (rd l0_2 (ji16)) 3])) else (none)) else (none)) else (none)) = some (r1, r2, r3) := by first | (rw [hji16] at H; exact H) | (simp only [hji16] at H ⊢; exact H)
       by_cases c17 : 0 ≤ (ji16)
       · rw [if_pos c17] at H
         have c17b0 : decide (0 ≤ (ji16)) = true := decide_eq_true c17
         clear c17
         by_cases c18 : (ji16) < (l0_2.length : Int)
         · rw [if_pos c18] at H
           have c18b0 : decide ((ji16) < (l0_2.length : Int)) = true := decide_eq_true c18
           clear c18
           by_cases c19 : x106002_1.length < 17592186044416
           · rw [if_pos c19] at H; have LMc19 := Aside0.mk c19; clear c19
             obtain ⟨y107, hy107⟩ : ∃ y_ : List Int, y_ = (x106002_1 ++ [Int.tmod (rd l0_2 (ji16)) 3]) := ⟨_, rfl⟩
             replace H : (chequerref03_Good.l0 k1 (wrap64 (x6_1 + 1)) a0_0 a0_1 l0_2 (wrap64 (1 + t103)) (wrap64 (1 + t104)) y107) = some (r1, r2, r3) := by first | (rw [hy107]; with_reducible exact H) | (have H2_ := (Option.bind_some _ _).symm.trans H; rw [hy107]; with_reducible exact H2_) | (have H2_ := (Option.bind_some _ _).symm.trans H; with_reducible exact H2_) | with_reducible exact H | (rw [hy107]; exact H) | exact H
             have Ny107 := Aside0.mk hy107; clear hy107
             have H' := Aside0.mk H
             clear H; have hnb20 := NB105_101.out; have hnc20 := NB101_105.out; have hnb21 := NB105_102.out; have hnc21 := NB102_105.out
             have hcz22_0 : wr.cell? ⟨gb105, 0, none⟩ = some (.int .i64 (wrap64 (1 + t103))) := bc_ BK105.out 0
             have hcz22_1 : wr.cell? ⟨gb105, 1, none⟩ = some (.int .i64 (wrap64 (1 + t104))) := bc_ BK105.out 1
             have hcz22_2 : wr.cell? ⟨gb105, 2, none⟩ = some (u106002) := bc_ BK105.out 2
             have hfz22_0 := blk_frozen BK105.out 0; have hfz22_1 := blk_frozen BK105.out 1; have hfz22_2 := blk_frozen BK105.out 2; have hnb23 := NB101_102.out; have hnc23 := NB102_101.out
             have hcz24_0 : wr.cell? ⟨gb101, 0, none⟩ = some (.int .i64 a0_0) := bc_ BK101.out 0
             have hcz24_1 : wr.cell? ⟨gb101, 1, none⟩ = some (.int .i64 a0_1) := bc_ BK101.out 1
             have hcz24_2 : wr.cell? ⟨gb101, 2, none⟩ = some (.slice A0_2 l0_2.length c0_2) := bc_ BK101.out 2
             have hfz24_0 := blk_frozen BK101.out 0; have hfz24_1 := blk_frozen BK101.out 1; have hfz24_2 := blk_frozen BK101.out 2
             try go_wp2
             (try (rw [drewN_self wr]; generalize hq_ : World.drewN wr _ = wr; have n0_ := Aside0.mk (qrp_ hq_ HO_106002.out); have n1_ := Aside0.mk (qhp_ hq_ BK101.out); have n2_ := Aside0.mk (qhp_ hq_ BK102.out); have n3_ := Aside0.mk (qhp_ hq_ BK105.out); have n4_ : Aside0 (Below w.heap.size w wr) := ⟨qbp_ hq_⟩; clear HO_106002 BK101 BK102 BK105 HB hq_; have HO_106002 := n0_; have BK101 := n1_; have BK102 := n2_; have BK105 := n3_; have HB := n4_; clear n0_ n1_ n2_ n3_ n4_))
             replace HO_106002 := Aside0.mk (Kd.R_drew HO_106002.out); replace BK101 := Aside0.mk (blk_drew BK101.out); replace BK102 := Aside0.mk (blk_drew BK102.out); replace BK105 := Aside0.mk (blk_drew BK105.out); replace HB := Aside0.mk (below_drew1 HB.out)
             have p106 : 0 ≤ ((ji16) : Int) := of_decide_eq_true (by first | (with_reducible assumption) | assumption)
             have q106 : (ji16) < (l0_2.length : Int) := of_decide_eq_true (by first | (with_reducible assumption) | assumption)
             obtain ⟨ad106, e106, hx106_0⟩ := Kd.at_int HR0_2.out (ji16) p106 q106
             have hw106_0 := hx106_0
             cases e106
             replace hx106_0 := (HB.out.cell (World.block_lt_of_cell? w _ hx106_0)).trans hx106_0; replace p106 := eq_true p106; replace q106 := eq_true q106; refine start_ (n := 11) (S := fun w' => w'.cell? ⟨gb101, 0, none⟩ = some (.int .i64 a0_0) ∧ w'.cell? ⟨gb101, 1, none⟩ = some (.int .i64 a0_1) ∧ w'.cell? ⟨gb101, 2, none⟩ = some (.slice (some ad106) l0_2.length c0_2) ∧ w'.cell? (ad106.add ((ji16)).toNat) = some (.int .u64 (rd l0_2 (ji16)))) (ds := []) #[false, false, false, false, false, false, false, false, false, false, false] (by kernel_rfl) rfl rfl ⟨bc_ BK101.out 0, bc_ BK101.out 1, bc_ BK101.out 2, ((HB.out.cell (World.block_lt_of_cell? w _ hw106_0)).trans hw106_0)⟩ (fun hHeld => ?_); refine with_tabW chequerref03_Good.tab7 chequerref03_Good.bits7 (fun HT_ HW_ => ?_)
             generalize wr.drew = w25 at HO_106002 BK101 BK102 BK105 HB hx106_0 hHeld ⊢
             refine pur_ (i := 0) (N := some 32) #[true, false, false, false, false, false, false, false, false, false, false] (any_of HT_.out (by kernel_rfl)) ?_; refine pur_ (i := 2) (N := some 34) #[true, false, true, false, false, false, false, false, false, false, false] (any_of HT_.out (by kernel_rfl)) ?_; refine pur_ (i := 3) (N := some 35) #[true, false, true, true, false, false, false, false, false, false, false] (any_of HT_.out (by kernel_rfl)) ?_; refine tak_ (i := 1) (N := some 33) #[true, true, true, true, false, false, false, false, false, false, false] (take_ofW HT_.out HW_.out (by kernel_rfl)) hHeld ?_; refine tak_ (i := 4) (N := some 36) #[true, true, true, true, true, false, false, false, false, false, false] (take_ofW HT_.out HW_.out (by kernel_rfl)) hHeld ?_; refine pur_ (i := 5) (N := some 37) #[true, true, true, true, true, true, false, false, false, false, false] (any_of HT_.out (by kernel_rfl)) ?_; refine pur_ (i := 6) (N := some 38) #[true, true, true, true, true, true, true, false, false, false, false] (any_of HT_.out (by kernel_rfl)) ?_; refine pur_ (i := 7) (N := some 39) #[true, true, true, true, true, true, true, true, false, false, false] (any_of HT_.out (by kernel_rfl)) ?_; refine tak_ (i := 8) (N := some 40) #[true, true, true, true, true, true, true, true, true, false, false] (take_ofW HT_.out HW_.out (by kernel_rfl)) hHeld ?_; refine pur_ (i := 9) (N := some 41) #[true, true, true, true, true, true, true, true, true, true, false] (any_of HT_.out (by kernel_rfl)) ?_; refine pur_ (i := 10) (N := some 7) #[true, true, true, true, true, true, true, true, true, true, true] (any_of HT_.out (by kernel_rfl)) ?_; refine done_ (done_of HT_.out (by kernel_rfl)) ?_
             have hcz26_0 : w25.cell? ⟨gb105, 0, none⟩ = some (.int .i64 (wrap64 (1 + t103))) := bc_ BK105.out 0
             have hcz26_1 : w25.cell? ⟨gb105, 1, none⟩ = some (.int .i64 (wrap64 (1 + t104))) := bc_ BK105.out 1
             have hcz26_2 : w25.cell? ⟨gb105, 2, none⟩ = some (u106002) := bc_ BK105.out 2
             have hfz26_0 := blk_frozen BK105.out 0; have hfz26_1 := blk_frozen BK105.out 1; have hfz26_2 := blk_frozen BK105.out 2
             try go_wp2_with (first | ((with_reducible refine gate_builtin (b := .append) (xs := #[.tmp 43, .tmp 45]) rfl ?_); at_builtin; refine Kd.R_append (Kd.int .u64) (w0 := w) w.heap.size rfl (.tmp 43) (.tmp 45) 22 46 (.int .u64 0) 8 rfl Try.underlying22 info46 rfl (by decide) (by omega) u106002 x106002_1 (Int.tmod (rd l0_2 (ji16)) 3) [.int .u64 (Int.tmod (rd l0_2 (ji16)) 3)] (fun k_ => (w.heap.size ≤ k_)) (fun _ => False) rfl rfl ?aP (fun _ hk => hk.elim) ?aF ?aO ?aB ?aS ?aL ?_; (case aP => exact rfl); (case aB => exact bp_); (case aF => exact (fun k_ hk => (Nat.le_trans (below_size bp_) hk))); (case aO => exact (rp_ HO_106002.out)); (case aS => exact (below_size bp_)); (case aL => have := LMc19.out; omega); intro v108 w27 ho hb hg hat; rw [← Ny107.out] at ho; replace BK101 := Aside0.mk (blk_grown (g := gb101) (o := .cells #[.int .i64 a0_0, .int .i64 a0_1, .slice (some ad106) l0_2.length c0_2] 24 (0, 0)) (hp_ BK101.out) hg (Kd.R_ne HO_106002.out BK101.out (by decide))); replace BK102 := Aside0.mk (blk_grown (g := gb102) (o := .cells #[.int .i64 0, .int .i64 0, .slice none 0 0] 24 (0, 0)) (hp_ BK102.out) hg (Kd.R_ne HO_106002.out BK102.out (by decide))); replace BK105 := Aside0.mk (blk_grown (g := gb105) (o := .cells #[.int .i64 (wrap64 (1 + t103)), .int .i64 (wrap64 (1 + t104)), u106002] 24 (0, 0)) (hp_ BK105.out) hg (Kd.R_ne HO_106002.out BK105.out (by decide))); replace HB := Aside0.mk (hb); have HO109 := Aside0.mk (ho); clear HO_106002; clear ho hb hg hat; obtain ⟨Ao28, co28, eo28⟩ := Kd.R_slice HO109.out; subst eo28; have hcz29_0 : w27.cell? ⟨gb105, 0, none⟩ = some (.int .i64 (wrap64 (1 + t103))) := bc_ BK105.out 0; have hcz29_1 : w27.cell? ⟨gb105, 1, none⟩ = some (.int .i64 (wrap64 (1 + t104))) := bc_ BK105.out 1; have hcz29_2 : w27.cell? ⟨gb105, 2, none⟩ = some (u106002) := bc_ BK105.out 2; have hfz29_0 := blk_frozen BK105.out 0; have hfz29_1 := blk_frozen BK105.out 1; have hfz29_2 := blk_frozen BK105.out 2))
             go_roundg k1
             case measure => have := HK1.out; omega
             case rel => exact ⟨(wrap64 (x6_1 + 1)), (y107), (.slice Ao28 y107.length co28), (by first | rfl | (simp; done) | (simp [*]; done)), H', ⟨by have := HK1.out; omega⟩, ⟨rf_ HO109.out BK105.out (by decide) (fun _ hk => hk.1)⟩, ⟨hf_ BK101.out NB101_105.out⟩, ⟨hf_ BK102.out NB102_105.out⟩, ⟨by (with_reducible repeat (first | refine blk_drewN ?_ _ | refine blk_drew ?_ | refine blk_alloc ?_ _)); refine blk_put (cs := #[.int .i64 (wrap64 (1 + t103)), .int .i64 (wrap64 (1 + t104)), u106002]) ?_ 2 _ rfl; (with_reducible repeat (first | refine blk_drewN ?_ _ | refine blk_drew ?_ | refine blk_alloc ?_ _)); exact BK105.out⟩, ⟨bp_⟩⟩
           rw [if_neg c19] at H
           exact absurd H (by simp)
         rw [if_neg c18] at H
         exact absurd H (by simp)
       rw [if_neg c17] at H
       exact absurd H (by simp)
     rw [if_neg c14] at H
     have c14b0 : decide (0 < (l0_2.length : Int)) = false := decide_eq_false c14
     have c14b1 : decide (0 < l0_2.length) = false := decide_eq_false (by omega)
     clear c14
     by_cases c30 : x106002_1.length < 17592186044416
     · rw [if_pos c30] at H; have LMc30 := Aside0.mk c30; clear c30
       obtain ⟨y110, hy110⟩ : ∃ y_ : List Int, y_ = (x106002_1 ++ [0]) := ⟨_, rfl⟩
       replace H : (chequerref03_Good.l0 k1 (wrap64 (x6_1 + 1)) a0_0 a0_1 l0_2 (wrap64 (1 + t103)) (wrap64 (1 + t104)) y110) = some (r1, r2, r3) := by first | (rw [hy110]; with_reducible exact H) | (have H2_ := (Option.bind_some _ _).symm.trans H; rw [hy110]; with_reducible exact H2_) | (have H2_ := (Option.bind_some _ _).symm.trans H; with_reducible exact H2_) | with_reducible exact H | (rw [hy110]; exact H) | exact H
       have Ny110 := Aside0.mk hy110; clear hy110
       have H' := Aside0.mk H
       clear H; have hnb31 := NB105_101.out; have hnc31 := NB101_105.out; have hnb32 := NB105_102.out; have hnc32 := NB102_105.out
       have hcz33_0 : wr.cell? ⟨gb105, 0, none⟩ = some (.int .i64 (wrap64 (1 + t103))) := bc_ BK105.out 0
       have hcz33_1 : wr.cell? ⟨gb105, 1, none⟩ = some (.int .i64 (wrap64 (1 + t104))) := bc_ BK105.out 1
       have hcz33_2 : wr.cell? ⟨gb105, 2, none⟩ = some (u106002) := bc_ BK105.out 2
       have hfz33_0 := blk_frozen BK105.out 0; have hfz33_1 := blk_frozen BK105.out 1; have hfz33_2 := blk_frozen BK105.out 2; have hnb34 := NB101_102.out; have hnc34 := NB102_101.out
       have hcz35_0 : wr.cell? ⟨gb101, 0, none⟩ = some (.int .i64 a0_0) := bc_ BK101.out 0
       have hcz35_1 : wr.cell? ⟨gb101, 1, none⟩ = some (.int .i64 a0_1) := bc_ BK101.out 1
       have hcz35_2 : wr.cell? ⟨gb101, 2, none⟩ = some (.slice A0_2 l0_2.length c0_2) := bc_ BK101.out 2
       have hfz35_0 := blk_frozen BK101.out 0; have hfz35_1 := blk_frozen BK101.out 1; have hfz35_2 := blk_frozen BK101.out 2
       go_wp2_with (first | ((with_reducible refine gate_builtin (b := .append) (xs := #[.tmp 43, .tmp 45]) rfl ?_); at_builtin; refine Kd.R_append (Kd.int .u64) (w0 := w) w.heap.size rfl (.tmp 43) (.tmp 45) 22 46 (.int .u64 0) 8 rfl Try.underlying22 info46 rfl (by decide) (by omega) u106002 x106002_1 0 [.int .u64 0] (fun k_ => (w.heap.size ≤ k_)) (fun _ => False) rfl rfl ?aP (fun _ hk => hk.elim) ?aF ?aO ?aB ?aS ?aL ?_; (case aP => exact rfl); (case aB => exact bp_); (case aF => exact (fun k_ hk => (Nat.le_trans (below_size bp_) hk))); (case aO => exact (rp_ HO_106002.out)); (case aS => exact (below_size bp_)); (case aL => have := LMc30.out; omega); intro v111 w36 ho hb hg hat; rw [← Ny110.out] at ho; replace BK101 := Aside0.mk (blk_grown (g := gb101) (o := .cells #[.int .i64 a0_0, .int .i64 a0_1, .slice A0_2 l0_2.length c0_2] 24 (0, 0)) (hp_ BK101.out) hg (Kd.R_ne HO_106002.out BK101.out (by decide))); replace BK102 := Aside0.mk (blk_grown (g := gb102) (o := .cells #[.int .i64 0, .int .i64 0, .slice none 0 0] 24 (0, 0)) (hp_ BK102.out) hg (Kd.R_ne HO_106002.out BK102.out (by decide))); replace BK105 := Aside0.mk (blk_grown (g := gb105) (o := .cells #[.int .i64 (wrap64 (1 + t103)), .int .i64 (wrap64 (1 + t104)), u106002] 24 (0, 0)) (hp_ BK105.out) hg (Kd.R_ne HO_106002.out BK105.out (by decide))); replace HB := Aside0.mk (hb); have HO112 := Aside0.mk (ho); clear HO_106002; clear ho hb hg hat; obtain ⟨Ao37, co37, eo37⟩ := Kd.R_slice HO112.out; subst eo37; have hcz38_0 : w36.cell? ⟨gb105, 0, none⟩ = some (.int .i64 (wrap64 (1 + t103))) := bc_ BK105.out 0; have hcz38_1 : w36.cell? ⟨gb105, 1, none⟩ = some (.int .i64 (wrap64 (1 + t104))) := bc_ BK105.out 1; have hcz38_2 : w36.cell? ⟨gb105, 2, none⟩ = some (u106002) := bc_ BK105.out 2; have hfz38_0 := blk_frozen BK105.out 0; have hfz38_1 := blk_frozen BK105.out 1; have hfz38_2 := blk_frozen BK105.out 2))
       go_roundg k1
       case measure => have := HK1.out; omega
       case rel => exact ⟨(wrap64 (x6_1 + 1)), (y110), (.slice Ao37 y110.length co37), (by first | rfl | (simp; done) | (simp [*]; done)), H', ⟨by have := HK1.out; omega⟩, ⟨rf_ HO112.out BK105.out (by decide) (fun _ hk => hk.1)⟩, ⟨hf_ BK101.out NB101_105.out⟩, ⟨hf_ BK102.out NB102_105.out⟩, ⟨by (with_reducible repeat (first | refine blk_drewN ?_ _ | refine blk_drew ?_ | refine blk_alloc ?_ _)); refine blk_put (cs := #[.int .i64 (wrap64 (1 + t103)), .int .i64 (wrap64 (1 + t104)), u106002]) ?_ 2 _ rfl; (with_reducible repeat (first | refine blk_drewN ?_ _ | refine blk_drew ?_ | refine blk_alloc ?_ _)); exact BK105.out⟩, ⟨bp_⟩⟩
     rw [if_neg c30] at H
     exact absurd H (by simp)
   rw [if_neg c13] at H
   have c13b0 : decide (x6_1 < (wrap64 ((wrap64 (1 + t103)) * (wrap64 (1 + t104))))) = false := decide_eq_false c13
   clear c13; simp only [Option.some.injEq, Prod.mk.injEq] at H; obtain ⟨rfl, rfl, rfl⟩ := H; have hnb39 := NB105_102.out; have hnc39 := NB102_105.out
   have hcz40_0 : wr.cell? ⟨gb105, 0, none⟩ = some (.int .i64 (wrap64 (1 + t103))) := bc_ BK105.out 0
   have hcz40_1 : wr.cell? ⟨gb105, 1, none⟩ = some (.int .i64 (wrap64 (1 + t104))) := bc_ BK105.out 1
   have hcz40_2 : wr.cell? ⟨gb105, 2, none⟩ = some (u106002) := bc_ BK105.out 2
   have hfz40_0 := blk_frozen BK105.out 0; have hfz40_1 := blk_frozen BK105.out 1; have hfz40_2 := blk_frozen BK105.out 2
   have hcz41_0 : wr.cell? ⟨gb102, 0, none⟩ = some (.int .i64 0) := bc_ BK102.out 0
   have hcz41_1 : wr.cell? ⟨gb102, 1, none⟩ = some (.int .i64 0) := bc_ BK102.out 1
   have hcz41_2 : wr.cell? ⟨gb102, 2, none⟩ = some (.slice none 0 0) := bc_ BK102.out 2
   have hfz41_0 := blk_frozen BK102.out 0; have hfz41_1 := blk_frozen BK102.out 1; have hfz41_2 := blk_frozen BK102.out 2
   obtain ⟨Ao42, co42, eo42⟩ := Kd.R_slice HO_106002.out
   subst eo42
   go_wp2
   refine bodyPost_ret (results_cell_row rfl _ _ gb102 24 #[.int .i64 (wrap64 (1 + t103)), .int .i64 (wrap64 (1 + t104)), .slice Ao42 x106002_1.length co42] (0, 0) _ rfl (by (with_reducible repeat (first | refine blk_drewN ?_ _ | refine blk_drew ?_ | refine blk_alloc ?_ _)); refine blk_put (cs := #[.int .i64 (wrap64 (1 + t103)), .int .i64 (wrap64 (1 + t104)), .slice none 0 0]) ?_ 2 _ rfl; (with_reducible repeat (first | refine blk_drewN ?_ _ | refine blk_drew ?_ | refine blk_alloc ?_ _)); refine blk_put (cs := #[.int .i64 (wrap64 (1 + t103)), .int .i64 0, .slice none 0 0]) ?_ 1 _ rfl; (with_reducible repeat (first | refine blk_drewN ?_ _ | refine blk_drew ?_ | refine blk_alloc ?_ _)); refine blk_put (cs := #[.int .i64 0, .int .i64 0, .slice none 0 0]) ?_ 0 _ rfl; (with_reducible repeat (first | refine blk_drewN ?_ _ | refine blk_drew ?_ | refine blk_alloc ?_ _)); exact BK102.out) Try.underlying24 rfl (by kernel_rfl)) rfl ?_
   exact ⟨_, by first | rfl | (simp [errW_none, errW_some] <;> rfl) | (simp [*, errW_none, errW_some] <;> rfl), Kd.R_V (rf_ HO_106002.out BK102.out (by decide) (fun _ hk => hk.1)), bp_⟩


/-! ### chequerref03_At: function 25 -/
def chequerref03_At.f (a0_0 : Int) (a0_1 : Int) (l0_2 : List Int) (a1 : Int) (a2 : Int) : Option (Int × Bool) := if a1 < 0 then (some (0, false)) else (if a2 < 0 then (some (0, false)) else (if a1 ≥ a0_0 then (some (0, false)) else (if a2 ≥ a0_1 then (some (0, false)) else (if 0 ≤ (wrap64 ((wrap64 (a2 * a0_0)) + a1)) then (if (wrap64 ((wrap64 (a2 * a0_0)) + a1)) < (l0_2.length : Int) then (some (rd l0_2 (wrap64 ((wrap64 (a2 * a0_0)) + a1)), true)) else (none)) else (none)))))
set_option maxHeartbeats 8000000 in
set_option maxRecDepth 100000 in
theorem chequerref03_At.calls (a0_0 : Int) (a0_1 : Int) (A0_2 : Option Addr) (c0_2 : Nat) (l0_2 : List Int) (a1 : Int) (a2 : Int) (r1 : Int) (r2 : Bool) (w : World) (hr0_2 : Kd.C (Kd.int .u64) w A0_2 l0_2.length l0_2) (hc0_2 : l0_2.length ≤ c0_2) (h : chequerref03_At.f a0_0 a0_1 l0_2 a1 a2 = some (r1, r2)) :
 Calls Try.prog 25 #[.agg #[.int .i64 a0_0, .int .i64 a0_1, .slice A0_2 l0_2.length c0_2], .int .i64 a1, .int .i64 a2] w fun e w' => e = .returned (.tuple #[.int .u64 r1, .bool r2]) ∧ Below w.heap.size w w' := by
 have hu24 := Try.underlying24
 have HR0_2 := Aside0.mk hr0_2
 have HC0_2 := Aside0.mk hc0_2
 clear hr0_2 hc0_2
 have HB := Aside0.mk (Below.refl w.heap.size w)
 have H : (if a1 < 0 then (some (0, false)) else (if a2 < 0 then (some (0, false)) else (if a1 ≥ a0_0 then (some (0, false)) else (if a2 ≥ a0_1 then (some (0, false)) else (if 0 ≤ (wrap64 ((wrap64 (a2 * a0_0)) + a1)) then (if (wrap64 ((wrap64 (a2 * a0_0)) + a1)) < (l0_2.length : Int) then (some (rd l0_2 (wrap64 ((wrap64 (a2 * a0_0)) + a1)), true)) else (none)) else (none)))))) = some (r1, r2) := h
 clear h
 by_cases c4 : a1 < 0
 · rw [if_pos c4] at H
   have c4b0 : decide (a1 < 0) = true := decide_eq_true c4
   clear c4; simp only [Option.some.injEq, Prod.mk.injEq] at H; obtain ⟨rfl, rfl⟩ := H
   go_enter Try.func25, Try.ntmps25
   go_wp2_with (first | ((with_reducible refine gate_dst (N := 3) rfl ?_); refine box_event ?hg (N := 3) ?hd (cs := #[.int .i64 a0_0, .int .i64 a0_1, .slice A0_2 l0_2.length c0_2]) (t := 24) ?hr ?_; (case hd => rfl); (case hg => rfl); (case hr => first | (go_simp; done) | (go_simp; rfl)); intro gb113 hg w5 hbox hb; have BK113 := Aside0.mk (hbox); have GW113 := Aside0.mk ((by rw [hg]; exact (below_size bp_) : w.heap.size ≤ gb113)); have GE113 := Aside0.mk ((by rw [hg]; exact (below_size bp_) : w.heap.size ≤ gb113)); replace HB := Aside0.mk (below_step bp_ hb); clear hb hbox hg))
   go_ret2
   exact ⟨by first | rfl | (simp [errW_none, errW_some] <;> rfl) | (simp [*, errW_none, errW_some] <;> rfl), bp_⟩
 rw [if_neg c4] at H
 have c4b0 : decide (a1 < 0) = false := decide_eq_false c4
 clear c4
 by_cases c6 : a2 < 0
 · rw [if_pos c6] at H
   have c6b0 : decide (a2 < 0) = true := decide_eq_true c6
   clear c6; simp only [Option.some.injEq, Prod.mk.injEq] at H; obtain ⟨rfl, rfl⟩ := H
   go_enter Try.func25, Try.ntmps25
   go_wp2_with (first | ((with_reducible refine gate_dst (N := 3) rfl ?_); refine box_event ?hg (N := 3) ?hd (cs := #[.int .i64 a0_0, .int .i64 a0_1, .slice A0_2 l0_2.length c0_2]) (t := 24) ?hr ?_; (case hd => rfl); (case hg => rfl); (case hr => first | (go_simp; done) | (go_simp; rfl)); intro gb113 hg w7 hbox hb; have BK113 := Aside0.mk (hbox); have GW113 := Aside0.mk ((by rw [hg]; exact (below_size bp_) : w.heap.size ≤ gb113)); have GE113 := Aside0.mk ((by rw [hg]; exact (below_size bp_) : w.heap.size ≤ gb113)); replace HB := Aside0.mk (below_step bp_ hb); clear hb hbox hg))
   go_ret2
   exact ⟨by first | rfl | (simp [errW_none, errW_some] <;> rfl) | (simp [*, errW_none, errW_some] <;> rfl), bp_⟩
 rw [if_neg c6] at H
 have c6b0 : decide (a2 < 0) = false := decide_eq_false c6
 clear c6
 by_cases c8 : a1 ≥ a0_0
 · rw [if_pos c8] at H
   have c8b0 : decide (a0_0 ≤ a1) = true := decide_eq_true c8
   clear c8; simp only [Option.some.injEq, Prod.mk.injEq] at H; obtain ⟨rfl, rfl⟩ := H
   go_enter Try.func25, Try.ntmps25
   go_wp2_with (first | ((with_reducible refine gate_dst (N := 3) rfl ?_); refine box_event ?hg (N := 3) ?hd (cs := #[.int .i64 a0_0, .int .i64 a0_1, .slice A0_2 l0_2.length c0_2]) (t := 24) ?hr ?_; (case hd => rfl); (case hg => rfl); (case hr => first | (go_simp; done) | (go_simp; rfl)); intro gb113 hg w9 hbox hb; have BK113 := Aside0.mk (hbox); have GW113 := Aside0.mk ((by rw [hg]; exact (below_size bp_) : w.heap.size ≤ gb113)); have GE113 := Aside0.mk ((by rw [hg]; exact (below_size bp_) : w.heap.size ≤ gb113)); replace HB := Aside0.mk (below_step bp_ hb); clear hb hbox hg; have hcz10_0 : w9.cell? ⟨gb113, 0, none⟩ = some (.int .i64 a0_0) := bc_ BK113.out 0; have hcz10_1 : w9.cell? ⟨gb113, 1, none⟩ = some (.int .i64 a0_1) := bc_ BK113.out 1; have hcz10_2 : w9.cell? ⟨gb113, 2, none⟩ = some (.slice A0_2 l0_2.length c0_2) := bc_ BK113.out 2; have hfz10_0 := blk_frozen BK113.out 0; have hfz10_1 := blk_frozen BK113.out 1; have hfz10_2 := blk_frozen BK113.out 2))
   go_ret2
   exact ⟨by first | rfl | (simp [errW_none, errW_some] <;> rfl) | (simp [*, errW_none, errW_some] <;> rfl), bp_⟩
 rw [if_neg c8] at H
 have c8b0 : decide (a0_0 ≤ a1) = false := decide_eq_false c8
 clear c8
 by_cases c11 : a2 ≥ a0_1
 · rw [if_pos c11] at H
   have c11b0 : decide (a0_1 ≤ a2) = true := decide_eq_true c11
   clear c11; simp only [Option.some.injEq, Prod.mk.injEq] at H; obtain ⟨rfl, rfl⟩ := H
   go_enter Try.func25, Try.ntmps25
   go_wp2_with (first | ((with_reducible refine gate_dst (N := 3) rfl ?_); refine box_event ?hg (N := 3) ?hd (cs := #[.int .i64 a0_0, .int .i64 a0_1, .slice A0_2 l0_2.length c0_2]) (t := 24) ?hr ?_; (case hd => rfl); (case hg => rfl); (case hr => first | (go_simp; done) | (go_simp; rfl)); intro gb113 hg w12 hbox hb; have BK113 := Aside0.mk (hbox); have GW113 := Aside0.mk ((by rw [hg]; exact (below_size bp_) : w.heap.size ≤ gb113)); have GE113 := Aside0.mk ((by rw [hg]; exact (below_size bp_) : w.heap.size ≤ gb113)); replace HB := Aside0.mk (below_step bp_ hb); clear hb hbox hg; have hcz13_0 : w12.cell? ⟨gb113, 0, none⟩ = some (.int .i64 a0_0) := bc_ BK113.out 0; have hcz13_1 : w12.cell? ⟨gb113, 1, none⟩ = some (.int .i64 a0_1) := bc_ BK113.out 1; have hcz13_2 : w12.cell? ⟨gb113, 2, none⟩ = some (.slice A0_2 l0_2.length c0_2) := bc_ BK113.out 2; have hfz13_0 := blk_frozen BK113.out 0; have hfz13_1 := blk_frozen BK113.out 1; have hfz13_2 := blk_frozen BK113.out 2))
   go_ret2
   exact ⟨by first | rfl | (simp [errW_none, errW_some] <;> rfl) | (simp [*, errW_none, errW_some] <;> rfl), bp_⟩
 rw [if_neg c11] at H
 have c11b0 : decide (a0_1 ≤ a2) = false := decide_eq_false c11
 clear c11
 obtain ⟨ji14, hji14⟩ : ∃ j_ : Int, (wrap64 ((wrap64 (a2 * a0_0)) + a1)) = j_ := ⟨_, rfl⟩
 replace H : (if 0 ≤ (ji14) then (if (ji14) < (l0_2.length : Int) then (some (rd l0_2 (ji14), true)) else (none)) else (none)) = some (r1, r2) := by first | (rw [hji14] at H; exact H) | (simp only [hji14] at H ⊢; exact H)
 have hji14w : (IntKind.i64.wrap ((wrap64 (a2 * a0_0)) + a1)) = ji14 := (i64_w _).trans hji14
 by_cases c15 : 0 ≤ (ji14)
 · rw [if_pos c15] at H
   have c15b0 : decide (0 ≤ (ji14)) = true := decide_eq_true c15
   clear c15
   by_cases c16 : (ji14) < (l0_2.length : Int)
   · rw [if_pos c16] at H
     have c16b0 : decide ((ji14) < (l0_2.length : Int)) = true := decide_eq_true c16
     clear c16; simp only [Option.some.injEq, Prod.mk.injEq] at H; obtain ⟨rfl, rfl⟩ := H
     go_enter Try.func25, Try.ntmps25
     go_wp2_with (first | ((with_reducible refine gate_dst (N := 3) rfl ?_); refine box_event ?hg (N := 3) ?hd (cs := #[.int .i64 a0_0, .int .i64 a0_1, .slice A0_2 l0_2.length c0_2]) (t := 24) ?hr ?_; (case hd => rfl); (case hg => rfl); (case hr => first | (go_simp; done) | (go_simp; rfl)); intro gb113 hg w17 hbox hb; have BK113 := Aside0.mk (hbox); have GW113 := Aside0.mk ((by rw [hg]; exact (below_size bp_) : w.heap.size ≤ gb113)); have GE113 := Aside0.mk ((by rw [hg]; exact (below_size bp_) : w.heap.size ≤ gb113)); replace HB := Aside0.mk (below_step bp_ hb); clear hb hbox hg; have hcz18_0 : w17.cell? ⟨gb113, 0, none⟩ = some (.int .i64 a0_0) := bc_ BK113.out 0; have hcz18_1 : w17.cell? ⟨gb113, 1, none⟩ = some (.int .i64 a0_1) := bc_ BK113.out 1; have hcz18_2 : w17.cell? ⟨gb113, 2, none⟩ = some (.slice A0_2 l0_2.length c0_2) := bc_ BK113.out 2; have hfz18_0 := blk_frozen BK113.out 0; have hfz18_1 := blk_frozen BK113.out 1; have hfz18_2 := blk_frozen BK113.out 2; have p114 : 0 ≤ ((ji14) : Int) := of_decide_eq_true (by first | (with_reducible assumption) | assumption); have q114 : (ji14) < (l0_2.length : Int) := of_decide_eq_true (by first | (with_reducible assumption) | assumption); obtain ⟨ad114, e114, hx114_0⟩ := Kd.at_int HR0_2.out (ji14) p114 q114; cases e114; replace hx114_0 := (HB.out.cell (World.block_lt_of_cell? w _ hx114_0)).trans hx114_0; replace p114 := eq_true p114; replace q114 := eq_true q114))
     go_ret2
     exact ⟨by first | rfl | (simp [errW_none, errW_some] <;> rfl) | (simp only [← hji14]; first | rfl | (simp [errW_none, errW_some] <;> rfl)) | (simp [*, errW_none, errW_some] <;> rfl), bp_⟩
   rw [if_neg c16] at H
   exact absurd H (by simp)
 rw [if_neg c15] at H
 exact absurd H (by simp)

end Go.Proofs.Ytidpaaemfiopkaa.Q
