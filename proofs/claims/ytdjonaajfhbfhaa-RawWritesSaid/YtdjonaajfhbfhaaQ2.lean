-- written by our own program (wip/tools/myprint.py) out of the translation, by the kit's print; Lean checks it
import Derived.Test.YtdjonaajfhbfhaaQ0
import Derived.Test.YtdjonaajfhbfhaaQ1
namespace Go.Proofs.Ytdjonaajfhbfhaa.Q
open Go.RowKit Go.Proofs.YtdjonaajfhbfhaaW.PrintWords Go.Proofs.YtdjonaajfhbfhaaW.PrintLast Go.Proofs.YtdjonaajfhbfhaaW.PrintMore
attribute [local go_sem] max2_int min2_int max_two min_two max_three min_three max_four min_four   -- for this text's walks alone
set_option linter.unusedVariables false
set_option linter.unusedSimpArgs false

abbrev Fl1 : Array Bool := #[true, true, true, true, true, true, true, true, true, true, true, true, true, true, true, true, false]
abbrev Fl2 : Array Bool := #[true, true, true, true, true, true, true, true, true, true, true, true, false, false, false, true, false]
abbrev Fl3 : Array Bool := #[true, true, true, true, true, true, true, true, true, true, true, true, true, false, false, true, false]
abbrev Fl4 : Array Bool := #[true, true, true, true, true, true, true, true, true, true, true, true, true, true, false, true, false]
abbrev Fl5 : Array Bool := #[true, true, true, true, true, true, true, false, false, true, true, true, false, false, false, true, false]
abbrev Fl6 : Array Bool := #[true, true, true, true, true, true, true, true, false, true, true, true, false, false, false, true, false]
/-! ### chequerref06_Good: function 27 -/
def chequerref06_Good.f (a0_0 : Int) (a0_1 : Int) (a0_2 : Int) (a0_3 : Int) (a1 : Int) : Option (Int × Int × Int × Int) := (chequerref01_Around.f a0_0 6).bind fun t103 => ((chequerref01_Around.f a0_1 a1).bind fun t104 => ((chequerref01_Around.f a0_2 a1).bind fun t105 => ((chequerref06_bits.f (wrap64 (1 + t103))).bind fun t107 => (if t107 = true then (some (wrap64 (1 + t103), wrap64 (1 + t104), wrap64 (1 + t105), 1)) else ((chequerref01_Around.f a0_3 65535).bind fun t108 => (some (wrap64 (1 + t103), wrap64 (1 + t104), wrap64 (1 + t105), wrap64 (1 + t108))))))))
def chequerref06_Good.T1 : Bool × List (List Nat × List Nat) := (true, [([], []), ([0], [0]), ([1], [1]), ([2], [2]), ([], []), ([4], [4]), ([], []), ([5, 6, 2], [5, 6]), ([7], [7]), ([], []), ([9], [9]), ([], []), ([10, 11, 7], [10, 11]), ([12], [12]), ([3, 8, 13], [3, 8, 13]), ([], []), ([15, 14, 12, 0, 1, 2, 3, 4, 5, 6, 7, 8, 9, 10, 11, 12, 13, 14, 15], [14, 15])])
def chequerref06_Good.B1 : List Nat := [0, 1, 3, 7, 0, 16, 0, 119, 247, 0, 512, 0, 3831, 7927, 16383, 0, 65535]
theorem chequerref06_Good.tab1 : rtab .any (opsOf Try.f27 1) = chequerref06_Good.T1 := by kernel_rfl
theorem chequerref06_Good.bits1 : waitsOk chequerref06_Good.T1.2 chequerref06_Good.B1 = true := by kernel_rfl
set_option maxHeartbeats 8000000 in
set_option maxRecDepth 100000 in
theorem chequerref06_Good.calls (a0_0 : Int) (a0_1 : Int) (a0_2 : Int) (a0_3 : Int) (a1 : Int) (r1 : Int) (r2 : Int) (r3 : Int) (r4 : Int) (w : World) (h : chequerref06_Good.f a0_0 a0_1 a0_2 a0_3 a1 = some (r1, r2, r3, r4)) :
 Calls Try.prog 27 #[.agg #[.int .i64 a0_0, .int .i64 a0_1, .int .i64 a0_2, .int .i64 a0_3], .int .i64 a1] w fun e w' => e = .returned (.agg #[.int .i64 r1, .int .i64 r2, .int .i64 r3, .int .i64 r4]) ∧ Below w.heap.size w w' := by
 have hu23 := Try.underlying23
 have HB := Aside0.mk (Below.refl w.heap.size w)
 have H : ((chequerref01_Around.f a0_0 6).bind fun t103 => ((chequerref01_Around.f a0_1 a1).bind fun t104 => ((chequerref01_Around.f a0_2 a1).bind fun t105 => ((chequerref06_bits.f (wrap64 (1 + t103))).bind fun t107 => (if t107 = true then (some (wrap64 (1 + t103), wrap64 (1 + t104), wrap64 (1 + t105), 1)) else ((chequerref01_Around.f a0_3 65535).bind fun t108 => (some (wrap64 (1 + t103), wrap64 (1 + t104), wrap64 (1 + t105), wrap64 (1 + t108))))))))) = some (r1, r2, r3, r4) := h
 clear h
 replace H := Option.bind_eq_some_iff.mp H
 obtain ⟨t103, A30, H⟩ := H
 replace H : ((chequerref01_Around.f a0_1 a1).bind fun t104 => ((chequerref01_Around.f a0_2 a1).bind fun t105 => ((chequerref06_bits.f (wrap64 (1 + t103))).bind fun t107 => (if t107 = true then (some (wrap64 (1 + t103), wrap64 (1 + t104), wrap64 (1 + t105), 1)) else ((chequerref01_Around.f a0_3 65535).bind fun t108 => (some (wrap64 (1 + t103), wrap64 (1 + t104), wrap64 (1 + t105), wrap64 (1 + t108)))))))) = some (r1, r2, r3, r4) := H
 have A3 := Aside0.mk A30
 clear A30
 replace H := Option.bind_eq_some_iff.mp H
 obtain ⟨t104, A40, H⟩ := H
 replace H : ((chequerref01_Around.f a0_2 a1).bind fun t105 => ((chequerref06_bits.f (wrap64 (1 + t103))).bind fun t107 => (if t107 = true then (some (wrap64 (1 + t103), wrap64 (1 + t104), wrap64 (1 + t105), 1)) else ((chequerref01_Around.f a0_3 65535).bind fun t108 => (some (wrap64 (1 + t103), wrap64 (1 + t104), wrap64 (1 + t105), wrap64 (1 + t108))))))) = some (r1, r2, r3, r4) := H
 have A4 := Aside0.mk A40
 clear A40
 replace H := Option.bind_eq_some_iff.mp H
 obtain ⟨t105, A50, H⟩ := H
 replace H : ((chequerref06_bits.f (wrap64 (1 + t103))).bind fun t107 => (if t107 = true then (some (wrap64 (1 + t103), wrap64 (1 + t104), wrap64 (1 + t105), 1)) else ((chequerref01_Around.f a0_3 65535).bind fun t108 => (some (wrap64 (1 + t103), wrap64 (1 + t104), wrap64 (1 + t105), wrap64 (1 + t108)))))) = some (r1, r2, r3, r4) := H
 have A5 := Aside0.mk A50
 clear A50
 replace H := Option.bind_eq_some_iff.mp H
 obtain ⟨t107, A60, H⟩ := H
 replace H : (if t107 = true then (some (wrap64 (1 + t103), wrap64 (1 + t104), wrap64 (1 + t105), 1)) else ((chequerref01_Around.f a0_3 65535).bind fun t108 => (some (wrap64 (1 + t103), wrap64 (1 + t104), wrap64 (1 + t105), wrap64 (1 + t108))))) = some (r1, r2, r3, r4) := H
 have A6 := Aside0.mk A60
 clear A60
 have HQ1 := Aside0.mk H
 clear H
 go_enter Try.func27, Try.ntmps27
 try go_wp2_with (first | ((with_reducible refine gate_dst (N := 2) rfl ?_); refine box_event ?hg (N := 2) ?hd (cs := #[.int .i64 a0_0, .int .i64 a0_1, .int .i64 a0_2, .int .i64 a0_3]) (t := 23) ?hr ?_; (case hd => rfl); (case hg => rfl); (case hr => first | (go_simp; done) | (go_simp; rfl)); intro gb101 hg w8 hbox hb; have BK101 := Aside0.mk (hbox); have GW101 := Aside0.mk ((by rw [hg]; exact (below_size bp_) : w.heap.size ≤ gb101)); have GE101 := Aside0.mk ((by rw [hg]; exact (below_size bp_) : w.heap.size ≤ gb101)); replace HB := Aside0.mk (below_step bp_ hb); clear hb hbox hg) | ((with_reducible refine gate_dst (N := 4) rfl ?_); refine box_event ?hg (N := 4) ?hd (cs := #[.int .i64 0, .int .i64 0, .int .i64 0, .int .i64 0]) (t := 23) ?hr ?_; (case hd => rfl); (case hg => rfl); (case hr => first | (go_simp; done) | (go_simp; rfl)); intro gb102 hg w9 hbox hb; have BK102 := Aside0.mk (hbox); have GW102 := Aside0.mk ((by rw [hg]; exact (below_size bp_) : w.heap.size ≤ gb102)); have GE102 := Aside0.mk ((by rw [hg]; exact (below_size bp_) : w.heap.size ≤ gb102)); replace HB := Aside0.mk (below_step bp_ hb); have NB101_102 := Aside0.mk ((nlt_ hg (hp_ BK101.out))); have NB102_101 := Aside0.mk ((ngt_ hg (hp_ BK101.out))); replace BK101 := Aside0.mk (blk_below (hp_ BK101.out) hb); clear hb hbox hg))
 replace BK101 := Aside0.mk (blk_drew BK101.out)
 replace BK102 := Aside0.mk (blk_drew BK102.out)
 replace HB := Aside0.mk (below_drew1 HB.out)
 refine start_ (n := 17) (S := fun w' => w'.cell? ⟨gb101, 0, none⟩ = some (.int .i64 a0_0) ∧ w'.cell? ⟨gb101, 1, none⟩ = some (.int .i64 a0_1) ∧ w'.cell? ⟨gb101, 2, none⟩ = some (.int .i64 a0_2) ∧ w'.cell? ⟨gb101, 3, none⟩ = some (.int .i64 a0_3)) (ds := []) #[false, false, false, false, false, false, false, false, false, false, false, false, false, false, false, false, false] (by kernel_rfl) rfl rfl ⟨(blk_cell BK101.out 0).trans rfl, (blk_cell BK101.out 1).trans rfl, (blk_cell BK101.out 2).trans rfl, (blk_cell BK101.out 3).trans rfl⟩ (fun hHeld => ?_); refine with_tabW chequerref06_Good.tab1 chequerref06_Good.bits1 (fun HT_ HW_ => ?_)
 generalize w9.drew = w10 at BK101 BK102 HB hHeld ⊢
 refine pur_ (i := 0) (N := some 6) #[true, false, false, false, false, false, false, false, false, false, false, false, false, false, false, false, false] (any_of HT_.out (by kernel_rfl)) ?_
 refine pur_ (i := 4) (N := some 10) #[true, false, false, false, true, false, false, false, false, false, false, false, false, false, false, false, false] (any_of HT_.out (by kernel_rfl)) ?_
 refine pur_ (i := 6) (N := some 12) #[true, false, false, false, true, false, true, false, false, false, false, false, false, false, false, false, false] (any_of HT_.out (by kernel_rfl)) ?_
 refine pur_ (i := 9) (N := some 15) #[true, false, false, false, true, false, true, false, false, true, false, false, false, false, false, false, false] (any_of HT_.out (by kernel_rfl)) ?_
 refine pur_ (i := 11) (N := some 17) #[true, false, false, false, true, false, true, false, false, true, false, true, false, false, false, false, false] (any_of HT_.out (by kernel_rfl)) ?_
 refine take_ (i := 1) (N := some 7) (v := ?_) (a' := ?_) #[true, true, false, false, true, false, true, false, false, true, false, true, false, false, false, false, false] rfl rfl (take_ofW HT_.out HW_.out (by kernel_rfl)) (fun _ _ _ h => h) (Or.inl ⟨by rfl, ?_⟩) hHeld ?_ ?_
 rotate_left
 · rintro w' ⟨s0, s1, s2, s3⟩
   go_simp
   with_reducible rfl
 rotate_left
 · simp only [Act.put, List.setIfInBounds_toArray, List.set_cons_zero, List.set_cons_succ, i64_w, i32_w]
   rfl
 refine take_ (i := 5) (N := some 11) (v := ?_) (a' := ?_) #[true, true, false, false, true, true, true, false, false, true, false, true, false, false, false, false, false] rfl rfl (take_ofW HT_.out HW_.out (by kernel_rfl)) (fun _ _ _ h => h) (Or.inl ⟨by rfl, ?_⟩) hHeld ?_ ?_
 rotate_left
 · rintro w' ⟨s0, s1, s2, s3⟩
   go_simp
   with_reducible rfl
 rotate_left
 · simp only [Act.put, List.setIfInBounds_toArray, List.set_cons_zero, List.set_cons_succ, i64_w, i32_w]
   rfl
 refine take_ (i := 10) (N := some 16) (v := ?_) (a' := ?_) #[true, true, false, false, true, true, true, false, false, true, true, true, false, false, false, false, false] rfl rfl (take_ofW HT_.out HW_.out (by kernel_rfl)) (fun _ _ _ h => h) (Or.inl ⟨by rfl, ?_⟩) hHeld ?_ ?_
 rotate_left
 · rintro w' ⟨s0, s1, s2, s3⟩
   go_simp
   with_reducible rfl
 rotate_left
 · simp only [Act.put, List.setIfInBounds_toArray, List.set_cons_zero, List.set_cons_succ, i64_w, i32_w]
   rfl
 refine join_ (σ := Nat) 1 Fl1 (fun s_ => [(8, .int .i64 t103), (13, .int .i64 t104), (18, .int .i64 t105), (5, .pointer (some ⟨s_, 0, none⟩)), (9, .int .i64 (wrap64 (1 + t103))), (14, .int .i64 (wrap64 (1 + t104))), (19, .int .i64 (wrap64 (1 + t105))), (20, .agg #[.int .i64 (wrap64 (1 + t103)), .int .i64 (wrap64 (1 + t104)), .int .i64 (wrap64 (1 + t105)), .int .i64 1])]) (fun s_ w' => (w'.cell? ⟨gb101, 0, none⟩ = some (.int .i64 a0_0) ∧ w'.cell? ⟨gb101, 1, none⟩ = some (.int .i64 a0_1) ∧ w'.cell? ⟨gb101, 2, none⟩ = some (.int .i64 a0_2) ∧ w'.cell? ⟨gb101, 3, none⟩ = some (.int .i64 a0_3)) ∧ (w'.heap[gb101]? = some (.cells #[.int .i64 a0_0, .int .i64 a0_1, .int .i64 a0_2, .int .i64 a0_3] 23 (0, 0))) ∧ (w'.heap[gb102]? = some (.cells #[.int .i64 0, .int .i64 0, .int .i64 0, .int .i64 0] 23 (0, 0))) ∧ (w'.heap[s_]? = some (.cells #[.int .i64 0, .int .i64 0, .int .i64 0, .int .i64 0] 23 (0, 0))) ∧ (w.heap.size ≤ s_) ∧ (w.heap.size ≤ s_) ∧ (gb101 ≠ s_) ∧ (s_ ≠ gb101) ∧ (gb102 ≠ s_) ∧ (s_ ≠ gb102) ∧ (Below w.heap.size w w')) ?_ ?_
 rotate_left
 · intro hCont
   refine two_ (i := 2) (j := 15) (Ni := some 8) (Nj := some 5) #[true, true, true, false, true, true, true, false, false, true, true, true, false, false, false, false, false] #[true, true, false, false, true, true, true, false, false, true, true, true, false, false, false, true, false] rfl rfl rfl rfl (two_of HT_.out (by kernel_rfl)) (by decide) (by decide) (fun K hK => ?_) (fun K hK => ?_)
   · skip
     refine goes_ Try.func15 (by kernel_rfl) rfl #[.int .i64 a0_0, .int .i64 6] (by rfl) rfl rfl (by (try simp only [List.map_toArray, List.map_cons, List.map_nil]); first | done | rfl | (simp only [List.length_drop, List.length_take]; rfl)) ?_
     with_reducible refine (chequerref01_Around.calls a0_0 6 t103 _ A3.out).mono ?_
     rintro e w' ⟨rfl, ⟨nd, rfl⟩⟩
     refine ⟨_, rfl, ?_⟩
     refine hK.out _ _ ⟨(blk_cell BK101.out 0).trans rfl, (blk_cell BK101.out 1).trans rfl, (blk_cell BK101.out 2).trans rfl, (blk_cell BK101.out 3).trans rfl⟩ (fun hHeld => ?_)
     clear hK K
     refine norm_ (a' := ?_) ?_ ?_
     rotate_left
     · show Act.put _ (some 8) _ = _
       simp only [Act.put, List.setIfInBounds_toArray, List.set_cons_zero, List.set_cons_succ, i64_w, i32_w]
       rfl
     refine pur_ (i := 3) (N := some 9) #[true, true, true, true, true, true, true, false, false, true, true, true, false, false, false, false, false] (any_of HT_.out (by kernel_rfl)) ?_
     refine two_ (i := 7) (j := 15) (Ni := some 13) (Nj := some 5) #[true, true, true, true, true, true, true, true, false, true, true, true, false, false, false, false, false] Fl5 rfl rfl rfl rfl (two_of HT_.out (by kernel_rfl)) (by decide) (by decide) (fun K hK => ?_) (fun K hK => ?_)
     · skip
       refine goes_ Try.func15 (by kernel_rfl) rfl #[.int .i64 a0_1, .int .i64 a1] (by rfl) rfl rfl (by (try simp only [List.map_toArray, List.map_cons, List.map_nil]); first | done | rfl | (simp only [List.length_drop, List.length_take]; rfl)) ?_
       with_reducible refine (chequerref01_Around.calls a0_1 a1 t104 _ A4.out).mono ?_
       rintro e w' ⟨rfl, ⟨nd, rfl⟩⟩
       refine ⟨_, rfl, ?_⟩
       refine hK.out _ _ ⟨(blk_cell BK101.out 0).trans rfl, (blk_cell BK101.out 1).trans rfl, (blk_cell BK101.out 2).trans rfl, (blk_cell BK101.out 3).trans rfl⟩ (fun hHeld => ?_)
       clear hK K
       refine norm_ (a' := ?_) ?_ ?_
       rotate_left
       · show Act.put _ (some 13) _ = _
         simp only [Act.put, List.setIfInBounds_toArray, List.set_cons_zero, List.set_cons_succ, i64_w, i32_w]
         rfl
       refine pur_ (i := 8) (N := some 14) #[true, true, true, true, true, true, true, true, true, true, true, true, false, false, false, false, false] (any_of HT_.out (by kernel_rfl)) ?_
       refine two_ (i := 12) (j := 15) (Ni := some 18) (Nj := some 5) #[true, true, true, true, true, true, true, true, true, true, true, true, true, false, false, false, false] Fl2 rfl rfl rfl rfl (two_of HT_.out (by kernel_rfl)) (by decide) (by decide) (fun K hK => ?_) (fun K hK => ?_)
       · skip
         refine goes_ Try.func15 (by kernel_rfl) rfl #[.int .i64 a0_2, .int .i64 a1] (by rfl) rfl rfl (by (try simp only [List.map_toArray, List.map_cons, List.map_nil]); first | done | rfl | (simp only [List.length_drop, List.length_take]; rfl)) ?_
         with_reducible refine (chequerref01_Around.calls a0_2 a1 t105 _ A5.out).mono ?_
         rintro e w' ⟨rfl, ⟨nd, rfl⟩⟩
         refine ⟨_, rfl, ?_⟩
         refine hK.out _ _ ⟨(blk_cell BK101.out 0).trans rfl, (blk_cell BK101.out 1).trans rfl, (blk_cell BK101.out 2).trans rfl, (blk_cell BK101.out 3).trans rfl⟩ (fun hHeld => ?_)
         clear hK K
         refine norm_ (a' := ?_) ?_ ?_
         rotate_left
         · show Act.put _ (some 18) _ = _
           simp only [Act.put, List.setIfInBounds_toArray, List.set_cons_zero, List.set_cons_succ, i64_w, i32_w]
           rfl
         refine pur_ (i := 13) (N := some 19) #[true, true, true, true, true, true, true, true, true, true, true, true, true, true, false, false, false] (any_of HT_.out (by kernel_rfl)) ?_
         refine pur_ (i := 14) (N := some 20) #[true, true, true, true, true, true, true, true, true, true, true, true, true, true, true, false, false] (any_of HT_.out (by kernel_rfl)) ?_
         refine one_ (i := 15) (N := some 5) Fl1 rfl rfl (one_of HT_.out (by kernel_rfl)) (by decide) (fun K hK => ?_)
         refine box_step ?hg (N := 5) ?hd (cs := #[.int .i64 0, .int .i64 0, .int .i64 0, .int .i64 0]) (t := 23) ?hr ?_; (case hd => rfl); (case hg => rfl); (case hr => first | (go_simp; done) | (go_simp; rfl))
         intro gb106 hg w11 hbox hb
         have BK106 := Aside0.mk (hbox)
         have GW106 := Aside0.mk ((by rw [hg]; exact (below_size bp_) : w.heap.size ≤ gb106))
         have GE106 := Aside0.mk ((by rw [hg]; exact (below_size bp_) : w.heap.size ≤ gb106))
         replace HB := Aside0.mk (below_step bp_ hb)
         have NB101_106 := Aside0.mk ((nlt_ hg (hp_ BK101.out)))
         have NB106_101 := Aside0.mk ((ngt_ hg (hp_ BK101.out)))
         replace BK101 := Aside0.mk (blk_below (hp_ BK101.out) hb)
         have NB102_106 := Aside0.mk ((nlt_ hg (hp_ BK102.out)))
         have NB106_102 := Aside0.mk ((ngt_ hg (hp_ BK102.out)))
         replace BK102 := Aside0.mk (blk_below (hp_ BK102.out) hb)
         clear hb hbox hg
         refine hK.out _ _ ⟨(blk_cell BK101.out 0).trans rfl, (blk_cell BK101.out 1).trans rfl, (blk_cell BK101.out 2).trans rfl, (blk_cell BK101.out 3).trans rfl⟩ (fun hHeld => ?_)
         clear hK K
         refine norm_ (a' := ?_) ?_ ?_
         rotate_left
         · show Act.put _ (some 5) _ = _
           simp only [Act.put, List.setIfInBounds_toArray, List.set_cons_zero, List.set_cons_succ, i64_w, i32_w]
           rfl
         exact norm_ (by simp only [putAll, Act.put, List.setIfInBounds_toArray, List.set_cons_zero, List.set_cons_succ]) (hCont (gb106) _ ⟨hHeld, (hp_ BK101.out), (hp_ BK102.out), (hp_ BK106.out), GW106.out, GE106.out, NB101_106.out, NB106_101.out, NB102_106.out, NB106_102.out, bp_⟩)
       · skip
         refine box_step ?hg (N := 5) ?hd (cs := #[.int .i64 0, .int .i64 0, .int .i64 0, .int .i64 0]) (t := 23) ?hr ?_; (case hd => rfl); (case hg => rfl); (case hr => first | (go_simp; done) | (go_simp; rfl))
         intro gb106 hg w11 hbox hb
         have BK106 := Aside0.mk (hbox)
         have GW106 := Aside0.mk ((by rw [hg]; exact (below_size bp_) : w.heap.size ≤ gb106))
         have GE106 := Aside0.mk ((by rw [hg]; exact (below_size bp_) : w.heap.size ≤ gb106))
         replace HB := Aside0.mk (below_step bp_ hb)
         have NB101_106 := Aside0.mk ((nlt_ hg (hp_ BK101.out)))
         have NB106_101 := Aside0.mk ((ngt_ hg (hp_ BK101.out)))
         replace BK101 := Aside0.mk (blk_below (hp_ BK101.out) hb)
         have NB102_106 := Aside0.mk ((nlt_ hg (hp_ BK102.out)))
         have NB106_102 := Aside0.mk ((ngt_ hg (hp_ BK102.out)))
         replace BK102 := Aside0.mk (blk_below (hp_ BK102.out) hb)
         clear hb hbox hg
         refine hK.out _ _ ⟨(blk_cell BK101.out 0).trans rfl, (blk_cell BK101.out 1).trans rfl, (blk_cell BK101.out 2).trans rfl, (blk_cell BK101.out 3).trans rfl⟩ (fun hHeld => ?_)
         clear hK K
         refine norm_ (a' := ?_) ?_ ?_
         rotate_left
         · show Act.put _ (some 5) _ = _
           simp only [Act.put, List.setIfInBounds_toArray, List.set_cons_zero, List.set_cons_succ, i64_w, i32_w]
           rfl
         refine one_ (i := 12) (N := some 18) Fl3 rfl rfl (one_of HT_.out (by kernel_rfl)) (by decide) (fun K hK => ?_)
         refine goes_ Try.func15 (by kernel_rfl) rfl #[.int .i64 a0_2, .int .i64 a1] (by rfl) rfl rfl (by (try simp only [List.map_toArray, List.map_cons, List.map_nil]); first | done | rfl | (simp only [List.length_drop, List.length_take]; rfl)) ?_
         with_reducible refine (chequerref01_Around.calls a0_2 a1 t105 _ A5.out).mono ?_
         rintro e w' ⟨rfl, ⟨nd, rfl⟩⟩
         refine ⟨_, rfl, ?_⟩
         refine hK.out _ _ ⟨(blk_cell BK101.out 0).trans rfl, (blk_cell BK101.out 1).trans rfl, (blk_cell BK101.out 2).trans rfl, (blk_cell BK101.out 3).trans rfl⟩ (fun hHeld => ?_)
         clear hK K
         refine norm_ (a' := ?_) ?_ ?_
         rotate_left
         · show Act.put _ (some 18) _ = _
           simp only [Act.put, List.setIfInBounds_toArray, List.set_cons_zero, List.set_cons_succ, i64_w, i32_w]
           rfl
         refine pur_ (i := 13) (N := some 19) Fl4 (any_of HT_.out (by kernel_rfl)) ?_
         refine pur_ (i := 14) (N := some 20) Fl1 (any_of HT_.out (by kernel_rfl)) ?_
         exact norm_ (by simp only [putAll, Act.put, List.setIfInBounds_toArray, List.set_cons_zero, List.set_cons_succ]) (hCont (gb106) _ ⟨hHeld, (hp_ BK101.out), (hp_ BK102.out), (hp_ BK106.out), GW106.out, GE106.out, NB101_106.out, NB106_101.out, NB102_106.out, NB106_102.out, bp_⟩)
     · skip
       refine box_step ?hg (N := 5) ?hd (cs := #[.int .i64 0, .int .i64 0, .int .i64 0, .int .i64 0]) (t := 23) ?hr ?_; (case hd => rfl); (case hg => rfl); (case hr => first | (go_simp; done) | (go_simp; rfl))
       intro gb106 hg w11 hbox hb
       have BK106 := Aside0.mk (hbox)
       have GW106 := Aside0.mk ((by rw [hg]; exact (below_size bp_) : w.heap.size ≤ gb106))
       have GE106 := Aside0.mk ((by rw [hg]; exact (below_size bp_) : w.heap.size ≤ gb106))
       replace HB := Aside0.mk (below_step bp_ hb)
       have NB101_106 := Aside0.mk ((nlt_ hg (hp_ BK101.out)))
       have NB106_101 := Aside0.mk ((ngt_ hg (hp_ BK101.out)))
       replace BK101 := Aside0.mk (blk_below (hp_ BK101.out) hb)
       have NB102_106 := Aside0.mk ((nlt_ hg (hp_ BK102.out)))
       have NB106_102 := Aside0.mk ((ngt_ hg (hp_ BK102.out)))
       replace BK102 := Aside0.mk (blk_below (hp_ BK102.out) hb)
       clear hb hbox hg
       refine hK.out _ _ ⟨(blk_cell BK101.out 0).trans rfl, (blk_cell BK101.out 1).trans rfl, (blk_cell BK101.out 2).trans rfl, (blk_cell BK101.out 3).trans rfl⟩ (fun hHeld => ?_)
       clear hK K
       refine norm_ (a' := ?_) ?_ ?_
       rotate_left
       · show Act.put _ (some 5) _ = _
         simp only [Act.put, List.setIfInBounds_toArray, List.set_cons_zero, List.set_cons_succ, i64_w, i32_w]
         rfl
       refine one_ (i := 7) (N := some 13) Fl6 rfl rfl (one_of HT_.out (by kernel_rfl)) (by decide) (fun K hK => ?_)
       refine goes_ Try.func15 (by kernel_rfl) rfl #[.int .i64 a0_1, .int .i64 a1] (by rfl) rfl rfl (by (try simp only [List.map_toArray, List.map_cons, List.map_nil]); first | done | rfl | (simp only [List.length_drop, List.length_take]; rfl)) ?_
       with_reducible refine (chequerref01_Around.calls a0_1 a1 t104 _ A4.out).mono ?_
       rintro e w' ⟨rfl, ⟨nd, rfl⟩⟩
       refine ⟨_, rfl, ?_⟩
       refine hK.out _ _ ⟨(blk_cell BK101.out 0).trans rfl, (blk_cell BK101.out 1).trans rfl, (blk_cell BK101.out 2).trans rfl, (blk_cell BK101.out 3).trans rfl⟩ (fun hHeld => ?_)
       clear hK K
       refine norm_ (a' := ?_) ?_ ?_
       rotate_left
       · show Act.put _ (some 13) _ = _
         simp only [Act.put, List.setIfInBounds_toArray, List.set_cons_zero, List.set_cons_succ, i64_w, i32_w]
         rfl
       refine pur_ (i := 8) (N := some 14) Fl2 (any_of HT_.out (by kernel_rfl)) ?_
       refine one_ (i := 12) (N := some 18) Fl3 rfl rfl (one_of HT_.out (by kernel_rfl)) (by decide) (fun K hK => ?_)
       refine goes_ Try.func15 (by kernel_rfl) rfl #[.int .i64 a0_2, .int .i64 a1] (by rfl) rfl rfl (by (try simp only [List.map_toArray, List.map_cons, List.map_nil]); first | done | rfl | (simp only [List.length_drop, List.length_take]; rfl)) ?_
       with_reducible refine (chequerref01_Around.calls a0_2 a1 t105 _ A5.out).mono ?_
       rintro e w' ⟨rfl, ⟨nd, rfl⟩⟩
       refine ⟨_, rfl, ?_⟩
       refine hK.out _ _ ⟨(blk_cell BK101.out 0).trans rfl, (blk_cell BK101.out 1).trans rfl, (blk_cell BK101.out 2).trans rfl, (blk_cell BK101.out 3).trans rfl⟩ (fun hHeld => ?_)
       clear hK K
       refine norm_ (a' := ?_) ?_ ?_
       rotate_left
       · show Act.put _ (some 18) _ = _
         simp only [Act.put, List.setIfInBounds_toArray, List.set_cons_zero, List.set_cons_succ, i64_w, i32_w]
         rfl
       refine pur_ (i := 13) (N := some 19) Fl4 (any_of HT_.out (by kernel_rfl)) ?_
       refine pur_ (i := 14) (N := some 20) Fl1 (any_of HT_.out (by kernel_rfl)) ?_
       exact norm_ (by simp only [putAll, Act.put, List.setIfInBounds_toArray, List.set_cons_zero, List.set_cons_succ]) (hCont (gb106) _ ⟨hHeld, (hp_ BK101.out), (hp_ BK102.out), (hp_ BK106.out), GW106.out, GE106.out, NB101_106.out, NB106_101.out, NB102_106.out, NB106_102.out, bp_⟩)
   · skip
     refine box_step ?hg (N := 5) ?hd (cs := #[.int .i64 0, .int .i64 0, .int .i64 0, .int .i64 0]) (t := 23) ?hr ?_; (case hd => rfl); (case hg => rfl); (case hr => first | (go_simp; done) | (go_simp; rfl))
     intro gb106 hg w11 hbox hb
     have BK106 := Aside0.mk (hbox)
     have GW106 := Aside0.mk ((by rw [hg]; exact (below_size bp_) : w.heap.size ≤ gb106))
     have GE106 := Aside0.mk ((by rw [hg]; exact (below_size bp_) : w.heap.size ≤ gb106))
     replace HB := Aside0.mk (below_step bp_ hb)
     have NB101_106 := Aside0.mk ((nlt_ hg (hp_ BK101.out)))
     have NB106_101 := Aside0.mk ((ngt_ hg (hp_ BK101.out)))
     replace BK101 := Aside0.mk (blk_below (hp_ BK101.out) hb)
     have NB102_106 := Aside0.mk ((nlt_ hg (hp_ BK102.out)))
     have NB106_102 := Aside0.mk ((ngt_ hg (hp_ BK102.out)))
     replace BK102 := Aside0.mk (blk_below (hp_ BK102.out) hb)
     clear hb hbox hg
     refine hK.out _ _ ⟨(blk_cell BK101.out 0).trans rfl, (blk_cell BK101.out 1).trans rfl, (blk_cell BK101.out 2).trans rfl, (blk_cell BK101.out 3).trans rfl⟩ (fun hHeld => ?_)
     clear hK K
     refine norm_ (a' := ?_) ?_ ?_
     rotate_left
     · show Act.put _ (some 5) _ = _
       simp only [Act.put, List.setIfInBounds_toArray, List.set_cons_zero, List.set_cons_succ, i64_w, i32_w]
       rfl
     refine one_ (i := 2) (N := some 8) #[true, true, true, false, true, true, true, false, false, true, true, true, false, false, false, true, false] rfl rfl (one_of HT_.out (by kernel_rfl)) (by decide) (fun K hK => ?_)
     refine goes_ Try.func15 (by kernel_rfl) rfl #[.int .i64 a0_0, .int .i64 6] (by rfl) rfl rfl (by (try simp only [List.map_toArray, List.map_cons, List.map_nil]); first | done | rfl | (simp only [List.length_drop, List.length_take]; rfl)) ?_
     with_reducible refine (chequerref01_Around.calls a0_0 6 t103 _ A3.out).mono ?_
     rintro e w' ⟨rfl, ⟨nd, rfl⟩⟩
     refine ⟨_, rfl, ?_⟩
     refine hK.out _ _ ⟨(blk_cell BK101.out 0).trans rfl, (blk_cell BK101.out 1).trans rfl, (blk_cell BK101.out 2).trans rfl, (blk_cell BK101.out 3).trans rfl⟩ (fun hHeld => ?_)
     clear hK K
     refine norm_ (a' := ?_) ?_ ?_
     rotate_left
     · show Act.put _ (some 8) _ = _
       simp only [Act.put, List.setIfInBounds_toArray, List.set_cons_zero, List.set_cons_succ, i64_w, i32_w]
       rfl
     refine pur_ (i := 3) (N := some 9) Fl5 (any_of HT_.out (by kernel_rfl)) ?_
     refine one_ (i := 7) (N := some 13) Fl6 rfl rfl (one_of HT_.out (by kernel_rfl)) (by decide) (fun K hK => ?_)
     refine goes_ Try.func15 (by kernel_rfl) rfl #[.int .i64 a0_1, .int .i64 a1] (by rfl) rfl rfl (by (try simp only [List.map_toArray, List.map_cons, List.map_nil]); first | done | rfl | (simp only [List.length_drop, List.length_take]; rfl)) ?_
     with_reducible refine (chequerref01_Around.calls a0_1 a1 t104 _ A4.out).mono ?_
     rintro e w' ⟨rfl, ⟨nd, rfl⟩⟩
     refine ⟨_, rfl, ?_⟩
     refine hK.out _ _ ⟨(blk_cell BK101.out 0).trans rfl, (blk_cell BK101.out 1).trans rfl, (blk_cell BK101.out 2).trans rfl, (blk_cell BK101.out 3).trans rfl⟩ (fun hHeld => ?_)
     clear hK K
     refine norm_ (a' := ?_) ?_ ?_
     rotate_left
     · show Act.put _ (some 13) _ = _
       simp only [Act.put, List.setIfInBounds_toArray, List.set_cons_zero, List.set_cons_succ, i64_w, i32_w]
       rfl
     refine pur_ (i := 8) (N := some 14) Fl2 (any_of HT_.out (by kernel_rfl)) ?_
     refine one_ (i := 12) (N := some 18) Fl3 rfl rfl (one_of HT_.out (by kernel_rfl)) (by decide) (fun K hK => ?_)
     refine goes_ Try.func15 (by kernel_rfl) rfl #[.int .i64 a0_2, .int .i64 a1] (by rfl) rfl rfl (by (try simp only [List.map_toArray, List.map_cons, List.map_nil]); first | done | rfl | (simp only [List.length_drop, List.length_take]; rfl)) ?_
     with_reducible refine (chequerref01_Around.calls a0_2 a1 t105 _ A5.out).mono ?_
     rintro e w' ⟨rfl, ⟨nd, rfl⟩⟩
     refine ⟨_, rfl, ?_⟩
     refine hK.out _ _ ⟨(blk_cell BK101.out 0).trans rfl, (blk_cell BK101.out 1).trans rfl, (blk_cell BK101.out 2).trans rfl, (blk_cell BK101.out 3).trans rfl⟩ (fun hHeld => ?_)
     clear hK K
     refine norm_ (a' := ?_) ?_ ?_
     rotate_left
     · show Act.put _ (some 18) _ = _
       simp only [Act.put, List.setIfInBounds_toArray, List.set_cons_zero, List.set_cons_succ, i64_w, i32_w]
       rfl
     refine pur_ (i := 13) (N := some 19) Fl4 (any_of HT_.out (by kernel_rfl)) ?_
     refine pur_ (i := 14) (N := some 20) Fl1 (any_of HT_.out (by kernel_rfl)) ?_
     exact norm_ (by simp only [putAll, Act.put, List.setIfInBounds_toArray, List.set_cons_zero, List.set_cons_succ]) (hCont (gb106) _ ⟨hHeld, (hp_ BK101.out), (hp_ BK102.out), (hp_ BK106.out), GW106.out, GE106.out, NB101_106.out, NB106_101.out, NB102_106.out, NB106_102.out, bp_⟩)
 rintro gb106 w12 ⟨hS_, h0_, h1_, h2_, h3_, h4_, h5_, h6_, h7_, h8_, h9_⟩
 replace BK101 : Aside0 (w12.heap[gb101]? = some (.cells #[.int .i64 a0_0, .int .i64 a0_1, .int .i64 a0_2, .int .i64 a0_3] 23 (0, 0))) := ⟨h0_⟩
 replace BK102 : Aside0 (w12.heap[gb102]? = some (.cells #[.int .i64 0, .int .i64 0, .int .i64 0, .int .i64 0] 23 (0, 0))) := ⟨h1_⟩
 have BK106 : Aside0 (w12.heap[gb106]? = some (.cells #[.int .i64 0, .int .i64 0, .int .i64 0, .int .i64 0] 23 (0, 0))) := ⟨h2_⟩
 have GW106 : Aside0 (w.heap.size ≤ gb106) := ⟨h3_⟩
 have GE106 : Aside0 (w.heap.size ≤ gb106) := ⟨h4_⟩
 have NB101_106 : Aside0 (gb101 ≠ gb106) := ⟨h5_⟩
 have NB106_101 : Aside0 (gb106 ≠ gb101) := ⟨h6_⟩
 have NB102_106 : Aside0 (gb102 ≠ gb106) := ⟨h7_⟩
 have NB106_102 : Aside0 (gb106 ≠ gb102) := ⟨h8_⟩
 replace HB : Aside0 (Below w.heap.size w w12) := ⟨h9_⟩
 clear h0_ h1_ h2_ h3_ h4_ h5_ h6_ h7_ h8_ h9_
 have hHeld : w12.cell? ⟨gb101, 0, none⟩ = some (.int .i64 a0_0) ∧ w12.cell? ⟨gb101, 1, none⟩ = some (.int .i64 a0_1) ∧ w12.cell? ⟨gb101, 2, none⟩ = some (.int .i64 a0_2) ∧ w12.cell? ⟨gb101, 3, none⟩ = some (.int .i64 a0_3) := hS_
 refine norm_ (a' := ?_) ?_ ?_
 rotate_left
 · simp only [putAll, Act.put, List.setIfInBounds_toArray, List.set_cons_zero, List.set_cons_succ]
   rfl
 refine one_ (i := 16) (N := none) #[true, true, true, true, true, true, true, true, true, true, true, true, true, true, true, true, true] rfl rfl (one_of HT_.out (by kernel_rfl)) (by decide) (fun K hK => ?_)
 have hs13 : w12.cell? ⟨gb106, 0, none⟩ = some (.int .i64 0) := (blk_cell BK106.out 0).trans rfl
 have hfs13 := blk_frozen BK106.out 0
 have hns13_0 := NB101_106.out
 have hns13_1 := NB102_106.out
 have hms13_0 := NB106_101.out
 have hms13_1 := NB106_102.out
 have hs14 : w12.cell? ⟨gb106, 1, none⟩ = some (.int .i64 0) := (blk_cell BK106.out 1).trans rfl
 have hfs14 := blk_frozen BK106.out 1
 have hns14_0 := NB101_106.out
 have hns14_1 := NB102_106.out
 have hms14_0 := NB106_101.out
 have hms14_1 := NB106_102.out
 have hs15 : w12.cell? ⟨gb106, 2, none⟩ = some (.int .i64 0) := (blk_cell BK106.out 2).trans rfl
 have hfs15 := blk_frozen BK106.out 2
 have hns15_0 := NB101_106.out
 have hns15_1 := NB102_106.out
 have hms15_0 := NB106_101.out
 have hms15_1 := NB106_102.out
 have hs16 : w12.cell? ⟨gb106, 3, none⟩ = some (.int .i64 0) := (blk_cell BK106.out 3).trans rfl
 have hfs16 := blk_frozen BK106.out 3
 have hns16_0 := NB101_106.out
 have hns16_1 := NB102_106.out
 have hms16_0 := NB106_101.out
 have hms16_1 := NB106_102.out
 refine skip_ (w1 := ?_) (by rfl) rfl ?_ ?_
 rotate_left
 · go_simp
   rfl
 refine hK.out _ _ ⟨((cell_far (p := ⟨gb106, _, none⟩) NB101_106.out _).trans (((cell_far (p := ⟨gb106, _, none⟩) NB101_106.out _).trans (((cell_far (p := ⟨gb106, _, none⟩) NB101_106.out _).trans (((cell_far (p := ⟨gb106, _, none⟩) NB101_106.out _).trans (hHeld.1)))))))), ((cell_far (p := ⟨gb106, _, none⟩) NB101_106.out _).trans (((cell_far (p := ⟨gb106, _, none⟩) NB101_106.out _).trans (((cell_far (p := ⟨gb106, _, none⟩) NB101_106.out _).trans (((cell_far (p := ⟨gb106, _, none⟩) NB101_106.out _).trans (hHeld.2.1)))))))), ((cell_far (p := ⟨gb106, _, none⟩) NB101_106.out _).trans (((cell_far (p := ⟨gb106, _, none⟩) NB101_106.out _).trans (((cell_far (p := ⟨gb106, _, none⟩) NB101_106.out _).trans (((cell_far (p := ⟨gb106, _, none⟩) NB101_106.out _).trans (hHeld.2.2.1)))))))), ((cell_far (p := ⟨gb106, _, none⟩) NB101_106.out _).trans (((cell_far (p := ⟨gb106, _, none⟩) NB101_106.out _).trans (((cell_far (p := ⟨gb106, _, none⟩) NB101_106.out _).trans (((cell_far (p := ⟨gb106, _, none⟩) NB101_106.out _).trans (hHeld.2.2.2))))))))⟩ (fun hHeld => ?_)
 clear hK K
 have H := HQ1.out
 clear HQ1
 by_cases c7 : t107 = true
 · subst c7
   have H1 : (some (wrap64 (1 + t103), wrap64 (1 + t104), wrap64 (1 + t105), 1)) = some (r1, r2, r3, r4) := by rw [if_pos rfl] at H; exact H
   clear H
   have H := H1
   clear H1
   simp only [Option.some.injEq, Prod.mk.injEq] at H
   obtain ⟨rfl, rfl, rfl, rfl⟩ := H
   refine done_ (done_of HT_.out (by kernel_rfl)) ?_
   have hnb17 := NB106_101.out
   have hnc17 := NB101_106.out
   have hnb18 := NB106_102.out
   have hnc18 := NB102_106.out
   have hcz19_0 : w12.cell? ⟨gb106, 0, none⟩ = some (.int .i64 0) := (blk_cell BK106.out 0).trans rfl
   have hcz19_1 : w12.cell? ⟨gb106, 1, none⟩ = some (.int .i64 0) := (blk_cell BK106.out 1).trans rfl
   have hcz19_2 : w12.cell? ⟨gb106, 2, none⟩ = some (.int .i64 0) := (blk_cell BK106.out 2).trans rfl
   have hcz19_3 : w12.cell? ⟨gb106, 3, none⟩ = some (.int .i64 0) := (blk_cell BK106.out 3).trans rfl
   have hfz19_0 := blk_frozen BK106.out 0
   have hfz19_1 := blk_frozen BK106.out 1
   have hfz19_2 := blk_frozen BK106.out 2
   have hfz19_3 := blk_frozen BK106.out 3
   try go_wp2_with (first | ((with_reducible refine gate_callee (f := 51) rfl ?_); refine goQ_ (some 23) Try.func51 #[.int .i64 (wrap64 (1 + t103))] ?_; (with_reducible refine (chequerref06_bits.calls (wrap64 (1 + t103)) true _ A6.out).mono ?_); rintro e w' ⟨rfl, ⟨nd, rfl⟩⟩; refine ⟨_, rfl, ?_⟩; have hnb20 := NB102_101.out; have hnc20 := NB101_102.out; have hcz21_0 : w12.cell? ⟨gb102, 0, none⟩ = some (.int .i64 0) := (blk_cell BK102.out 0).trans rfl; have hcz21_1 : w12.cell? ⟨gb102, 1, none⟩ = some (.int .i64 0) := (blk_cell BK102.out 1).trans rfl; have hcz21_2 : w12.cell? ⟨gb102, 2, none⟩ = some (.int .i64 0) := (blk_cell BK102.out 2).trans rfl; have hcz21_3 : w12.cell? ⟨gb102, 3, none⟩ = some (.int .i64 0) := (blk_cell BK102.out 3).trans rfl; have hfz21_0 := blk_frozen BK102.out 0; have hfz21_1 := blk_frozen BK102.out 1; have hfz21_2 := blk_frozen BK102.out 2; have hfz21_3 := blk_frozen BK102.out 3))
   refine bodyPost_ret (results_cell_row rfl _ _ gb102 23 #[.int .i64 (wrap64 (1 + t103)), .int .i64 (wrap64 (1 + t104)), .int .i64 (wrap64 (1 + t105)), .int .i64 1] (0, 0) _ rfl (by (with_reducible repeat (first | refine blk_drewN ?_ _ | refine blk_drew ?_ | refine blk_alloc ?_ _)); refine blk_put (cs := #[.int .i64 (wrap64 (1 + t103)), .int .i64 (wrap64 (1 + t104)), .int .i64 (wrap64 (1 + t105)), .int .i64 0]) ?_ 3 _ rfl; (with_reducible repeat (first | refine blk_drewN ?_ _ | refine blk_drew ?_ | refine blk_alloc ?_ _)); refine blk_put (cs := #[.int .i64 (wrap64 (1 + t103)), .int .i64 (wrap64 (1 + t104)), .int .i64 0, .int .i64 0]) ?_ 2 _ rfl; (with_reducible repeat (first | refine blk_drewN ?_ _ | refine blk_drew ?_ | refine blk_alloc ?_ _)); refine blk_put (cs := #[.int .i64 (wrap64 (1 + t103)), .int .i64 0, .int .i64 0, .int .i64 0]) ?_ 1 _ rfl; (with_reducible repeat (first | refine blk_drewN ?_ _ | refine blk_drew ?_ | refine blk_alloc ?_ _)); refine blk_put (cs := #[.int .i64 0, .int .i64 0, .int .i64 0, .int .i64 0]) ?_ 0 _ rfl; (with_reducible repeat (first | refine blk_drewN ?_ _ | refine blk_drew ?_ | refine blk_alloc ?_ _)); refine blk_far ?_ NB102_106.out _; (with_reducible repeat (first | refine blk_drewN ?_ _ | refine blk_drew ?_ | refine blk_alloc ?_ _)); refine blk_far ?_ NB102_106.out _; (with_reducible repeat (first | refine blk_drewN ?_ _ | refine blk_drew ?_ | refine blk_alloc ?_ _)); refine blk_far ?_ NB102_106.out _; (with_reducible repeat (first | refine blk_drewN ?_ _ | refine blk_drew ?_ | refine blk_alloc ?_ _)); refine blk_far ?_ NB102_106.out _; (with_reducible repeat (first | refine blk_drewN ?_ _ | refine blk_drew ?_ | refine blk_alloc ?_ _)); exact BK102.out) Try.underlying23 rfl (by kernel_rfl)) rfl ?_
   exact ⟨by first | rfl | (simp [errW_none, errW_some] <;> rfl) | (simp [*, errW_none, errW_some] <;> rfl), bp_⟩
 · replace c7 := Bool.eq_false_iff.mpr c7
   subst c7
   have H1 : ((chequerref01_Around.f a0_3 65535).bind fun t108 => (some (wrap64 (1 + t103), wrap64 (1 + t104), wrap64 (1 + t105), wrap64 (1 + t108)))) = some (r1, r2, r3, r4) := by rw [if_neg (show ¬ (false = true) by decide)] at H; exact H
   clear H
   have H := H1
   clear H1
   replace H := Option.bind_eq_some_iff.mp H
   obtain ⟨t108, A220, H⟩ := H
   replace H : (some (wrap64 (1 + t103), wrap64 (1 + t104), wrap64 (1 + t105), wrap64 (1 + t108))) = some (r1, r2, r3, r4) := H
   have A22 := Aside0.mk A220
   clear A220
   simp only [Option.some.injEq, Prod.mk.injEq] at H
   obtain ⟨rfl, rfl, rfl, rfl⟩ := H
   refine done_ (done_of HT_.out (by kernel_rfl)) ?_
   have hnb32 := NB106_101.out
   have hnc32 := NB101_106.out
   have hnb33 := NB106_102.out
   have hnc33 := NB102_106.out
   have hcz34_0 : w12.cell? ⟨gb106, 0, none⟩ = some (.int .i64 0) := (blk_cell BK106.out 0).trans rfl
   have hcz34_1 : w12.cell? ⟨gb106, 1, none⟩ = some (.int .i64 0) := (blk_cell BK106.out 1).trans rfl
   have hcz34_2 : w12.cell? ⟨gb106, 2, none⟩ = some (.int .i64 0) := (blk_cell BK106.out 2).trans rfl
   have hcz34_3 : w12.cell? ⟨gb106, 3, none⟩ = some (.int .i64 0) := (blk_cell BK106.out 3).trans rfl
   have hfz34_0 := blk_frozen BK106.out 0
   have hfz34_1 := blk_frozen BK106.out 1
   have hfz34_2 := blk_frozen BK106.out 2
   have hfz34_3 := blk_frozen BK106.out 3
   have hcx : ((((w12.setCell ⟨gb106, 0, none⟩ (.int .i64 (wrap64 (1 + t103)))).setCell ⟨gb106, 1, none⟩ (.int .i64 (wrap64 (1 + t104)))).setCell ⟨gb106, 2, none⟩ (.int .i64 (wrap64 (1 + t105)))).setCell ⟨gb106, 3, none⟩ (.int .i64 1)).cell? ⟨gb106, 3, none⟩ = some (.int .i64 1) := (blk_cell (blk_set (blk_set (blk_set (blk_set BK106.out 0 (.int .i64 (wrap64 (1 + t103)))) 1 (.int .i64 (wrap64 (1 + t104)))) 2 (.int .i64 (wrap64 (1 + t105)))) 3 (.int .i64 1)) 3).trans rfl
   try go_wp2_with (first | ((with_reducible refine gate_callee (f := 51) rfl ?_); refine goQ_ (some 23) Try.func51 #[.int .i64 (wrap64 (1 + t103))] ?_; (with_reducible refine (chequerref06_bits.calls (wrap64 (1 + t103)) false _ A6.out).mono ?_); rintro e w' ⟨rfl, ⟨nd, rfl⟩⟩; refine ⟨_, rfl, ?_⟩; have hnb35 := NB101_102.out; have hnc35 := NB102_101.out; have hcz36_0 : w12.cell? ⟨gb101, 0, none⟩ = some (.int .i64 a0_0) := (blk_cell BK101.out 0).trans rfl; have hcz36_1 : w12.cell? ⟨gb101, 1, none⟩ = some (.int .i64 a0_1) := (blk_cell BK101.out 1).trans rfl; have hcz36_2 : w12.cell? ⟨gb101, 2, none⟩ = some (.int .i64 a0_2) := (blk_cell BK101.out 2).trans rfl; have hcz36_3 : w12.cell? ⟨gb101, 3, none⟩ = some (.int .i64 a0_3) := (blk_cell BK101.out 3).trans rfl; have hfz36_0 := blk_frozen BK101.out 0; have hfz36_1 := blk_frozen BK101.out 1; have hfz36_2 := blk_frozen BK101.out 2; have hfz36_3 := blk_frozen BK101.out 3) | ((with_reducible refine gate_callee (f := 15) rfl ?_); refine goQ_ (some 27) Try.func15 #[.int .i64 a0_3, .int .i64 65535] ?_; (with_reducible refine (chequerref01_Around.calls a0_3 65535 t108 _ A22.out).mono ?_); rintro e w' ⟨rfl, ⟨nd, rfl⟩⟩; refine ⟨_, rfl, ?_⟩; have hcz37_0 : w12.cell? ⟨gb102, 0, none⟩ = some (.int .i64 0) := (blk_cell BK102.out 0).trans rfl; have hcz37_1 : w12.cell? ⟨gb102, 1, none⟩ = some (.int .i64 0) := (blk_cell BK102.out 1).trans rfl; have hcz37_2 : w12.cell? ⟨gb102, 2, none⟩ = some (.int .i64 0) := (blk_cell BK102.out 2).trans rfl; have hcz37_3 : w12.cell? ⟨gb102, 3, none⟩ = some (.int .i64 0) := (blk_cell BK102.out 3).trans rfl; have hfz37_0 := blk_frozen BK102.out 0; have hfz37_1 := blk_frozen BK102.out 1; have hfz37_2 := blk_frozen BK102.out 2; have hfz37_3 := blk_frozen BK102.out 3))
   refine bodyPost_ret (results_cell_row rfl _ _ gb102 23 #[.int .i64 (wrap64 (1 + t103)), .int .i64 (wrap64 (1 + t104)), .int .i64 (wrap64 (1 + t105)), .int .i64 (wrap64 (1 + t108))] (0, 0) _ rfl (by (with_reducible repeat (first | refine blk_drewN ?_ _ | refine blk_drew ?_ | refine blk_alloc ?_ _)); refine blk_put (cs := #[.int .i64 (wrap64 (1 + t103)), .int .i64 (wrap64 (1 + t104)), .int .i64 (wrap64 (1 + t105)), .int .i64 0]) ?_ 3 _ rfl; (with_reducible repeat (first | refine blk_drewN ?_ _ | refine blk_drew ?_ | refine blk_alloc ?_ _)); refine blk_put (cs := #[.int .i64 (wrap64 (1 + t103)), .int .i64 (wrap64 (1 + t104)), .int .i64 0, .int .i64 0]) ?_ 2 _ rfl; (with_reducible repeat (first | refine blk_drewN ?_ _ | refine blk_drew ?_ | refine blk_alloc ?_ _)); refine blk_put (cs := #[.int .i64 (wrap64 (1 + t103)), .int .i64 0, .int .i64 0, .int .i64 0]) ?_ 1 _ rfl; (with_reducible repeat (first | refine blk_drewN ?_ _ | refine blk_drew ?_ | refine blk_alloc ?_ _)); refine blk_put (cs := #[.int .i64 0, .int .i64 0, .int .i64 0, .int .i64 0]) ?_ 0 _ rfl; (with_reducible repeat (first | refine blk_drewN ?_ _ | refine blk_drew ?_ | refine blk_alloc ?_ _)); refine blk_far ?_ NB102_106.out _; (with_reducible repeat (first | refine blk_drewN ?_ _ | refine blk_drew ?_ | refine blk_alloc ?_ _)); refine blk_far ?_ NB102_106.out _; (with_reducible repeat (first | refine blk_drewN ?_ _ | refine blk_drew ?_ | refine blk_alloc ?_ _)); refine blk_far ?_ NB102_106.out _; (with_reducible repeat (first | refine blk_drewN ?_ _ | refine blk_drew ?_ | refine blk_alloc ?_ _)); refine blk_far ?_ NB102_106.out _; (with_reducible repeat (first | refine blk_drewN ?_ _ | refine blk_drew ?_ | refine blk_alloc ?_ _)); refine blk_far ?_ NB102_106.out _; (with_reducible repeat (first | refine blk_drewN ?_ _ | refine blk_drew ?_ | refine blk_alloc ?_ _)); exact BK102.out) Try.underlying23 rfl (by kernel_rfl)) rfl ?_
   exact ⟨by first | rfl | (simp [errW_none, errW_some] <;> rfl) | (simp [*, errW_none, errW_some] <;> rfl), bp_⟩


end Go.Proofs.Ytdjonaajfhbfhaa.Q
