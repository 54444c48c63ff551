-- written by our own program (wip/tools/myprint.py) out of the translation, by the kit's print; Lean checks it
import Derived.Test.YtkkcjhnhbddooaaQ0
import Derived.Test.YtkkcjhnhbddooaaQ1
import Derived.Test.YtkkcjhnhbddooaaInum_Put
import Derived.Test.YtkkcjhnhbddooaaQ3
import Derived.Test.YtkkcjhnhbddooaaQ4
namespace Go.Proofs.Ytkkcjhnhbddooaa.Q
open Go.RowKit Go.Proofs.YtkkcjhnhbddooaaW.PrintWords Go.Proofs.YtkkcjhnhbddooaaW.PrintLast Go.Proofs.YtkkcjhnhbddooaaW.PrintMore
attribute [local go_sem] max2_int min2_int max_two min_two max_three min_three max_four min_four   -- for this text's walks alone
set_option linter.unusedVariables false
set_option linter.unusedSimpArgs false

/-! ### chequerlaw02_NumGets: function 5 -/
mutual
def chequerlaw02_NumGets.l0 : Nat → List Int → List Int → Int → Int → Option (Bool)
  | 0, _, _, _, _ => none
  | k + 1, x0, x5, x6, x7 => if x7 < (x0.length : Int) then (if 0 ≤ x7 then (if x7 < x6 then (if (rd x0 x7) < 128 then (if x5.length < 140737488355328 then (chequerlaw02_NumGets.l0 k x0 (x5 ++ [((rd x0 x7) + 128) % 256]) x6 (wrap64 (x7 + 1))) else (none)) else (if x5.length < 140737488355328 then (chequerlaw02_NumGets.l0 k x0 (x5 ++ [rd x0 x7]) x6 (wrap64 (x7 + 1))) else (none))) else (if x5.length < 140737488355328 then (chequerlaw02_NumGets.l0 k x0 (x5 ++ [rd x0 x7]) x6 (wrap64 (x7 + 1))) else (none))) else (none)) else (chequerlaw02_NumGets.l1 k (([x0, x5] : List (List Int))) 0)
def chequerlaw02_NumGets.l1 : Nat → List (List Int) → Int → Option (Bool)
  | 0, _, _ => none
  | k + 1, x9, x10 => if x10 < 2 then (if 0 ≤ x10 then (if x10 < (x9.length : Int) then ((num_Get.f k (rd_L1 x9 x10)).bind fun bt173 => ((chequerref02_Get.f k (rd_L1 x9 x10)).bind fun bt177 => (if bt173.1 = bt177.1 then (if bt173.2.1 = bt177.2.1 then (if bt173.2.2 = bt177.2.2 then (chequerlaw02_NumGets.l1 k x9 (wrap64 (x10 + 1))) else (some false)) else (some false)) else (some false)))) else (none)) else (none)) else ((chequerlaw02_lives.f).bind fun t171 => (some t171))
end
def chequerlaw02_NumGets.f (k : Nat) (l0 : List Int) (a1 : Int) : Option (Bool) := if 0 ≤ (mn (l0.length : Int) 12) then (if (mn (l0.length : Int) 12) ≤ (l0.length : Int) then ((chequerref01_Around.f a1 11).bind fun t157 => (chequerlaw02_NumGets.l0 k (l0.take ((mn (l0.length : Int) 12) : Int).toNat) ([] : List Int) t157 0)) else (none)) else (none)
theorem chequerlaw02_NumGets.mono_l : ∀ k, (∀ y0 y1 y2 y3, LeO (chequerlaw02_NumGets.l0 k y0 y1 y2 y3) (chequerlaw02_NumGets.l0 (k + 1) y0 y1 y2 y3)) ∧ (∀ y0 y1, LeO (chequerlaw02_NumGets.l1 k y0 y1) (chequerlaw02_NumGets.l1 (k + 1) y0 y1))
  | 0 => ⟨fun _ _ _ _ r h => by simp [chequerlaw02_NumGets.l0] at h, fun _ _ r h => by simp [chequerlaw02_NumGets.l1] at h⟩
  | k + 1 => by
    obtain ⟨ih0, ih1⟩ := chequerlaw02_NumGets.mono_l k
    refine ⟨?_, ?_⟩
    · intro y0 y1 y2 y3
      unfold chequerlaw02_NumGets.l0
      repeat' first
      | (with_reducible exact ih0 _ _ _ _)
      | (with_reducible exact ih1 _ _)
      | (with_reducible exact chequerref02_Get.mono _ _)
      | (with_reducible exact num_Get.mono _ _)
      | (with_reducible exact LeO.refl _)
      | (with_reducible exact LeO.none _)
      | (with_reducible refine LeO.ite ?_ ?_)
      | (with_reducible refine LeO.bind ?_ (fun _ => ?_))
      | exact ih0 _ _ _ _
      | exact ih1 _ _
      | exact chequerref02_Get.mono _ _
      | exact num_Get.mono _ _
      | exact LeO.none _
      | refine LeO.ite ?_ ?_
      | refine LeO.bind ?_ (fun _ => ?_)
    · intro y0 y1
      unfold chequerlaw02_NumGets.l1
      repeat' first
      | (with_reducible exact ih0 _ _ _ _)
      | (with_reducible exact ih1 _ _)
      | (with_reducible exact chequerref02_Get.mono _ _)
      | (with_reducible exact num_Get.mono _ _)
      | (with_reducible exact LeO.refl _)
      | (with_reducible exact LeO.none _)
      | (with_reducible refine LeO.ite ?_ ?_)
      | (with_reducible refine LeO.bind ?_ (fun _ => ?_))
      | exact ih0 _ _ _ _
      | exact ih1 _ _
      | exact chequerref02_Get.mono _ _
      | exact num_Get.mono _ _
      | exact LeO.none _
      | refine LeO.ite ?_ ?_
      | refine LeO.bind ?_ (fun _ => ?_)
theorem chequerlaw02_NumGets.mono : ∀ a0 a1 k, LeO (chequerlaw02_NumGets.f k a0 a1) (chequerlaw02_NumGets.f (k + 1) a0 a1) := by
  intro a0 a1 k
  obtain ⟨ih0, ih1⟩ := chequerlaw02_NumGets.mono_l k
  unfold chequerlaw02_NumGets.f
  repeat' first
      | (with_reducible exact ih0 _ _ _ _)
      | (with_reducible exact ih1 _ _)
      | (with_reducible exact chequerref02_Get.mono _ _)
      | (with_reducible exact num_Get.mono _ _)
      | (with_reducible exact LeO.refl _)
      | (with_reducible exact LeO.none _)
      | (with_reducible refine LeO.ite ?_ ?_)
      | (with_reducible refine LeO.bind ?_ (fun _ => ?_))
      | exact ih0 _ _ _ _
      | exact ih1 _ _
      | exact chequerref02_Get.mono _ _
      | exact num_Get.mono _ _
      | exact LeO.none _
      | refine LeO.ite ?_ ?_
      | refine LeO.bind ?_ (fun _ => ?_)
set_option maxHeartbeats 8000000 in
set_option maxRecDepth 100000 in
theorem chequerlaw02_NumGets.calls (k : Nat) (P0_ : Nat → Prop) (A0 : Option Addr) (c0 : Nat) (l0 : List Int) (a1 : Int) (r : Bool) (w : World) (hs0 : Kd.V (Kd.int .u8) 5 w w.heap.size (fun k_ => P0_ k_) (.slice A0 l0.length c0) l0) (h : chequerlaw02_NumGets.f k l0 a1 = some r) :
    Calls Try.prog 5 #[.slice A0 l0.length c0, .int .i64 a1] w fun e w' => e = .returned (.bool r) ∧ Below w.heap.size w w' := by
  have HO0 := Aside0.mk (show Kd.V (Kd.int .u8) 5 w w.heap.size (fun k_ => (P0_ k_ ∨ w.heap.size ≤ k_)) (.slice A0 l0.length c0) l0 from Kd.V_mono hs0 (fun k_ hk => .inl hk))
  have HB := Aside0.mk (Below.refl w.heap.size w)
  have H : (if 0 ≤ (mn (l0.length : Int) 12) then (if (mn (l0.length : Int) 12) ≤ (l0.length : Int) then ((chequerref01_Around.f a1 11).bind fun t157 => (chequerlaw02_NumGets.l0 k (l0.take ((mn (l0.length : Int) 12) : Int).toNat) ([] : List Int) t157 0)) else (none)) else (none)) = some r := h
  clear h
  obtain ⟨ji3, hji3⟩ : ∃ j_ : Int, (mn (l0.length : Int) 12) = j_ := ⟨_, rfl⟩
  replace H : (if 0 ≤ (ji3) then (if (ji3) ≤ (l0.length : Int) then ((chequerref01_Around.f a1 11).bind fun t157 => (chequerlaw02_NumGets.l0 k (l0.take ((ji3) : Int).toNat) ([] : List Int) t157 0)) else (none)) else (none)) = some r := by first | (rw [hji3] at H; exact H) | (simp only [hji3] at H ⊢; exact H)
  (try (have hji3h : ji3 ≤ 12 := by (rw [← hji3]; unfold mn; (repeat' split) <;> omega)))
  (try (have hji3g : ji3 ≤ 64 := by omega))
  (try (have hji3l : 0 ≤ ji3 := by (rw [← hji3]; unfold mn; (repeat' split) <;> omega)))
  (try (have hji3m : 0 ≤ ji3 := by omega))
  have hji3_ : (if 12 < (l0.length : Int) then 12 else (l0.length : Int)) = ji3 := hji3
  by_cases c4 : 0 ≤ (ji3)
  · rw [if_pos c4] at H
    have c4b0 := eq_true c4
    have c4b1 : decide (0 ≤ (ji3)) = true := decide_eq_true c4
    clear c4
    by_cases c5 : (ji3) ≤ (l0.length : Int)
    · rw [if_pos c5] at H
      have c5b0 := eq_true c5
      have c5b1 : decide ((ji3) ≤ (l0.length : Int)) = true := decide_eq_true c5
      clear c5
      obtain ⟨y152, hy152⟩ : ∃ y_ : List Int, y_ = (l0.take ((ji3) : Int).toNat) := ⟨_, rfl⟩
      replace H : ((chequerref01_Around.f a1 11).bind fun t157 => (chequerlaw02_NumGets.l0 k y152 ([] : List Int) t157 0)) = some r := by first | (rw [hy152]; with_reducible exact H) | (have H2_ := (Option.bind_some _ _).symm.trans H; rw [hy152]; with_reducible exact H2_) | (have H2_ := (Option.bind_some _ _).symm.trans H; with_reducible exact H2_) | with_reducible exact H | (rw [hy152]; exact H) | exact H
      have Ny152 := Aside0.mk hy152
      clear hy152
      replace H := Option.bind_eq_some_iff.mp H
      obtain ⟨t157, A60, H⟩ := H
      replace H : (chequerlaw02_NumGets.l0 k y152 ([] : List Int) t157 0) = some r := H
      have A6 := Aside0.mk A60
      clear A60
      have H' := Aside0.mk H
      clear H
      have q7 : ((ji3) : Int) ≤ ((l0.length : Int) : Int) := of_decide_eq_true (by first | (with_reducible assumption) | assumption)
      obtain ⟨i07, hi07, _, hsz7, _⟩ := info_parts info5
      have hroom7 : l0.length ≤ c0 := (Kd.V_reads' HO0.out).2.1
      have hC7 : Kd.F (Kd.int .u8) _ _ A0 l0.length l0 := (Kd.V_at (base := w.heap.size) HO0.out).2.2
      have hcut7 := cut_to (P := Try.prog) 29 5 .i64 Try.underlying29 hi07 A0 l0.length c0 (ji3) (of_decide_eq_true (by first | (with_reducible assumption) | assumption)) q7 hroom7
      have hr7 := Kd.F_take (m := ((ji3) : Int).toNat) hC7 (by omega)
      have hy7 : y152.length = ((ji3) : Int).toNat := (by rw [Ny152.out, List.length_take]; omega)
      rw [← Ny152.out] at hr7
      rw [← hy7] at hcut7
      have HO156 := Aside0.mk (show Kd.V (Kd.int .u8) 5 _ w.heap.size _ (.slice A0 y152.length c0) y152 from Kd.V_mk (by omega) hr7)
      have HC156 := Aside0.mk (show y152.length ≤ c0 from by omega)
      clear hr7 hC7 hroom7 hi07 hsz7
      have KY7 := Aside0.mk hy7
      clear hy7
      replace q7 := eq_true q7
      go_enter Try.func5, Try.ntmps5
      go_wp2_with (first | ((with_reducible refine gate_callee (f := 11) rfl ?_); refine goesL_ (some 23) rfl rfl Try.func11 (by kernel_rfl) rfl #[.int .i64 a1, .int .i64 11] rfl (by (try simp only [List.map_toArray, List.map_cons, List.map_nil]); first | done | rfl | (simp only [List.length_drop, List.length_take]; rfl)) ?_; (with_reducible refine (chequerref01_Around.calls a1 11 t157 _ A6.out).mono ?_); rintro e w' ⟨rfl, ⟨nd, rfl⟩⟩; refine ⟨_, rfl, ?_⟩))
      go_loopg [5, 7] k (fun kq v5 v7 w' => ∃ (x5_1 : List Int) (x7_1 : Int), v7 = .int .i64 x7_1 ∧ Aside0 (chequerlaw02_NumGets.l0 kq y152 x5_1 t157 x7_1 = some r) ∧ Aside0 (kq ≤ k) ∧ Aside0 (Kd.V (Kd.int .u8) 5 w' w.heap.size (fun k_ => (P0_ k_ ∨ w.heap.size ≤ k_) ∧ some k_ ≠ (v5 : Value).ownBlock) (.slice A0 y152.length c0) y152) ∧ Aside0 (Kd.R (Kd.int .u8) 5 w' w.heap.size (fun k_ => (w.heap.size ≤ k_)) v5 x5_1) ∧ Aside0 (Below w.heap.size w w'))
      case atStart => exact ⟨(([] : List Int)), (0), (by first | rfl | (simp; done) | (simp [*]; done)), H', ⟨Nat.le_refl _⟩, ⟨by (with_reducible repeat (first | apply Kd.V_alloc | apply Kd.V_drewN | apply Kd.V_drew)); exact Kd.V_mono HO156.out (fun _ hk => ⟨hk, (by simp [Value.ownBlock])⟩)⟩, ⟨by first | exact Kd.R_nil _ _ _ _ _ | exact Kd.N_nil _ _ _ _ _ | exact Kd.V_nil _ _ _ _ _ | exact Kd.Q_nil _ _ _ _ _ | exact Kd.S_nil _ _ _ _ _⟩, ⟨by repeat (first | (with_reducible first | exact HB.out | apply below_alloc | apply pw_below_drewN | apply below_drew1) | exact HB.out)⟩⟩
      case round =>
        clear H'
        try clear c1
        try clear p2
        try clear c4
        try clear c4b0
        try clear c4b1
        try clear c5
        try clear c5b0
        try clear c5b1
        try clear q7
        try clear q7
        obtain ⟨x5_1, x7_1, rfl, HA, HK1, HO_0, HO_5, HB⟩ := hrel
        cases gk with
        | zero => exact absurd HA.out (by simp [chequerlaw02_NumGets.l0])
        | succ k1 =>
          have H := HA.out
          clear HA
          simp only [chequerlaw02_NumGets.l0] at H
          by_cases c8 : x7_1 < (y152.length : Int)
          · rw [if_pos c8] at H
            have c8b0 : decide (x7_1 < (y152.length : Int)) = true := decide_eq_true c8
            clear c8
            by_cases c9 : 0 ≤ x7_1
            · rw [if_pos c9] at H
              have c9b0 : decide (0 ≤ x7_1) = true := decide_eq_true c9
              clear c9
              by_cases c10 : x7_1 < t157
              · rw [if_pos c10] at H
                have c10b0 : decide (x7_1 < t157) = true := decide_eq_true c10
                clear c10
                by_cases c11 : (rd y152 x7_1) < 128
                · rw [if_pos c11] at H
                  have c11b0 : decide ((rd y152 x7_1) < 128) = true := decide_eq_true c11
                  clear c11
                  by_cases c12 : x5_1.length < 140737488355328
                  · rw [if_pos c12] at H
                    have LMc12 := Aside0.mk c12
                    clear c12
                    obtain ⟨y159, hy159⟩ : ∃ y_ : List Int, y_ = (x5_1 ++ [((rd y152 x7_1) + 128) % 256]) := ⟨_, rfl⟩
                    replace H : (chequerlaw02_NumGets.l0 k1 y152 y159 t157 (wrap64 (x7_1 + 1))) = some r := by first | (rw [hy159]; with_reducible exact H) | (have H2_ := (Option.bind_some _ _).symm.trans H; rw [hy159]; with_reducible exact H2_) | (have H2_ := (Option.bind_some _ _).symm.trans H; with_reducible exact H2_) | with_reducible exact H | (rw [hy159]; exact H) | exact H
                    have Ny159 := Aside0.mk hy159
                    clear hy159
                    have H' := Aside0.mk H
                    clear H
                    have p158 : 0 ≤ (x7_1 : Int) := of_decide_eq_true (by first | (with_reducible assumption) | assumption)
                    have q158 : x7_1 < (y152.length : Int) := of_decide_eq_true (by first | (with_reducible assumption) | assumption)
                    obtain ⟨ad158, e158, hx158_0⟩ := Kd.at_int (Kd.V_reads' HO_0.out).2.2 x7_1 p158 q158
                    cases e158
                    replace p158 := eq_true p158
                    replace q158 := eq_true q158
                    go_wp2_with (first | ((with_reducible refine gate_builtin (b := .append) (xs := #[.tmp 43, .tmp 45]) rfl ?_); at_builtin; refine Kd.R_append (Kd.int .u8) (w0 := w) w.heap.size rfl (.tmp 43) (.tmp 45) 29 5 (.int .u8 0) 1 rfl Try.underlying29 info5 rfl (by decide) (by omega) u5 x5_1 (((rd y152 x7_1) + 128) % 256) [.int .u8 (((rd y152 x7_1) + 128) % 256)] (fun k_ => (w.heap.size ≤ k_)) (fun _ => False) rfl rfl ?aP (fun _ hk => hk.elim) ?aF ?aO ?aB ?aS ?aL ?_; (case aP => exact rfl); (case aB => exact (by repeat (first | (with_reducible first | exact HB.out | apply below_alloc | apply pw_below_drewN | apply below_drew1) | exact HB.out))); (case aF => exact (fun k_ hk => (Nat.le_trans (below_size (by repeat (first | (with_reducible first | exact HB.out | apply below_alloc | apply pw_below_drewN | apply below_drew1) | exact HB.out))) hk))); (case aO => exact (by (with_reducible repeat (first | apply Kd.R_alloc | apply Kd.R_drewN | apply Kd.R_drew)); exact HO_5.out)); (case aS => exact (below_size (by repeat (first | (with_reducible first | exact HB.out | apply below_alloc | apply pw_below_drewN | apply below_drew1) | exact HB.out)))); (case aL => have := LMc12.out; omega); intro v160 w13 ho hb hg hat; rw [← Ny159.out] at ho; have n0_ := Aside0.mk (Kd.V_afterv (ok := (fun k_ => (P0_ k_ ∨ w.heap.size ≤ k_))) (by (with_reducible repeat (first | apply Kd.V_alloc | apply Kd.V_drewN | apply Kd.V_drew)); exact HO_0.out) hg hat); have n1_ := Aside0.mk (hb); have n2_ := Aside0.mk (ho); clear HO_0; clear HB; clear HO_5; have HO_0 := n0_; have HB := n1_; have HO161 := n2_; clear n0_ n1_ n2_; clear ho hb hg hat))
                    go_roundg k1
                    case measure => have := HK1.out; omega
                    case rel => exact ⟨(y159), (wrap64 (x7_1 + 1)), (by first | rfl | (simp; done) | (simp [*]; done)), H', ⟨by have := HK1.out; omega⟩, ⟨by (with_reducible repeat (first | apply Kd.V_alloc | apply Kd.V_drewN | apply Kd.V_drew)); exact HO_0.out⟩, ⟨by (with_reducible repeat (first | apply Kd.R_alloc | apply Kd.R_drewN | apply Kd.R_drew)); exact HO161.out⟩, ⟨by repeat (first | (with_reducible first | exact HB.out | apply below_alloc | apply pw_below_drewN | apply below_drew1) | exact HB.out)⟩⟩
                  · rw [if_neg c12] at H
                    exact absurd H (by simp)
                · rw [if_neg c11] at H
                  have c11b0 : decide ((rd y152 x7_1) < 128) = false := decide_eq_false c11
                  clear c11
                  by_cases c14 : x5_1.length < 140737488355328
                  · rw [if_pos c14] at H
                    have LMc14 := Aside0.mk c14
                    clear c14
                    obtain ⟨y162, hy162⟩ : ∃ y_ : List Int, y_ = (x5_1 ++ [rd y152 x7_1]) := ⟨_, rfl⟩
                    replace H : (chequerlaw02_NumGets.l0 k1 y152 y162 t157 (wrap64 (x7_1 + 1))) = some r := by first | (rw [hy162]; with_reducible exact H) | (have H2_ := (Option.bind_some _ _).symm.trans H; rw [hy162]; with_reducible exact H2_) | (have H2_ := (Option.bind_some _ _).symm.trans H; with_reducible exact H2_) | with_reducible exact H | (rw [hy162]; exact H) | exact H
                    have Ny162 := Aside0.mk hy162
                    clear hy162
                    have H' := Aside0.mk H
                    clear H
                    have p158 : 0 ≤ (x7_1 : Int) := of_decide_eq_true (by first | (with_reducible assumption) | assumption)
                    have q158 : x7_1 < (y152.length : Int) := of_decide_eq_true (by first | (with_reducible assumption) | assumption)
                    obtain ⟨ad158, e158, hx158_0⟩ := Kd.at_int (Kd.V_reads' HO_0.out).2.2 x7_1 p158 q158
                    cases e158
                    replace p158 := eq_true p158
                    replace q158 := eq_true q158
                    go_wp2_with (first | ((with_reducible refine gate_builtin (b := .append) (xs := #[.tmp 43, .tmp 45]) rfl ?_); at_builtin; refine Kd.R_append (Kd.int .u8) (w0 := w) w.heap.size rfl (.tmp 43) (.tmp 45) 29 5 (.int .u8 0) 1 rfl Try.underlying29 info5 rfl (by decide) (by omega) u5 x5_1 (rd y152 x7_1) [.int .u8 (rd y152 x7_1)] (fun k_ => (w.heap.size ≤ k_)) (fun _ => False) rfl rfl ?aP (fun _ hk => hk.elim) ?aF ?aO ?aB ?aS ?aL ?_; (case aP => exact rfl); (case aB => exact (by repeat (first | (with_reducible first | exact HB.out | apply below_alloc | apply pw_below_drewN | apply below_drew1) | exact HB.out))); (case aF => exact (fun k_ hk => (Nat.le_trans (below_size (by repeat (first | (with_reducible first | exact HB.out | apply below_alloc | apply pw_below_drewN | apply below_drew1) | exact HB.out))) hk))); (case aO => exact (by (with_reducible repeat (first | apply Kd.R_alloc | apply Kd.R_drewN | apply Kd.R_drew)); exact HO_5.out)); (case aS => exact (below_size (by repeat (first | (with_reducible first | exact HB.out | apply below_alloc | apply pw_below_drewN | apply below_drew1) | exact HB.out)))); (case aL => have := LMc14.out; omega); intro v163 w15 ho hb hg hat; rw [← Ny162.out] at ho; have n0_ := Aside0.mk (Kd.V_afterv (ok := (fun k_ => (P0_ k_ ∨ w.heap.size ≤ k_))) (by (with_reducible repeat (first | apply Kd.V_alloc | apply Kd.V_drewN | apply Kd.V_drew)); exact HO_0.out) hg hat); have n1_ := Aside0.mk (hb); have n2_ := Aside0.mk (ho); clear HO_0; clear HB; clear HO_5; have HO_0 := n0_; have HB := n1_; have HO164 := n2_; clear n0_ n1_ n2_; clear ho hb hg hat))
                    go_roundg k1
                    case measure => have := HK1.out; omega
                    case rel => exact ⟨(y162), (wrap64 (x7_1 + 1)), (by first | rfl | (simp; done) | (simp [*]; done)), H', ⟨by have := HK1.out; omega⟩, ⟨by (with_reducible repeat (first | apply Kd.V_alloc | apply Kd.V_drewN | apply Kd.V_drew)); exact HO_0.out⟩, ⟨by (with_reducible repeat (first | apply Kd.R_alloc | apply Kd.R_drewN | apply Kd.R_drew)); exact HO164.out⟩, ⟨by repeat (first | (with_reducible first | exact HB.out | apply below_alloc | apply pw_below_drewN | apply below_drew1) | exact HB.out)⟩⟩
                  · rw [if_neg c14] at H
                    exact absurd H (by simp)
              · rw [if_neg c10] at H
                have c10b0 : decide (x7_1 < t157) = false := decide_eq_false c10
                clear c10
                by_cases c16 : x5_1.length < 140737488355328
                · rw [if_pos c16] at H
                  have LMc16 := Aside0.mk c16
                  clear c16
                  obtain ⟨y165, hy165⟩ : ∃ y_ : List Int, y_ = (x5_1 ++ [rd y152 x7_1]) := ⟨_, rfl⟩
                  replace H : (chequerlaw02_NumGets.l0 k1 y152 y165 t157 (wrap64 (x7_1 + 1))) = some r := by first | (rw [hy165]; with_reducible exact H) | (have H2_ := (Option.bind_some _ _).symm.trans H; rw [hy165]; with_reducible exact H2_) | (have H2_ := (Option.bind_some _ _).symm.trans H; with_reducible exact H2_) | with_reducible exact H | (rw [hy165]; exact H) | exact H
                  have Ny165 := Aside0.mk hy165
                  clear hy165
                  have H' := Aside0.mk H
                  clear H
                  have p158 : 0 ≤ (x7_1 : Int) := of_decide_eq_true (by first | (with_reducible assumption) | assumption)
                  have q158 : x7_1 < (y152.length : Int) := of_decide_eq_true (by first | (with_reducible assumption) | assumption)
                  obtain ⟨ad158, e158, hx158_0⟩ := Kd.at_int (Kd.V_reads' HO_0.out).2.2 x7_1 p158 q158
                  cases e158
                  replace p158 := eq_true p158
                  replace q158 := eq_true q158
                  go_wp2_with (first | ((with_reducible refine gate_builtin (b := .append) (xs := #[.tmp 43, .tmp 45]) rfl ?_); at_builtin; refine Kd.R_append (Kd.int .u8) (w0 := w) w.heap.size rfl (.tmp 43) (.tmp 45) 29 5 (.int .u8 0) 1 rfl Try.underlying29 info5 rfl (by decide) (by omega) u5 x5_1 (rd y152 x7_1) [.int .u8 (rd y152 x7_1)] (fun k_ => (w.heap.size ≤ k_)) (fun _ => False) rfl rfl ?aP (fun _ hk => hk.elim) ?aF ?aO ?aB ?aS ?aL ?_; (case aP => exact rfl); (case aB => exact (by repeat (first | (with_reducible first | exact HB.out | apply below_alloc | apply pw_below_drewN | apply below_drew1) | exact HB.out))); (case aF => exact (fun k_ hk => (Nat.le_trans (below_size (by repeat (first | (with_reducible first | exact HB.out | apply below_alloc | apply pw_below_drewN | apply below_drew1) | exact HB.out))) hk))); (case aO => exact (by (with_reducible repeat (first | apply Kd.R_alloc | apply Kd.R_drewN | apply Kd.R_drew)); exact HO_5.out)); (case aS => exact (below_size (by repeat (first | (with_reducible first | exact HB.out | apply below_alloc | apply pw_below_drewN | apply below_drew1) | exact HB.out)))); (case aL => have := LMc16.out; omega); intro v166 w17 ho hb hg hat; rw [← Ny165.out] at ho; have n0_ := Aside0.mk (Kd.V_afterv (ok := (fun k_ => (P0_ k_ ∨ w.heap.size ≤ k_))) (by (with_reducible repeat (first | apply Kd.V_alloc | apply Kd.V_drewN | apply Kd.V_drew)); exact HO_0.out) hg hat); have n1_ := Aside0.mk (hb); have n2_ := Aside0.mk (ho); clear HO_0; clear HB; clear HO_5; have HO_0 := n0_; have HB := n1_; have HO167 := n2_; clear n0_ n1_ n2_; clear ho hb hg hat))
                  go_roundg k1
                  case measure => have := HK1.out; omega
                  case rel => exact ⟨(y165), (wrap64 (x7_1 + 1)), (by first | rfl | (simp; done) | (simp [*]; done)), H', ⟨by have := HK1.out; omega⟩, ⟨by (with_reducible repeat (first | apply Kd.V_alloc | apply Kd.V_drewN | apply Kd.V_drew)); exact HO_0.out⟩, ⟨by (with_reducible repeat (first | apply Kd.R_alloc | apply Kd.R_drewN | apply Kd.R_drew)); exact HO167.out⟩, ⟨by repeat (first | (with_reducible first | exact HB.out | apply below_alloc | apply pw_below_drewN | apply below_drew1) | exact HB.out)⟩⟩
                · rw [if_neg c16] at H
                  exact absurd H (by simp)
            · rw [if_neg c9] at H
              exact absurd H (by simp)
          · rw [if_neg c8] at H
            have c8b0 : decide (x7_1 < (y152.length : Int)) = false := decide_eq_false c8
            clear c8
            obtain ⟨y168, hy168⟩ : ∃ y_ : List (List Int), y_ = (([y152, x5_1] : List (List Int))) := ⟨_, rfl⟩
            replace H : (chequerlaw02_NumGets.l1 k1 y168 0) = some r := by first | (rw [hy168]; with_reducible exact H) | (have H2_ := (Option.bind_some _ _).symm.trans H; rw [hy168]; with_reducible exact H2_) | (have H2_ := (Option.bind_some _ _).symm.trans H; with_reducible exact H2_) | with_reducible exact H | (rw [hy168]; exact H) | exact H
            have Ny168 := Aside0.mk hy168
            clear hy168
            have H' := Aside0.mk H
            clear H
            obtain ⟨Ao18, co18, eo18⟩ := Kd.R_slice HO_5.out
            subst eo18
            go_wp2_with (first | ((with_reducible refine gate_dst (N := 49) rfl ?_); refine Kd.N_lit (Kd.slice 5 (Kd.int .u8)) _ 29 ?hg (N' := 49) ?hd (xs := ([y152, x5_1] : List (List Int))) (inner := [.slice A0 y152.length c0, .slice Ao18 x5_1.length co18]) (ok := (fun k_ => (P0_ k_ ∨ w.heap.size ≤ k_))) (okp := (fun k_ => (P0_ k_ ∨ w.heap.size ≤ k_))) ?hr ?hp (fun _ hk => hk) ((show ∀ k_, wr.heap.size ≤ k_ → (fun k_ => (P0_ k_ ∨ w.heap.size ≤ k_)) k_ from fun k_ hk => (.inr (Nat.le_trans (below_size (by repeat (first | (with_reducible first | exact HB.out | apply below_alloc | apply pw_below_drewN | apply below_drew1) | exact HB.out))) hk))) _ (Nat.le_refl _)) (Below.refl _ _) (Nat.le_refl _) (by simp) ?_; (case hd => rfl); (case hg => rfl); (case hr => first | (go_simp; done) | (go_simp; rfl)); (case hp => exact (Reps.one (show Kd.FK (Kd.slice 5 (Kd.int .u8)) _ _ y152 [.slice A0 y152.length c0] from (Kd.FK_slice_mk (Kd.V_reads' (Kd.V_mono (ok' := (fun k_ => (P0_ k_ ∨ w.heap.size ≤ k_))) (HO_0.out) (fun k_ hk => hk.1))).2.1 (Kd.V_F (Kd.V_mono (ok' := (fun k_ => (P0_ k_ ∨ w.heap.size ≤ k_))) (HO_0.out) (fun k_ hk => hk.1))))) (Reps.one (show Kd.FK (Kd.slice 5 (Kd.int .u8)) _ _ x5_1 [.slice Ao18 x5_1.length co18] from (Kd.FK_slice_mk (Kd.R_reads' (Kd.R_mono (ok' := (fun k_ => (P0_ k_ ∨ w.heap.size ≤ k_))) (HO_5.out) (fun k_ hk => (.inr (hk))))).2.1 (Kd.R_F (Kd.R_mono (ok' := (fun k_ => (P0_ k_ ∨ w.heap.size ≤ k_))) (HO_5.out) (fun k_ hk => (.inr (hk))))))) (Reps.none _ _)))); intro v169 w19 ho20 hb hg_ hnew_; clear hg_ hnew_; (first | rw [← Ny168.out] at ho20 | (simp only [Int.reduceToNat] at ho20; rw [← Ny168.out] at ho20)); have n0_ := Aside0.mk (Kd.V_elder' (by (with_reducible repeat (first | apply Kd.V_alloc | apply Kd.V_drewN | apply Kd.V_drew)); exact HO_0.out) (Kd.N_base ho20) hb); have n1_ := Aside0.mk (Kd.N_lower ho20 (below_size (by repeat (first | (with_reducible first | exact HB.out | apply below_alloc | apply pw_below_drewN | apply below_drew1) | exact HB.out)))); have n2_ := Aside0.mk (below_step (by repeat (first | (with_reducible first | exact HB.out | apply below_alloc | apply pw_below_drewN | apply below_drew1) | exact HB.out)) hb); clear HO_0; clear HB; clear HO_5; have HO_0 := n0_; have HO170 := n1_; have HB := n2_; clear n0_ n1_ n2_; clear hb ho20))
            go_loopg [10] k1 (fun kq v10 w' => ∃ (x10_2 : Int), v10 = .int .i64 x10_2 ∧ Aside0 (chequerlaw02_NumGets.l1 kq y168 x10_2 = some r) ∧ Aside0 (kq ≤ k1) ∧ Aside0 (Kd.N (Kd.slice 5 (Kd.int .u8)) 29 w' w.heap.size (fun k_ => (P0_ k_ ∨ w.heap.size ≤ k_)) v169 y168) ∧ Aside0 (Below w.heap.size w w'))
            case atStart => exact ⟨(0), (by first | rfl | (simp; done) | (simp [*]; done)), H', ⟨Nat.le_refl _⟩, ⟨by (with_reducible repeat (first | apply Kd.N_alloc | apply Kd.N_drewN | apply Kd.N_drew)); exact HO170.out⟩, ⟨by repeat (first | (with_reducible first | exact HB.out | apply below_alloc | apply pw_below_drewN | apply below_drew1) | exact HB.out)⟩⟩
            case round =>
              clear H'
              try clear c1
              try clear p1
              try clear q1
              try clear hx1
              try clear p2
              try clear c4
              try clear c4b0
              try clear c4b1
              try clear c5
              try clear c5b0
              try clear c5b1
              try clear p6
              try clear q7
              try clear c8
              try clear c8b0
              try clear c9
              try clear c9b0
              try clear c10
              try clear c10b0
              try clear c11
              try clear c11b0
              try clear c12
              try clear c14
              try clear p15
              try clear q15
              try clear hx15
              try clear c16
              try clear hx158_0
              try clear p158
              try clear p2
              try clear q158
              try clear q7
              obtain ⟨x10_2, rfl, HA, HK2, HO_9, HB⟩ := hrel
              cases gk with
              | zero => exact absurd HA.out (by simp [chequerlaw02_NumGets.l1])
              | succ k2 =>
                have H := HA.out
                clear HA
                simp only [chequerlaw02_NumGets.l1] at H
                by_cases c21 : x10_2 < 2
                · rw [if_pos c21] at H
                  have c21b0 : decide (x10_2 < 2) = true := decide_eq_true c21
                  clear c21
                  by_cases c22 : 0 ≤ x10_2
                  · rw [if_pos c22] at H
                    have c22b0 : decide (0 ≤ x10_2) = true := decide_eq_true c22
                    clear c22
                    by_cases c23 : x10_2 < (y168.length : Int)
                    · rw [if_pos c23] at H
                      have c23b0 : decide (x10_2 < (y168.length : Int)) = true := decide_eq_true c23
                      clear c23
                      replace H := Option.bind_eq_some_iff.mp H
                      obtain ⟨⟨t173, t174, t175⟩, A240, H⟩ := H
                      replace H : ((chequerref02_Get.f k2 (rd_L1 y168 x10_2)).bind fun bt177 => (if t173 = bt177.1 then (if t174 = bt177.2.1 then (if t175 = bt177.2.2 then (chequerlaw02_NumGets.l1 k2 y168 (wrap64 (x10_2 + 1))) else (some false)) else (some false)) else (some false))) = some r := H
                      have A24 := Aside0.mk A240
                      clear A240
                      replace H := Option.bind_eq_some_iff.mp H
                      obtain ⟨⟨t177, t178, t179⟩, A250, H⟩ := H
                      replace H : (if t173 = t177 then (if t174 = t178 then (if t175 = t179 then (chequerlaw02_NumGets.l1 k2 y168 (wrap64 (x10_2 + 1))) else (some false)) else (some false)) else (some false)) = some r := H
                      have A25 := Aside0.mk A250
                      clear A250
                      by_cases c26 : t173 = t177
                      · rw [if_pos c26] at H
                        have c26b0 : (t173 == t177) = true := beq_iff_eq.mpr c26
                        have c26b1 : (t173 != t177) = false := bne_eq_false_iff_eq.mpr c26
                        clear c26
                        by_cases c27 : t174 = t178
                        · rw [if_pos c27] at H
                          have c27b0 : (t174 == t178) = true := beq_iff_eq.mpr c27
                          have c27b1 : (t174 != t178) = false := bne_eq_false_iff_eq.mpr c27
                          clear c27
                          by_cases c28 : t175 = t179
                          · rw [if_pos c28] at H
                            have c28b0 : (t175 == t179) = true := beq_iff_eq.mpr c28
                            have c28b1 : (t175 != t179) = false := bne_eq_false_iff_eq.mpr c28
                            clear c28
                            have H' := Aside0.mk H
                            clear H
                            obtain ⟨Ao29, co29, eo29⟩ := Kd.N_slice HO_9.out
                            subst eo29
                            have p172 : 0 ≤ (x10_2 : Int) := of_decide_eq_true (by first | (with_reducible assumption) | assumption)
                            have q172 : x10_2 < (y168.length : Int) := of_decide_eq_true (by first | (with_reducible assumption) | assumption)
                            obtain ⟨ad172, A172_0, c172_0, e172, hx172_0, hl172_0, hi172_0⟩ := at_L1 (Kd.N_reads' HO_9.out).2.2 x10_2 p172 q172
                            cases e172
                            obtain ⟨ce172, hce172, hMe172, hcc172⟩ := Kd.N_get HO_9.out [] x10_2 p172 (by first | exact q172 | exact of_decide_eq_true (by first | (with_reducible assumption) | assumption) | (have e_ := (Kd.N_reads' HO_9.out).1; omega))
                            obtain ⟨ua172_0, uc172_0, rfl, ul172_0, ge172_0⟩ := Kd.FK_slice_open hMe172
                            have hv172_0 := hcc172 0 _ rfl
                            rw [Nat.add_zero, show ((Kd.slice 5 (Kd.int .u8))).sz = 1 from rfl, Nat.mul_one] at hv172_0
                            replace hv172_0 := Option.some.inj (hv172_0.symm.trans hx172_0)
                            injection hv172_0 with hva_ hvn_ hvc_
                            rw [hva_] at ge172_0
                            rw [hvc_] at ul172_0
                            have HL172_0 := Aside0.mk (show Kd.V (Kd.int .u8) 5 _ w.heap.size _ _ (rd_L1 y168 x10_2) from Kd.V_mk ul172_0 ge172_0)
                            clear hva_ hvn_ hvc_ ge172_0 ul172_0
                            clear hcc172 hce172
                            have HR172_0 := Aside0.mk hi172_0
                            have HC172_0 := Aside0.mk hl172_0
                            clear hi172_0 hl172_0
                            replace p172 := eq_true p172
                            replace q172 := eq_true q172
                            go_wp2_with (first | ((with_reducible refine gate_callee (f := 17) rfl ?_); refine goesL_ (some 59) rfl rfl Try.func17 (by kernel_rfl) rfl #[.slice A172_0 (rd_L1 y168 x10_2).length c172_0] rfl (by (try simp only [List.map_toArray, List.map_cons, List.map_nil]); first | done | rfl | (simp only [List.length_drop, List.length_take]; rfl)) ?_; (with_reducible refine (num_Get.calls k2 _ _ (rd_L1 y168 x10_2) t173 t174 t175 _ ?side1 ?side2 A24.out).mono ?_); (case side1 => repeat (first | exact (by repeat (first | (with_reducible exact HR172_0.out) | (with_reducible refine Kd.C_alloc ?_ _) | (with_reducible refine Kd.C_drewN ?_ _) | (with_reducible refine Kd.C_drew ?_) | exact HR172_0.out)) | (with_reducible refine Kd.C_alloc ?_ _) | (with_reducible refine Kd.C_drewN ?_ _) | (with_reducible refine Kd.C_drew ?_))); (case side2 => exact HC172_0.out); rintro e w' ⟨rfl, ⟨nd, rfl⟩⟩; refine ⟨_, rfl, ?_⟩; have p176 : 0 ≤ (x10_2 : Int) := of_decide_eq_true (by first | (with_reducible assumption) | assumption); have q176 : x10_2 < (y168.length : Int) := of_decide_eq_true (by first | (with_reducible assumption) | assumption); obtain ⟨ad176, A176_0, c176_0, e176, hx176_0, hl176_0, hi176_0⟩ := at_L1 (Kd.N_reads' HO_9.out).2.2 x10_2 p176 q176; obtain rfl : ad172 = ad176 := (by injection e176); obtain ⟨ce176, hce176, hMe176, hcc176⟩ := Kd.N_get HO_9.out [] x10_2 p176 (by first | exact q176 | exact of_decide_eq_true (by first | (with_reducible assumption) | assumption) | (have e_ := (Kd.N_reads' HO_9.out).1; omega)); obtain ⟨ua176_0, uc176_0, rfl, ul176_0, ge176_0⟩ := Kd.FK_slice_open hMe176; have hv176_0 := hcc176 0 _ rfl; rw [Nat.add_zero, show ((Kd.slice 5 (Kd.int .u8))).sz = 1 from rfl, Nat.mul_one] at hv176_0; replace hv176_0 := Option.some.inj (hv176_0.symm.trans hx176_0); injection hv176_0 with hva_ hvn_ hvc_; rw [hva_] at ge176_0; rw [hvc_] at ul176_0; have HL176_0 := Aside0.mk (show Kd.V (Kd.int .u8) 5 _ w.heap.size _ _ (rd_L1 y168 x10_2) from Kd.V_mk ul176_0 ge176_0); clear hva_ hvn_ hvc_ ge176_0 ul176_0; clear hcc176 hce176; have HR176_0 := Aside0.mk hi176_0; have HC176_0 := Aside0.mk hl176_0; clear hi176_0 hl176_0; replace p176 := eq_true p176; replace q176 := eq_true q176; have ea_ := Option.some.inj (hx172_0.symm.trans hx176_0); injection ea_ with ea_ en_ ec_; subst ea_; subst ec_; clear en_) | ((with_reducible refine gate_callee (f := 18) rfl ?_); refine goesL_ (some 68) rfl rfl Try.func18 (by kernel_rfl) rfl #[.slice A172_0 (rd_L1 y168 x10_2).length c172_0] rfl (by (try simp only [List.map_toArray, List.map_cons, List.map_nil]); first | done | rfl | (simp only [List.length_drop, List.length_take]; rfl)) ?_; (with_reducible refine (chequerref02_Get.calls k2 _ _ (rd_L1 y168 x10_2) t177 t178 t179 _ ?side1 ?side2 A25.out).mono ?_); (case side1 => repeat (first | exact (by repeat (first | (with_reducible exact HR176_0.out) | (with_reducible refine Kd.C_alloc ?_ _) | (with_reducible refine Kd.C_drewN ?_ _) | (with_reducible refine Kd.C_drew ?_) | exact HR176_0.out)) | (with_reducible refine Kd.C_alloc ?_ _) | (with_reducible refine Kd.C_drewN ?_ _) | (with_reducible refine Kd.C_drew ?_))); (case side2 => exact HC176_0.out); rintro e w' ⟨rfl, ⟨nd, rfl⟩⟩; refine ⟨_, rfl, ?_⟩))
                            go_roundg k2
                            case measure => have := HK1.out; have := HK2.out; omega
                            case rel => exact ⟨(wrap64 (x10_2 + 1)), (by first | rfl | (simp; done) | (simp [*]; done)), H', ⟨by have := HK1.out; have := HK2.out; omega⟩, ⟨by (with_reducible repeat (first | apply Kd.N_alloc | apply Kd.N_drewN | apply Kd.N_drew)); exact HO_9.out⟩, ⟨by repeat (first | (with_reducible first | exact HB.out | apply below_alloc | apply pw_below_drewN | apply below_drew1) | exact HB.out)⟩⟩
                          · rw [if_neg c28] at H
                            have c28b0 : (t175 == t179) = false := beq_eq_false_iff_ne.mpr c28
                            have c28b1 : (t175 != t179) = true := bne_iff_ne.mpr c28
                            obtain rfl := Option.some.inj H
                            obtain ⟨Ao30, co30, eo30⟩ := Kd.N_slice HO_9.out
                            subst eo30
                            have p172 : 0 ≤ (x10_2 : Int) := of_decide_eq_true (by first | (with_reducible assumption) | assumption)
                            have q172 : x10_2 < (y168.length : Int) := of_decide_eq_true (by first | (with_reducible assumption) | assumption)
                            obtain ⟨ad172, A172_0, c172_0, e172, hx172_0, hl172_0, hi172_0⟩ := at_L1 (Kd.N_reads' HO_9.out).2.2 x10_2 p172 q172
                            cases e172
                            obtain ⟨ce172, hce172, hMe172, hcc172⟩ := Kd.N_get HO_9.out [] x10_2 p172 (by first | exact q172 | exact of_decide_eq_true (by first | (with_reducible assumption) | assumption) | (have e_ := (Kd.N_reads' HO_9.out).1; omega))
                            obtain ⟨ua172_0, uc172_0, rfl, ul172_0, ge172_0⟩ := Kd.FK_slice_open hMe172
                            have hv172_0 := hcc172 0 _ rfl
                            rw [Nat.add_zero, show ((Kd.slice 5 (Kd.int .u8))).sz = 1 from rfl, Nat.mul_one] at hv172_0
                            replace hv172_0 := Option.some.inj (hv172_0.symm.trans hx172_0)
                            injection hv172_0 with hva_ hvn_ hvc_
                            rw [hva_] at ge172_0
                            rw [hvc_] at ul172_0
                            have HL172_0 := Aside0.mk (show Kd.V (Kd.int .u8) 5 _ w.heap.size _ _ (rd_L1 y168 x10_2) from Kd.V_mk ul172_0 ge172_0)
                            clear hva_ hvn_ hvc_ ge172_0 ul172_0
                            clear hcc172 hce172
                            have HR172_0 := Aside0.mk hi172_0
                            have HC172_0 := Aside0.mk hl172_0
                            clear hi172_0 hl172_0
                            replace p172 := eq_true p172
                            replace q172 := eq_true q172
                            go_wp2_with (first | ((with_reducible refine gate_callee (f := 17) rfl ?_); refine goesL_ (some 59) rfl rfl Try.func17 (by kernel_rfl) rfl #[.slice A172_0 (rd_L1 y168 x10_2).length c172_0] rfl (by (try simp only [List.map_toArray, List.map_cons, List.map_nil]); first | done | rfl | (simp only [List.length_drop, List.length_take]; rfl)) ?_; (with_reducible refine (num_Get.calls k2 _ _ (rd_L1 y168 x10_2) t173 t174 t175 _ ?side1 ?side2 A24.out).mono ?_); (case side1 => repeat (first | exact (by repeat (first | (with_reducible exact HR172_0.out) | (with_reducible refine Kd.C_alloc ?_ _) | (with_reducible refine Kd.C_drewN ?_ _) | (with_reducible refine Kd.C_drew ?_) | exact HR172_0.out)) | (with_reducible refine Kd.C_alloc ?_ _) | (with_reducible refine Kd.C_drewN ?_ _) | (with_reducible refine Kd.C_drew ?_))); (case side2 => exact HC172_0.out); rintro e w' ⟨rfl, ⟨nd, rfl⟩⟩; refine ⟨_, rfl, ?_⟩; have p176 : 0 ≤ (x10_2 : Int) := of_decide_eq_true (by first | (with_reducible assumption) | assumption); have q176 : x10_2 < (y168.length : Int) := of_decide_eq_true (by first | (with_reducible assumption) | assumption); obtain ⟨ad176, A176_0, c176_0, e176, hx176_0, hl176_0, hi176_0⟩ := at_L1 (Kd.N_reads' HO_9.out).2.2 x10_2 p176 q176; obtain rfl : ad172 = ad176 := (by injection e176); obtain ⟨ce176, hce176, hMe176, hcc176⟩ := Kd.N_get HO_9.out [] x10_2 p176 (by first | exact q176 | exact of_decide_eq_true (by first | (with_reducible assumption) | assumption) | (have e_ := (Kd.N_reads' HO_9.out).1; omega)); obtain ⟨ua176_0, uc176_0, rfl, ul176_0, ge176_0⟩ := Kd.FK_slice_open hMe176; have hv176_0 := hcc176 0 _ rfl; rw [Nat.add_zero, show ((Kd.slice 5 (Kd.int .u8))).sz = 1 from rfl, Nat.mul_one] at hv176_0; replace hv176_0 := Option.some.inj (hv176_0.symm.trans hx176_0); injection hv176_0 with hva_ hvn_ hvc_; rw [hva_] at ge176_0; rw [hvc_] at ul176_0; have HL176_0 := Aside0.mk (show Kd.V (Kd.int .u8) 5 _ w.heap.size _ _ (rd_L1 y168 x10_2) from Kd.V_mk ul176_0 ge176_0); clear hva_ hvn_ hvc_ ge176_0 ul176_0; clear hcc176 hce176; have HR176_0 := Aside0.mk hi176_0; have HC176_0 := Aside0.mk hl176_0; clear hi176_0 hl176_0; replace p176 := eq_true p176; replace q176 := eq_true q176; have ea_ := Option.some.inj (hx172_0.symm.trans hx176_0); injection ea_ with ea_ en_ ec_; subst ea_; subst ec_; clear en_) | ((with_reducible refine gate_callee (f := 18) rfl ?_); refine goesL_ (some 68) rfl rfl Try.func18 (by kernel_rfl) rfl #[.slice A172_0 (rd_L1 y168 x10_2).length c172_0] rfl (by (try simp only [List.map_toArray, List.map_cons, List.map_nil]); first | done | rfl | (simp only [List.length_drop, List.length_take]; rfl)) ?_; (with_reducible refine (chequerref02_Get.calls k2 _ _ (rd_L1 y168 x10_2) t177 t178 t179 _ ?side1 ?side2 A25.out).mono ?_); (case side1 => repeat (first | exact (by repeat (first | (with_reducible exact HR176_0.out) | (with_reducible refine Kd.C_alloc ?_ _) | (with_reducible refine Kd.C_drewN ?_ _) | (with_reducible refine Kd.C_drew ?_) | exact HR176_0.out)) | (with_reducible refine Kd.C_alloc ?_ _) | (with_reducible refine Kd.C_drewN ?_ _) | (with_reducible refine Kd.C_drew ?_))); (case side2 => exact HC176_0.out); rintro e w' ⟨rfl, ⟨nd, rfl⟩⟩; refine ⟨_, rfl, ?_⟩))
                            go_ret
                            exact ⟨by first | rfl | (simp [errW_none, errW_some] <;> rfl) | (simp only [← hji3]; first | rfl | (simp [errW_none, errW_some] <;> rfl)) | (simp [*, errW_none, errW_some] <;> rfl), by repeat (first | (with_reducible first | exact HB.out | apply below_alloc | apply pw_below_drewN | apply below_drew1) | exact HB.out)⟩
                        · rw [if_neg c27] at H
                          have c27b0 : (t174 == t178) = false := beq_eq_false_iff_ne.mpr c27
                          have c27b1 : (t174 != t178) = true := bne_iff_ne.mpr c27
                          obtain rfl := Option.some.inj H
                          obtain ⟨Ao31, co31, eo31⟩ := Kd.N_slice HO_9.out
                          subst eo31
                          have p172 : 0 ≤ (x10_2 : Int) := of_decide_eq_true (by first | (with_reducible assumption) | assumption)
                          have q172 : x10_2 < (y168.length : Int) := of_decide_eq_true (by first | (with_reducible assumption) | assumption)
                          obtain ⟨ad172, A172_0, c172_0, e172, hx172_0, hl172_0, hi172_0⟩ := at_L1 (Kd.N_reads' HO_9.out).2.2 x10_2 p172 q172
                          cases e172
                          obtain ⟨ce172, hce172, hMe172, hcc172⟩ := Kd.N_get HO_9.out [] x10_2 p172 (by first | exact q172 | exact of_decide_eq_true (by first | (with_reducible assumption) | assumption) | (have e_ := (Kd.N_reads' HO_9.out).1; omega))
                          obtain ⟨ua172_0, uc172_0, rfl, ul172_0, ge172_0⟩ := Kd.FK_slice_open hMe172
                          have hv172_0 := hcc172 0 _ rfl
                          rw [Nat.add_zero, show ((Kd.slice 5 (Kd.int .u8))).sz = 1 from rfl, Nat.mul_one] at hv172_0
                          replace hv172_0 := Option.some.inj (hv172_0.symm.trans hx172_0)
                          injection hv172_0 with hva_ hvn_ hvc_
                          rw [hva_] at ge172_0
                          rw [hvc_] at ul172_0
                          have HL172_0 := Aside0.mk (show Kd.V (Kd.int .u8) 5 _ w.heap.size _ _ (rd_L1 y168 x10_2) from Kd.V_mk ul172_0 ge172_0)
                          clear hva_ hvn_ hvc_ ge172_0 ul172_0
                          clear hcc172 hce172
                          have HR172_0 := Aside0.mk hi172_0
                          have HC172_0 := Aside0.mk hl172_0
                          clear hi172_0 hl172_0
                          replace p172 := eq_true p172
                          replace q172 := eq_true q172
                          go_wp2_with (first | ((with_reducible refine gate_callee (f := 17) rfl ?_); refine goesL_ (some 59) rfl rfl Try.func17 (by kernel_rfl) rfl #[.slice A172_0 (rd_L1 y168 x10_2).length c172_0] rfl (by (try simp only [List.map_toArray, List.map_cons, List.map_nil]); first | done | rfl | (simp only [List.length_drop, List.length_take]; rfl)) ?_; (with_reducible refine (num_Get.calls k2 _ _ (rd_L1 y168 x10_2) t173 t174 t175 _ ?side1 ?side2 A24.out).mono ?_); (case side1 => repeat (first | exact (by repeat (first | (with_reducible exact HR172_0.out) | (with_reducible refine Kd.C_alloc ?_ _) | (with_reducible refine Kd.C_drewN ?_ _) | (with_reducible refine Kd.C_drew ?_) | exact HR172_0.out)) | (with_reducible refine Kd.C_alloc ?_ _) | (with_reducible refine Kd.C_drewN ?_ _) | (with_reducible refine Kd.C_drew ?_))); (case side2 => exact HC172_0.out); rintro e w' ⟨rfl, ⟨nd, rfl⟩⟩; refine ⟨_, rfl, ?_⟩; have p176 : 0 ≤ (x10_2 : Int) := of_decide_eq_true (by first | (with_reducible assumption) | assumption); have q176 : x10_2 < (y168.length : Int) := of_decide_eq_true (by first | (with_reducible assumption) | assumption); obtain ⟨ad176, A176_0, c176_0, e176, hx176_0, hl176_0, hi176_0⟩ := at_L1 (Kd.N_reads' HO_9.out).2.2 x10_2 p176 q176; obtain rfl : ad172 = ad176 := (by injection e176); obtain ⟨ce176, hce176, hMe176, hcc176⟩ := Kd.N_get HO_9.out [] x10_2 p176 (by first | exact q176 | exact of_decide_eq_true (by first | (with_reducible assumption) | assumption) | (have e_ := (Kd.N_reads' HO_9.out).1; omega)); obtain ⟨ua176_0, uc176_0, rfl, ul176_0, ge176_0⟩ := Kd.FK_slice_open hMe176; have hv176_0 := hcc176 0 _ rfl; rw [Nat.add_zero, show ((Kd.slice 5 (Kd.int .u8))).sz = 1 from rfl, Nat.mul_one] at hv176_0; replace hv176_0 := Option.some.inj (hv176_0.symm.trans hx176_0); injection hv176_0 with hva_ hvn_ hvc_; rw [hva_] at ge176_0; rw [hvc_] at ul176_0; have HL176_0 := Aside0.mk (show Kd.V (Kd.int .u8) 5 _ w.heap.size _ _ (rd_L1 y168 x10_2) from Kd.V_mk ul176_0 ge176_0); clear hva_ hvn_ hvc_ ge176_0 ul176_0; clear hcc176 hce176; have HR176_0 := Aside0.mk hi176_0; have HC176_0 := Aside0.mk hl176_0; clear hi176_0 hl176_0; replace p176 := eq_true p176; replace q176 := eq_true q176; have ea_ := Option.some.inj (hx172_0.symm.trans hx176_0); injection ea_ with ea_ en_ ec_; subst ea_; subst ec_; clear en_) | ((with_reducible refine gate_callee (f := 18) rfl ?_); refine goesL_ (some 68) rfl rfl Try.func18 (by kernel_rfl) rfl #[.slice A172_0 (rd_L1 y168 x10_2).length c172_0] rfl (by (try simp only [List.map_toArray, List.map_cons, List.map_nil]); first | done | rfl | (simp only [List.length_drop, List.length_take]; rfl)) ?_; (with_reducible refine (chequerref02_Get.calls k2 _ _ (rd_L1 y168 x10_2) t177 t178 t179 _ ?side1 ?side2 A25.out).mono ?_); (case side1 => repeat (first | exact (by repeat (first | (with_reducible exact HR176_0.out) | (with_reducible refine Kd.C_alloc ?_ _) | (with_reducible refine Kd.C_drewN ?_ _) | (with_reducible refine Kd.C_drew ?_) | exact HR176_0.out)) | (with_reducible refine Kd.C_alloc ?_ _) | (with_reducible refine Kd.C_drewN ?_ _) | (with_reducible refine Kd.C_drew ?_))); (case side2 => exact HC176_0.out); rintro e w' ⟨rfl, ⟨nd, rfl⟩⟩; refine ⟨_, rfl, ?_⟩))
                          go_ret
                          exact ⟨by first | rfl | (simp [errW_none, errW_some] <;> rfl) | (simp only [← hji3]; first | rfl | (simp [errW_none, errW_some] <;> rfl)) | (simp [*, errW_none, errW_some] <;> rfl), by repeat (first | (with_reducible first | exact HB.out | apply below_alloc | apply pw_below_drewN | apply below_drew1) | exact HB.out)⟩
                      · rw [if_neg c26] at H
                        have c26b0 : (t173 == t177) = false := beq_eq_false_iff_ne.mpr c26
                        have c26b1 : (t173 != t177) = true := bne_iff_ne.mpr c26
                        obtain rfl := Option.some.inj H
                        obtain ⟨Ao32, co32, eo32⟩ := Kd.N_slice HO_9.out
                        subst eo32
                        have p172 : 0 ≤ (x10_2 : Int) := of_decide_eq_true (by first | (with_reducible assumption) | assumption)
                        have q172 : x10_2 < (y168.length : Int) := of_decide_eq_true (by first | (with_reducible assumption) | assumption)
                        obtain ⟨ad172, A172_0, c172_0, e172, hx172_0, hl172_0, hi172_0⟩ := at_L1 (Kd.N_reads' HO_9.out).2.2 x10_2 p172 q172
                        cases e172
                        obtain ⟨ce172, hce172, hMe172, hcc172⟩ := Kd.N_get HO_9.out [] x10_2 p172 (by first | exact q172 | exact of_decide_eq_true (by first | (with_reducible assumption) | assumption) | (have e_ := (Kd.N_reads' HO_9.out).1; omega))
                        obtain ⟨ua172_0, uc172_0, rfl, ul172_0, ge172_0⟩ := Kd.FK_slice_open hMe172
                        have hv172_0 := hcc172 0 _ rfl
                        rw [Nat.add_zero, show ((Kd.slice 5 (Kd.int .u8))).sz = 1 from rfl, Nat.mul_one] at hv172_0
                        replace hv172_0 := Option.some.inj (hv172_0.symm.trans hx172_0)
                        injection hv172_0 with hva_ hvn_ hvc_
                        rw [hva_] at ge172_0
                        rw [hvc_] at ul172_0
                        have HL172_0 := Aside0.mk (show Kd.V (Kd.int .u8) 5 _ w.heap.size _ _ (rd_L1 y168 x10_2) from Kd.V_mk ul172_0 ge172_0)
                        clear hva_ hvn_ hvc_ ge172_0 ul172_0
                        clear hcc172 hce172
                        have HR172_0 := Aside0.mk hi172_0
                        have HC172_0 := Aside0.mk hl172_0
                        clear hi172_0 hl172_0
                        replace p172 := eq_true p172
                        replace q172 := eq_true q172
                        go_wp2_with (first | ((with_reducible refine gate_callee (f := 17) rfl ?_); refine goesL_ (some 59) rfl rfl Try.func17 (by kernel_rfl) rfl #[.slice A172_0 (rd_L1 y168 x10_2).length c172_0] rfl (by (try simp only [List.map_toArray, List.map_cons, List.map_nil]); first | done | rfl | (simp only [List.length_drop, List.length_take]; rfl)) ?_; (with_reducible refine (num_Get.calls k2 _ _ (rd_L1 y168 x10_2) t173 t174 t175 _ ?side1 ?side2 A24.out).mono ?_); (case side1 => repeat (first | exact (by repeat (first | (with_reducible exact HR172_0.out) | (with_reducible refine Kd.C_alloc ?_ _) | (with_reducible refine Kd.C_drewN ?_ _) | (with_reducible refine Kd.C_drew ?_) | exact HR172_0.out)) | (with_reducible refine Kd.C_alloc ?_ _) | (with_reducible refine Kd.C_drewN ?_ _) | (with_reducible refine Kd.C_drew ?_))); (case side2 => exact HC172_0.out); rintro e w' ⟨rfl, ⟨nd, rfl⟩⟩; refine ⟨_, rfl, ?_⟩; have p176 : 0 ≤ (x10_2 : Int) := of_decide_eq_true (by first | (with_reducible assumption) | assumption); have q176 : x10_2 < (y168.length : Int) := of_decide_eq_true (by first | (with_reducible assumption) | assumption); obtain ⟨ad176, A176_0, c176_0, e176, hx176_0, hl176_0, hi176_0⟩ := at_L1 (Kd.N_reads' HO_9.out).2.2 x10_2 p176 q176; obtain rfl : ad172 = ad176 := (by injection e176); obtain ⟨ce176, hce176, hMe176, hcc176⟩ := Kd.N_get HO_9.out [] x10_2 p176 (by first | exact q176 | exact of_decide_eq_true (by first | (with_reducible assumption) | assumption) | (have e_ := (Kd.N_reads' HO_9.out).1; omega)); obtain ⟨ua176_0, uc176_0, rfl, ul176_0, ge176_0⟩ := Kd.FK_slice_open hMe176; have hv176_0 := hcc176 0 _ rfl; rw [Nat.add_zero, show ((Kd.slice 5 (Kd.int .u8))).sz = 1 from rfl, Nat.mul_one] at hv176_0; replace hv176_0 := Option.some.inj (hv176_0.symm.trans hx176_0); injection hv176_0 with hva_ hvn_ hvc_; rw [hva_] at ge176_0; rw [hvc_] at ul176_0; have HL176_0 := Aside0.mk (show Kd.V (Kd.int .u8) 5 _ w.heap.size _ _ (rd_L1 y168 x10_2) from Kd.V_mk ul176_0 ge176_0); clear hva_ hvn_ hvc_ ge176_0 ul176_0; clear hcc176 hce176; have HR176_0 := Aside0.mk hi176_0; have HC176_0 := Aside0.mk hl176_0; clear hi176_0 hl176_0; replace p176 := eq_true p176; replace q176 := eq_true q176; have ea_ := Option.some.inj (hx172_0.symm.trans hx176_0); injection ea_ with ea_ en_ ec_; subst ea_; subst ec_; clear en_) | ((with_reducible refine gate_callee (f := 18) rfl ?_); refine goesL_ (some 68) rfl rfl Try.func18 (by kernel_rfl) rfl #[.slice A172_0 (rd_L1 y168 x10_2).length c172_0] rfl (by (try simp only [List.map_toArray, List.map_cons, List.map_nil]); first | done | rfl | (simp only [List.length_drop, List.length_take]; rfl)) ?_; (with_reducible refine (chequerref02_Get.calls k2 _ _ (rd_L1 y168 x10_2) t177 t178 t179 _ ?side1 ?side2 A25.out).mono ?_); (case side1 => repeat (first | exact (by repeat (first | (with_reducible exact HR176_0.out) | (with_reducible refine Kd.C_alloc ?_ _) | (with_reducible refine Kd.C_drewN ?_ _) | (with_reducible refine Kd.C_drew ?_) | exact HR176_0.out)) | (with_reducible refine Kd.C_alloc ?_ _) | (with_reducible refine Kd.C_drewN ?_ _) | (with_reducible refine Kd.C_drew ?_))); (case side2 => exact HC176_0.out); rintro e w' ⟨rfl, ⟨nd, rfl⟩⟩; refine ⟨_, rfl, ?_⟩))
                        go_ret
                        exact ⟨by first | rfl | (simp [errW_none, errW_some] <;> rfl) | (simp only [← hji3]; first | rfl | (simp [errW_none, errW_some] <;> rfl)) | (simp [*, errW_none, errW_some] <;> rfl), by repeat (first | (with_reducible first | exact HB.out | apply below_alloc | apply pw_below_drewN | apply below_drew1) | exact HB.out)⟩
                    · rw [if_neg c23] at H
                      exact absurd H (by simp)
                  · rw [if_neg c22] at H
                    exact absurd H (by simp)
                · rw [if_neg c21] at H
                  have c21b0 : decide (x10_2 < 2) = false := decide_eq_false c21
                  clear c21
                  replace H := Option.bind_eq_some_iff.mp H
                  obtain ⟨t171, A330, H⟩ := H
                  replace H : (some t171) = some r := H
                  have A33 := Aside0.mk A330
                  clear A330
                  obtain rfl := Option.some.inj H
                  go_wp2_with (first | ((with_reducible refine gate_callee (f := 14) rfl ?_); refine goesL_ (some 85) rfl rfl Try.func14 (by kernel_rfl) rfl #[] rfl (by (try simp only [List.map_toArray, List.map_cons, List.map_nil]); first | done | rfl | (simp only [List.length_drop, List.length_take]; rfl)) ?_; (with_reducible refine (chequerlaw02_lives.calls  t171 _ A33.out).mono ?_); rintro e w34 ⟨rfl, hb⟩; refine ⟨_, rfl, ?_⟩; have n0_ := Aside0.mk (Kd.N_below (by (with_reducible repeat (first | apply Kd.N_alloc | apply Kd.N_drewN | apply Kd.N_drew)); exact HO_9.out) hb); have n1_ := Aside0.mk (below_step (by repeat (first | (with_reducible first | exact HB.out | apply below_alloc | apply pw_below_drewN | apply below_drew1) | exact HB.out)) hb); clear HO_9; clear HB; have HO_9 := n0_; have HB := n1_; clear n0_ n1_; (try clear hb); (try clear hb2); (try clear hk); (try clear hi)))
                  go_ret
                  exact ⟨by first | rfl | (simp [errW_none, errW_some] <;> rfl) | (simp only [← hji3]; first | rfl | (simp [errW_none, errW_some] <;> rfl)) | (simp [*, errW_none, errW_some] <;> rfl), by repeat (first | (with_reducible first | exact HB.out | apply below_alloc | apply pw_below_drewN | apply below_drew1) | exact HB.out)⟩
    · rw [if_neg c5] at H
      exact absurd H (by simp)
  · rw [if_neg c4] at H
    exact absurd H (by simp)

/-- THE ONE PURE STATEMENT of chequerlaw02_NumGets: yours. -/
def chequerlaw02_NumGets.Pure : Prop := ∀ (l0 : List Int) (a1 : Int), l0.length ≤ maxLen → l0.length * 1 ≤ 140737488351232 → (∀ x ∈ l0, (Lit.int .u8 x).wf = true) → (Lit.int .i64 a1).wf = true → ∃ k, chequerlaw02_NumGets.f k l0 a1 = some true
theorem chequerlaw02_NumGets.walk (P : chequerlaw02_NumGets.Pure) (a0 : Option Addr) (len0 cap0 : Nat) (z0 : List Int) (a1 : Int) (w : World) (w0 : (a0 = none ∧ len0 = 0 ∧ cap0 = 0 ∧ z0 = []) ∨ ∃ x, a0 = some x ∧ len0 ≤ cap0 ∧ cap0 ≤ maxLen ∧ z0.length = cap0 ∧ (∀ i, i < z0.length → w.cell? (x.add i) = some (.int .u8 (z0.getD i 0))) ∧ ∀ n ∈ z0, (Lit.int .u8 n).wf = true) (y0 : len0 * 1 ≤ 140737488351232) (w1 : (Lit.int .i64 a1).wf = true) :
    Calls Try.prog 5 #[.slice a0 len0 cap0, .int .i64 a1] w fun e w' => e = .returned (.bool true) ∧ Below w.heap.size w w' := by
  obtain ⟨l0, rfl, hr0, hm0, hw0, hc0⟩ := ReadsInt.ofRowC w0
  obtain ⟨k, h⟩ := P l0 a1 hm0 y0 hw0 w1
  refine (chequerlaw02_NumGets.calls k (fun _ => True) _ _ l0 a1 true w (Mo.V_any (Kd.heap_int .u8) (Kd.C_of_reads (d := (0 : Int)) (h1 := fun _ => rfl) hr0) hc0) h).mono ?_
  rintro e w' ⟨rfl, hd⟩
  exact ⟨rfl, hd⟩

/-! ### chequerlaw02_NumLengths: function 6 -/
mutual
def chequerlaw02_NumLengths.l0 : Nat → List Int → Int → Int → Int → Option (Bool)
  | 0, _, _, _, _ => none
  | k + 1, x4, x5, x6, x7 => if x7 > 0 then (chequerlaw02_NumLengths.l0 k x4 x5 (wrap64 (x6 + 1)) (wrap64 (Int.tdiv x7 128))) else (if x5 = 0 then (chequerlaw02_NumLengths.j1 k x4 ((x4.length : Int) != x6)) else (chequerlaw02_NumLengths.j1 k x4 true))
def chequerlaw02_NumLengths.j1 : Nat → List Int → Bool → Option (Bool)
  | 0, _, _ => none
  | k + 1, x4, x34 => if x34 = true then (some false) else (chequerlaw02_NumLengths.l1 k x4 0)
def chequerlaw02_NumLengths.l1 : Nat → List Int → Int → Option (Bool)
  | 0, _, _ => none
  | k + 1, x4, x8 => if x8 < (x4.length : Int) then (if 0 ≤ x8 then (if ((decide ((rd x4 x8) ≥ 128)) != (decide (x8 < (wrap64 ((x4.length : Int) - 1))))) = true then (some false) else (if x8 ≤ (x4.length : Int) then ((num_Get.f k (x4.take (x8 : Int).toNat)).bind fun bt191 => (if bt191.2.1 = 0 then (if bt191.2.2 = 6 then (chequerlaw02_NumLengths.l1 k x4 (wrap64 (x8 + 1))) else (some false)) else (some false))) else (none))) else (none)) else ((chequerlaw02_lives.f).bind fun t185 => (some t185))
end
def chequerlaw02_NumLengths.f (k : Nat) (a0 : Int) : Option (Bool) := (chequerref02_Limit.f a0).bind fun t180 => ((num_Put.f t180).bind fun bt181 => (chequerlaw02_NumLengths.l0 k bt181.1 bt181.2 1 (wrap64 (Int.tdiv t180 128))))
theorem chequerlaw02_NumLengths.mono_l : ∀ k, (∀ y0 y1 y2 y3, LeO (chequerlaw02_NumLengths.l0 k y0 y1 y2 y3) (chequerlaw02_NumLengths.l0 (k + 1) y0 y1 y2 y3)) ∧ (∀ y0 y1, LeO (chequerlaw02_NumLengths.j1 k y0 y1) (chequerlaw02_NumLengths.j1 (k + 1) y0 y1)) ∧ (∀ y0 y1, LeO (chequerlaw02_NumLengths.l1 k y0 y1) (chequerlaw02_NumLengths.l1 (k + 1) y0 y1))
  | 0 => ⟨fun _ _ _ _ r h => by simp [chequerlaw02_NumLengths.l0] at h, fun _ _ r h => by simp [chequerlaw02_NumLengths.j1] at h, fun _ _ r h => by simp [chequerlaw02_NumLengths.l1] at h⟩
  | k + 1 => by
    obtain ⟨ih0, ih1, ih2⟩ := chequerlaw02_NumLengths.mono_l k
    refine ⟨?_, ?_, ?_⟩
    · intro y0 y1 y2 y3
      unfold chequerlaw02_NumLengths.l0
      repeat' first
      | (with_reducible exact ih0 _ _ _ _)
      | (with_reducible exact ih1 _ _)
      | (with_reducible exact ih2 _ _)
      | (with_reducible exact num_Get.mono _ _)
      | (with_reducible exact LeO.refl _)
      | (with_reducible exact LeO.none _)
      | (with_reducible refine LeO.ite ?_ ?_)
      | (with_reducible refine LeO.bind ?_ (fun _ => ?_))
      | exact ih0 _ _ _ _
      | exact ih1 _ _
      | exact ih2 _ _
      | exact num_Get.mono _ _
      | exact LeO.none _
      | refine LeO.ite ?_ ?_
      | refine LeO.bind ?_ (fun _ => ?_)
    · intro y0 y1
      unfold chequerlaw02_NumLengths.j1
      repeat' first
      | (with_reducible exact ih0 _ _ _ _)
      | (with_reducible exact ih1 _ _)
      | (with_reducible exact ih2 _ _)
      | (with_reducible exact num_Get.mono _ _)
      | (with_reducible exact LeO.refl _)
      | (with_reducible exact LeO.none _)
      | (with_reducible refine LeO.ite ?_ ?_)
      | (with_reducible refine LeO.bind ?_ (fun _ => ?_))
      | exact ih0 _ _ _ _
      | exact ih1 _ _
      | exact ih2 _ _
      | exact num_Get.mono _ _
      | exact LeO.none _
      | refine LeO.ite ?_ ?_
      | refine LeO.bind ?_ (fun _ => ?_)
    · intro y0 y1
      unfold chequerlaw02_NumLengths.l1
      repeat' first
      | (with_reducible exact ih0 _ _ _ _)
      | (with_reducible exact ih1 _ _)
      | (with_reducible exact ih2 _ _)
      | (with_reducible exact num_Get.mono _ _)
      | (with_reducible exact LeO.refl _)
      | (with_reducible exact LeO.none _)
      | (with_reducible refine LeO.ite ?_ ?_)
      | (with_reducible refine LeO.bind ?_ (fun _ => ?_))
      | exact ih0 _ _ _ _
      | exact ih1 _ _
      | exact ih2 _ _
      | exact num_Get.mono _ _
      | exact LeO.none _
      | refine LeO.ite ?_ ?_
      | refine LeO.bind ?_ (fun _ => ?_)
theorem chequerlaw02_NumLengths.mono : ∀ a0 k, LeO (chequerlaw02_NumLengths.f k a0) (chequerlaw02_NumLengths.f (k + 1) a0) := by
  intro a0 k
  obtain ⟨ih0, ih1, ih2⟩ := chequerlaw02_NumLengths.mono_l k
  unfold chequerlaw02_NumLengths.f
  repeat' first
      | (with_reducible exact ih0 _ _ _ _)
      | (with_reducible exact ih1 _ _)
      | (with_reducible exact ih2 _ _)
      | (with_reducible exact num_Get.mono _ _)
      | (with_reducible exact LeO.refl _)
      | (with_reducible exact LeO.none _)
      | (with_reducible refine LeO.ite ?_ ?_)
      | (with_reducible refine LeO.bind ?_ (fun _ => ?_))
      | exact ih0 _ _ _ _
      | exact ih1 _ _
      | exact ih2 _ _
      | exact num_Get.mono _ _
      | exact LeO.none _
      | refine LeO.ite ?_ ?_
      | refine LeO.bind ?_ (fun _ => ?_)
set_option maxHeartbeats 8000000 in
set_option maxRecDepth 100000 in
theorem chequerlaw02_NumLengths.calls (k : Nat) (a0 : Int) (r : Bool) (w : World) (h : chequerlaw02_NumLengths.f k a0 = some r) :
    Calls Try.prog 6 #[.int .i64 a0] w fun e w' => e = .returned (.bool r) ∧ Below w.heap.size w w' := by
  have HB := Aside0.mk (Below.refl w.heap.size w)
  have H : ((chequerref02_Limit.f a0).bind fun t180 => ((num_Put.f t180).bind fun bt181 => (chequerlaw02_NumLengths.l0 k bt181.1 bt181.2 1 (wrap64 (Int.tdiv t180 128))))) = some r := h
  clear h
  replace H := Option.bind_eq_some_iff.mp H
  obtain ⟨t180, A20, H⟩ := H
  replace H : ((num_Put.f t180).bind fun bt181 => (chequerlaw02_NumLengths.l0 k bt181.1 bt181.2 1 (wrap64 (Int.tdiv t180 128)))) = some r := H
  have A2 := Aside0.mk A20
  clear A20
  replace H := Option.bind_eq_some_iff.mp H
  obtain ⟨⟨t181, t182⟩, A30, H⟩ := H
  replace H : (chequerlaw02_NumLengths.l0 k t181 t182 1 (wrap64 (Int.tdiv t180 128))) = some r := H
  have A3 := Aside0.mk A30
  clear A30
  have H' := Aside0.mk H
  clear H
  go_enter Try.func6, Try.ntmps6
  go_wp2_with (first | ((with_reducible refine gate_callee (f := 10) rfl ?_); refine goesL_ (some 13) rfl rfl Try.func10 (by kernel_rfl) rfl #[.int .i64 a0] rfl (by (try simp only [List.map_toArray, List.map_cons, List.map_nil]); first | done | rfl | (simp only [List.length_drop, List.length_take]; rfl)) ?_; (with_reducible refine (chequerref02_Limit.calls a0 t180 _ A2.out).mono ?_); rintro e w' ⟨rfl, ⟨nd, rfl⟩⟩; refine ⟨_, rfl, ?_⟩) | ((with_reducible refine gate_callee (f := 15) rfl ?_); refine goesL_ (some 16) rfl rfl Try.func15 (by kernel_rfl) rfl #[.int .i64 t180] rfl (by (try simp only [List.map_toArray, List.map_cons, List.map_nil]); first | done | rfl | (simp only [List.length_drop, List.length_take]; rfl)) ?_; (with_reducible refine (num_Put.calls t180 t181 t182 _ A3.out).mono ?_); rintro e w4 ⟨v183, rfl, ho0, hb⟩; refine ⟨_, rfl, ?_⟩; have n0_ := Aside0.mk (Kd.R_lower ho0 (below_size (by repeat (first | (with_reducible first | exact HB.out | apply below_alloc | apply pw_below_drewN | apply below_drew1) | exact HB.out)))); have n1_ := Aside0.mk (below_step (by repeat (first | (with_reducible first | exact HB.out | apply below_alloc | apply pw_below_drewN | apply below_drew1) | exact HB.out)) hb); clear HB; have HO184 := n0_; have HB := n1_; clear n0_ n1_; (try clear hb); (try clear hb2); (try clear hk); (try clear hi); (try clear ho0)))
  go_loopg [6, 7] k (fun kq v6 v7 w' => ∃ (x6_1 : Int) (x7_1 : Int), v6 = .int .i64 x6_1 ∧ v7 = .int .i64 x7_1 ∧ Aside0 (chequerlaw02_NumLengths.l0 kq t181 t182 x6_1 x7_1 = some r) ∧ Aside0 (kq ≤ k) ∧ Aside0 (Kd.R (Kd.int .u8) 5 w' w.heap.size (fun _ => True) v183 t181) ∧ Aside0 (Below w.heap.size w w'))
  case atStart => exact ⟨(1), (wrap64 (Int.tdiv t180 128)), (by first | rfl | (simp; done) | (simp [*]; done)), (by first | rfl | (simp; done) | (simp [*]; done)), H', ⟨Nat.le_refl _⟩, ⟨by (with_reducible repeat (first | apply Kd.R_alloc | apply Kd.R_drewN | apply Kd.R_drew)); exact HO184.out⟩, ⟨by repeat (first | (with_reducible first | exact HB.out | apply below_alloc | apply pw_below_drewN | apply below_drew1) | exact HB.out)⟩⟩
  case round =>
    clear H'
    try clear c1
    try clear p2
    obtain ⟨x6_1, x7_1, rfl, rfl, HA, HK1, HO_4, HB⟩ := hrel
    cases gk with
    | zero => exact absurd HA.out (by simp [chequerlaw02_NumLengths.l0])
    | succ k1 =>
      have H := HA.out
      clear HA
      simp only [chequerlaw02_NumLengths.l0] at H
      by_cases c5 : x7_1 > 0
      · rw [if_pos c5] at H
        have c5b0 : decide (0 < x7_1) = true := decide_eq_true c5
        clear c5
        have H' := Aside0.mk H
        clear H
        go_wp2
        go_roundg k1
        case measure => have := HK1.out; omega
        case rel => exact ⟨(wrap64 (x6_1 + 1)), (wrap64 (Int.tdiv x7_1 128)), (by first | rfl | (simp; done) | (simp [*]; done)), (by first | rfl | (simp; done) | (simp [*]; done)), H', ⟨by have := HK1.out; omega⟩, ⟨by (with_reducible repeat (first | apply Kd.R_alloc | apply Kd.R_drewN | apply Kd.R_drew)); exact HO_4.out⟩, ⟨by repeat (first | (with_reducible first | exact HB.out | apply below_alloc | apply pw_below_drewN | apply below_drew1) | exact HB.out)⟩⟩
      · rw [if_neg c5] at H
        have c5b0 : decide (0 < x7_1) = false := decide_eq_false c5
        clear c5
        have HC6 := Aside0.mk H
        clear H
        go_upto_region 8 with (fail)
        go_cut [34] (fun v34 wc => ∃ (kq : Nat) (x34_5 : Bool), v34 = .bool x34_5 ∧ Aside0 (chequerlaw02_NumLengths.j1 kq t181 x34_5 = some r) ∧ Aside0 (kq ≤ k1) ∧ Aside0 (Kd.R (Kd.int .u8) 5 wc w.heap.size (fun _ => True) v183 t181) ∧ Aside0 (Below w.heap.size w wc))
        case first =>
          have H := HC6.out
          clear HC6
          by_cases c7 : t182 = 0
          · rw [if_pos c7] at H
            have c7b0 : (t182 == 0) = true := beq_iff_eq.mpr c7
            have c7b1 : (t182 != 0) = false := bne_eq_false_iff_eq.mpr c7
            clear c7
            (first | rw [c7b0] | (simp only [i64_w, i32_w]; rw [c7b0]) | skip)
            have H' := Aside0.mk H
            clear H
            obtain ⟨Ao8, co8, eo8⟩ := Kd.R_slice HO_4.out
            subst eo8
            go_wp2
            go_meet
            case rel => exact ⟨_, (((t181.length : Int) != x6_1)), (by first | rfl | (simp; done) | (simp [*]; done)), H', ⟨by have := HK1.out; first | omega | exact Nat.le_refl _⟩, ⟨by (with_reducible repeat (first | apply Kd.R_alloc | apply Kd.R_drewN | apply Kd.R_drew)); exact HO_4.out⟩, ⟨by repeat (first | (with_reducible first | exact HB.out | apply below_alloc | apply pw_below_drewN | apply below_drew1) | exact HB.out)⟩⟩
          · rw [if_neg c7] at H
            have c7b0 : (t182 == 0) = false := beq_eq_false_iff_ne.mpr c7
            have c7b1 : (t182 != 0) = true := bne_iff_ne.mpr c7
            (first | rw [c7b0] | (simp only [i64_w, i32_w]; rw [c7b0]) | skip)
            have H' := Aside0.mk H
            clear H
            go_wp2
            go_meet
            case rel => exact ⟨_, (true), (by first | rfl | (simp; done) | (simp [*]; done)), H', ⟨by have := HK1.out; first | omega | exact Nat.le_refl _⟩, ⟨by (with_reducible repeat (first | apply Kd.R_alloc | apply Kd.R_drewN | apply Kd.R_drew)); exact HO_4.out⟩, ⟨by repeat (first | (with_reducible first | exact HB.out | apply below_alloc | apply pw_below_drewN | apply below_drew1) | exact HB.out)⟩⟩
        case rest =>
          clear HC6
          try clear c1
          try clear p2
          try clear c5
          try clear c5b0
          try clear c6
          try clear p6
          try clear c7
          try clear c7b0
          try clear c7b1
          try clear p2
          obtain ⟨kq, x34_5, rfl, HA, HJ5, HO_4, HB⟩ := hcut
          cases kq with
          | zero => exact absurd HA.out (by simp [chequerlaw02_NumLengths.j1])
          | succ kj5 =>
            have H := HA.out
            clear HA
            simp only [chequerlaw02_NumLengths.j1] at H
            by_cases c9 : x34_5 = true
            · subst c9
              have H1 : (some false) = some r := by rw [if_pos rfl] at H; exact H
              clear H
              have H := H1
              clear H1
              obtain rfl := Option.some.inj H
              go_wp2
              go_ret
              exact ⟨by first | rfl | (simp [errW_none, errW_some] <;> rfl) | (simp [*, errW_none, errW_some] <;> rfl), by repeat (first | (with_reducible first | exact HB.out | apply below_alloc | apply pw_below_drewN | apply below_drew1) | exact HB.out)⟩
            · replace c9 := Bool.eq_false_iff.mpr c9
              subst c9
              have H1 : (chequerlaw02_NumLengths.l1 kj5 t181 0) = some r := by rw [if_neg (show ¬ (false = true) by decide)] at H; exact H
              clear H
              have H := H1
              clear H1
              have H' := Aside0.mk H
              clear H
              go_wp2
              go_loopg [8] kj5 (fun kq v8 w' => ∃ (x8_3 : Int), v8 = .int .i64 x8_3 ∧ Aside0 (chequerlaw02_NumLengths.l1 kq t181 x8_3 = some r) ∧ Aside0 (kq ≤ kj5) ∧ Aside0 (Kd.R (Kd.int .u8) 5 w' w.heap.size (fun _ => True) v183 t181) ∧ Aside0 (Below w.heap.size w w'))
              case atStart => exact ⟨(0), (by first | rfl | (simp; done) | (simp [*]; done)), H', ⟨Nat.le_refl _⟩, ⟨by (with_reducible repeat (first | apply Kd.R_alloc | apply Kd.R_drewN | apply Kd.R_drew)); exact HO_4.out⟩, ⟨by repeat (first | (with_reducible first | exact HB.out | apply below_alloc | apply pw_below_drewN | apply below_drew1) | exact HB.out)⟩⟩
              case round =>
                clear H'
                try clear c1
                try clear p2
                try clear c5
                try clear c5b0
                try clear c6
                try clear p6
                try clear c7
                try clear c7b0
                try clear c7b1
                try clear c9
                try clear p2
                try clear p6
                obtain ⟨x8_3, rfl, HA, HK3, HO_4, HB⟩ := hrel
                cases gk with
                | zero => exact absurd HA.out (by simp [chequerlaw02_NumLengths.l1])
                | succ k3 =>
                  have H := HA.out
                  clear HA
                  simp only [chequerlaw02_NumLengths.l1] at H
                  by_cases c10 : x8_3 < (t181.length : Int)
                  · rw [if_pos c10] at H
                    have c10b0 : decide (x8_3 < (t181.length : Int)) = true := decide_eq_true c10
                    clear c10
                    by_cases c11 : 0 ≤ x8_3
                    · rw [if_pos c11] at H
                      have c11b0 : decide (0 ≤ x8_3) = true := decide_eq_true c11
                      clear c11
                      by_cases c12 : ((decide ((rd t181 x8_3) ≥ 128)) != (decide (x8_3 < (wrap64 ((t181.length : Int) - 1))))) = true
                      · rw [if_pos c12] at H
                        have c12b0 : ((decide ((rd t181 x8_3) ≥ 128)) != (decide (x8_3 < (wrap64 ((t181.length : Int) - 1))))) = true := c12
                        (try (have c12b1 : decide ((decide ((rd t181 x8_3) ≥ 128)) = (decide (x8_3 < (wrap64 ((t181.length : Int) - 1))))) = false := by simpa using c12))
                        (try (have c12b2 : ((decide ((rd t181 x8_3) ≥ 128)) == (decide (x8_3 < (wrap64 ((t181.length : Int) - 1))))) = false := by simpa using c12))
                        (try (have c12b3 : ¬ ((decide ((rd t181 x8_3) ≥ 128)) = (decide (x8_3 < (wrap64 ((t181.length : Int) - 1))))) := by simpa using c12))
                        clear c12
                        obtain rfl := Option.some.inj H
                        obtain ⟨Ao13, co13, eo13⟩ := Kd.R_slice HO_4.out
                        subst eo13
                        have p186 : 0 ≤ (x8_3 : Int) := of_decide_eq_true (by first | (with_reducible assumption) | assumption)
                        have q186 : x8_3 < (t181.length : Int) := of_decide_eq_true (by first | (with_reducible assumption) | assumption)
                        obtain ⟨ad186, e186, hx186_0⟩ := Kd.at_int (Kd.R_reads' HO_4.out).2.2 x8_3 p186 q186
                        cases e186
                        replace p186 := eq_true p186
                        replace q186 := eq_true q186
                        go_wp2
                        go_ret
                        exact ⟨by first | rfl | (simp [errW_none, errW_some] <;> rfl) | (simp [*, errW_none, errW_some] <;> rfl), by repeat (first | (with_reducible first | exact HB.out | apply below_alloc | apply pw_below_drewN | apply below_drew1) | exact HB.out)⟩
                      · rw [if_neg c12] at H
                        have c12b0 : ((decide ((rd t181 x8_3) ≥ 128)) != (decide (x8_3 < (wrap64 ((t181.length : Int) - 1))))) = false := by simpa using c12
                        (try (have c12b1 : decide ((decide ((rd t181 x8_3) ≥ 128)) = (decide (x8_3 < (wrap64 ((t181.length : Int) - 1))))) = true := by simpa using c12))
                        (try (have c12b2 : ((decide ((rd t181 x8_3) ≥ 128)) == (decide (x8_3 < (wrap64 ((t181.length : Int) - 1))))) = true := by simpa using c12))
                        clear c12
                        have c14b0 := eq_true (of_decide_eq_true (by first | (with_reducible assumption) | assumption) : 0 ≤ x8_3)
                        by_cases c15 : x8_3 ≤ (t181.length : Int)
                        · rw [if_pos c15] at H
                          have c15b0 := eq_true c15
                          have c15b1 : decide (x8_3 ≤ (t181.length : Int)) = true := decide_eq_true c15
                          clear c15
                          obtain ⟨y187, hy187⟩ : ∃ y_ : List Int, y_ = (t181.take (x8_3 : Int).toNat) := ⟨_, rfl⟩
                          replace H : ((num_Get.f k3 y187).bind fun bt191 => (if bt191.2.1 = 0 then (if bt191.2.2 = 6 then (chequerlaw02_NumLengths.l1 k3 t181 (wrap64 (x8_3 + 1))) else (some false)) else (some false))) = some r := by first | (rw [hy187]; with_reducible exact H) | (have H2_ := (Option.bind_some _ _).symm.trans H; rw [hy187]; with_reducible exact H2_) | (have H2_ := (Option.bind_some _ _).symm.trans H; with_reducible exact H2_) | with_reducible exact H | (rw [hy187]; exact H) | exact H
                          have Ny187 := Aside0.mk hy187
                          clear hy187
                          replace H := Option.bind_eq_some_iff.mp H
                          obtain ⟨⟨t191, t192, t193⟩, A160, H⟩ := H
                          replace H : (if t192 = 0 then (if t193 = 6 then (chequerlaw02_NumLengths.l1 k3 t181 (wrap64 (x8_3 + 1))) else (some false)) else (some false)) = some r := H
                          have A16 := Aside0.mk A160
                          clear A160
                          by_cases c17 : t192 = 0
                          · rw [if_pos c17] at H
                            have c17b0 : (t192 == 0) = true := beq_iff_eq.mpr c17
                            have c17b1 : (t192 != 0) = false := bne_eq_false_iff_eq.mpr c17
                            clear c17
                            by_cases c18 : t193 = 6
                            · rw [if_pos c18] at H
                              have c18b0 : (t193 == 6) = true := beq_iff_eq.mpr c18
                              have c18b1 : (t193 != 6) = false := bne_eq_false_iff_eq.mpr c18
                              clear c18
                              have H' := Aside0.mk H
                              clear H
                              obtain ⟨Ao19, co19, eo19⟩ := Kd.R_slice HO_4.out
                              subst eo19
                              have p186 : 0 ≤ (x8_3 : Int) := of_decide_eq_true (by first | (with_reducible assumption) | assumption)
                              have q186 : x8_3 < (t181.length : Int) := of_decide_eq_true (by first | (with_reducible assumption) | assumption)
                              obtain ⟨ad186, e186, hx186_0⟩ := Kd.at_int (Kd.R_reads' HO_4.out).2.2 x8_3 p186 q186
                              cases e186
                              replace p186 := eq_true p186
                              replace q186 := eq_true q186
                              have q20 : (x8_3 : Int) ≤ ((t181.length : Int) : Int) := of_decide_eq_true (by first | (with_reducible assumption) | assumption)
                              obtain ⟨i020, hi020, _, hsz20, _⟩ := info_parts info5
                              have hroom20 : t181.length ≤ co19 := (Kd.R_reads' HO_4.out).2.1
                              have hC20 : Kd.C (Kd.int .u8) _ (some ad186) t181.length t181 := (Kd.R_reads' HO_4.out).2.2
                              have hcut20 := cut_to (P := Try.prog) 29 5 .i64 Try.underlying29 hi020 (some ad186) t181.length co19 x8_3 (of_decide_eq_true (by first | (with_reducible assumption) | assumption)) q20 hroom20
                              have hr20 := Kd.C_take (m := (x8_3 : Int).toNat) hC20 (by omega)
                              have hy20 : y187.length = (x8_3 : Int).toNat := (by rw [Ny187.out, List.length_take]; omega)
                              rw [← Ny187.out] at hr20
                              rw [← hy20] at hcut20
                              have HR190 := Aside0.mk hr20
                              have HC190 := Aside0.mk (show y187.length ≤ co19 from by omega)
                              clear hr20 hC20 hroom20 hi020 hsz20
                              have KY20 := Aside0.mk hy20
                              clear hy20
                              have KL20 := Aside0.mk (show (x8_3 : Int).toNat ≤ t181.length from by omega)
                              replace q20 := eq_true q20
                              go_wp2_with (first | ((with_reducible refine gate_callee (f := 17) rfl ?_); refine goesL_ (some 56) rfl rfl Try.func17 (by kernel_rfl) rfl #[.slice (some ad186) y187.length co19] rfl (by (try simp only [List.map_toArray, List.map_cons, List.map_nil]); first | done | rfl | (simp only [List.length_drop, List.length_take]; rfl)) ?_; (with_reducible refine (num_Get.calls k3 _ _ y187 t191 t192 t193 _ ?side1 ?side2 A16.out).mono ?_); (case side1 => repeat (first | exact (by repeat (first | (with_reducible exact HR190.out) | (with_reducible refine Kd.C_alloc ?_ _) | (with_reducible refine Kd.C_drewN ?_ _) | (with_reducible refine Kd.C_drew ?_) | exact HR190.out)) | (with_reducible refine Kd.C_alloc ?_ _) | (with_reducible refine Kd.C_drewN ?_ _) | (with_reducible refine Kd.C_drew ?_))); (case side2 => exact HC190.out); rintro e w' ⟨rfl, ⟨nd, rfl⟩⟩; refine ⟨_, rfl, ?_⟩))
                              go_roundg k3
                              case measure => have := HK1.out; have := HJ5.out; have := HK3.out; omega
                              case rel => exact ⟨(wrap64 (x8_3 + 1)), (by first | rfl | (simp; done) | (simp [*]; done)), H', ⟨by have := HK1.out; have := HJ5.out; have := HK3.out; omega⟩, ⟨by (with_reducible repeat (first | apply Kd.R_alloc | apply Kd.R_drewN | apply Kd.R_drew)); exact HO_4.out⟩, ⟨by repeat (first | (with_reducible first | exact HB.out | apply below_alloc | apply pw_below_drewN | apply below_drew1) | exact HB.out)⟩⟩
                            · rw [if_neg c18] at H
                              have c18b0 : (t193 == 6) = false := beq_eq_false_iff_ne.mpr c18
                              have c18b1 : (t193 != 6) = true := bne_iff_ne.mpr c18
                              obtain rfl := Option.some.inj H
                              obtain ⟨Ao21, co21, eo21⟩ := Kd.R_slice HO_4.out
                              subst eo21
                              have p186 : 0 ≤ (x8_3 : Int) := of_decide_eq_true (by first | (with_reducible assumption) | assumption)
                              have q186 : x8_3 < (t181.length : Int) := of_decide_eq_true (by first | (with_reducible assumption) | assumption)
                              obtain ⟨ad186, e186, hx186_0⟩ := Kd.at_int (Kd.R_reads' HO_4.out).2.2 x8_3 p186 q186
                              cases e186
                              replace p186 := eq_true p186
                              replace q186 := eq_true q186
                              have q22 : (x8_3 : Int) ≤ ((t181.length : Int) : Int) := of_decide_eq_true (by first | (with_reducible assumption) | assumption)
                              obtain ⟨i022, hi022, _, hsz22, _⟩ := info_parts info5
                              have hroom22 : t181.length ≤ co21 := (Kd.R_reads' HO_4.out).2.1
                              have hC22 : Kd.C (Kd.int .u8) _ (some ad186) t181.length t181 := (Kd.R_reads' HO_4.out).2.2
                              have hcut22 := cut_to (P := Try.prog) 29 5 .i64 Try.underlying29 hi022 (some ad186) t181.length co21 x8_3 (of_decide_eq_true (by first | (with_reducible assumption) | assumption)) q22 hroom22
                              have hr22 := Kd.C_take (m := (x8_3 : Int).toNat) hC22 (by omega)
                              have hy22 : y187.length = (x8_3 : Int).toNat := (by rw [Ny187.out, List.length_take]; omega)
                              rw [← Ny187.out] at hr22
                              rw [← hy22] at hcut22
                              have HR190 := Aside0.mk hr22
                              have HC190 := Aside0.mk (show y187.length ≤ co21 from by omega)
                              clear hr22 hC22 hroom22 hi022 hsz22
                              have KY22 := Aside0.mk hy22
                              clear hy22
                              have KL22 := Aside0.mk (show (x8_3 : Int).toNat ≤ t181.length from by omega)
                              replace q22 := eq_true q22
                              go_wp2_with (first | ((with_reducible refine gate_callee (f := 17) rfl ?_); refine goesL_ (some 56) rfl rfl Try.func17 (by kernel_rfl) rfl #[.slice (some ad186) y187.length co21] rfl (by (try simp only [List.map_toArray, List.map_cons, List.map_nil]); first | done | rfl | (simp only [List.length_drop, List.length_take]; rfl)) ?_; (with_reducible refine (num_Get.calls k3 _ _ y187 t191 t192 t193 _ ?side1 ?side2 A16.out).mono ?_); (case side1 => repeat (first | exact (by repeat (first | (with_reducible exact HR190.out) | (with_reducible refine Kd.C_alloc ?_ _) | (with_reducible refine Kd.C_drewN ?_ _) | (with_reducible refine Kd.C_drew ?_) | exact HR190.out)) | (with_reducible refine Kd.C_alloc ?_ _) | (with_reducible refine Kd.C_drewN ?_ _) | (with_reducible refine Kd.C_drew ?_))); (case side2 => exact HC190.out); rintro e w' ⟨rfl, ⟨nd, rfl⟩⟩; refine ⟨_, rfl, ?_⟩))
                              go_ret
                              exact ⟨by first | rfl | (simp [errW_none, errW_some] <;> rfl) | (simp [*, errW_none, errW_some] <;> rfl), by repeat (first | (with_reducible first | exact HB.out | apply below_alloc | apply pw_below_drewN | apply below_drew1) | exact HB.out)⟩
                          · rw [if_neg c17] at H
                            have c17b0 : (t192 == 0) = false := beq_eq_false_iff_ne.mpr c17
                            have c17b1 : (t192 != 0) = true := bne_iff_ne.mpr c17
                            obtain rfl := Option.some.inj H
                            obtain ⟨Ao23, co23, eo23⟩ := Kd.R_slice HO_4.out
                            subst eo23
                            have p186 : 0 ≤ (x8_3 : Int) := of_decide_eq_true (by first | (with_reducible assumption) | assumption)
                            have q186 : x8_3 < (t181.length : Int) := of_decide_eq_true (by first | (with_reducible assumption) | assumption)
                            obtain ⟨ad186, e186, hx186_0⟩ := Kd.at_int (Kd.R_reads' HO_4.out).2.2 x8_3 p186 q186
                            cases e186
                            replace p186 := eq_true p186
                            replace q186 := eq_true q186
                            have q24 : (x8_3 : Int) ≤ ((t181.length : Int) : Int) := of_decide_eq_true (by first | (with_reducible assumption) | assumption)
                            obtain ⟨i024, hi024, _, hsz24, _⟩ := info_parts info5
                            have hroom24 : t181.length ≤ co23 := (Kd.R_reads' HO_4.out).2.1
                            have hC24 : Kd.C (Kd.int .u8) _ (some ad186) t181.length t181 := (Kd.R_reads' HO_4.out).2.2
                            have hcut24 := cut_to (P := Try.prog) 29 5 .i64 Try.underlying29 hi024 (some ad186) t181.length co23 x8_3 (of_decide_eq_true (by first | (with_reducible assumption) | assumption)) q24 hroom24
                            have hr24 := Kd.C_take (m := (x8_3 : Int).toNat) hC24 (by omega)
                            have hy24 : y187.length = (x8_3 : Int).toNat := (by rw [Ny187.out, List.length_take]; omega)
                            rw [← Ny187.out] at hr24
                            rw [← hy24] at hcut24
                            have HR190 := Aside0.mk hr24
                            have HC190 := Aside0.mk (show y187.length ≤ co23 from by omega)
                            clear hr24 hC24 hroom24 hi024 hsz24
                            have KY24 := Aside0.mk hy24
                            clear hy24
                            have KL24 := Aside0.mk (show (x8_3 : Int).toNat ≤ t181.length from by omega)
                            replace q24 := eq_true q24
                            go_wp2_with (first | ((with_reducible refine gate_callee (f := 17) rfl ?_); refine goesL_ (some 56) rfl rfl Try.func17 (by kernel_rfl) rfl #[.slice (some ad186) y187.length co23] rfl (by (try simp only [List.map_toArray, List.map_cons, List.map_nil]); first | done | rfl | (simp only [List.length_drop, List.length_take]; rfl)) ?_; (with_reducible refine (num_Get.calls k3 _ _ y187 t191 t192 t193 _ ?side1 ?side2 A16.out).mono ?_); (case side1 => repeat (first | exact (by repeat (first | (with_reducible exact HR190.out) | (with_reducible refine Kd.C_alloc ?_ _) | (with_reducible refine Kd.C_drewN ?_ _) | (with_reducible refine Kd.C_drew ?_) | exact HR190.out)) | (with_reducible refine Kd.C_alloc ?_ _) | (with_reducible refine Kd.C_drewN ?_ _) | (with_reducible refine Kd.C_drew ?_))); (case side2 => exact HC190.out); rintro e w' ⟨rfl, ⟨nd, rfl⟩⟩; refine ⟨_, rfl, ?_⟩))
                            go_ret
                            exact ⟨by first | rfl | (simp [errW_none, errW_some] <;> rfl) | (simp [*, errW_none, errW_some] <;> rfl), by repeat (first | (with_reducible first | exact HB.out | apply below_alloc | apply pw_below_drewN | apply below_drew1) | exact HB.out)⟩
                        · rw [if_neg c15] at H
                          exact absurd H (by simp)
                    · rw [if_neg c11] at H
                      exact absurd H (by simp)
                  · rw [if_neg c10] at H
                    have c10b0 : decide (x8_3 < (t181.length : Int)) = false := decide_eq_false c10
                    clear c10
                    replace H := Option.bind_eq_some_iff.mp H
                    obtain ⟨t185, A250, H⟩ := H
                    replace H : (some t185) = some r := H
                    have A25 := Aside0.mk A250
                    clear A250
                    obtain rfl := Option.some.inj H
                    obtain ⟨Ao26, co26, eo26⟩ := Kd.R_slice HO_4.out
                    subst eo26
                    go_wp2_with (first | ((with_reducible refine gate_callee (f := 14) rfl ?_); refine goesL_ (some 66) rfl rfl Try.func14 (by kernel_rfl) rfl #[] rfl (by (try simp only [List.map_toArray, List.map_cons, List.map_nil]); first | done | rfl | (simp only [List.length_drop, List.length_take]; rfl)) ?_; (with_reducible refine (chequerlaw02_lives.calls  t185 _ A25.out).mono ?_); rintro e w27 ⟨rfl, hb⟩; refine ⟨_, rfl, ?_⟩; have n0_ := Aside0.mk (Kd.R_below (by (with_reducible repeat (first | apply Kd.R_alloc | apply Kd.R_drewN | apply Kd.R_drew)); exact HO_4.out) hb); have n1_ := Aside0.mk (below_step (by repeat (first | (with_reducible first | exact HB.out | apply below_alloc | apply pw_below_drewN | apply below_drew1) | exact HB.out)) hb); clear HO_4; clear HB; have HO_4 := n0_; have HB := n1_; clear n0_ n1_; (try clear hb); (try clear hb2); (try clear hk); (try clear hi)))
                    go_ret
                    exact ⟨by first | rfl | (simp [errW_none, errW_some] <;> rfl) | (simp [*, errW_none, errW_some] <;> rfl), by repeat (first | (with_reducible first | exact HB.out | apply below_alloc | apply pw_below_drewN | apply below_drew1) | exact HB.out)⟩

/-- THE ONE PURE STATEMENT of chequerlaw02_NumLengths: yours. -/
def chequerlaw02_NumLengths.Pure : Prop := ∀ (a0 : Int), (Lit.int .i64 a0).wf = true → ∃ k, chequerlaw02_NumLengths.f k a0 = some true
theorem chequerlaw02_NumLengths.walk (P : chequerlaw02_NumLengths.Pure) (a0 : Int) (w : World) (w0 : (Lit.int .i64 a0).wf = true) :
    Calls Try.prog 6 #[.int .i64 a0] w fun e w' => e = .returned (.bool true) ∧ Below w.heap.size w w' := by
  obtain ⟨k, h⟩ := P a0 w0
  refine (chequerlaw02_NumLengths.calls k a0 true w h).mono ?_
  rintro e w' ⟨rfl, hd⟩
  exact ⟨rfl, hd⟩

end Go.Proofs.Ytkkcjhnhbddooaa.Q
