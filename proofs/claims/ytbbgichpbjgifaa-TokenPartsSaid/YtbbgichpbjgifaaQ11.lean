-- written by our own program (wip/tools/myprint.py) out of the translation, by the kit's print; Lean checks it
import Derived.Test.YtbbgichpbjgifaaQ0
import Derived.Test.YtbbgichpbjgifaaQ1
import Derived.Test.YtbbgichpbjgifaaItoken_New
import Derived.Test.YtbbgichpbjgifaaItoken_Number_Put
import Derived.Test.YtbbgichpbjgifaaQ6
import Derived.Test.YtbbgichpbjgifaaQ8
namespace Go.Proofs.Ytbbgichpbjgifaa.Q
open Go.RowKit Go.Proofs.YtbbgichpbjgifaaW.PrintWords Go.Proofs.YtbbgichpbjgifaaW.PrintLast Go.Proofs.YtbbgichpbjgifaaW.PrintMore
attribute [local go_sem] max2_int min2_int max_two min_two max_three min_three max_four min_four   -- for this text's walks alone
set_option linter.unusedVariables false
set_option linter.unusedSimpArgs false

/-! ### chequerlaw05_TokenParts: function 5 -/
mutual
def chequerlaw05_TokenParts.l0 : Nat → Int → Int → Int → ByteArray → Int → Int → Int → Int → Bool → Int → Int → Option (Bool)
  | 0, _, _, _, _, _, _, _, _, _, _, _ => none
  | k + 1, x2, x3, x9, x10, x12, x277000, x277001, x277002, x277003, x277004, x277005 => if x12 < (x10.size : Int) then (if 0 ≤ x12 then ((token_Number_Put.f x277000 x277001 x277002 x277003 x277004 x277005 (bt x10 x12)).bind fun bt277 => (if bt277.1 = 0 then ((token_Number_Begun.f bt277.2.1 bt277.2.2.1 bt277.2.2.2.1 bt277.2.2.2.2.1 bt277.2.2.2.2.2.1 bt277.2.2.2.2.2.2).bind fun bt284 => (if bt284.1 = true then (chequerlaw05_TokenParts.l0 k x2 x3 x9 x10 (wrap64 (x12 + 1)) bt284.2.1 bt284.2.2.1 bt284.2.2.2.1 bt284.2.2.2.2.1 bt284.2.2.2.2.2.1 bt284.2.2.2.2.2.2) else (some false))) else (some false))) else (none)) else ((some (([9, 10, 11, 12, 13, 32] : List Int) : List Int)).bind fun y291 => ((chequerref01_Around.f x2 6).bind fun t294 => (if 0 ≤ t294 then (if t294 < (y291.length : Int) then ((token_Number_Put.f x277000 x277001 x277002 x277003 x277004 x277005 (rd y291 t294)).bind fun bt296 => (if bt296.1 = 1 then ((token_Number_Put.f bt296.2.1 bt296.2.2.1 bt296.2.2.2.1 bt296.2.2.2.2.1 bt296.2.2.2.2.2.1 bt296.2.2.2.2.2.2 x3).bind fun bt303 => (chequerlaw05_TokenParts.j1 k x9 (bt303.1 != 1) bt303.2.1 bt303.2.2.1 bt303.2.2.2.1 bt303.2.2.2.2.1 bt303.2.2.2.2.2.1 bt303.2.2.2.2.2.2)) else (chequerlaw05_TokenParts.j1 k x9 true bt296.2.1 bt296.2.2.1 bt296.2.2.2.1 bt296.2.2.2.2.1 bt296.2.2.2.2.2.1 bt296.2.2.2.2.2.2))) else (none)) else (none))))
def chequerlaw05_TokenParts.j1 : Nat → Int → Bool → Int → Int → Int → Bool → Int → Int → Option (Bool)
  | 0, _, _, _, _, _, _, _, _ => none
  | k + 1, x9, x59, x277000, x277001, x277002, x277003, x277004, x277005 => if x59 = true then (some false) else ((token_Number_Value.f x277000 x277001 x277002 x277003 x277004 x277005).bind fun bt310 => (if bt310.1 = x9 then (if bt310.2.1 = 0 then ((chequerlaw05_lives.f).bind fun t318 => (some t318)) else (some false)) else (some false)))
end
def chequerlaw05_TokenParts.f (k : Nat) (a0 : Int) (a1 : Int) (a2 : Int) (a3 : Int) : Option (Bool) := (chequerref02_Limit.f a0).bind fun t267 => ((chequerref01_Around.f a1 6).bind fun t268 => (if 0 ≤ t268 then (if t268 ≤ 5 then ((chequerref01_Decimal.f k t267).bind fun t269 => (if ((⟨#[48, 48, 48, 48, 48]⟩ : ByteArray).extract 0 (t268 : Int).toNat).size + t269.size ≤ 9223372036854775807 then ((token_New.f t267).bind fun bt270 => (chequerlaw05_TokenParts.l0 k a2 a3 t267 (((⟨#[48, 48, 48, 48, 48]⟩ : ByteArray).extract 0 (t268 : Int).toNat) ++ t269) 0 bt270.1 bt270.2.1 bt270.2.2.1 bt270.2.2.2.1 bt270.2.2.2.2.1 bt270.2.2.2.2.2)) else (none))) else (none)) else (none)))
theorem chequerlaw05_TokenParts.mono_l : ∀ k, (∀ y0 y1 y2 y3 y4 y5 y6 y7 y8 y9 y10, LeO (chequerlaw05_TokenParts.l0 k y0 y1 y2 y3 y4 y5 y6 y7 y8 y9 y10) (chequerlaw05_TokenParts.l0 (k + 1) y0 y1 y2 y3 y4 y5 y6 y7 y8 y9 y10)) ∧ (∀ y0 y1 y2 y3 y4 y5 y6 y7, LeO (chequerlaw05_TokenParts.j1 k y0 y1 y2 y3 y4 y5 y6 y7) (chequerlaw05_TokenParts.j1 (k + 1) y0 y1 y2 y3 y4 y5 y6 y7))
  | 0 => ⟨fun _ _ _ _ _ _ _ _ _ _ _ r h => by simp [chequerlaw05_TokenParts.l0] at h, fun _ _ _ _ _ _ _ _ r h => by simp [chequerlaw05_TokenParts.j1] at h⟩
  | k + 1 => by
    obtain ⟨ih0, ih1⟩ := chequerlaw05_TokenParts.mono_l k
    refine ⟨?_, ?_⟩
    · intro y0 y1 y2 y3 y4 y5 y6 y7 y8 y9 y10
      unfold chequerlaw05_TokenParts.l0
      repeat' first
      | (with_reducible exact ih0 _ _ _ _ _ _ _ _ _ _ _)
      | (with_reducible exact ih1 _ _ _ _ _ _ _ _)
      | (with_reducible exact chequerref01_Decimal.mono _ _)
      | (with_reducible exact LeO.refl _)
      | (with_reducible exact LeO.none _)
      | (with_reducible refine LeO.ite ?_ ?_)
      | (with_reducible refine LeO.bind ?_ (fun _ => ?_))
      | exact ih0 _ _ _ _ _ _ _ _ _ _ _
      | exact ih1 _ _ _ _ _ _ _ _
      | exact chequerref01_Decimal.mono _ _
      | exact LeO.none _
      | refine LeO.ite ?_ ?_
      | refine LeO.bind ?_ (fun _ => ?_)
    · intro y0 y1 y2 y3 y4 y5 y6 y7
      unfold chequerlaw05_TokenParts.j1
      repeat' first
      | (with_reducible exact ih0 _ _ _ _ _ _ _ _ _ _ _)
      | (with_reducible exact ih1 _ _ _ _ _ _ _ _)
      | (with_reducible exact chequerref01_Decimal.mono _ _)
      | (with_reducible exact LeO.refl _)
      | (with_reducible exact LeO.none _)
      | (with_reducible refine LeO.ite ?_ ?_)
      | (with_reducible refine LeO.bind ?_ (fun _ => ?_))
      | exact ih0 _ _ _ _ _ _ _ _ _ _ _
      | exact ih1 _ _ _ _ _ _ _ _
      | exact chequerref01_Decimal.mono _ _
      | exact LeO.none _
      | refine LeO.ite ?_ ?_
      | refine LeO.bind ?_ (fun _ => ?_)
theorem chequerlaw05_TokenParts.mono : ∀ a0 a1 a2 a3 k, LeO (chequerlaw05_TokenParts.f k a0 a1 a2 a3) (chequerlaw05_TokenParts.f (k + 1) a0 a1 a2 a3) := by
  intro a0 a1 a2 a3 k
  obtain ⟨ih0, ih1⟩ := chequerlaw05_TokenParts.mono_l k
  unfold chequerlaw05_TokenParts.f
  repeat' first
      | (with_reducible exact ih0 _ _ _ _ _ _ _ _ _ _ _)
      | (with_reducible exact ih1 _ _ _ _ _ _ _ _)
      | (with_reducible exact chequerref01_Decimal.mono _ _)
      | (with_reducible exact LeO.refl _)
      | (with_reducible exact LeO.none _)
      | (with_reducible refine LeO.ite ?_ ?_)
      | (with_reducible refine LeO.bind ?_ (fun _ => ?_))
      | exact ih0 _ _ _ _ _ _ _ _ _ _ _
      | exact ih1 _ _ _ _ _ _ _ _
      | exact chequerref01_Decimal.mono _ _
      | exact LeO.none _
      | refine LeO.ite ?_ ?_
      | refine LeO.bind ?_ (fun _ => ?_)
set_option maxHeartbeats 8000000 in
set_option maxRecDepth 100000 in
theorem chequerlaw05_TokenParts.calls (k : Nat) (a0 : Int) (a1 : Int) (a2 : Int) (a3 : Int) (r : Bool) (w : World) (h : chequerlaw05_TokenParts.f k a0 a1 a2 a3 = some r) :
    Calls Try.prog 5 #[.int .i64 a0, .int .i64 a1, .int .i64 a2, .int .u8 a3] w fun e w' => e = .returned (.bool r) ∧ Below w.heap.size w w' := by
  have HB := Aside0.mk (Below.refl w.heap.size w)
  have H : ((chequerref02_Limit.f a0).bind fun t267 => ((chequerref01_Around.f a1 6).bind fun t268 => (if 0 ≤ t268 then (if t268 ≤ 5 then ((chequerref01_Decimal.f k t267).bind fun t269 => (if ((⟨#[48, 48, 48, 48, 48]⟩ : ByteArray).extract 0 (t268 : Int).toNat).size + t269.size ≤ 9223372036854775807 then ((token_New.f t267).bind fun bt270 => (chequerlaw05_TokenParts.l0 k a2 a3 t267 (((⟨#[48, 48, 48, 48, 48]⟩ : ByteArray).extract 0 (t268 : Int).toNat) ++ t269) 0 bt270.1 bt270.2.1 bt270.2.2.1 bt270.2.2.2.1 bt270.2.2.2.2.1 bt270.2.2.2.2.2)) else (none))) else (none)) else (none)))) = some r := h
  clear h
  replace H := Option.bind_eq_some_iff.mp H
  obtain ⟨t267, A50, H⟩ := H
  replace H : ((chequerref01_Around.f a1 6).bind fun t268 => (if 0 ≤ t268 then (if t268 ≤ 5 then ((chequerref01_Decimal.f k t267).bind fun t269 => (if ((⟨#[48, 48, 48, 48, 48]⟩ : ByteArray).extract 0 (t268 : Int).toNat).size + t269.size ≤ 9223372036854775807 then ((token_New.f t267).bind fun bt270 => (chequerlaw05_TokenParts.l0 k a2 a3 t267 (((⟨#[48, 48, 48, 48, 48]⟩ : ByteArray).extract 0 (t268 : Int).toNat) ++ t269) 0 bt270.1 bt270.2.1 bt270.2.2.1 bt270.2.2.2.1 bt270.2.2.2.2.1 bt270.2.2.2.2.2)) else (none))) else (none)) else (none))) = some r := H
  have A5 := Aside0.mk A50
  clear A50
  replace H := Option.bind_eq_some_iff.mp H
  obtain ⟨t268, A60, H⟩ := H
  replace H : (if 0 ≤ t268 then (if t268 ≤ 5 then ((chequerref01_Decimal.f k t267).bind fun t269 => (if ((⟨#[48, 48, 48, 48, 48]⟩ : ByteArray).extract 0 (t268 : Int).toNat).size + t269.size ≤ 9223372036854775807 then ((token_New.f t267).bind fun bt270 => (chequerlaw05_TokenParts.l0 k a2 a3 t267 (((⟨#[48, 48, 48, 48, 48]⟩ : ByteArray).extract 0 (t268 : Int).toNat) ++ t269) 0 bt270.1 bt270.2.1 bt270.2.2.1 bt270.2.2.2.1 bt270.2.2.2.2.1 bt270.2.2.2.2.2)) else (none))) else (none)) else (none)) = some r := H
  have A6 := Aside0.mk A60
  clear A60
  by_cases c7 : 0 ≤ t268
  · rw [if_pos c7] at H
    have c7b0 := eq_true c7
    have c7b1 : decide (0 ≤ t268) = true := decide_eq_true c7
    clear c7
    by_cases c8 : t268 ≤ 5
    · rw [if_pos c8] at H
      have c8b0 := eq_true c8
      have c8b1 : decide (t268 ≤ 5) = true := decide_eq_true c8
      clear c8
      replace H := Option.bind_eq_some_iff.mp H
      obtain ⟨t269, A90, H⟩ := H
      replace H : (if ((⟨#[48, 48, 48, 48, 48]⟩ : ByteArray).extract 0 (t268 : Int).toNat).size + t269.size ≤ 9223372036854775807 then ((token_New.f t267).bind fun bt270 => (chequerlaw05_TokenParts.l0 k a2 a3 t267 (((⟨#[48, 48, 48, 48, 48]⟩ : ByteArray).extract 0 (t268 : Int).toNat) ++ t269) 0 bt270.1 bt270.2.1 bt270.2.2.1 bt270.2.2.2.1 bt270.2.2.2.2.1 bt270.2.2.2.2.2)) else (none)) = some r := H
      have A9 := Aside0.mk A90
      clear A90
      by_cases c10 : ((⟨#[48, 48, 48, 48, 48]⟩ : ByteArray).extract 0 (t268 : Int).toNat).size + t269.size ≤ 9223372036854775807
      · rw [if_pos c10] at H
        have c10b0 := eq_true c10
        have c10b1 : decide (((⟨#[48, 48, 48, 48, 48]⟩ : ByteArray).extract 0 (t268 : Int).toNat).size + t269.size ≤ 9223372036854775807) = true := decide_eq_true c10
        try have c10b2 : (9223372036854775807 < ((⟨#[48, 48, 48, 48, 48]⟩ : ByteArray).extract 0 (t268 : Int).toNat).size + t269.size) = False := eq_false (Nat.not_lt.2 c10)
        have c10z : (9223372036854775807 < t268.toNat + t269.size) = False := eq_false (by have h1_ := c10; have h2_ : t268 ≤ 5 := of_eq_true (by assumption); have h3_ : ((⟨#[48, 48, 48, 48, 48]⟩ : ByteArray).extract 0 (t268 : Int).toNat).size = t268.toNat := (by rw [ByteArray.size_extract]; show min t268.toNat 5 - 0 = t268.toNat; omega); rw [← h3_]; omega)
        replace H := Option.bind_eq_some_iff.mp H
        obtain ⟨⟨t270, t271, t272, t273, t274, t275⟩, A110, H⟩ := H
        replace H : (chequerlaw05_TokenParts.l0 k a2 a3 t267 (((⟨#[48, 48, 48, 48, 48]⟩ : ByteArray).extract 0 (t268 : Int).toNat) ++ t269) 0 t270 t271 t272 t273 t274 t275) = some r := H
        have A11 := Aside0.mk A110
        clear A110
        have H' := Aside0.mk H
        clear H
        go_enter Try.func5, Try.ntmps5
        try go_wp2_with (first | ((with_reducible refine gate_callee (f := 8) rfl ?_); refine goesL_ (some 17) rfl rfl Try.func8 (by kernel_rfl) rfl #[.int .i64 a0] rfl (by (try simp only [List.map_toArray, List.map_cons, List.map_nil]); first | done | rfl | (simp only [List.length_drop, List.length_take]; rfl)) ?_; (with_reducible refine (chequerref02_Limit.calls a0 t267 _ A5.out).mono ?_); rintro e w' ⟨rfl, ⟨nd, rfl⟩⟩; refine ⟨_, rfl, ?_⟩))
        generalize hq_ : World.drewN w _ = w12
        have n0_ : Aside0 (Below w.heap.size w w12) := ⟨by rw [← hq_]; exact (by repeat (first | (with_reducible first | exact HB.out | apply below_alloc | apply pw_below_drewN | apply below_drew1) | exact HB.out))⟩
        clear HB hq_
        have HB := n0_
        clear n0_
        have n0_ := Aside0.mk (below_drew1 HB.out)
        clear HB
        have HB := n0_
        clear n0_
        refine start_ (n := 7) (S := fun w' => True) (ds := []) #[false, false, false, false, false, false, false] (by kernel_rfl) rfl rfl trivial (fun hHeld => ?_)
        generalize w12.drew = w13 at HB hHeld ⊢
        refine pure_ (i := 0) (N := some 18) (v := ?_) (a' := ?_) #[true, false, false, false, false, false, false] rfl rfl (by kernel_rfl) (fun _ _ _ h => h) (Or.inl ⟨by rfl, ?_⟩) ?_ ?_
        rotate_left
        · intro w'
          go_simp
          with_reducible rfl
        rotate_left
        · simp only [Act.put, List.setIfInBounds_toArray, List.set_cons_zero, List.set_cons_succ, i64_w, i32_w]
          rfl
        refine pure_ (i := 3) (N := some 21) (v := ?_) (a' := ?_) #[true, false, false, true, false, false, false] rfl rfl (by kernel_rfl) (fun _ _ _ h => h) (Or.inl ⟨by rfl, ?_⟩) ?_ ?_
        rotate_left
        · intro w'
          go_simp
          with_reducible rfl
        rotate_left
        · simp only [Act.put, List.setIfInBounds_toArray, List.set_cons_zero, List.set_cons_succ, i64_w, i32_w]
          rfl
        refine one_ (i := 1) (N := some 19) #[true, true, false, true, false, false, false] rfl rfl (by kernel_rfl) (by decide) (fun K hK => ?_)
        refine goes_ Try.func10 (by kernel_rfl) rfl #[.int .i64 a1, .int .i64 6] (by rfl) rfl rfl (by (try simp only [List.map_toArray, List.map_cons, List.map_nil]); first | done | rfl | (simp only [List.length_drop, List.length_take]; rfl)) ?_
        with_reducible refine (chequerref01_Around.calls a1 6 t268 _ A6.out).mono ?_
        rintro e w' ⟨rfl, ⟨nd, rfl⟩⟩
        refine ⟨_, rfl, ?_⟩
        refine hK.out _ _ trivial (fun hHeld => ?_)
        clear hK K
        refine norm_ (a' := ?_) ?_ ?_
        rotate_left
        · show Act.put _ (some 19) _ = _
          simp only [Act.put, List.setIfInBounds_toArray, List.set_cons_zero, List.set_cons_succ, i64_w, i32_w]
          rfl
        refine pure_ (i := 2) (N := some 20) (v := ?_) (a' := ?_) #[true, true, true, true, false, false, false] rfl rfl (by kernel_rfl) (fun _ _ _ h => h) (Or.inl ⟨by rfl, ?_⟩) ?_ ?_
        rotate_left
        · intro w'
          go_simp
          with_reducible rfl
        rotate_left
        · simp only [Act.put, List.setIfInBounds_toArray, List.set_cons_zero, List.set_cons_succ, i64_w, i32_w]
          rfl
        refine one_ (i := 4) (N := some 22) #[true, true, true, true, true, false, false] rfl rfl (by kernel_rfl) (by decide) (fun K hK => ?_)
        refine goes_ Try.func11 (by kernel_rfl) rfl #[.int .i64 t267] (by rfl) rfl rfl (by (try simp only [List.map_toArray, List.map_cons, List.map_nil]); first | done | rfl | (simp only [List.length_drop, List.length_take]; rfl)) ?_
        with_reducible refine (chequerref01_Decimal.calls k t267 t269 _ A9.out).mono ?_
        rintro e w14 ⟨rfl, hb⟩
        refine ⟨_, rfl, ?_⟩
        have n0_ := Aside0.mk (below_step (by repeat (first | (with_reducible first | exact HB.out | apply below_alloc | apply pw_below_drewN | apply below_drew1) | exact HB.out)) hb)
        clear HB
        have HB := n0_
        clear n0_
        (try clear hb)
        (try clear hb2)
        (try clear hk)
        (try clear hi)
        refine hK.out _ _ trivial (fun hHeld => ?_)
        clear hK K
        refine norm_ (a' := ?_) ?_ ?_
        rotate_left
        · show Act.put _ (some 22) _ = _
          simp only [Act.put, List.setIfInBounds_toArray, List.set_cons_zero, List.set_cons_succ, i64_w, i32_w]
          rfl
        refine pure_ (i := 5) (N := some 23) (v := ?_) (a' := ?_) #[true, true, true, true, true, true, false] rfl rfl (by kernel_rfl) (fun _ _ _ h => h) (Or.inl ⟨by rfl, ?_⟩) ?_ ?_
        rotate_left
        · intro w'
          go_simp
          with_reducible rfl
        rotate_left
        · simp only [Act.put, List.setIfInBounds_toArray, List.set_cons_zero, List.set_cons_succ, i64_w, i32_w]
          rfl
        refine pure_ (i := 6) (N := some 10) (v := ?_) (a' := ?_) #[true, true, true, true, true, true, true] rfl rfl (by kernel_rfl) (fun _ _ _ h => h) (Or.inl ⟨by rfl, ?_⟩) ?_ ?_
        rotate_left
        · intro w'
          go_simp
          with_reducible rfl
        rotate_left
        · simp only [Act.put, List.setIfInBounds_toArray, List.set_cons_zero, List.set_cons_succ, i64_w, i32_w]
          rfl
        refine done_ (by kernel_rfl) ?_
        try go_wp2_with (first | ((with_reducible refine gate_callee (f := 16) rfl ?_); refine goesL_ (some 25) rfl rfl Try.func16 (by kernel_rfl) rfl #[.int .i64 t267] rfl (by (try simp only [List.map_toArray, List.map_cons, List.map_nil]); first | done | rfl | (simp only [List.length_drop, List.length_take]; rfl)) ?_; (with_reducible refine (token_New.calls t267 t270 t271 t272 t273 t274 t275 w _ ?side1 A11.out).mono ?_); (case side1 => repeat (first | (with_reducible first | exact HB.out | apply below_alloc | apply pw_below_drewN | apply below_drew1) | exact HB.out)); rintro e w15 ⟨g276, rfl, hi, hb, hb2⟩; refine ⟨_, rfl, ?_⟩; have n0_ := Aside0.mk (hb); have n1_ := Aside0.mk (hi); clear HB; have HB := n0_; have HI276 := n1_; clear n0_ n1_; (try clear hb); (try clear hb2); (try clear hk); (try clear hi)))
        generalize hSY_ : (((⟨#[48, 48, 48, 48, 48]⟩ : ByteArray).extract 0 (t268 : Int).toNat) ++ t269) = sy at H' ⊢
        clear hSY_
        go_loopg [12] k (fun kq v12 w' => ∃ (x12_1 : Int) (x277000_1 : Int) (x277001_1 : Int) (x277002_1 : Int) (x277003_1 : Bool) (x277004_1 : Int) (x277005_1 : Int), v12 = .int .i64 x12_1 ∧ Aside0 (chequerlaw05_TokenParts.l0 kq a2 a3 t267 sy x12_1 x277000_1 x277001_1 x277002_1 x277003_1 x277004_1 x277005_1 = some r) ∧ Aside0 (kq ≤ k) ∧ Aside0 (IsS52 w w' g276 x277000_1 x277001_1 x277002_1 x277003_1 x277004_1 x277005_1) ∧ Aside0 (Below w.heap.size w w'))
        case atStart => exact ⟨(0), (t270), (t271), (t272), (t273), (t274), (t275), (by first | rfl | (simp; done) | (simp [*]; done)), H', ⟨Nat.le_refl _⟩, ⟨by repeat (first | (with_reducible first | exact HI276.out | apply IsS52.alloc | apply IsS52.drewN | apply IsS52.drew | apply IsS52.set_0 | apply IsS52.set_1 | apply IsS52.set_2 | apply IsS52.set_3 | apply IsS52.set_4 | apply IsS52.set_5) | exact HI276.out)⟩, ⟨by repeat (first | (with_reducible first | exact HB.out | apply below_alloc | apply pw_below_drewN | apply below_drew1 | refine below_set ?_ (IsS52.ge HI276.out)) | exact HB.out)⟩⟩
        case round =>
          clear H'
          try clear c1
          try clear p2
          try clear c5
          try clear c7
          try clear c7b0
          try clear c7b1
          try clear c8
          try clear c8b0
          try clear c8b1
          try clear c10
          try clear c10b0
          try clear c10b1
          try clear c10b2
          try clear c11
          obtain ⟨x12_1, x277000_1, x277001_1, x277002_1, x277003_1, x277004_1, x277005_1, rfl, HA, HK1, HI276, HB⟩ := hrel
          cases gk with
          | zero => exact absurd HA.out (by simp [chequerlaw05_TokenParts.l0])
          | succ k1 =>
            have H := HA.out
            clear HA
            simp only [chequerlaw05_TokenParts.l0] at H
            by_cases c16 : x12_1 < (sy.size : Int)
            · rw [if_pos c16] at H
              have c16b0 : decide (x12_1 < (sy.size : Int)) = true := decide_eq_true c16
              clear c16
              by_cases c17 : 0 ≤ x12_1
              · rw [if_pos c17] at H
                have c17b0 : decide (0 ≤ x12_1) = true := decide_eq_true c17
                clear c17
                replace H := Option.bind_eq_some_iff.mp H
                obtain ⟨⟨t277, t278, t279, t280, t281, t282, t283⟩, A190, H⟩ := H
                replace H : (if t277 = 0 then ((token_Number_Begun.f t278 t279 t280 t281 t282 t283).bind fun bt284 => (if bt284.1 = true then (chequerlaw05_TokenParts.l0 k1 a2 a3 t267 sy (wrap64 (x12_1 + 1)) bt284.2.1 bt284.2.2.1 bt284.2.2.2.1 bt284.2.2.2.2.1 bt284.2.2.2.2.2.1 bt284.2.2.2.2.2.2) else (some false))) else (some false)) = some r := H
                have A19 := Aside0.mk A190
                clear A190
                by_cases c20 : t277 = 0
                · rw [if_pos c20] at H
                  have c20b0 : (t277 == 0) = true := beq_iff_eq.mpr c20
                  have c20b1 : (t277 != 0) = false := bne_eq_false_iff_eq.mpr c20
                  clear c20
                  replace H := Option.bind_eq_some_iff.mp H
                  obtain ⟨⟨t284, t285, t286, t287, t288, t289, t290⟩, A210, H⟩ := H
                  replace H : (if t284 = true then (chequerlaw05_TokenParts.l0 k1 a2 a3 t267 sy (wrap64 (x12_1 + 1)) t285 t286 t287 t288 t289 t290) else (some false)) = some r := H
                  have A21 := Aside0.mk A210
                  clear A210
                  by_cases c22 : t284 = true
                  · subst c22
                    have H1 : (chequerlaw05_TokenParts.l0 k1 a2 a3 t267 sy (wrap64 (x12_1 + 1)) t285 t286 t287 t288 t289 t290) = some r := by rw [if_pos rfl] at H; exact H
                    clear H
                    have H := H1
                    clear H1
                    have H' := Aside0.mk H
                    clear H
                    have p18 : 0 ≤ (x12_1 : Int) := of_decide_eq_true (by first | (with_reducible assumption) | assumption)
                    have q18 : x12_1 < (sy.size : Int) := of_decide_eq_true (by first | (with_reducible assumption) | assumption)
                    have hx18 := bt_at sy x12_1
                    replace p18 := eq_true p18
                    replace q18 := eq_true q18
                    go_wp2_with (first | ((with_reducible refine gate_callee (f := 19) rfl ?_); refine goesL_ (some 38) rfl rfl Try.func19 (by kernel_rfl) rfl #[.pointer (some ⟨g276, 0, none⟩), .int .u8 (bt sy x12_1)] rfl (by (try simp only [List.map_toArray, List.map_cons, List.map_nil]); first | done | rfl | (simp only [List.length_drop, List.length_take]; rfl)) ?_; (with_reducible refine (token_Number_Put.calls g276 x277000_1 x277001_1 x277002_1 x277003_1 x277004_1 x277005_1 (bt sy x12_1) t277 t278 t279 t280 t281 t282 t283 w _ ?side1 ?side2 A19.out).mono ?_); (case side1 => repeat (first | (with_reducible first | exact HI276.out | apply IsS52.alloc | apply IsS52.drewN | apply IsS52.drew | apply IsS52.set_0 | apply IsS52.set_1 | apply IsS52.set_2 | apply IsS52.set_3 | apply IsS52.set_4 | apply IsS52.set_5) | exact HI276.out)); (case side2 => repeat (first | (with_reducible first | exact HB.out | apply below_alloc | apply pw_below_drewN | apply below_drew1 | refine below_set ?_ (IsS52.ge HI276.out)) | exact HB.out)); rintro e w23 ⟨rfl, hi, hb, hk⟩; refine ⟨_, rfl, ?_⟩; have n0_ := Aside0.mk (hb); have n1_ := Aside0.mk (hi); clear HB; clear HI276; have HB := n0_; have HI276 := n1_; clear n0_ n1_; (try clear hb); (try clear hb2); (try clear hk); (try clear hi)) | (go_at_call 20; (with_reducible refine (token_Number_Begun.calls g276 t278 t279 t280 t281 t282 t283 true t285 t286 t287 t288 t289 t290 w _ ?side1 ?side2 A21.out).mono ?_); (case side1 => repeat (first | (with_reducible first | exact HI276.out | apply IsS52.alloc | apply IsS52.drewN | apply IsS52.drew | apply IsS52.set_0 | apply IsS52.set_1 | apply IsS52.set_2 | apply IsS52.set_3 | apply IsS52.set_4 | apply IsS52.set_5) | exact HI276.out)); (case side2 => repeat (first | (with_reducible first | exact HB.out | apply below_alloc | apply pw_below_drewN | apply below_drew1 | refine below_set ?_ (IsS52.ge HI276.out)) | exact HB.out)); rintro e w24 ⟨rfl, hi, hb, hk⟩; have n0_ := Aside0.mk (hb); have n1_ := Aside0.mk (hi); clear HB; clear HI276; have HB := n0_; have HI276 := n1_; clear n0_ n1_; (try clear hb); (try clear hb2); (try clear hk); (try clear hi)))
                    go_roundg k1
                    case measure => have := HK1.out; omega
                    case rel => exact ⟨(wrap64 (x12_1 + 1)), (t285), (t286), (t287), (t288), (t289), (t290), (by first | rfl | (simp; done) | (simp [*]; done)), H', ⟨by have := HK1.out; omega⟩, ⟨by repeat (first | (with_reducible first | exact HI276.out | apply IsS52.alloc | apply IsS52.drewN | apply IsS52.drew | apply IsS52.set_0 | apply IsS52.set_1 | apply IsS52.set_2 | apply IsS52.set_3 | apply IsS52.set_4 | apply IsS52.set_5) | exact HI276.out)⟩, ⟨by repeat (first | (with_reducible first | exact HB.out | apply below_alloc | apply pw_below_drewN | apply below_drew1 | refine below_set ?_ (IsS52.ge HI276.out)) | exact HB.out)⟩⟩
                  · replace c22 := Bool.eq_false_iff.mpr c22
                    subst c22
                    have H1 : (some false) = some r := by rw [if_neg (show ¬ (false = true) by decide)] at H; exact H
                    clear H
                    have H := H1
                    clear H1
                    obtain rfl := Option.some.inj H
                    have p18 : 0 ≤ (x12_1 : Int) := of_decide_eq_true (by first | (with_reducible assumption) | assumption)
                    have q18 : x12_1 < (sy.size : Int) := of_decide_eq_true (by first | (with_reducible assumption) | assumption)
                    have hx18 := bt_at sy x12_1
                    replace p18 := eq_true p18
                    replace q18 := eq_true q18
                    go_wp2_with (first | ((with_reducible refine gate_callee (f := 19) rfl ?_); refine goesL_ (some 38) rfl rfl Try.func19 (by kernel_rfl) rfl #[.pointer (some ⟨g276, 0, none⟩), .int .u8 (bt sy x12_1)] rfl (by (try simp only [List.map_toArray, List.map_cons, List.map_nil]); first | done | rfl | (simp only [List.length_drop, List.length_take]; rfl)) ?_; (with_reducible refine (token_Number_Put.calls g276 x277000_1 x277001_1 x277002_1 x277003_1 x277004_1 x277005_1 (bt sy x12_1) t277 t278 t279 t280 t281 t282 t283 w _ ?side1 ?side2 A19.out).mono ?_); (case side1 => repeat (first | (with_reducible first | exact HI276.out | apply IsS52.alloc | apply IsS52.drewN | apply IsS52.drew | apply IsS52.set_0 | apply IsS52.set_1 | apply IsS52.set_2 | apply IsS52.set_3 | apply IsS52.set_4 | apply IsS52.set_5) | exact HI276.out)); (case side2 => repeat (first | (with_reducible first | exact HB.out | apply below_alloc | apply pw_below_drewN | apply below_drew1 | refine below_set ?_ (IsS52.ge HI276.out)) | exact HB.out)); rintro e w25 ⟨rfl, hi, hb, hk⟩; refine ⟨_, rfl, ?_⟩; have n0_ := Aside0.mk (hb); have n1_ := Aside0.mk (hi); clear HB; clear HI276; have HB := n0_; have HI276 := n1_; clear n0_ n1_; (try clear hb); (try clear hb2); (try clear hk); (try clear hi)) | (go_at_call 20; (with_reducible refine (token_Number_Begun.calls g276 t278 t279 t280 t281 t282 t283 false t285 t286 t287 t288 t289 t290 w _ ?side1 ?side2 A21.out).mono ?_); (case side1 => repeat (first | (with_reducible first | exact HI276.out | apply IsS52.alloc | apply IsS52.drewN | apply IsS52.drew | apply IsS52.set_0 | apply IsS52.set_1 | apply IsS52.set_2 | apply IsS52.set_3 | apply IsS52.set_4 | apply IsS52.set_5) | exact HI276.out)); (case side2 => repeat (first | (with_reducible first | exact HB.out | apply below_alloc | apply pw_below_drewN | apply below_drew1 | refine below_set ?_ (IsS52.ge HI276.out)) | exact HB.out)); rintro e w26 ⟨rfl, hi, hb, hk⟩; have n0_ := Aside0.mk (hb); have n1_ := Aside0.mk (hi); clear HB; clear HI276; have HB := n0_; have HI276 := n1_; clear n0_ n1_; (try clear hb); (try clear hb2); (try clear hk); (try clear hi)))
                    go_ret
                    exact ⟨by first | rfl | (simp [errW_none, errW_some] <;> rfl) | (simp [*, errW_none, errW_some] <;> rfl), by repeat (first | (with_reducible first | exact HB.out | apply below_alloc | apply pw_below_drewN | apply below_drew1 | refine below_set ?_ (IsS52.ge HI276.out)) | exact HB.out)⟩
                · rw [if_neg c20] at H
                  have c20b0 : (t277 == 0) = false := beq_eq_false_iff_ne.mpr c20
                  have c20b1 : (t277 != 0) = true := bne_iff_ne.mpr c20
                  obtain rfl := Option.some.inj H
                  have p18 : 0 ≤ (x12_1 : Int) := of_decide_eq_true (by first | (with_reducible assumption) | assumption)
                  have q18 : x12_1 < (sy.size : Int) := of_decide_eq_true (by first | (with_reducible assumption) | assumption)
                  have hx18 := bt_at sy x12_1
                  replace p18 := eq_true p18
                  replace q18 := eq_true q18
                  go_wp2_with (first | ((with_reducible refine gate_callee (f := 19) rfl ?_); refine goesL_ (some 38) rfl rfl Try.func19 (by kernel_rfl) rfl #[.pointer (some ⟨g276, 0, none⟩), .int .u8 (bt sy x12_1)] rfl (by (try simp only [List.map_toArray, List.map_cons, List.map_nil]); first | done | rfl | (simp only [List.length_drop, List.length_take]; rfl)) ?_; (with_reducible refine (token_Number_Put.calls g276 x277000_1 x277001_1 x277002_1 x277003_1 x277004_1 x277005_1 (bt sy x12_1) t277 t278 t279 t280 t281 t282 t283 w _ ?side1 ?side2 A19.out).mono ?_); (case side1 => repeat (first | (with_reducible first | exact HI276.out | apply IsS52.alloc | apply IsS52.drewN | apply IsS52.drew | apply IsS52.set_0 | apply IsS52.set_1 | apply IsS52.set_2 | apply IsS52.set_3 | apply IsS52.set_4 | apply IsS52.set_5) | exact HI276.out)); (case side2 => repeat (first | (with_reducible first | exact HB.out | apply below_alloc | apply pw_below_drewN | apply below_drew1 | refine below_set ?_ (IsS52.ge HI276.out)) | exact HB.out)); rintro e w27 ⟨rfl, hi, hb, hk⟩; refine ⟨_, rfl, ?_⟩; have n0_ := Aside0.mk (hb); have n1_ := Aside0.mk (hi); clear HB; clear HI276; have HB := n0_; have HI276 := n1_; clear n0_ n1_; (try clear hb); (try clear hb2); (try clear hk); (try clear hi)))
                  go_ret
                  exact ⟨by first | rfl | (simp [errW_none, errW_some] <;> rfl) | (simp [*, errW_none, errW_some] <;> rfl), by repeat (first | (with_reducible first | exact HB.out | apply below_alloc | apply pw_below_drewN | apply below_drew1 | refine below_set ?_ (IsS52.ge HI276.out)) | exact HB.out)⟩
              · rw [if_neg c17] at H
                exact absurd H (by simp)
            · rw [if_neg c16] at H
              have c16b0 : decide (x12_1 < (sy.size : Int)) = false := decide_eq_false c16
              clear c16
              obtain ⟨y291, hy291⟩ : ∃ y_ : List Int, y_ = (([9, 10, 11, 12, 13, 32] : List Int)) := ⟨_, rfl⟩
              replace H : ((chequerref01_Around.f a2 6).bind fun t294 => (if 0 ≤ t294 then (if t294 < (y291.length : Int) then ((token_Number_Put.f x277000_1 x277001_1 x277002_1 x277003_1 x277004_1 x277005_1 (rd y291 t294)).bind fun bt296 => (if bt296.1 = 1 then ((token_Number_Put.f bt296.2.1 bt296.2.2.1 bt296.2.2.2.1 bt296.2.2.2.2.1 bt296.2.2.2.2.2.1 bt296.2.2.2.2.2.2 a3).bind fun bt303 => (chequerlaw05_TokenParts.j1 k1 t267 (bt303.1 != 1) bt303.2.1 bt303.2.2.1 bt303.2.2.2.1 bt303.2.2.2.2.1 bt303.2.2.2.2.2.1 bt303.2.2.2.2.2.2)) else (chequerlaw05_TokenParts.j1 k1 t267 true bt296.2.1 bt296.2.2.1 bt296.2.2.2.1 bt296.2.2.2.2.1 bt296.2.2.2.2.2.1 bt296.2.2.2.2.2.2))) else (none)) else (none))) = some r := by first | (rw [hy291]; with_reducible exact H) | (have H2_ := (Option.bind_some _ _).symm.trans H; rw [hy291]; with_reducible exact H2_) | (have H2_ := (Option.bind_some _ _).symm.trans H; with_reducible exact H2_) | with_reducible exact H | (rw [hy291]; exact H) | exact H
              have Ny291 := Aside0.mk hy291
              clear hy291
              replace H := Option.bind_eq_some_iff.mp H
              obtain ⟨t294, A280, H⟩ := H
              replace H : (if 0 ≤ t294 then (if t294 < (y291.length : Int) then ((token_Number_Put.f x277000_1 x277001_1 x277002_1 x277003_1 x277004_1 x277005_1 (rd y291 t294)).bind fun bt296 => (if bt296.1 = 1 then ((token_Number_Put.f bt296.2.1 bt296.2.2.1 bt296.2.2.2.1 bt296.2.2.2.2.1 bt296.2.2.2.2.2.1 bt296.2.2.2.2.2.2 a3).bind fun bt303 => (chequerlaw05_TokenParts.j1 k1 t267 (bt303.1 != 1) bt303.2.1 bt303.2.2.1 bt303.2.2.2.1 bt303.2.2.2.2.1 bt303.2.2.2.2.2.1 bt303.2.2.2.2.2.2)) else (chequerlaw05_TokenParts.j1 k1 t267 true bt296.2.1 bt296.2.2.1 bt296.2.2.2.1 bt296.2.2.2.2.1 bt296.2.2.2.2.2.1 bt296.2.2.2.2.2.2))) else (none)) else (none)) = some r := H
              have A28 := Aside0.mk A280
              clear A280
              by_cases c29 : 0 ≤ t294
              · rw [if_pos c29] at H
                have c29b0 : decide (0 ≤ t294) = true := decide_eq_true c29
                clear c29
                by_cases c30 : t294 < (y291.length : Int)
                · rw [if_pos c30] at H
                  have c30b0 : decide (t294 < (y291.length : Int)) = true := decide_eq_true c30
                  clear c30
                  have HC31 := Aside0.mk H
                  clear H
                  go_upto_region 12 with (first | ((with_reducible refine gate_dst (N := 45) rfl ?_); refine Kd.R_lit (Kd.int .u8) _ 5 ?hg (N := 45) ?hd (xs := ([9, 10, 11, 12, 13, 32] : List Int)) (inner := [.int .u8 9, .int .u8 10, .int .u8 11, .int .u8 12, .int .u8 13, .int .u8 32]) (ok := fun _ => True) (okp := fun _ => True) ?hr ?hp (fun _ hk => hk) trivial (Below.refl _ _) (Nat.le_refl _) (by simp) ?_; (case hd => rfl); (case hg => rfl); (case hr => first | (go_simp; done) | (go_simp; rfl)); (case hp => exact (Reps.one (show Kd.M (Kd.int .u8) _ _ _ 9 [.int .u8 9] from rfl) (Reps.one (show Kd.M (Kd.int .u8) _ _ _ 10 [.int .u8 10] from rfl) (Reps.one (show Kd.M (Kd.int .u8) _ _ _ 11 [.int .u8 11] from rfl) (Reps.one (show Kd.M (Kd.int .u8) _ _ _ 12 [.int .u8 12] from rfl) (Reps.one (show Kd.M (Kd.int .u8) _ _ _ 13 [.int .u8 13] from rfl) (Reps.one (show Kd.M (Kd.int .u8) _ _ _ 32 [.int .u8 32] from rfl) (Reps.none _ _)))))))); intro v292 w32 ho33 hb hg_ hnew_; clear hg_ hnew_; (first | rw [← Ny291.out] at ho33 | (simp only [Int.reduceToNat] at ho33; rw [← Ny291.out] at ho33)); have n0_ := Aside0.mk (Kd.R_lower ho33 (below_size (by repeat (first | (with_reducible first | exact HB.out | apply below_alloc | apply pw_below_drewN | apply below_drew1 | refine below_set ?_ (IsS52.ge HI276.out)) | exact HB.out)))); have n1_ := Aside0.mk (IsS52.below (by repeat (first | (with_reducible first | exact HI276.out | apply IsS52.alloc | apply IsS52.drewN | apply IsS52.drew | apply IsS52.set_0 | apply IsS52.set_1 | apply IsS52.set_2 | apply IsS52.set_3 | apply IsS52.set_4 | apply IsS52.set_5) | exact HI276.out)) hb); have n2_ := Aside0.mk (below_step (by repeat (first | (with_reducible first | exact HB.out | apply below_alloc | apply pw_below_drewN | apply below_drew1 | refine below_set ?_ (IsS52.ge HI276.out)) | exact HB.out)) hb); clear HI276; clear HB; have HO293 := n0_; have HI276 := n1_; have HB := n2_; clear n0_ n1_ n2_; clear hb ho33) | ((with_reducible refine gate_callee (f := 10) rfl ?_); refine goesL_ (some 47) rfl rfl Try.func10 (by kernel_rfl) rfl #[.int .i64 a2, .int .i64 6] rfl (by (try simp only [List.map_toArray, List.map_cons, List.map_nil]); first | done | rfl | (simp only [List.length_drop, List.length_take]; rfl)) ?_; (with_reducible refine (chequerref01_Around.calls a2 6 t294 _ A28.out).mono ?_); rintro e w' ⟨rfl, ⟨nd, rfl⟩⟩; refine ⟨_, rfl, ?_⟩; obtain ⟨Ao34, co34, eo34⟩ := Kd.R_slice HO293.out; subst eo34; have p295 : 0 ≤ (t294 : Int) := of_decide_eq_true (by first | (with_reducible assumption) | assumption); have q295 : t294 < (y291.length : Int) := of_decide_eq_true (by first | (with_reducible assumption) | assumption); obtain ⟨ad295, e295, hx295_0⟩ := Kd.at_int (Kd.R_reads' HO293.out).2.2 t294 p295 q295; cases e295; replace p295 := eq_true p295; replace q295 := eq_true q295))
                  (try simp only [Act.put, List.setIfInBounds_toArray, List.set_cons_zero, List.set_cons_succ])
                  go_cut [59] (fun v59 wc => ∃ (kq : Nat) (x59_30 : Bool) (x277000_30 : Int) (x277001_30 : Int) (x277002_30 : Int) (x277003_30 : Bool) (x277004_30 : Int) (x277005_30 : Int), v59 = .bool x59_30 ∧ Aside0 (chequerlaw05_TokenParts.j1 kq t267 x59_30 x277000_30 x277001_30 x277002_30 x277003_30 x277004_30 x277005_30 = some r) ∧ Aside0 (kq ≤ k1) ∧ Aside0 (IsS52 w wc g276 x277000_30 x277001_30 x277002_30 x277003_30 x277004_30 x277005_30) ∧ Aside0 (Below w.heap.size w wc))
                  case first =>
                    have H := HC31.out
                    clear HC31
                    replace H := Option.bind_eq_some_iff.mp H
                    obtain ⟨⟨t296, t297, t298, t299, t300, t301, t302⟩, A350, H⟩ := H
                    replace H : (if t296 = 1 then ((token_Number_Put.f t297 t298 t299 t300 t301 t302 a3).bind fun bt303 => (chequerlaw05_TokenParts.j1 k1 t267 (bt303.1 != 1) bt303.2.1 bt303.2.2.1 bt303.2.2.2.1 bt303.2.2.2.2.1 bt303.2.2.2.2.2.1 bt303.2.2.2.2.2.2)) else (chequerlaw05_TokenParts.j1 k1 t267 true t297 t298 t299 t300 t301 t302)) = some r := H
                    have A35 := Aside0.mk A350
                    clear A350
                    by_cases c36 : t296 = 1
                    · rw [if_pos c36] at H
                      have c36b0 : (t296 == 1) = true := beq_iff_eq.mpr c36
                      have c36b1 : (t296 != 1) = false := bne_eq_false_iff_eq.mpr c36
                      clear c36
                      (first | rw [c36b0] | (simp only [i64_w, i32_w]; rw [c36b0]) | skip)
                      replace H := Option.bind_eq_some_iff.mp H
                      obtain ⟨⟨t303, t304, t305, t306, t307, t308, t309⟩, A370, H⟩ := H
                      replace H : (chequerlaw05_TokenParts.j1 k1 t267 (t303 != 1) t304 t305 t306 t307 t308 t309) = some r := H
                      have A37 := Aside0.mk A370
                      clear A370
                      have H' := Aside0.mk H
                      clear H
                      go_wp2_with (first | ((with_reducible refine gate_callee (f := 19) rfl ?_); refine goesL_ (some 52) rfl rfl Try.func19 (by kernel_rfl) rfl #[.pointer (some ⟨g276, 0, none⟩), .int .u8 (rd y291 t294)] rfl (by (try simp only [List.map_toArray, List.map_cons, List.map_nil]); first | done | rfl | (simp only [List.length_drop, List.length_take]; rfl)) ?_; (with_reducible refine (token_Number_Put.calls g276 x277000_1 x277001_1 x277002_1 x277003_1 x277004_1 x277005_1 (rd y291 t294) t296 t297 t298 t299 t300 t301 t302 w _ ?side1 ?side2 A35.out).mono ?_); (case side1 => repeat (first | (with_reducible first | exact HI276.out | apply IsS52.alloc | apply IsS52.drewN | apply IsS52.drew | apply IsS52.set_0 | apply IsS52.set_1 | apply IsS52.set_2 | apply IsS52.set_3 | apply IsS52.set_4 | apply IsS52.set_5) | exact HI276.out)); (case side2 => repeat (first | (with_reducible first | exact HB.out | apply below_alloc | apply pw_below_drewN | apply below_drew1 | refine below_set ?_ (IsS52.ge HI276.out)) | exact HB.out)); rintro e w38 ⟨rfl, hi, hb, hk⟩; refine ⟨_, rfl, ?_⟩; have n0_ := Aside0.mk (Kd.R_mono (Kd.R_keep (IsS52.apart (show IsS52 w _ g276 x277000_1 x277001_1 x277002_1 x277003_1 x277004_1 x277005_1 from by repeat (first | (with_reducible first | exact HI276.out | apply IsS52.alloc | apply IsS52.drewN | apply IsS52.drew | apply IsS52.set_0 | apply IsS52.set_1 | apply IsS52.set_2 | apply IsS52.set_3 | apply IsS52.set_4 | apply IsS52.set_5) | exact HI276.out)) (by (with_reducible repeat (first | apply Kd.R_alloc | apply Kd.R_drewN | apply Kd.R_drew)); exact HO293.out) (by decide)) hk (fun _ h => h.2)) (fun _ h => h.1)); have n1_ := Aside0.mk (hb); have n2_ := Aside0.mk (hi); clear HO293; clear HB; clear HI276; have HO293 := n0_; have HB := n1_; have HI276 := n2_; clear n0_ n1_ n2_; (try clear hb); (try clear hb2); (try clear hk); (try clear hi)) | (go_at_call 19; (with_reducible refine (token_Number_Put.calls g276 t297 t298 t299 t300 t301 t302 a3 t303 t304 t305 t306 t307 t308 t309 w _ ?side1 ?side2 A37.out).mono ?_); (case side1 => repeat (first | (with_reducible first | exact HI276.out | apply IsS52.alloc | apply IsS52.drewN | apply IsS52.drew | apply IsS52.set_0 | apply IsS52.set_1 | apply IsS52.set_2 | apply IsS52.set_3 | apply IsS52.set_4 | apply IsS52.set_5) | exact HI276.out)); (case side2 => repeat (first | (with_reducible first | exact HB.out | apply below_alloc | apply pw_below_drewN | apply below_drew1 | refine below_set ?_ (IsS52.ge HI276.out)) | exact HB.out)); rintro e w39 ⟨rfl, hi, hb, hk⟩; have n0_ := Aside0.mk (Kd.R_mono (Kd.R_keep (IsS52.apart (show IsS52 w _ g276 t297 t298 t299 t300 t301 t302 from by repeat (first | (with_reducible first | exact HI276.out | apply IsS52.alloc | apply IsS52.drewN | apply IsS52.drew | apply IsS52.set_0 | apply IsS52.set_1 | apply IsS52.set_2 | apply IsS52.set_3 | apply IsS52.set_4 | apply IsS52.set_5) | exact HI276.out)) (by (with_reducible repeat (first | apply Kd.R_alloc | apply Kd.R_drewN | apply Kd.R_drew)); exact HO293.out) (by decide)) hk (fun _ h => h.2)) (fun _ h => h.1)); have n1_ := Aside0.mk (hb); have n2_ := Aside0.mk (hi); clear HO293; clear HB; clear HI276; have HO293 := n0_; have HB := n1_; have HI276 := n2_; clear n0_ n1_ n2_; (try clear hb); (try clear hb2); (try clear hk); (try clear hi)))
                      go_meet
                      case rel => exact ⟨_, ((t303 != 1)), (t304), (t305), (t306), (t307), (t308), (t309), (by first | rfl | (simp; done) | (simp [*]; done)), H', ⟨by have := HK1.out; first | omega | exact Nat.le_refl _⟩, ⟨by repeat (first | (with_reducible first | exact HI276.out | apply IsS52.alloc | apply IsS52.drewN | apply IsS52.drew | apply IsS52.set_0 | apply IsS52.set_1 | apply IsS52.set_2 | apply IsS52.set_3 | apply IsS52.set_4 | apply IsS52.set_5) | exact HI276.out)⟩, ⟨by repeat (first | (with_reducible first | exact HB.out | apply below_alloc | apply pw_below_drewN | apply below_drew1 | refine below_set ?_ (IsS52.ge HI276.out)) | exact HB.out)⟩⟩
                    · rw [if_neg c36] at H
                      have c36b0 : (t296 == 1) = false := beq_eq_false_iff_ne.mpr c36
                      have c36b1 : (t296 != 1) = true := bne_iff_ne.mpr c36
                      (first | rw [c36b0] | (simp only [i64_w, i32_w]; rw [c36b0]) | skip)
                      have H' := Aside0.mk H
                      clear H
                      go_wp2_with (first | ((with_reducible refine gate_callee (f := 19) rfl ?_); refine goesL_ (some 52) rfl rfl Try.func19 (by kernel_rfl) rfl #[.pointer (some ⟨g276, 0, none⟩), .int .u8 (rd y291 t294)] rfl (by (try simp only [List.map_toArray, List.map_cons, List.map_nil]); first | done | rfl | (simp only [List.length_drop, List.length_take]; rfl)) ?_; (with_reducible refine (token_Number_Put.calls g276 x277000_1 x277001_1 x277002_1 x277003_1 x277004_1 x277005_1 (rd y291 t294) t296 t297 t298 t299 t300 t301 t302 w _ ?side1 ?side2 A35.out).mono ?_); (case side1 => repeat (first | (with_reducible first | exact HI276.out | apply IsS52.alloc | apply IsS52.drewN | apply IsS52.drew | apply IsS52.set_0 | apply IsS52.set_1 | apply IsS52.set_2 | apply IsS52.set_3 | apply IsS52.set_4 | apply IsS52.set_5) | exact HI276.out)); (case side2 => repeat (first | (with_reducible first | exact HB.out | apply below_alloc | apply pw_below_drewN | apply below_drew1 | refine below_set ?_ (IsS52.ge HI276.out)) | exact HB.out)); rintro e w40 ⟨rfl, hi, hb, hk⟩; refine ⟨_, rfl, ?_⟩; have n0_ := Aside0.mk (Kd.R_mono (Kd.R_keep (IsS52.apart (show IsS52 w _ g276 x277000_1 x277001_1 x277002_1 x277003_1 x277004_1 x277005_1 from by repeat (first | (with_reducible first | exact HI276.out | apply IsS52.alloc | apply IsS52.drewN | apply IsS52.drew | apply IsS52.set_0 | apply IsS52.set_1 | apply IsS52.set_2 | apply IsS52.set_3 | apply IsS52.set_4 | apply IsS52.set_5) | exact HI276.out)) (by (with_reducible repeat (first | apply Kd.R_alloc | apply Kd.R_drewN | apply Kd.R_drew)); exact HO293.out) (by decide)) hk (fun _ h => h.2)) (fun _ h => h.1)); have n1_ := Aside0.mk (hb); have n2_ := Aside0.mk (hi); clear HO293; clear HB; clear HI276; have HO293 := n0_; have HB := n1_; have HI276 := n2_; clear n0_ n1_ n2_; (try clear hb); (try clear hb2); (try clear hk); (try clear hi)))
                      go_meet
                      case rel => exact ⟨_, (true), (t297), (t298), (t299), (t300), (t301), (t302), (by first | rfl | (simp; done) | (simp [*]; done)), H', ⟨by have := HK1.out; first | omega | exact Nat.le_refl _⟩, ⟨by repeat (first | (with_reducible first | exact HI276.out | apply IsS52.alloc | apply IsS52.drewN | apply IsS52.drew | apply IsS52.set_0 | apply IsS52.set_1 | apply IsS52.set_2 | apply IsS52.set_3 | apply IsS52.set_4 | apply IsS52.set_5) | exact HI276.out)⟩, ⟨by repeat (first | (with_reducible first | exact HB.out | apply below_alloc | apply pw_below_drewN | apply below_drew1 | refine below_set ?_ (IsS52.ge HI276.out)) | exact HB.out)⟩⟩
                  case rest =>
                    clear HC31
                    try clear c1
                    try clear p1
                    try clear q1
                    try clear hx1
                    try clear c2
                    try clear p2
                    try clear q2
                    try clear hx2
                    try clear c3
                    try clear c5
                    try clear p6
                    try clear c7
                    try clear c7b0
                    try clear c7b1
                    try clear c8
                    try clear c8b0
                    try clear c8b1
                    try clear c10
                    try clear c10b0
                    try clear c10b1
                    try clear c10b2
                    try clear c11
                    try clear c16
                    try clear c16b0
                    try clear c17
                    try clear c17b0
                    try clear p18
                    try clear q18
                    try clear hx18
                    try clear c19
                    try clear c20
                    try clear c20b0
                    try clear c20b1
                    try clear c22
                    try clear c29
                    try clear c29b0
                    try clear p29
                    try clear q29
                    try clear hx29
                    try clear c30
                    try clear c30b0
                    try clear c36
                    try clear c36b0
                    try clear c36b1
                    try clear hx295_0
                    try clear p18
                    try clear p2
                    try clear p295
                    try clear q18
                    try clear q295
                    obtain ⟨kq, x59_30, x277000_30, x277001_30, x277002_30, x277003_30, x277004_30, x277005_30, rfl, HA, HJ30, HI276, HB⟩ := hcut
                    cases kq with
                    | zero => exact absurd HA.out (by simp [chequerlaw05_TokenParts.j1])
                    | succ kj30 =>
                      have H := HA.out
                      clear HA
                      simp only [chequerlaw05_TokenParts.j1] at H
                      by_cases c41 : x59_30 = true
                      · subst c41
                        have H1 : (some false) = some r := by rw [if_pos rfl] at H; exact H
                        clear H
                        have H := H1
                        clear H1
                        obtain rfl := Option.some.inj H
                        go_wp2
                        go_ret
                        exact ⟨by first | rfl | (simp [errW_none, errW_some] <;> rfl) | (simp [*, errW_none, errW_some] <;> rfl), by repeat (first | (with_reducible first | exact HB.out | apply below_alloc | apply pw_below_drewN | apply below_drew1 | refine below_set ?_ (IsS52.ge HI276.out)) | exact HB.out)⟩
                      · replace c41 := Bool.eq_false_iff.mpr c41
                        subst c41
                        have H1 : ((token_Number_Value.f x277000_30 x277001_30 x277002_30 x277003_30 x277004_30 x277005_30).bind fun bt310 => (if bt310.1 = t267 then (if bt310.2.1 = 0 then ((chequerlaw05_lives.f).bind fun t318 => (some t318)) else (some false)) else (some false))) = some r := by rw [if_neg (show ¬ (false = true) by decide)] at H; exact H
                        clear H
                        have H := H1
                        clear H1
                        replace H := Option.bind_eq_some_iff.mp H
                        obtain ⟨⟨t310, t311, t312, t313, t314, t315, t316, t317⟩, A420, H⟩ := H
                        replace H : (if t310 = t267 then (if t311 = 0 then ((chequerlaw05_lives.f).bind fun t318 => (some t318)) else (some false)) else (some false)) = some r := H
                        have A42 := Aside0.mk A420
                        clear A420
                        by_cases c43 : t310 = t267
                        · rw [if_pos c43] at H
                          have c43b0 : (t310 == t267) = true := beq_iff_eq.mpr c43
                          have c43b1 : (t310 != t267) = false := bne_eq_false_iff_eq.mpr c43
                          clear c43
                          by_cases c44 : t311 = 0
                          · rw [if_pos c44] at H
                            have c44b0 : (t311 == 0) = true := beq_iff_eq.mpr c44
                            have c44b1 : (t311 != 0) = false := bne_eq_false_iff_eq.mpr c44
                            clear c44
                            replace H := Option.bind_eq_some_iff.mp H
                            obtain ⟨t318, A450, H⟩ := H
                            replace H : (some t318) = some r := H
                            have A45 := Aside0.mk A450
                            clear A450
                            obtain rfl := Option.some.inj H
                            go_wp2_with (first | ((with_reducible refine gate_callee (f := 23) rfl ?_); refine goesL_ (some 62) rfl rfl Try.func23 (by kernel_rfl) rfl #[.pointer (some ⟨g276, 0, none⟩)] rfl (by (try simp only [List.map_toArray, List.map_cons, List.map_nil]); first | done | rfl | (simp only [List.length_drop, List.length_take]; rfl)) ?_; (with_reducible refine (token_Number_Value.calls g276 x277000_30 x277001_30 x277002_30 x277003_30 x277004_30 x277005_30 t310 t311 t312 t313 t314 t315 t316 t317 w _ ?side1 ?side2 A42.out).mono ?_); (case side1 => repeat (first | (with_reducible first | exact HI276.out | apply IsS52.alloc | apply IsS52.drewN | apply IsS52.drew | apply IsS52.set_0 | apply IsS52.set_1 | apply IsS52.set_2 | apply IsS52.set_3 | apply IsS52.set_4 | apply IsS52.set_5) | exact HI276.out)); (case side2 => repeat (first | (with_reducible first | exact HB.out | apply below_alloc | apply pw_below_drewN | apply below_drew1 | refine below_set ?_ (IsS52.ge HI276.out)) | exact HB.out)); rintro e w46 ⟨rfl, hi, hb, hk⟩; refine ⟨_, rfl, ?_⟩; have n0_ := Aside0.mk (hb); have n1_ := Aside0.mk (hi); clear HB; clear HI276; have HB := n0_; have HI276 := n1_; clear n0_ n1_; (try clear hb); (try clear hb2); (try clear hk); (try clear hi)) | (go_at_call 15; (with_reducible refine (chequerlaw05_lives.calls  t318 _ A45.out).mono ?_); rintro e w47 ⟨rfl, hb⟩; have n0_ := Aside0.mk (IsS52.below (by repeat (first | (with_reducible first | exact HI276.out | apply IsS52.alloc | apply IsS52.drewN | apply IsS52.drew | apply IsS52.set_0 | apply IsS52.set_1 | apply IsS52.set_2 | apply IsS52.set_3 | apply IsS52.set_4 | apply IsS52.set_5) | exact HI276.out)) hb); have n1_ := Aside0.mk (below_step (by repeat (first | (with_reducible first | exact HB.out | apply below_alloc | apply pw_below_drewN | apply below_drew1 | refine below_set ?_ (IsS52.ge HI276.out)) | exact HB.out)) hb); clear HI276; clear HB; have HI276 := n0_; have HB := n1_; clear n0_ n1_; (try clear hb); (try clear hb2); (try clear hk); (try clear hi)))
                            go_ret
                            exact ⟨by first | rfl | (simp [errW_none, errW_some] <;> rfl) | (simp [*, errW_none, errW_some] <;> rfl), by repeat (first | (with_reducible first | exact HB.out | apply below_alloc | apply pw_below_drewN | apply below_drew1 | refine below_set ?_ (IsS52.ge HI276.out)) | exact HB.out)⟩
                          · rw [if_neg c44] at H
                            have c44b0 : (t311 == 0) = false := beq_eq_false_iff_ne.mpr c44
                            have c44b1 : (t311 != 0) = true := bne_iff_ne.mpr c44
                            obtain rfl := Option.some.inj H
                            go_wp2_with (first | ((with_reducible refine gate_callee (f := 23) rfl ?_); refine goesL_ (some 62) rfl rfl Try.func23 (by kernel_rfl) rfl #[.pointer (some ⟨g276, 0, none⟩)] rfl (by (try simp only [List.map_toArray, List.map_cons, List.map_nil]); first | done | rfl | (simp only [List.length_drop, List.length_take]; rfl)) ?_; (with_reducible refine (token_Number_Value.calls g276 x277000_30 x277001_30 x277002_30 x277003_30 x277004_30 x277005_30 t310 t311 t312 t313 t314 t315 t316 t317 w _ ?side1 ?side2 A42.out).mono ?_); (case side1 => repeat (first | (with_reducible first | exact HI276.out | apply IsS52.alloc | apply IsS52.drewN | apply IsS52.drew | apply IsS52.set_0 | apply IsS52.set_1 | apply IsS52.set_2 | apply IsS52.set_3 | apply IsS52.set_4 | apply IsS52.set_5) | exact HI276.out)); (case side2 => repeat (first | (with_reducible first | exact HB.out | apply below_alloc | apply pw_below_drewN | apply below_drew1 | refine below_set ?_ (IsS52.ge HI276.out)) | exact HB.out)); rintro e w48 ⟨rfl, hi, hb, hk⟩; refine ⟨_, rfl, ?_⟩; have n0_ := Aside0.mk (hb); have n1_ := Aside0.mk (hi); clear HB; clear HI276; have HB := n0_; have HI276 := n1_; clear n0_ n1_; (try clear hb); (try clear hb2); (try clear hk); (try clear hi)))
                            go_ret
                            exact ⟨by first | rfl | (simp [errW_none, errW_some] <;> rfl) | (simp [*, errW_none, errW_some] <;> rfl), by repeat (first | (with_reducible first | exact HB.out | apply below_alloc | apply pw_below_drewN | apply below_drew1 | refine below_set ?_ (IsS52.ge HI276.out)) | exact HB.out)⟩
                        · rw [if_neg c43] at H
                          have c43b0 : (t310 == t267) = false := beq_eq_false_iff_ne.mpr c43
                          have c43b1 : (t310 != t267) = true := bne_iff_ne.mpr c43
                          obtain rfl := Option.some.inj H
                          go_wp2_with (first | ((with_reducible refine gate_callee (f := 23) rfl ?_); refine goesL_ (some 62) rfl rfl Try.func23 (by kernel_rfl) rfl #[.pointer (some ⟨g276, 0, none⟩)] rfl (by (try simp only [List.map_toArray, List.map_cons, List.map_nil]); first | done | rfl | (simp only [List.length_drop, List.length_take]; rfl)) ?_; (with_reducible refine (token_Number_Value.calls g276 x277000_30 x277001_30 x277002_30 x277003_30 x277004_30 x277005_30 t310 t311 t312 t313 t314 t315 t316 t317 w _ ?side1 ?side2 A42.out).mono ?_); (case side1 => repeat (first | (with_reducible first | exact HI276.out | apply IsS52.alloc | apply IsS52.drewN | apply IsS52.drew | apply IsS52.set_0 | apply IsS52.set_1 | apply IsS52.set_2 | apply IsS52.set_3 | apply IsS52.set_4 | apply IsS52.set_5) | exact HI276.out)); (case side2 => repeat (first | (with_reducible first | exact HB.out | apply below_alloc | apply pw_below_drewN | apply below_drew1 | refine below_set ?_ (IsS52.ge HI276.out)) | exact HB.out)); rintro e w49 ⟨rfl, hi, hb, hk⟩; refine ⟨_, rfl, ?_⟩; have n0_ := Aside0.mk (hb); have n1_ := Aside0.mk (hi); clear HB; clear HI276; have HB := n0_; have HI276 := n1_; clear n0_ n1_; (try clear hb); (try clear hb2); (try clear hk); (try clear hi)))
                          go_ret
                          exact ⟨by first | rfl | (simp [errW_none, errW_some] <;> rfl) | (simp [*, errW_none, errW_some] <;> rfl), by repeat (first | (with_reducible first | exact HB.out | apply below_alloc | apply pw_below_drewN | apply below_drew1 | refine below_set ?_ (IsS52.ge HI276.out)) | exact HB.out)⟩
                · rw [if_neg c30] at H
                  exact absurd H (by simp)
              · rw [if_neg c29] at H
                exact absurd H (by simp)
      · rw [if_neg c10] at H
        exact absurd H (by simp)
    · rw [if_neg c8] at H
      exact absurd H (by simp)
  · rw [if_neg c7] at H
    exact absurd H (by simp)

/-- THE ONE PURE STATEMENT of chequerlaw05_TokenParts. -/
def chequerlaw05_TokenParts.Pure : Prop := ∀ (a0 : Int) (a1 : Int) (a2 : Int) (a3 : Int), (Lit.int .i64 a0).wf = true → (Lit.int .i64 a1).wf = true → (Lit.int .i64 a2).wf = true → (Lit.int .u8 a3).wf = true → ∃ k, chequerlaw05_TokenParts.f k a0 a1 a2 a3 = some true
theorem chequerlaw05_TokenParts.walk (P : chequerlaw05_TokenParts.Pure) (a0 : Int) (a1 : Int) (a2 : Int) (a3 : Int) (w : World) (w0 : (Lit.int .i64 a0).wf = true) (w1 : (Lit.int .i64 a1).wf = true) (w2 : (Lit.int .i64 a2).wf = true) (w3 : (Lit.int .u8 a3).wf = true) :
    Calls Try.prog 5 #[.int .i64 a0, .int .i64 a1, .int .i64 a2, .int .u8 a3] w fun e w' => e = .returned (.bool true) ∧ Below w.heap.size w w' := by
  obtain ⟨k, h⟩ := P a0 a1 a2 a3 w0 w1 w2 w3
  refine (chequerlaw05_TokenParts.calls k a0 a1 a2 a3 true w h).mono ?_
  rintro e w' ⟨rfl, hd⟩
  exact ⟨rfl, hd⟩

end Go.Proofs.Ytbbgichpbjgifaa.Q
