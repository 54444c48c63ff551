-- written by our own program (wip/tools/myprint.py) out of the translation, by the kit's print; Lean checks it
import Derived.Test.YtbbgichpbjgifaaQ0
import Derived.Test.YtbbgichpbjgifaaQ1
import Derived.Test.YtbbgichpbjgifaaItoken_New
import Derived.Test.YtbbgichpbjgifaaItoken_Blank
import Derived.Test.YtbbgichpbjgifaaItoken_Number_Put
import Derived.Test.YtbbgichpbjgifaaQ6
import Derived.Test.YtbbgichpbjgifaaQ7
namespace Go.Proofs.Ytbbgichpbjgifaa.Q
open Go.RowKit Go.Proofs.YtbbgichpbjgifaaW.PrintWords Go.Proofs.YtbbgichpbjgifaaW.PrintLast Go.Proofs.YtbbgichpbjgifaaW.PrintMore
attribute [local go_sem] max2_int min2_int max_two min_two max_three min_three max_four min_four   -- for this text's walks alone
set_option linter.unusedVariables false
set_option linter.unusedSimpArgs false

/-! ### chequerlaw05_TokenReads: function 4 -/
mutual
def chequerlaw05_TokenReads.l0 : Nat → ByteArray → Bool → Int → Int → Int → Int → Bool → Int → Int → Int → Int → Int → Int → Option (Bool)
  | 0, _, _, _, _, _, _, _, _, _, _, _, _, _ => none
  | k + 1, x0, x8, x9, x246000, x246001, x246002, x246003, x246004, x246005, x251000, x251001, x251002, x251003 => if x9 < (x0.size : Int) then (if 0 ≤ x9 then ((chequerref05_Put.f k x251000 x251001 x251002 x251003 (bt x0 x9)).bind fun bt262 => (if x8 = true then (chequerlaw05_TokenReads.j1 k x0 true x9 bt262.2.2.2.2 x246000 x246001 x246002 x246003 x246004 x246005 bt262.1 bt262.2.1 bt262.2.2.1 bt262.2.2.2.1) else (if bt262.1 ≥ 2 then (chequerlaw05_TokenReads.j1 k x0 (decide (bt262.1 ≤ 4)) x9 bt262.2.2.2.2 x246000 x246001 x246002 x246003 x246004 x246005 bt262.1 bt262.2.1 bt262.2.2.1 bt262.2.2.2.1) else (chequerlaw05_TokenReads.j1 k x0 false x9 bt262.2.2.2.2 x246000 x246001 x246002 x246003 x246004 x246005 bt262.1 bt262.2.1 bt262.2.2.1 bt262.2.2.2.1)))) else (none)) else ((token_Number_Value.f x246000 x246001 x246002 x246003 x246004 x246005).bind fun bt251 => ((chequerref05_Value.f x251000 x251001 x251002 x251003).bind fun bt259 => (if bt251.1 = bt259.1 then (if bt251.2.1 = bt259.2 then ((chequerlaw05_lives.f).bind fun t261 => (some t261)) else (some false)) else (some false))))
def chequerlaw05_TokenReads.j1 : Nat → ByteArray → Bool → Int → Int → Int → Int → Int → Bool → Int → Int → Int → Int → Int → Int → Option (Bool)
  | 0, _, _, _, _, _, _, _, _, _, _, _, _, _, _ => none
  | k + 1, x0, x8, x9, x11, x246000, x246001, x246002, x246003, x246004, x246005, x251000, x251001, x251002, x251003 => if 0 ≤ x9 then (if x9 < (x0.size : Int) then ((token_Number_Put.f x246000 x246001 x246002 x246003 x246004 x246005 (bt x0 x9)).bind fun bt268 => (if bt268.1 = x11 then ((token_Number_Begun.f bt268.2.1 bt268.2.2.1 bt268.2.2.2.1 bt268.2.2.2.2.1 bt268.2.2.2.2.2.1 bt268.2.2.2.2.2.2).bind fun bt275 => (if (bt275.1 != x8) = true then (chequerlaw05_TokenReads.j2 k x0 x8 x9 true bt275.2.1 bt275.2.2.1 bt275.2.2.2.1 bt275.2.2.2.2.1 bt275.2.2.2.2.2.1 bt275.2.2.2.2.2.2 x251000 x251001 x251002 x251003) else ((token_Blank.f (bt x0 x9)).bind fun t282 => ((chequerref05_Blank.f (bt x0 x9)).bind fun t283 => (chequerlaw05_TokenReads.j2 k x0 x8 x9 (t282 != t283) bt275.2.1 bt275.2.2.1 bt275.2.2.2.1 bt275.2.2.2.2.1 bt275.2.2.2.2.2.1 bt275.2.2.2.2.2.2 x251000 x251001 x251002 x251003))))) else (chequerlaw05_TokenReads.j2 k x0 x8 x9 true bt268.2.1 bt268.2.2.1 bt268.2.2.2.1 bt268.2.2.2.2.1 bt268.2.2.2.2.2.1 bt268.2.2.2.2.2.2 x251000 x251001 x251002 x251003))) else (none)) else (none)
def chequerlaw05_TokenReads.j2 : Nat → ByteArray → Bool → Int → Bool → Int → Int → Int → Bool → Int → Int → Int → Int → Int → Int → Option (Bool)
  | 0, _, _, _, _, _, _, _, _, _, _, _, _, _, _ => none
  | k + 1, x0, x8, x9, x79, x246000, x246001, x246002, x246003, x246004, x246005, x251000, x251001, x251002, x251003 => if x79 = true then (some false) else ((token_Number_Value.f x246000 x246001 x246002 x246003 x246004 x246005).bind fun bt284 => ((chequerref05_Value.f x251000 x251001 x251002 x251003).bind fun bt292 => (if bt284.1 = bt292.1 then (if bt284.2.1 = bt292.2 then (chequerlaw05_TokenReads.l0 k x0 x8 (wrap64 (x9 + 1)) bt284.2.2.1 bt284.2.2.2.1 bt284.2.2.2.2.1 bt284.2.2.2.2.2.1 bt284.2.2.2.2.2.2.1 bt284.2.2.2.2.2.2.2 x251000 x251001 x251002 x251003) else (some false)) else (some false))))
end
def chequerlaw05_TokenReads.f (k : Nat) (a0 : ByteArray) (a1 : Int) : Option (Bool) := (chequerref05_Few.f a0 40).bind fun t237 => ((chequerref02_Limit.f a1).bind fun t238 => ((token_New.f t238).bind fun bt239 => ((chequerref05_New.f t238).bind fun bt246 => (chequerlaw05_TokenReads.l0 k t237 false 0 bt239.1 bt239.2.1 bt239.2.2.1 bt239.2.2.2.1 bt239.2.2.2.2.1 bt239.2.2.2.2.2 bt246.1 bt246.2.1 bt246.2.2.1 bt246.2.2.2))))
theorem chequerlaw05_TokenReads.mono_l : ∀ k, (∀ y0 y1 y2 y3 y4 y5 y6 y7 y8 y9 y10 y11 y12, LeO (chequerlaw05_TokenReads.l0 k y0 y1 y2 y3 y4 y5 y6 y7 y8 y9 y10 y11 y12) (chequerlaw05_TokenReads.l0 (k + 1) y0 y1 y2 y3 y4 y5 y6 y7 y8 y9 y10 y11 y12)) ∧ (∀ y0 y1 y2 y3 y4 y5 y6 y7 y8 y9 y10 y11 y12 y13, LeO (chequerlaw05_TokenReads.j1 k y0 y1 y2 y3 y4 y5 y6 y7 y8 y9 y10 y11 y12 y13) (chequerlaw05_TokenReads.j1 (k + 1) y0 y1 y2 y3 y4 y5 y6 y7 y8 y9 y10 y11 y12 y13)) ∧ (∀ y0 y1 y2 y3 y4 y5 y6 y7 y8 y9 y10 y11 y12 y13, LeO (chequerlaw05_TokenReads.j2 k y0 y1 y2 y3 y4 y5 y6 y7 y8 y9 y10 y11 y12 y13) (chequerlaw05_TokenReads.j2 (k + 1) y0 y1 y2 y3 y4 y5 y6 y7 y8 y9 y10 y11 y12 y13))
  | 0 => ⟨fun _ _ _ _ _ _ _ _ _ _ _ _ _ r h => by simp [chequerlaw05_TokenReads.l0] at h, fun _ _ _ _ _ _ _ _ _ _ _ _ _ _ r h => by simp [chequerlaw05_TokenReads.j1] at h, fun _ _ _ _ _ _ _ _ _ _ _ _ _ _ r h => by simp [chequerlaw05_TokenReads.j2] at h⟩
  | k + 1 => by
    obtain ⟨ih0, ih1, ih2⟩ := chequerlaw05_TokenReads.mono_l k
    refine ⟨?_, ?_, ?_⟩
    · intro y0 y1 y2 y3 y4 y5 y6 y7 y8 y9 y10 y11 y12
      unfold chequerlaw05_TokenReads.l0
      repeat' first
      | (with_reducible exact ih0 _ _ _ _ _ _ _ _ _ _ _ _ _)
      | (with_reducible exact ih1 _ _ _ _ _ _ _ _ _ _ _ _ _ _)
      | (with_reducible exact ih2 _ _ _ _ _ _ _ _ _ _ _ _ _ _)
      | (with_reducible exact chequerref05_Put.mono _ _ _ _ _ _)
      | (with_reducible exact LeO.refl _)
      | (with_reducible exact LeO.none _)
      | (with_reducible refine LeO.ite ?_ ?_)
      | (with_reducible refine LeO.bind ?_ (fun _ => ?_))
      | exact ih0 _ _ _ _ _ _ _ _ _ _ _ _ _
      | exact ih1 _ _ _ _ _ _ _ _ _ _ _ _ _ _
      | exact ih2 _ _ _ _ _ _ _ _ _ _ _ _ _ _
      | exact chequerref05_Put.mono _ _ _ _ _ _
      | exact LeO.none _
      | refine LeO.ite ?_ ?_
      | refine LeO.bind ?_ (fun _ => ?_)
    · intro y0 y1 y2 y3 y4 y5 y6 y7 y8 y9 y10 y11 y12 y13
      unfold chequerlaw05_TokenReads.j1
      repeat' first
      | (with_reducible exact ih0 _ _ _ _ _ _ _ _ _ _ _ _ _)
      | (with_reducible exact ih1 _ _ _ _ _ _ _ _ _ _ _ _ _ _)
      | (with_reducible exact ih2 _ _ _ _ _ _ _ _ _ _ _ _ _ _)
      | (with_reducible exact chequerref05_Put.mono _ _ _ _ _ _)
      | (with_reducible exact LeO.refl _)
      | (with_reducible exact LeO.none _)
      | (with_reducible refine LeO.ite ?_ ?_)
      | (with_reducible refine LeO.bind ?_ (fun _ => ?_))
      | exact ih0 _ _ _ _ _ _ _ _ _ _ _ _ _
      | exact ih1 _ _ _ _ _ _ _ _ _ _ _ _ _ _
      | exact ih2 _ _ _ _ _ _ _ _ _ _ _ _ _ _
      | exact chequerref05_Put.mono _ _ _ _ _ _
      | exact LeO.none _
      | refine LeO.ite ?_ ?_
      | refine LeO.bind ?_ (fun _ => ?_)
    · intro y0 y1 y2 y3 y4 y5 y6 y7 y8 y9 y10 y11 y12 y13
      unfold chequerlaw05_TokenReads.j2
      repeat' first
      | (with_reducible exact ih0 _ _ _ _ _ _ _ _ _ _ _ _ _)
      | (with_reducible exact ih1 _ _ _ _ _ _ _ _ _ _ _ _ _ _)
      | (with_reducible exact ih2 _ _ _ _ _ _ _ _ _ _ _ _ _ _)
      | (with_reducible exact chequerref05_Put.mono _ _ _ _ _ _)
      | (with_reducible exact LeO.refl _)
      | (with_reducible exact LeO.none _)
      | (with_reducible refine LeO.ite ?_ ?_)
      | (with_reducible refine LeO.bind ?_ (fun _ => ?_))
      | exact ih0 _ _ _ _ _ _ _ _ _ _ _ _ _
      | exact ih1 _ _ _ _ _ _ _ _ _ _ _ _ _ _
      | exact ih2 _ _ _ _ _ _ _ _ _ _ _ _ _ _
      | exact chequerref05_Put.mono _ _ _ _ _ _
      | exact LeO.none _
      | refine LeO.ite ?_ ?_
      | refine LeO.bind ?_ (fun _ => ?_)
theorem chequerlaw05_TokenReads.mono : ∀ a0 a1 k, LeO (chequerlaw05_TokenReads.f k a0 a1) (chequerlaw05_TokenReads.f (k + 1) a0 a1) := by
  intro a0 a1 k
  obtain ⟨ih0, ih1, ih2⟩ := chequerlaw05_TokenReads.mono_l k
  unfold chequerlaw05_TokenReads.f
  repeat' first
      | (with_reducible exact ih0 _ _ _ _ _ _ _ _ _ _ _ _ _)
      | (with_reducible exact ih1 _ _ _ _ _ _ _ _ _ _ _ _ _ _)
      | (with_reducible exact ih2 _ _ _ _ _ _ _ _ _ _ _ _ _ _)
      | (with_reducible exact chequerref05_Put.mono _ _ _ _ _ _)
      | (with_reducible exact LeO.refl _)
      | (with_reducible exact LeO.none _)
      | (with_reducible refine LeO.ite ?_ ?_)
      | (with_reducible refine LeO.bind ?_ (fun _ => ?_))
      | exact ih0 _ _ _ _ _ _ _ _ _ _ _ _ _
      | exact ih1 _ _ _ _ _ _ _ _ _ _ _ _ _ _
      | exact ih2 _ _ _ _ _ _ _ _ _ _ _ _ _ _
      | exact chequerref05_Put.mono _ _ _ _ _ _
      | exact LeO.none _
      | refine LeO.ite ?_ ?_
      | refine LeO.bind ?_ (fun _ => ?_)
def chequerlaw05_TokenReads.T11 : Bool × List (List Nat × List Nat) := (true, [([], []), ([], []), ([], []), ([1, 2], [1, 2]), ([0, 3], [0, 3]), ([4], [4]), ([5], [5]), ([5], [5]), ([], []), ([8, 6, 4, 0, 1, 2, 3, 4, 5, 6, 8], [6, 8]), ([7, 9, 0, 1, 2, 3, 4, 5, 6, 7, 8, 9], [7])])
def chequerlaw05_TokenReads.B11 : List Nat := [0, 0, 0, 6, 15, 31, 63, 63, 0, 383, 1023]
theorem chequerlaw05_TokenReads.tab11 : rtab .any (opsOf Try.f4 11) = chequerlaw05_TokenReads.T11 := by kernel_rfl
theorem chequerlaw05_TokenReads.bits11 : waitsOk chequerlaw05_TokenReads.T11.2 chequerlaw05_TokenReads.B11 = true := by kernel_rfl
def chequerlaw05_TokenReads.T14 : Bool × List (List Nat × List Nat) := (true, [([], []), ([], []), ([], []), ([1, 2], [1, 2]), ([0, 3], [0, 3]), ([], []), ([4, 5], [4, 5]), ([6, 4], [6]), ([7], [7]), ([8, 7, 7], [7, 8]), ([7], [7]), ([9, 10, 7], [7, 9, 10]), ([7, 11], [7, 11]), ([12, 9], [12]), ([13], [13]), ([13], [13]), ([14, 15, 13], [13, 14, 15]), ([16, 13, 13], [13, 16]), ([13], [13]), ([13], [13]), ([18, 19, 13], [13, 18, 19]), ([20, 17, 13], [13, 20]), ([17, 21, 13], [13, 17, 21]), ([13, 22], [13, 22])])
def chequerlaw05_TokenReads.B14 : List Nat := [0, 0, 0, 6, 15, 0, 63, 127, 255, 511, 255, 2047, 4095, 8191, 16383, 16383, 65535, 131071, 16383, 16383, 802815, 2097151, 4194303, 8388607]
theorem chequerlaw05_TokenReads.tab14 : rtab .any (opsOf Try.f4 14) = chequerlaw05_TokenReads.T14 := by kernel_rfl
theorem chequerlaw05_TokenReads.bits14 : waitsOk chequerlaw05_TokenReads.T14.2 chequerlaw05_TokenReads.B14 = true := by kernel_rfl
set_option maxHeartbeats 8000000 in
set_option maxRecDepth 100000 in
theorem chequerlaw05_TokenReads.calls (k : Nat) (a0 : ByteArray) (a1 : Int) (r : Bool) (w : World) (h : chequerlaw05_TokenReads.f k a0 a1 = some r) :
    Calls Try.prog 4 #[.string a0, .int .i64 a1] w fun e w' => e = .returned (.bool r) ∧ Below w.heap.size w w' := by
  have hu38 := Try.underlying38
  have HB := Aside0.mk (Below.refl w.heap.size w)
  have H : ((chequerref05_Few.f a0 40).bind fun t237 => ((chequerref02_Limit.f a1).bind fun t238 => ((token_New.f t238).bind fun bt239 => ((chequerref05_New.f t238).bind fun bt246 => (chequerlaw05_TokenReads.l0 k t237 false 0 bt239.1 bt239.2.1 bt239.2.2.1 bt239.2.2.2.1 bt239.2.2.2.2.1 bt239.2.2.2.2.2 bt246.1 bt246.2.1 bt246.2.2.1 bt246.2.2.2))))) = some r := h
  clear h
  replace H := Option.bind_eq_some_iff.mp H
  obtain ⟨t237, A30, H⟩ := H
  replace H : ((chequerref02_Limit.f a1).bind fun t238 => ((token_New.f t238).bind fun bt239 => ((chequerref05_New.f t238).bind fun bt246 => (chequerlaw05_TokenReads.l0 k t237 false 0 bt239.1 bt239.2.1 bt239.2.2.1 bt239.2.2.2.1 bt239.2.2.2.2.1 bt239.2.2.2.2.2 bt246.1 bt246.2.1 bt246.2.2.1 bt246.2.2.2)))) = some r := H
  have A3 := Aside0.mk A30
  clear A30
  replace H := Option.bind_eq_some_iff.mp H
  obtain ⟨t238, A40, H⟩ := H
  replace H : ((token_New.f t238).bind fun bt239 => ((chequerref05_New.f t238).bind fun bt246 => (chequerlaw05_TokenReads.l0 k t237 false 0 bt239.1 bt239.2.1 bt239.2.2.1 bt239.2.2.2.1 bt239.2.2.2.2.1 bt239.2.2.2.2.2 bt246.1 bt246.2.1 bt246.2.2.1 bt246.2.2.2))) = some r := H
  have A4 := Aside0.mk A40
  clear A40
  replace H := Option.bind_eq_some_iff.mp H
  obtain ⟨⟨t239, t240, t241, t242, t243, t244⟩, A50, H⟩ := H
  replace H : ((chequerref05_New.f t238).bind fun bt246 => (chequerlaw05_TokenReads.l0 k t237 false 0 t239 t240 t241 t242 t243 t244 bt246.1 bt246.2.1 bt246.2.2.1 bt246.2.2.2)) = some r := H
  have A5 := Aside0.mk A50
  clear A50
  replace H := Option.bind_eq_some_iff.mp H
  obtain ⟨⟨t246, t247, t248, t249⟩, A60, H⟩ := H
  replace H : (chequerlaw05_TokenReads.l0 k t237 false 0 t239 t240 t241 t242 t243 t244 t246 t247 t248 t249) = some r := H
  have A6 := Aside0.mk A60
  clear A60
  have H' := Aside0.mk H
  clear H
  go_enter Try.func4, Try.ntmps4
  go_wp2_with (first | ((with_reducible refine gate_callee (f := 9) rfl ?_); refine goesL_ (some 21) rfl rfl Try.func9 (by kernel_rfl) rfl #[.string a0, .int .i64 40] rfl (by (try simp only [List.map_toArray, List.map_cons, List.map_nil]); first | done | rfl | (simp only [List.length_drop, List.length_take]; rfl)) ?_; (with_reducible refine (chequerref05_Few.calls a0 40 t237 _ A3.out).mono ?_); rintro e w' ⟨rfl, ⟨nd, rfl⟩⟩; refine ⟨_, rfl, ?_⟩) | ((with_reducible refine gate_callee (f := 8) rfl ?_); refine goesL_ (some 23) rfl rfl Try.func8 (by kernel_rfl) rfl #[.int .i64 a1] rfl (by (try simp only [List.map_toArray, List.map_cons, List.map_nil]); first | done | rfl | (simp only [List.length_drop, List.length_take]; rfl)) ?_; (with_reducible refine (chequerref02_Limit.calls a1 t238 _ A4.out).mono ?_); rintro e w' ⟨rfl, ⟨nd, rfl⟩⟩; refine ⟨_, rfl, ?_⟩) | ((with_reducible refine gate_callee (f := 16) rfl ?_); refine goesL_ (some 25) rfl rfl Try.func16 (by kernel_rfl) rfl #[.int .i64 t238] rfl (by (try simp only [List.map_toArray, List.map_cons, List.map_nil]); first | done | rfl | (simp only [List.length_drop, List.length_take]; rfl)) ?_; (with_reducible refine (token_New.calls t238 t239 t240 t241 t242 t243 t244 w _ ?side1 A5.out).mono ?_); (case side1 => repeat (first | (with_reducible first | exact HB.out | apply below_alloc | apply pw_below_drewN | apply below_drew1) | exact HB.out)); rintro e w7 ⟨g245, rfl, hi, hb, hb2⟩; refine ⟨_, rfl, ?_⟩; have n0_ := Aside0.mk (hb); have n1_ := Aside0.mk (hi); clear HB; have HB := n0_; have HI245 := n1_; clear n0_ n1_; (try clear hb); (try clear hb2); (try clear hk); (try clear hi)) | ((with_reducible refine gate_callee (f := 17) rfl ?_); refine goesL_ (some 29) rfl rfl Try.func17 (by kernel_rfl) rfl #[.int .i64 t238] rfl (by (try simp only [List.map_toArray, List.map_cons, List.map_nil]); first | done | rfl | (simp only [List.length_drop, List.length_take]; rfl)) ?_; (with_reducible refine (chequerref05_New.calls t238 t246 t247 t248 t249 _ A6.out).mono ?_); rintro e w8 ⟨rfl, hb⟩; refine ⟨_, rfl, ?_⟩; have n0_ := Aside0.mk (IsS52.below (by repeat (first | (with_reducible first | exact HI245.out | apply IsS52.alloc | apply IsS52.drewN | apply IsS52.drew | apply IsS52.set_0 | apply IsS52.set_1 | apply IsS52.set_2 | apply IsS52.set_3 | apply IsS52.set_4 | apply IsS52.set_5) | exact HI245.out)) hb); have n1_ := Aside0.mk (below_step (by repeat (first | (with_reducible first | exact HB.out | apply below_alloc | apply pw_below_drewN | apply below_drew1 | refine below_set ?_ (IsS52.ge HI245.out)) | exact HB.out)) hb); clear HI245; clear HB; have HI245 := n0_; have HB := n1_; clear n0_ n1_; (try clear hb); (try clear hb2); (try clear hk); (try clear hi)) | ((with_reducible refine gate_dst (N := 7) rfl ?_); refine box_event ?hg (N := 7) ?hd (cs := #[.int .i64 0, .int .i64 0, .int .i64 0, .int .i64 0]) (t := 38) ?hr ?_; (case hd => rfl); (case hg => rfl); (case hr => first | (go_simp; done) | (go_simp; rfl)); intro gb250 hg w9 hbox hb; have n0_ := Aside0.mk (IsS52.below (by repeat (first | (with_reducible first | exact HI245.out | apply IsS52.alloc | apply IsS52.drewN | apply IsS52.drew | apply IsS52.set_0 | apply IsS52.set_1 | apply IsS52.set_2 | apply IsS52.set_3 | apply IsS52.set_4 | apply IsS52.set_5) | exact HI245.out)) hb); have n1_ := Aside0.mk (below_step (by repeat (first | (with_reducible first | exact HB.out | apply below_alloc | apply pw_below_drewN | apply below_drew1 | refine below_set ?_ (IsS52.ge HI245.out)) | exact HB.out)) hb); have n2_ := Aside0.mk (hbox); have n3_ := Aside0.mk ((by rw [hg]; exact (below_size (by repeat (first | (with_reducible first | exact HB.out | apply below_alloc | apply pw_below_drewN | apply below_drew1 | refine below_set ?_ (IsS52.ge HI245.out)) | exact HB.out))) : w.heap.size ≤ gb250)); have n4_ := Aside0.mk ((by rw [hg]; exact (below_size (by repeat (first | (with_reducible first | exact HB.out | apply below_alloc | apply pw_below_drewN | apply below_drew1 | refine below_set ?_ (IsS52.ge HI245.out)) | exact HB.out))) : w.heap.size ≤ gb250)); have n5_ := Aside0.mk ((by rw [hg]; exact Nat.ne_of_lt (IsS52.lt (show IsS52 w _ g245 t239 t240 t241 t242 t243 t244 from by repeat (first | (with_reducible first | exact HI245.out | apply IsS52.alloc | apply IsS52.drewN | apply IsS52.drew | apply IsS52.set_0 | apply IsS52.set_1 | apply IsS52.set_2 | apply IsS52.set_3 | apply IsS52.set_4 | apply IsS52.set_5) | exact HI245.out))) : g245 ≠ gb250)); have n6_ := Aside0.mk ((by rw [hg]; exact Nat.ne_of_gt (IsS52.lt (show IsS52 w _ g245 t239 t240 t241 t242 t243 t244 from by repeat (first | (with_reducible first | exact HI245.out | apply IsS52.alloc | apply IsS52.drewN | apply IsS52.drew | apply IsS52.set_0 | apply IsS52.set_1 | apply IsS52.set_2 | apply IsS52.set_3 | apply IsS52.set_4 | apply IsS52.set_5) | exact HI245.out))) : gb250 ≠ g245)); clear HI245; clear HB; have HI245 := n0_; have HB := n1_; have BK250 := n2_; have GW250 := n3_; have GE250 := n4_; have NB245_250 := n5_; have NB250_245 := n6_; clear n0_ n1_ n2_ n3_ n4_ n5_ n6_; clear hb hbox hg; have hnb10 := NB250_245.out; have hnc10 := NB245_250.out; have hcz11_0 : w9.cell? ⟨gb250, 0, none⟩ = some (.int .i64 0) := (blk_cell BK250.out 0).trans rfl; have hcz11_1 : w9.cell? ⟨gb250, 1, none⟩ = some (.int .i64 0) := (blk_cell BK250.out 1).trans rfl; have hcz11_2 : w9.cell? ⟨gb250, 2, none⟩ = some (.int .i64 0) := (blk_cell BK250.out 2).trans rfl; have hcz11_3 : w9.cell? ⟨gb250, 3, none⟩ = some (.int .i64 0) := (blk_cell BK250.out 3).trans rfl; have hfz11_0 := blk_frozen BK250.out 0; have hfz11_1 := blk_frozen BK250.out 1; have hfz11_2 := blk_frozen BK250.out 2; have hfz11_3 := blk_frozen BK250.out 3))
  go_loopg [8, 9] k (fun kq v8 v9 w' => ∃ (x8_1 : Bool) (x9_1 : Int) (x246000_1 : Int) (x246001_1 : Int) (x246002_1 : Int) (x246003_1 : Bool) (x246004_1 : Int) (x246005_1 : Int) (x251000_1 : Int) (x251001_1 : Int) (x251002_1 : Int) (x251003_1 : Int), v8 = .bool x8_1 ∧ v9 = .int .i64 x9_1 ∧ Aside0 (chequerlaw05_TokenReads.l0 kq t237 x8_1 x9_1 x246000_1 x246001_1 x246002_1 x246003_1 x246004_1 x246005_1 x251000_1 x251001_1 x251002_1 x251003_1 = some r) ∧ Aside0 (kq ≤ k) ∧ Aside0 (w'.heap[gb250]? = some (.cells #[.int .i64 x251000_1, .int .i64 x251001_1, .int .i64 x251002_1, .int .i64 x251003_1] 38 (0, 0))) ∧ Aside0 (IsS52 w w' g245 x246000_1 x246001_1 x246002_1 x246003_1 x246004_1 x246005_1) ∧ Aside0 (Below w.heap.size w w'))
  case atStart => exact ⟨(false), (0), (t239), (t240), (t241), (t242), (t243), (t244), (t246), (t247), (t248), (t249), (by first | rfl | (simp; done) | (simp [*]; done)), (by first | rfl | (simp; done) | (simp [*]; done)), H', ⟨Nat.le_refl _⟩, ⟨by (with_reducible repeat (first | refine blk_drewN ?_ _ | refine blk_drew ?_ | refine blk_alloc ?_ _)); refine blk_put (cs := #[.int .i64 t246, .int .i64 t247, .int .i64 t248, .int .i64 0]) ?_ 3 _ rfl; (with_reducible repeat (first | refine blk_drewN ?_ _ | refine blk_drew ?_ | refine blk_alloc ?_ _)); refine blk_put (cs := #[.int .i64 t246, .int .i64 t247, .int .i64 0, .int .i64 0]) ?_ 2 _ rfl; (with_reducible repeat (first | refine blk_drewN ?_ _ | refine blk_drew ?_ | refine blk_alloc ?_ _)); refine blk_put (cs := #[.int .i64 t246, .int .i64 0, .int .i64 0, .int .i64 0]) ?_ 1 _ rfl; (with_reducible repeat (first | refine blk_drewN ?_ _ | refine blk_drew ?_ | refine blk_alloc ?_ _)); refine blk_put (cs := #[.int .i64 0, .int .i64 0, .int .i64 0, .int .i64 0]) ?_ 0 _ rfl; (with_reducible repeat (first | refine blk_drewN ?_ _ | refine blk_drew ?_ | refine blk_alloc ?_ _)); exact BK250.out⟩, ⟨by repeat (first | (with_reducible first | exact HI245.out | apply IsS52.alloc | apply IsS52.drewN | apply IsS52.drew | apply IsS52.set_0 | apply IsS52.set_1 | apply IsS52.set_2 | apply IsS52.set_3 | apply IsS52.set_4 | apply IsS52.set_5 | refine IsS52.far ?_ NB245_250.out _) | exact HI245.out)⟩, ⟨by repeat (first | (with_reducible first | exact HB.out | apply below_alloc | apply pw_below_drewN | apply below_drew1 | refine below_set ?_ (IsS52.ge HI245.out) | refine below_set ?_ GE250.out) | exact HB.out)⟩⟩
  case round =>
    clear H'
    try clear c1
    try clear p2
    try clear c4
    try clear c8
    try clear c9
    try clear c10
    try clear hcz11_0
    try clear hcz11_1
    try clear hcz11_2
    try clear hcz11_3
    try clear hfz11_0
    try clear hfz11_1
    try clear hfz11_2
    try clear hfz11_3
    obtain ⟨x8_1, x9_1, x246000_1, x246001_1, x246002_1, x246003_1, x246004_1, x246005_1, x251000_1, x251001_1, x251002_1, x251003_1, rfl, rfl, HA, HK1, BK250, HI245, HB⟩ := hrel
    cases gk with
    | zero => exact absurd HA.out (by simp [chequerlaw05_TokenReads.l0])
    | succ k1 =>
      have H := HA.out
      clear HA
      simp only [chequerlaw05_TokenReads.l0] at H
      by_cases c12 : x9_1 < (t237.size : Int)
      · rw [if_pos c12] at H
        have c12b0 : decide (x9_1 < (t237.size : Int)) = true := decide_eq_true c12
        clear c12
        by_cases c13 : 0 ≤ x9_1
        · rw [if_pos c13] at H
          have c13b0 : decide (0 ≤ x9_1) = true := decide_eq_true c13
          clear c13
          replace H := Option.bind_eq_some_iff.mp H
          obtain ⟨⟨t262, t263, t264, t265, t266⟩, A150, H⟩ := H
          replace H : (if x8_1 = true then (chequerlaw05_TokenReads.j1 k1 t237 true x9_1 t266 x246000_1 x246001_1 x246002_1 x246003_1 x246004_1 x246005_1 t262 t263 t264 t265) else (if t262 ≥ 2 then (chequerlaw05_TokenReads.j1 k1 t237 (decide (t262 ≤ 4)) x9_1 t266 x246000_1 x246001_1 x246002_1 x246003_1 x246004_1 x246005_1 t262 t263 t264 t265) else (chequerlaw05_TokenReads.j1 k1 t237 false x9_1 t266 x246000_1 x246001_1 x246002_1 x246003_1 x246004_1 x246005_1 t262 t263 t264 t265))) = some r := H
          have A15 := Aside0.mk A150
          clear A150
          have HC16 := Aside0.mk H
          clear H
          try go_wp2
          (try (rw [drewN_self wr]; generalize hq_ : World.drewN wr _ = wr; have n0_ : Aside0 (wr.heap[gb250]? = some (.cells #[.int .i64 x251000_1, .int .i64 x251001_1, .int .i64 x251002_1, .int .i64 x251003_1] 38 (0, 0))) := ⟨by rw [← hq_]; exact (by (with_reducible repeat (first | refine blk_drewN ?_ _ | refine blk_drew ?_ | refine blk_alloc ?_ _)); exact BK250.out)⟩; have n1_ : Aside0 (IsS52 w wr g245 x246000_1 x246001_1 x246002_1 x246003_1 x246004_1 x246005_1) := ⟨by rw [← hq_]; exact (by repeat (first | (with_reducible first | exact HI245.out | apply IsS52.alloc | apply IsS52.drewN | apply IsS52.drew | apply IsS52.set_0 | apply IsS52.set_1 | apply IsS52.set_2 | apply IsS52.set_3 | apply IsS52.set_4 | apply IsS52.set_5 | refine IsS52.far ?_ NB245_250.out _) | exact HI245.out))⟩; have n2_ : Aside0 (Below w.heap.size w wr) := ⟨by rw [← hq_]; exact (by repeat (first | (with_reducible first | exact HB.out | apply below_alloc | apply pw_below_drewN | apply below_drew1 | refine below_set ?_ (IsS52.ge HI245.out) | refine below_set ?_ GE250.out) | exact HB.out))⟩; clear BK250 HI245 HB hq_; have BK250 := n0_; have HI245 := n1_; have HB := n2_; clear n0_ n1_ n2_))
          have n0_ := Aside0.mk (blk_drew BK250.out)
          have n1_ := Aside0.mk (IsS52.drew HI245.out)
          have n2_ := Aside0.mk (below_drew1 HB.out)
          clear BK250
          clear HI245
          clear HB
          have BK250 := n0_
          have HI245 := n1_
          have HB := n2_
          clear n0_ n1_ n2_
          have p14 : 0 ≤ (x9_1 : Int) := of_decide_eq_true (by first | (with_reducible assumption) | assumption)
          have q14 : x9_1 < (t237.size : Int) := of_decide_eq_true (by first | (with_reducible assumption) | assumption)
          have hx14 := bt_at t237 x9_1
          replace p14 := eq_true p14
          replace q14 := eq_true q14
          refine start_ (n := 11) (S := fun w' => w'.cell? ⟨gb250, 0, none⟩ = some (.int .i64 x251000_1) ∧ w'.cell? ⟨gb250, 1, none⟩ = some (.int .i64 x251001_1) ∧ w'.cell? ⟨gb250, 2, none⟩ = some (.int .i64 x251002_1) ∧ w'.cell? ⟨gb250, 3, none⟩ = some (.int .i64 x251003_1)) (ds := []) #[false, false, false, false, false, false, false, false, false, false, false] (by kernel_rfl) rfl rfl ⟨(blk_cell BK250.out 0).trans rfl, (blk_cell BK250.out 1).trans rfl, (blk_cell BK250.out 2).trans rfl, (blk_cell BK250.out 3).trans rfl⟩ (fun hHeld => ?_); refine with_tabW chequerlaw05_TokenReads.tab11 chequerlaw05_TokenReads.bits11 (fun HT_ HW_ => ?_)
          generalize wr.drew = w17 at BK250 HI245 HB hHeld ⊢
          refine pure_ (i := 1) (N := some 38) (v := ?_) (a' := ?_) #[false, true, false, false, false, false, false, false, false, false, false] rfl rfl (any_of HT_.out (by kernel_rfl)) (fun _ _ _ h => h) (Or.inl ⟨by rfl, ?_⟩) ?_ ?_
          rotate_left
          · intro w'
            go_simp
            with_reducible rfl
          rotate_left
          · simp only [Act.put, List.setIfInBounds_toArray, List.set_cons_zero, List.set_cons_succ, i64_w, i32_w]
            rfl
          refine pure_ (i := 2) (N := some 39) (v := ?_) (a' := ?_) #[false, true, true, false, false, false, false, false, false, false, false] rfl rfl (any_of HT_.out (by kernel_rfl)) (fun _ _ _ h => h) (Or.inl ⟨by rfl, ?_⟩) ?_ ?_
          rotate_left
          · intro w'
            go_simp
            with_reducible rfl
          rotate_left
          · simp only [Act.put, List.setIfInBounds_toArray, List.set_cons_zero, List.set_cons_succ, i64_w, i32_w]
            rfl
          refine take_ (i := 0) (N := some 37) (v := ?_) (a' := ?_) #[true, true, true, false, false, false, false, false, false, false, false] rfl rfl (take_ofW HT_.out HW_.out (by kernel_rfl)) (fun _ _ _ h => h) (Or.inl ⟨by rfl, ?_⟩) hHeld ?_ ?_
          rotate_left
          · rintro w' ⟨s0, s1, s2, s3⟩
            go_simp
            with_reducible rfl
          rotate_left
          · simp only [Act.put, List.setIfInBounds_toArray, List.set_cons_zero, List.set_cons_succ, i64_w, i32_w]
            rfl
          refine take_ (i := 3) (N := some 40) (v := ?_) (a' := ?_) #[true, true, true, true, false, false, false, false, false, false, false] rfl rfl (take_ofW HT_.out HW_.out (by kernel_rfl)) (fun _ _ _ h => h) (Or.inl ⟨by rfl, ?_⟩) hHeld ?_ ?_
          rotate_left
          · rintro w' ⟨s0, s1, s2, s3⟩
            go_simp
            with_reducible rfl
          rotate_left
          · simp only [Act.put, List.setIfInBounds_toArray, List.set_cons_zero, List.set_cons_succ, i64_w, i32_w]
            rfl
          refine join_ (σ := Nat) 2 #[true, true, true, true, true, true, true, true, true, false, false] (fun s_ => [(41, .tuple #[.agg #[.int .i64 t262, .int .i64 t263, .int .i64 t264, .int .i64 t265], .int .i64 t266]), (10, .pointer (some ⟨s_, 0, none⟩)), (36, .tuple #[.agg #[.int .i64 t262, .int .i64 t263, .int .i64 t264, .int .i64 t265], .int .i64 t266]), (42, .agg #[.int .i64 t262, .int .i64 t263, .int .i64 t264, .int .i64 t265]), (43, .int .i64 t266)]) (fun s_ w' => (w'.cell? ⟨gb250, 0, none⟩ = some (.int .i64 x251000_1) ∧ w'.cell? ⟨gb250, 1, none⟩ = some (.int .i64 x251001_1) ∧ w'.cell? ⟨gb250, 2, none⟩ = some (.int .i64 x251002_1) ∧ w'.cell? ⟨gb250, 3, none⟩ = some (.int .i64 x251003_1)) ∧ (w'.heap[gb250]? = some (.cells #[.int .i64 x251000_1, .int .i64 x251001_1, .int .i64 x251002_1, .int .i64 x251003_1] 38 (0, 0))) ∧ (w'.heap[s_]? = some (.cells #[.int .i64 0, .int .i64 0, .int .i64 0, .int .i64 0] 38 (0, 0))) ∧ (w.heap.size ≤ s_) ∧ (w.heap.size ≤ s_) ∧ (g245 ≠ s_) ∧ (s_ ≠ g245) ∧ (gb250 ≠ s_) ∧ (s_ ≠ gb250) ∧ (IsS52 w w' g245 x246000_1 x246001_1 x246002_1 x246003_1 x246004_1 x246005_1) ∧ (Below w.heap.size w w')) ?_ ?_
          rotate_left
          · intro hCont
            refine two_ (i := 4) (j := 8) (Ni := some 41) (Nj := some 10) #[true, true, true, true, true, false, false, false, false, false, false] #[true, true, true, true, false, false, false, false, true, false, false] rfl rfl rfl rfl (two_of HT_.out (by kernel_rfl)) (by decide) (by decide) (fun K hK => ?_) (fun K hK => ?_)
            · skip
              refine goes_ Try.func18 (by kernel_rfl) rfl #[.agg #[.int .i64 x251000_1, .int .i64 x251001_1, .int .i64 x251002_1, .int .i64 x251003_1], .int .u8 (bt t237 x9_1)] (by rfl) rfl rfl (by (try simp only [List.map_toArray, List.map_cons, List.map_nil]); first | done | rfl | (simp only [List.length_drop, List.length_take]; rfl)) ?_
              with_reducible refine (chequerref05_Put.calls k1 x251000_1 x251001_1 x251002_1 x251003_1 (bt t237 x9_1) t262 t263 t264 t265 t266 _ A15.out).mono ?_
              rintro e w18 ⟨rfl, hb⟩
              refine ⟨_, rfl, ?_⟩
              have n0_ := Aside0.mk (blk_below (g := gb250) (o := .cells #[.int .i64 x251000_1, .int .i64 x251001_1, .int .i64 x251002_1, .int .i64 x251003_1] 38 (0, 0)) (by (with_reducible repeat (first | refine blk_drewN ?_ _ | refine blk_drew ?_ | refine blk_alloc ?_ _)); exact BK250.out) hb)
              have n1_ := Aside0.mk (IsS52.below (by repeat (first | (with_reducible first | exact HI245.out | apply IsS52.alloc | apply IsS52.drewN | apply IsS52.drew | apply IsS52.set_0 | apply IsS52.set_1 | apply IsS52.set_2 | apply IsS52.set_3 | apply IsS52.set_4 | apply IsS52.set_5 | refine IsS52.far ?_ NB245_250.out _) | exact HI245.out)) hb)
              have n2_ := Aside0.mk (below_step (by repeat (first | (with_reducible first | exact HB.out | apply below_alloc | apply pw_below_drewN | apply below_drew1 | refine below_set ?_ (IsS52.ge HI245.out) | refine below_set ?_ GE250.out) | exact HB.out)) hb)
              clear BK250
              clear HI245
              clear HB
              have BK250 := n0_
              have HI245 := n1_
              have HB := n2_
              clear n0_ n1_ n2_
              (try clear hb)
              (try clear hb2)
              (try clear hk)
              (try clear hi)
              refine hK.out _ _ ⟨(blk_cell BK250.out 0).trans rfl, (blk_cell BK250.out 1).trans rfl, (blk_cell BK250.out 2).trans rfl, (blk_cell BK250.out 3).trans rfl⟩ (fun hHeld => ?_)
              clear hK K
              refine norm_ (a' := ?_) ?_ ?_
              rotate_left
              · show Act.put _ (some 41) _ = _
                simp only [Act.put, List.setIfInBounds_toArray, List.set_cons_zero, List.set_cons_succ, i64_w, i32_w]
                rfl
              refine pure_ (i := 5) (N := some 36) (v := ?_) (a' := ?_) #[true, true, true, true, true, true, false, false, false, false, false] rfl rfl (any_of HT_.out (by kernel_rfl)) (fun _ _ _ h => h) (Or.inl ⟨by rfl, ?_⟩) ?_ ?_
              rotate_left
              · intro w'
                go_simp
                with_reducible rfl
              rotate_left
              · simp only [Act.put, List.setIfInBounds_toArray, List.set_cons_zero, List.set_cons_succ, i64_w, i32_w]
                rfl
              refine pure_ (i := 6) (N := some 42) (v := ?_) (a' := ?_) #[true, true, true, true, true, true, true, false, false, false, false] rfl rfl (any_of HT_.out (by kernel_rfl)) (fun _ _ _ h => h) (Or.inl ⟨by rfl, ?_⟩) ?_ ?_
              rotate_left
              · intro w'
                go_simp
                with_reducible rfl
              rotate_left
              · simp only [Act.put, List.setIfInBounds_toArray, List.set_cons_zero, List.set_cons_succ, i64_w, i32_w]
                rfl
              refine pure_ (i := 7) (N := some 43) (v := ?_) (a' := ?_) #[true, true, true, true, true, true, true, true, false, false, false] rfl rfl (any_of HT_.out (by kernel_rfl)) (fun _ _ _ h => h) (Or.inl ⟨by rfl, ?_⟩) ?_ ?_
              rotate_left
              · intro w'
                go_simp
                with_reducible rfl
              rotate_left
              · simp only [Act.put, List.setIfInBounds_toArray, List.set_cons_zero, List.set_cons_succ, i64_w, i32_w]
                rfl
              refine one_ (i := 8) (N := some 10) #[true, true, true, true, true, true, true, true, true, false, false] rfl rfl (one_of HT_.out (by kernel_rfl)) (by decide) (fun K hK => ?_)
              refine box_step ?hg (N := 10) ?hd (cs := #[.int .i64 0, .int .i64 0, .int .i64 0, .int .i64 0]) (t := 38) ?hr ?_; (case hd => rfl); (case hg => rfl); (case hr => first | (go_simp; done) | (go_simp; rfl))
              intro gb267 hg w19 hbox hb
              have n0_ := Aside0.mk (blk_below (g := gb250) (o := .cells #[.int .i64 x251000_1, .int .i64 x251001_1, .int .i64 x251002_1, .int .i64 x251003_1] 38 (0, 0)) (by (with_reducible repeat (first | refine blk_drewN ?_ _ | refine blk_drew ?_ | refine blk_alloc ?_ _)); exact BK250.out) hb)
              have n1_ := Aside0.mk (IsS52.below (by repeat (first | (with_reducible first | exact HI245.out | apply IsS52.alloc | apply IsS52.drewN | apply IsS52.drew | apply IsS52.set_0 | apply IsS52.set_1 | apply IsS52.set_2 | apply IsS52.set_3 | apply IsS52.set_4 | apply IsS52.set_5 | refine IsS52.far ?_ NB245_250.out _) | exact HI245.out)) hb)
              have n2_ := Aside0.mk (below_step (by repeat (first | (with_reducible first | exact HB.out | apply below_alloc | apply pw_below_drewN | apply below_drew1 | refine below_set ?_ (IsS52.ge HI245.out) | refine below_set ?_ GE250.out) | exact HB.out)) hb)
              have n3_ := Aside0.mk (hbox)
              have n4_ := Aside0.mk ((by rw [hg]; exact (below_size (by repeat (first | (with_reducible first | exact HB.out | apply below_alloc | apply pw_below_drewN | apply below_drew1 | refine below_set ?_ (IsS52.ge HI245.out) | refine below_set ?_ GE250.out) | exact HB.out))) : w.heap.size ≤ gb267))
              have n5_ := Aside0.mk ((by rw [hg]; exact (below_size (by repeat (first | (with_reducible first | exact HB.out | apply below_alloc | apply pw_below_drewN | apply below_drew1 | refine below_set ?_ (IsS52.ge HI245.out) | refine below_set ?_ GE250.out) | exact HB.out))) : w.heap.size ≤ gb267))
              have n6_ := Aside0.mk ((by rw [hg]; exact Nat.ne_of_lt (blk_lt (g := gb250) (o := .cells #[.int .i64 x251000_1, .int .i64 x251001_1, .int .i64 x251002_1, .int .i64 x251003_1] 38 (0, 0)) (by (with_reducible repeat (first | refine blk_drewN ?_ _ | refine blk_drew ?_ | refine blk_alloc ?_ _)); exact BK250.out)) : gb250 ≠ gb267))
              have n7_ := Aside0.mk ((by rw [hg]; exact Nat.ne_of_gt (blk_lt (g := gb250) (o := .cells #[.int .i64 x251000_1, .int .i64 x251001_1, .int .i64 x251002_1, .int .i64 x251003_1] 38 (0, 0)) (by (with_reducible repeat (first | refine blk_drewN ?_ _ | refine blk_drew ?_ | refine blk_alloc ?_ _)); exact BK250.out)) : gb267 ≠ gb250))
              have n8_ := Aside0.mk ((by rw [hg]; exact Nat.ne_of_lt (IsS52.lt (show IsS52 w _ g245 x246000_1 x246001_1 x246002_1 x246003_1 x246004_1 x246005_1 from by repeat (first | (with_reducible first | exact HI245.out | apply IsS52.alloc | apply IsS52.drewN | apply IsS52.drew | apply IsS52.set_0 | apply IsS52.set_1 | apply IsS52.set_2 | apply IsS52.set_3 | apply IsS52.set_4 | apply IsS52.set_5 | refine IsS52.far ?_ NB245_250.out _) | exact HI245.out))) : g245 ≠ gb267))
              have n9_ := Aside0.mk ((by rw [hg]; exact Nat.ne_of_gt (IsS52.lt (show IsS52 w _ g245 x246000_1 x246001_1 x246002_1 x246003_1 x246004_1 x246005_1 from by repeat (first | (with_reducible first | exact HI245.out | apply IsS52.alloc | apply IsS52.drewN | apply IsS52.drew | apply IsS52.set_0 | apply IsS52.set_1 | apply IsS52.set_2 | apply IsS52.set_3 | apply IsS52.set_4 | apply IsS52.set_5 | refine IsS52.far ?_ NB245_250.out _) | exact HI245.out))) : gb267 ≠ g245))
              clear BK250
              clear HI245
              clear HB
              have BK250 := n0_
              have HI245 := n1_
              have HB := n2_
              have BK267 := n3_
              have GW267 := n4_
              have GE267 := n5_
              have NB250_267 := n6_
              have NB267_250 := n7_
              have NB245_267 := n8_
              have NB267_245 := n9_
              clear n0_ n1_ n2_ n3_ n4_ n5_ n6_ n7_ n8_ n9_
              clear hb hbox hg
              refine hK.out _ _ ⟨(blk_cell BK250.out 0).trans rfl, (blk_cell BK250.out 1).trans rfl, (blk_cell BK250.out 2).trans rfl, (blk_cell BK250.out 3).trans rfl⟩ (fun hHeld => ?_)
              clear hK K
              refine norm_ (a' := ?_) ?_ ?_
              rotate_left
              · show Act.put _ (some 10) _ = _
                simp only [Act.put, List.setIfInBounds_toArray, List.set_cons_zero, List.set_cons_succ, i64_w, i32_w]
                rfl
              exact norm_ (by simp only [putAll, Act.put, List.setIfInBounds_toArray, List.set_cons_zero, List.set_cons_succ]) (hCont (gb267) _ ⟨hHeld, (by (with_reducible repeat (first | refine blk_drewN ?_ _ | refine blk_drew ?_ | refine blk_alloc ?_ _)); exact BK250.out), (by (with_reducible repeat (first | refine blk_drewN ?_ _ | refine blk_drew ?_ | refine blk_alloc ?_ _)); exact BK267.out), GW267.out, GE267.out, NB245_267.out, NB267_245.out, NB250_267.out, NB267_250.out, (by repeat (first | (with_reducible first | exact HI245.out | apply IsS52.alloc | apply IsS52.drewN | apply IsS52.drew | apply IsS52.set_0 | apply IsS52.set_1 | apply IsS52.set_2 | apply IsS52.set_3 | apply IsS52.set_4 | apply IsS52.set_5 | refine IsS52.far ?_ NB245_250.out _ | refine IsS52.far ?_ NB245_267.out _) | exact HI245.out)), (by repeat (first | (with_reducible first | exact HB.out | apply below_alloc | apply pw_below_drewN | apply below_drew1 | refine below_set ?_ (IsS52.ge HI245.out) | refine below_set ?_ GE250.out | refine below_set ?_ GE267.out) | exact HB.out))⟩)
            · skip
              refine box_step ?hg (N := 10) ?hd (cs := #[.int .i64 0, .int .i64 0, .int .i64 0, .int .i64 0]) (t := 38) ?hr ?_; (case hd => rfl); (case hg => rfl); (case hr => first | (go_simp; done) | (go_simp; rfl))
              intro gb267 hg w18 hbox hb
              have n0_ := Aside0.mk (blk_below (g := gb250) (o := .cells #[.int .i64 x251000_1, .int .i64 x251001_1, .int .i64 x251002_1, .int .i64 x251003_1] 38 (0, 0)) (by (with_reducible repeat (first | refine blk_drewN ?_ _ | refine blk_drew ?_ | refine blk_alloc ?_ _)); exact BK250.out) hb)
              have n1_ := Aside0.mk (IsS52.below (by repeat (first | (with_reducible first | exact HI245.out | apply IsS52.alloc | apply IsS52.drewN | apply IsS52.drew | apply IsS52.set_0 | apply IsS52.set_1 | apply IsS52.set_2 | apply IsS52.set_3 | apply IsS52.set_4 | apply IsS52.set_5 | refine IsS52.far ?_ NB245_250.out _) | exact HI245.out)) hb)
              have n2_ := Aside0.mk (below_step (by repeat (first | (with_reducible first | exact HB.out | apply below_alloc | apply pw_below_drewN | apply below_drew1 | refine below_set ?_ (IsS52.ge HI245.out) | refine below_set ?_ GE250.out) | exact HB.out)) hb)
              have n3_ := Aside0.mk (hbox)
              have n4_ := Aside0.mk ((by rw [hg]; exact (below_size (by repeat (first | (with_reducible first | exact HB.out | apply below_alloc | apply pw_below_drewN | apply below_drew1 | refine below_set ?_ (IsS52.ge HI245.out) | refine below_set ?_ GE250.out) | exact HB.out))) : w.heap.size ≤ gb267))
              have n5_ := Aside0.mk ((by rw [hg]; exact (below_size (by repeat (first | (with_reducible first | exact HB.out | apply below_alloc | apply pw_below_drewN | apply below_drew1 | refine below_set ?_ (IsS52.ge HI245.out) | refine below_set ?_ GE250.out) | exact HB.out))) : w.heap.size ≤ gb267))
              have n6_ := Aside0.mk ((by rw [hg]; exact Nat.ne_of_lt (blk_lt (g := gb250) (o := .cells #[.int .i64 x251000_1, .int .i64 x251001_1, .int .i64 x251002_1, .int .i64 x251003_1] 38 (0, 0)) (by (with_reducible repeat (first | refine blk_drewN ?_ _ | refine blk_drew ?_ | refine blk_alloc ?_ _)); exact BK250.out)) : gb250 ≠ gb267))
              have n7_ := Aside0.mk ((by rw [hg]; exact Nat.ne_of_gt (blk_lt (g := gb250) (o := .cells #[.int .i64 x251000_1, .int .i64 x251001_1, .int .i64 x251002_1, .int .i64 x251003_1] 38 (0, 0)) (by (with_reducible repeat (first | refine blk_drewN ?_ _ | refine blk_drew ?_ | refine blk_alloc ?_ _)); exact BK250.out)) : gb267 ≠ gb250))
              have n8_ := Aside0.mk ((by rw [hg]; exact Nat.ne_of_lt (IsS52.lt (show IsS52 w _ g245 x246000_1 x246001_1 x246002_1 x246003_1 x246004_1 x246005_1 from by repeat (first | (with_reducible first | exact HI245.out | apply IsS52.alloc | apply IsS52.drewN | apply IsS52.drew | apply IsS52.set_0 | apply IsS52.set_1 | apply IsS52.set_2 | apply IsS52.set_3 | apply IsS52.set_4 | apply IsS52.set_5 | refine IsS52.far ?_ NB245_250.out _) | exact HI245.out))) : g245 ≠ gb267))
              have n9_ := Aside0.mk ((by rw [hg]; exact Nat.ne_of_gt (IsS52.lt (show IsS52 w _ g245 x246000_1 x246001_1 x246002_1 x246003_1 x246004_1 x246005_1 from by repeat (first | (with_reducible first | exact HI245.out | apply IsS52.alloc | apply IsS52.drewN | apply IsS52.drew | apply IsS52.set_0 | apply IsS52.set_1 | apply IsS52.set_2 | apply IsS52.set_3 | apply IsS52.set_4 | apply IsS52.set_5 | refine IsS52.far ?_ NB245_250.out _) | exact HI245.out))) : gb267 ≠ g245))
              clear BK250
              clear HI245
              clear HB
              have BK250 := n0_
              have HI245 := n1_
              have HB := n2_
              have BK267 := n3_
              have GW267 := n4_
              have GE267 := n5_
              have NB250_267 := n6_
              have NB267_250 := n7_
              have NB245_267 := n8_
              have NB267_245 := n9_
              clear n0_ n1_ n2_ n3_ n4_ n5_ n6_ n7_ n8_ n9_
              clear hb hbox hg
              refine hK.out _ _ ⟨(blk_cell BK250.out 0).trans rfl, (blk_cell BK250.out 1).trans rfl, (blk_cell BK250.out 2).trans rfl, (blk_cell BK250.out 3).trans rfl⟩ (fun hHeld => ?_)
              clear hK K
              refine norm_ (a' := ?_) ?_ ?_
              rotate_left
              · show Act.put _ (some 10) _ = _
                simp only [Act.put, List.setIfInBounds_toArray, List.set_cons_zero, List.set_cons_succ, i64_w, i32_w]
                rfl
              refine one_ (i := 4) (N := some 41) #[true, true, true, true, true, false, false, false, true, false, false] rfl rfl (one_of HT_.out (by kernel_rfl)) (by decide) (fun K hK => ?_)
              refine goes_ Try.func18 (by kernel_rfl) rfl #[.agg #[.int .i64 x251000_1, .int .i64 x251001_1, .int .i64 x251002_1, .int .i64 x251003_1], .int .u8 (bt t237 x9_1)] (by rfl) rfl rfl (by (try simp only [List.map_toArray, List.map_cons, List.map_nil]); first | done | rfl | (simp only [List.length_drop, List.length_take]; rfl)) ?_
              with_reducible refine (chequerref05_Put.calls k1 x251000_1 x251001_1 x251002_1 x251003_1 (bt t237 x9_1) t262 t263 t264 t265 t266 _ A15.out).mono ?_
              rintro e w19 ⟨rfl, hb⟩
              refine ⟨_, rfl, ?_⟩
              have n0_ := Aside0.mk (blk_below (g := gb250) (o := .cells #[.int .i64 x251000_1, .int .i64 x251001_1, .int .i64 x251002_1, .int .i64 x251003_1] 38 (0, 0)) (by (with_reducible repeat (first | refine blk_drewN ?_ _ | refine blk_drew ?_ | refine blk_alloc ?_ _)); exact BK250.out) hb)
              have n1_ := Aside0.mk (IsS52.below (by repeat (first | (with_reducible first | exact HI245.out | apply IsS52.alloc | apply IsS52.drewN | apply IsS52.drew | apply IsS52.set_0 | apply IsS52.set_1 | apply IsS52.set_2 | apply IsS52.set_3 | apply IsS52.set_4 | apply IsS52.set_5 | refine IsS52.far ?_ NB245_250.out _ | refine IsS52.far ?_ NB245_267.out _) | exact HI245.out)) hb)
              have n2_ := Aside0.mk (blk_below (g := gb267) (o := .cells #[.int .i64 0, .int .i64 0, .int .i64 0, .int .i64 0] 38 (0, 0)) (by (with_reducible repeat (first | refine blk_drewN ?_ _ | refine blk_drew ?_ | refine blk_alloc ?_ _)); exact BK267.out) hb)
              have n3_ := Aside0.mk (below_step (by repeat (first | (with_reducible first | exact HB.out | apply below_alloc | apply pw_below_drewN | apply below_drew1 | refine below_set ?_ (IsS52.ge HI245.out) | refine below_set ?_ GE250.out | refine below_set ?_ GE267.out) | exact HB.out)) hb)
              clear BK250
              clear HI245
              clear BK267
              clear HB
              have BK250 := n0_
              have HI245 := n1_
              have BK267 := n2_
              have HB := n3_
              clear n0_ n1_ n2_ n3_
              (try clear hb)
              (try clear hb2)
              (try clear hk)
              (try clear hi)
              refine hK.out _ _ ⟨(blk_cell BK250.out 0).trans rfl, (blk_cell BK250.out 1).trans rfl, (blk_cell BK250.out 2).trans rfl, (blk_cell BK250.out 3).trans rfl⟩ (fun hHeld => ?_)
              clear hK K
              refine norm_ (a' := ?_) ?_ ?_
              rotate_left
              · show Act.put _ (some 41) _ = _
                simp only [Act.put, List.setIfInBounds_toArray, List.set_cons_zero, List.set_cons_succ, i64_w, i32_w]
                rfl
              refine pure_ (i := 5) (N := some 36) (v := ?_) (a' := ?_) #[true, true, true, true, true, true, false, false, true, false, false] rfl rfl (any_of HT_.out (by kernel_rfl)) (fun _ _ _ h => h) (Or.inl ⟨by rfl, ?_⟩) ?_ ?_
              rotate_left
              · intro w'
                go_simp
                with_reducible rfl
              rotate_left
              · simp only [Act.put, List.setIfInBounds_toArray, List.set_cons_zero, List.set_cons_succ, i64_w, i32_w]
                rfl
              refine pure_ (i := 6) (N := some 42) (v := ?_) (a' := ?_) #[true, true, true, true, true, true, true, false, true, false, false] rfl rfl (any_of HT_.out (by kernel_rfl)) (fun _ _ _ h => h) (Or.inl ⟨by rfl, ?_⟩) ?_ ?_
              rotate_left
              · intro w'
                go_simp
                with_reducible rfl
              rotate_left
              · simp only [Act.put, List.setIfInBounds_toArray, List.set_cons_zero, List.set_cons_succ, i64_w, i32_w]
                rfl
              refine pure_ (i := 7) (N := some 43) (v := ?_) (a' := ?_) #[true, true, true, true, true, true, true, true, true, false, false] rfl rfl (any_of HT_.out (by kernel_rfl)) (fun _ _ _ h => h) (Or.inl ⟨by rfl, ?_⟩) ?_ ?_
              rotate_left
              · intro w'
                go_simp
                with_reducible rfl
              rotate_left
              · simp only [Act.put, List.setIfInBounds_toArray, List.set_cons_zero, List.set_cons_succ, i64_w, i32_w]
                rfl
              exact norm_ (by simp only [putAll, Act.put, List.setIfInBounds_toArray, List.set_cons_zero, List.set_cons_succ]) (hCont (gb267) _ ⟨hHeld, (by (with_reducible repeat (first | refine blk_drewN ?_ _ | refine blk_drew ?_ | refine blk_alloc ?_ _)); exact BK250.out), (by (with_reducible repeat (first | refine blk_drewN ?_ _ | refine blk_drew ?_ | refine blk_alloc ?_ _)); exact BK267.out), GW267.out, GE267.out, NB245_267.out, NB267_245.out, NB250_267.out, NB267_250.out, (by repeat (first | (with_reducible first | exact HI245.out | apply IsS52.alloc | apply IsS52.drewN | apply IsS52.drew | apply IsS52.set_0 | apply IsS52.set_1 | apply IsS52.set_2 | apply IsS52.set_3 | apply IsS52.set_4 | apply IsS52.set_5 | refine IsS52.far ?_ NB245_250.out _ | refine IsS52.far ?_ NB245_267.out _) | exact HI245.out)), (by repeat (first | (with_reducible first | exact HB.out | apply below_alloc | apply pw_below_drewN | apply below_drew1 | refine below_set ?_ (IsS52.ge HI245.out) | refine below_set ?_ GE250.out | refine below_set ?_ GE267.out) | exact HB.out))⟩)
          rintro gb267 w20 ⟨hS_, h0_, h1_, h2_, h3_, h4_, h5_, h6_, h7_, h8_, h9_⟩
          have n0_ : Aside0 (w20.heap[gb250]? = some (.cells #[.int .i64 x251000_1, .int .i64 x251001_1, .int .i64 x251002_1, .int .i64 x251003_1] 38 (0, 0))) := ⟨h0_⟩
          have n1_ : Aside0 (w20.heap[gb267]? = some (.cells #[.int .i64 0, .int .i64 0, .int .i64 0, .int .i64 0] 38 (0, 0))) := ⟨h1_⟩
          have n2_ : Aside0 (w.heap.size ≤ gb267) := ⟨h2_⟩
          have n3_ : Aside0 (w.heap.size ≤ gb267) := ⟨h3_⟩
          have n4_ : Aside0 (g245 ≠ gb267) := ⟨h4_⟩
          have n5_ : Aside0 (gb267 ≠ g245) := ⟨h5_⟩
          have n6_ : Aside0 (gb250 ≠ gb267) := ⟨h6_⟩
          have n7_ : Aside0 (gb267 ≠ gb250) := ⟨h7_⟩
          have n8_ : Aside0 (IsS52 w w20 g245 x246000_1 x246001_1 x246002_1 x246003_1 x246004_1 x246005_1) := ⟨h8_⟩
          have n9_ : Aside0 (Below w.heap.size w w20) := ⟨h9_⟩
          clear BK250
          clear HI245
          clear HB
          clear h0_ h1_ h2_ h3_ h4_ h5_ h6_ h7_ h8_ h9_
          have BK250 := n0_
          have BK267 := n1_
          have GW267 := n2_
          have GE267 := n3_
          have NB245_267 := n4_
          have NB267_245 := n5_
          have NB250_267 := n6_
          have NB267_250 := n7_
          have HI245 := n8_
          have HB := n9_
          clear n0_ n1_ n2_ n3_ n4_ n5_ n6_ n7_ n8_ n9_
          have hHeld : w20.cell? ⟨gb250, 0, none⟩ = some (.int .i64 x251000_1) ∧ w20.cell? ⟨gb250, 1, none⟩ = some (.int .i64 x251001_1) ∧ w20.cell? ⟨gb250, 2, none⟩ = some (.int .i64 x251002_1) ∧ w20.cell? ⟨gb250, 3, none⟩ = some (.int .i64 x251003_1) := hS_
          refine norm_ (a' := ?_) ?_ ?_
          rotate_left
          · simp only [putAll, Act.put, List.setIfInBounds_toArray, List.set_cons_zero, List.set_cons_succ]
            rfl
          refine one_ (i := 9) (N := none) #[true, true, true, true, true, true, true, true, true, true, false] rfl rfl (one_of HT_.out (by kernel_rfl)) (by decide) (fun K hK => ?_)
          have hs21 : w20.cell? ⟨gb267, 0, none⟩ = some (.int .i64 0) := (blk_cell BK267.out 0).trans rfl
          have hfs21 := blk_frozen BK267.out 0
          have hns21_0 := NB250_267.out
          have hms21_0 := NB267_250.out
          have hs22 : w20.cell? ⟨gb267, 1, none⟩ = some (.int .i64 0) := (blk_cell BK267.out 1).trans rfl
          have hfs22 := blk_frozen BK267.out 1
          have hns22_0 := NB250_267.out
          have hms22_0 := NB267_250.out
          have hs23 : w20.cell? ⟨gb267, 2, none⟩ = some (.int .i64 0) := (blk_cell BK267.out 2).trans rfl
          have hfs23 := blk_frozen BK267.out 2
          have hns23_0 := NB250_267.out
          have hms23_0 := NB267_250.out
          have hs24 : w20.cell? ⟨gb267, 3, none⟩ = some (.int .i64 0) := (blk_cell BK267.out 3).trans rfl
          have hfs24 := blk_frozen BK267.out 3
          have hns24_0 := NB250_267.out
          have hms24_0 := NB267_250.out
          refine skip_ (w1 := ?_) (by rfl) rfl ?_ ?_
          rotate_left
          · go_simp
            rfl
          refine hK.out _ _ ⟨((cell_far (p := ⟨gb267, _, none⟩) NB250_267.out _).trans (((cell_far (p := ⟨gb267, _, none⟩) NB250_267.out _).trans (((cell_far (p := ⟨gb267, _, none⟩) NB250_267.out _).trans (((cell_far (p := ⟨gb267, _, none⟩) NB250_267.out _).trans (hHeld.1)))))))), ((cell_far (p := ⟨gb267, _, none⟩) NB250_267.out _).trans (((cell_far (p := ⟨gb267, _, none⟩) NB250_267.out _).trans (((cell_far (p := ⟨gb267, _, none⟩) NB250_267.out _).trans (((cell_far (p := ⟨gb267, _, none⟩) NB250_267.out _).trans (hHeld.2.1)))))))), ((cell_far (p := ⟨gb267, _, none⟩) NB250_267.out _).trans (((cell_far (p := ⟨gb267, _, none⟩) NB250_267.out _).trans (((cell_far (p := ⟨gb267, _, none⟩) NB250_267.out _).trans (((cell_far (p := ⟨gb267, _, none⟩) NB250_267.out _).trans (hHeld.2.2.1)))))))), ((cell_far (p := ⟨gb267, _, none⟩) NB250_267.out _).trans (((cell_far (p := ⟨gb267, _, none⟩) NB250_267.out _).trans (((cell_far (p := ⟨gb267, _, none⟩) NB250_267.out _).trans (((cell_far (p := ⟨gb267, _, none⟩) NB250_267.out _).trans (hHeld.2.2.2))))))))⟩ (fun hHeld => ?_)
          clear hK K
          refine pure_ (i := 10) (N := some 11) (v := ?_) (a' := ?_) #[true, true, true, true, true, true, true, true, true, true, true] rfl rfl (any_of HT_.out (by kernel_rfl)) (fun _ _ _ h => h) (Or.inl ⟨by rfl, ?_⟩) ?_ ?_
          rotate_left
          · intro w'
            go_simp
            with_reducible rfl
          rotate_left
          · simp only [Act.put, List.setIfInBounds_toArray, List.set_cons_zero, List.set_cons_succ, i64_w, i32_w]
            rfl
          refine done_ (done_of HT_.out (by kernel_rfl)) ?_
          have hnb25 := NB267_250.out
          have hnc25 := NB250_267.out
          have hnb26 := NB267_245.out
          have hnc26 := NB245_267.out
          have hcz27_0 : w20.cell? ⟨gb267, 0, none⟩ = some (.int .i64 0) := (blk_cell BK267.out 0).trans rfl
          have hcz27_1 : w20.cell? ⟨gb267, 1, none⟩ = some (.int .i64 0) := (blk_cell BK267.out 1).trans rfl
          have hcz27_2 : w20.cell? ⟨gb267, 2, none⟩ = some (.int .i64 0) := (blk_cell BK267.out 2).trans rfl
          have hcz27_3 : w20.cell? ⟨gb267, 3, none⟩ = some (.int .i64 0) := (blk_cell BK267.out 3).trans rfl
          have hfz27_0 := blk_frozen BK267.out 0
          have hfz27_1 := blk_frozen BK267.out 1
          have hfz27_2 := blk_frozen BK267.out 2
          have hfz27_3 := blk_frozen BK267.out 3
          have hnb28 := NB250_245.out
          have hnc28 := NB245_250.out
          have hcz29_0 : w20.cell? ⟨gb250, 0, none⟩ = some (.int .i64 x251000_1) := (blk_cell BK250.out 0).trans rfl
          have hcz29_1 : w20.cell? ⟨gb250, 1, none⟩ = some (.int .i64 x251001_1) := (blk_cell BK250.out 1).trans rfl
          have hcz29_2 : w20.cell? ⟨gb250, 2, none⟩ = some (.int .i64 x251002_1) := (blk_cell BK250.out 2).trans rfl
          have hcz29_3 : w20.cell? ⟨gb250, 3, none⟩ = some (.int .i64 x251003_1) := (blk_cell BK250.out 3).trans rfl
          have hfz29_0 := blk_frozen BK250.out 0
          have hfz29_1 := blk_frozen BK250.out 1
          have hfz29_2 := blk_frozen BK250.out 2
          have hfz29_3 := blk_frozen BK250.out 3
          go_upto_region 13 with (fail)
          go_cut [8] (fun v8 wc => ∃ (kq : Nat) (x8_15 : Bool), v8 = .bool x8_15 ∧ Aside0 (chequerlaw05_TokenReads.j1 kq t237 x8_15 x9_1 t266 x246000_1 x246001_1 x246002_1 x246003_1 x246004_1 x246005_1 t262 t263 t264 t265 = some r) ∧ Aside0 (kq ≤ k1) ∧ Aside0 (wc.heap[gb250]? = some (.cells #[.int .i64 t262, .int .i64 t263, .int .i64 t264, .int .i64 t265] 38 (0, 0))) ∧ Aside0 (wc.heap[gb267]? = some (.cells #[.int .i64 t262, .int .i64 t263, .int .i64 t264, .int .i64 t265] 38 (0, 0))) ∧ Aside0 (IsS52 w wc g245 x246000_1 x246001_1 x246002_1 x246003_1 x246004_1 x246005_1) ∧ Aside0 (Below w.heap.size w wc))
          case first =>
            have H := HC16.out
            clear HC16
            by_cases c30 : x8_1 = true
            · subst c30
              have H1 : (chequerlaw05_TokenReads.j1 k1 t237 true x9_1 t266 x246000_1 x246001_1 x246002_1 x246003_1 x246004_1 x246005_1 t262 t263 t264 t265) = some r := by rw [if_pos rfl] at H; exact H
              clear H
              have H := H1
              clear H1
              have H' := Aside0.mk H
              clear H
              go_wp2
              go_meet
              case rel => exact ⟨_, (true), (by first | rfl | (simp; done) | (simp [*]; done)), H', ⟨by have := HK1.out; first | omega | exact Nat.le_refl _⟩, ⟨by (with_reducible repeat (first | refine blk_drewN ?_ _ | refine blk_drew ?_ | refine blk_alloc ?_ _)); refine blk_put (cs := #[.int .i64 t262, .int .i64 t263, .int .i64 t264, .int .i64 x251003_1]) ?_ 3 _ rfl; (with_reducible repeat (first | refine blk_drewN ?_ _ | refine blk_drew ?_ | refine blk_alloc ?_ _)); refine blk_put (cs := #[.int .i64 t262, .int .i64 t263, .int .i64 x251002_1, .int .i64 x251003_1]) ?_ 2 _ rfl; (with_reducible repeat (first | refine blk_drewN ?_ _ | refine blk_drew ?_ | refine blk_alloc ?_ _)); refine blk_put (cs := #[.int .i64 t262, .int .i64 x251001_1, .int .i64 x251002_1, .int .i64 x251003_1]) ?_ 1 _ rfl; (with_reducible repeat (first | refine blk_drewN ?_ _ | refine blk_drew ?_ | refine blk_alloc ?_ _)); refine blk_put (cs := #[.int .i64 x251000_1, .int .i64 x251001_1, .int .i64 x251002_1, .int .i64 x251003_1]) ?_ 0 _ rfl; (with_reducible repeat (first | refine blk_drewN ?_ _ | refine blk_drew ?_ | refine blk_alloc ?_ _)); refine blk_far ?_ NB250_267.out _; (with_reducible repeat (first | refine blk_drewN ?_ _ | refine blk_drew ?_ | refine blk_alloc ?_ _)); refine blk_far ?_ NB250_267.out _; (with_reducible repeat (first | refine blk_drewN ?_ _ | refine blk_drew ?_ | refine blk_alloc ?_ _)); refine blk_far ?_ NB250_267.out _; (with_reducible repeat (first | refine blk_drewN ?_ _ | refine blk_drew ?_ | refine blk_alloc ?_ _)); refine blk_far ?_ NB250_267.out _; (with_reducible repeat (first | refine blk_drewN ?_ _ | refine blk_drew ?_ | refine blk_alloc ?_ _)); exact BK250.out⟩, ⟨by (with_reducible repeat (first | refine blk_drewN ?_ _ | refine blk_drew ?_ | refine blk_alloc ?_ _)); refine blk_far ?_ NB267_250.out _; (with_reducible repeat (first | refine blk_drewN ?_ _ | refine blk_drew ?_ | refine blk_alloc ?_ _)); refine blk_far ?_ NB267_250.out _; (with_reducible repeat (first | refine blk_drewN ?_ _ | refine blk_drew ?_ | refine blk_alloc ?_ _)); refine blk_far ?_ NB267_250.out _; (with_reducible repeat (first | refine blk_drewN ?_ _ | refine blk_drew ?_ | refine blk_alloc ?_ _)); refine blk_far ?_ NB267_250.out _; (with_reducible repeat (first | refine blk_drewN ?_ _ | refine blk_drew ?_ | refine blk_alloc ?_ _)); refine blk_put (cs := #[.int .i64 t262, .int .i64 t263, .int .i64 t264, .int .i64 0]) ?_ 3 _ rfl; (with_reducible repeat (first | refine blk_drewN ?_ _ | refine blk_drew ?_ | refine blk_alloc ?_ _)); refine blk_put (cs := #[.int .i64 t262, .int .i64 t263, .int .i64 0, .int .i64 0]) ?_ 2 _ rfl; (with_reducible repeat (first | refine blk_drewN ?_ _ | refine blk_drew ?_ | refine blk_alloc ?_ _)); refine blk_put (cs := #[.int .i64 t262, .int .i64 0, .int .i64 0, .int .i64 0]) ?_ 1 _ rfl; (with_reducible repeat (first | refine blk_drewN ?_ _ | refine blk_drew ?_ | refine blk_alloc ?_ _)); refine blk_put (cs := #[.int .i64 0, .int .i64 0, .int .i64 0, .int .i64 0]) ?_ 0 _ rfl; (with_reducible repeat (first | refine blk_drewN ?_ _ | refine blk_drew ?_ | refine blk_alloc ?_ _)); exact BK267.out⟩, ⟨by repeat (first | (with_reducible first | exact HI245.out | apply IsS52.alloc | apply IsS52.drewN | apply IsS52.drew | apply IsS52.set_0 | apply IsS52.set_1 | apply IsS52.set_2 | apply IsS52.set_3 | apply IsS52.set_4 | apply IsS52.set_5 | refine IsS52.far ?_ NB245_250.out _ | refine IsS52.far ?_ NB245_267.out _) | exact HI245.out)⟩, ⟨by repeat (first | (with_reducible first | exact HB.out | apply below_alloc | apply pw_below_drewN | apply below_drew1 | refine below_set ?_ (IsS52.ge HI245.out) | refine below_set ?_ GE250.out | refine below_set ?_ GE267.out) | exact HB.out)⟩⟩
            · replace c30 := Bool.eq_false_iff.mpr c30
              subst c30
              have H1 : (if t262 ≥ 2 then (chequerlaw05_TokenReads.j1 k1 t237 (decide (t262 ≤ 4)) x9_1 t266 x246000_1 x246001_1 x246002_1 x246003_1 x246004_1 x246005_1 t262 t263 t264 t265) else (chequerlaw05_TokenReads.j1 k1 t237 false x9_1 t266 x246000_1 x246001_1 x246002_1 x246003_1 x246004_1 x246005_1 t262 t263 t264 t265)) = some r := by rw [if_neg (show ¬ (false = true) by decide)] at H; exact H
              clear H
              have H := H1
              clear H1
              by_cases c31 : t262 ≥ 2
              · rw [if_pos c31] at H
                have c31b0 : decide (2 ≤ t262) = true := decide_eq_true c31
                clear c31
                (first | rw [c31b0] | (simp only [i64_w, i32_w]; rw [c31b0]) | skip)
                have H' := Aside0.mk H
                clear H
                have hnb32 := NB250_267.out
                have hnc32 := NB267_250.out
                have hnb33 := NB250_245.out
                have hnc33 := NB245_250.out
                have hcz34_0 : w20.cell? ⟨gb250, 0, none⟩ = some (.int .i64 x251000_1) := (blk_cell BK250.out 0).trans rfl
                have hcz34_1 : w20.cell? ⟨gb250, 1, none⟩ = some (.int .i64 x251001_1) := (blk_cell BK250.out 1).trans rfl
                have hcz34_2 : w20.cell? ⟨gb250, 2, none⟩ = some (.int .i64 x251002_1) := (blk_cell BK250.out 2).trans rfl
                have hcz34_3 : w20.cell? ⟨gb250, 3, none⟩ = some (.int .i64 x251003_1) := (blk_cell BK250.out 3).trans rfl
                have hfz34_0 := blk_frozen BK250.out 0
                have hfz34_1 := blk_frozen BK250.out 1
                have hfz34_2 := blk_frozen BK250.out 2
                have hfz34_3 := blk_frozen BK250.out 3
                go_wp2
                go_meet
                case rel => exact ⟨_, (decide (t262 ≤ 4)), (by first | rfl | (simp; done) | (simp [*]; done)), H', ⟨by have := HK1.out; first | omega | exact Nat.le_refl _⟩, ⟨by (with_reducible repeat (first | refine blk_drewN ?_ _ | refine blk_drew ?_ | refine blk_alloc ?_ _)); refine blk_put (cs := #[.int .i64 t262, .int .i64 t263, .int .i64 t264, .int .i64 x251003_1]) ?_ 3 _ rfl; (with_reducible repeat (first | refine blk_drewN ?_ _ | refine blk_drew ?_ | refine blk_alloc ?_ _)); refine blk_put (cs := #[.int .i64 t262, .int .i64 t263, .int .i64 x251002_1, .int .i64 x251003_1]) ?_ 2 _ rfl; (with_reducible repeat (first | refine blk_drewN ?_ _ | refine blk_drew ?_ | refine blk_alloc ?_ _)); refine blk_put (cs := #[.int .i64 t262, .int .i64 x251001_1, .int .i64 x251002_1, .int .i64 x251003_1]) ?_ 1 _ rfl; (with_reducible repeat (first | refine blk_drewN ?_ _ | refine blk_drew ?_ | refine blk_alloc ?_ _)); refine blk_put (cs := #[.int .i64 x251000_1, .int .i64 x251001_1, .int .i64 x251002_1, .int .i64 x251003_1]) ?_ 0 _ rfl; (with_reducible repeat (first | refine blk_drewN ?_ _ | refine blk_drew ?_ | refine blk_alloc ?_ _)); refine blk_far ?_ NB250_267.out _; (with_reducible repeat (first | refine blk_drewN ?_ _ | refine blk_drew ?_ | refine blk_alloc ?_ _)); refine blk_far ?_ NB250_267.out _; (with_reducible repeat (first | refine blk_drewN ?_ _ | refine blk_drew ?_ | refine blk_alloc ?_ _)); refine blk_far ?_ NB250_267.out _; (with_reducible repeat (first | refine blk_drewN ?_ _ | refine blk_drew ?_ | refine blk_alloc ?_ _)); refine blk_far ?_ NB250_267.out _; (with_reducible repeat (first | refine blk_drewN ?_ _ | refine blk_drew ?_ | refine blk_alloc ?_ _)); exact BK250.out⟩, ⟨by (with_reducible repeat (first | refine blk_drewN ?_ _ | refine blk_drew ?_ | refine blk_alloc ?_ _)); refine blk_far ?_ NB267_250.out _; (with_reducible repeat (first | refine blk_drewN ?_ _ | refine blk_drew ?_ | refine blk_alloc ?_ _)); refine blk_far ?_ NB267_250.out _; (with_reducible repeat (first | refine blk_drewN ?_ _ | refine blk_drew ?_ | refine blk_alloc ?_ _)); refine blk_far ?_ NB267_250.out _; (with_reducible repeat (first | refine blk_drewN ?_ _ | refine blk_drew ?_ | refine blk_alloc ?_ _)); refine blk_far ?_ NB267_250.out _; (with_reducible repeat (first | refine blk_drewN ?_ _ | refine blk_drew ?_ | refine blk_alloc ?_ _)); refine blk_put (cs := #[.int .i64 t262, .int .i64 t263, .int .i64 t264, .int .i64 0]) ?_ 3 _ rfl; (with_reducible repeat (first | refine blk_drewN ?_ _ | refine blk_drew ?_ | refine blk_alloc ?_ _)); refine blk_put (cs := #[.int .i64 t262, .int .i64 t263, .int .i64 0, .int .i64 0]) ?_ 2 _ rfl; (with_reducible repeat (first | refine blk_drewN ?_ _ | refine blk_drew ?_ | refine blk_alloc ?_ _)); refine blk_put (cs := #[.int .i64 t262, .int .i64 0, .int .i64 0, .int .i64 0]) ?_ 1 _ rfl; (with_reducible repeat (first | refine blk_drewN ?_ _ | refine blk_drew ?_ | refine blk_alloc ?_ _)); refine blk_put (cs := #[.int .i64 0, .int .i64 0, .int .i64 0, .int .i64 0]) ?_ 0 _ rfl; (with_reducible repeat (first | refine blk_drewN ?_ _ | refine blk_drew ?_ | refine blk_alloc ?_ _)); exact BK267.out⟩, ⟨by repeat (first | (with_reducible first | exact HI245.out | apply IsS52.alloc | apply IsS52.drewN | apply IsS52.drew | apply IsS52.set_0 | apply IsS52.set_1 | apply IsS52.set_2 | apply IsS52.set_3 | apply IsS52.set_4 | apply IsS52.set_5 | refine IsS52.far ?_ NB245_250.out _ | refine IsS52.far ?_ NB245_267.out _) | exact HI245.out)⟩, ⟨by repeat (first | (with_reducible first | exact HB.out | apply below_alloc | apply pw_below_drewN | apply below_drew1 | refine below_set ?_ (IsS52.ge HI245.out) | refine below_set ?_ GE250.out | refine below_set ?_ GE267.out) | exact HB.out)⟩⟩
              · rw [if_neg c31] at H
                have c31b0 : decide (2 ≤ t262) = false := decide_eq_false c31
                clear c31
                (first | rw [c31b0] | (simp only [i64_w, i32_w]; rw [c31b0]) | skip)
                have H' := Aside0.mk H
                clear H
                have hnb35 := NB250_267.out
                have hnc35 := NB267_250.out
                have hnb36 := NB250_245.out
                have hnc36 := NB245_250.out
                have hcz37_0 : w20.cell? ⟨gb250, 0, none⟩ = some (.int .i64 x251000_1) := (blk_cell BK250.out 0).trans rfl
                have hcz37_1 : w20.cell? ⟨gb250, 1, none⟩ = some (.int .i64 x251001_1) := (blk_cell BK250.out 1).trans rfl
                have hcz37_2 : w20.cell? ⟨gb250, 2, none⟩ = some (.int .i64 x251002_1) := (blk_cell BK250.out 2).trans rfl
                have hcz37_3 : w20.cell? ⟨gb250, 3, none⟩ = some (.int .i64 x251003_1) := (blk_cell BK250.out 3).trans rfl
                have hfz37_0 := blk_frozen BK250.out 0
                have hfz37_1 := blk_frozen BK250.out 1
                have hfz37_2 := blk_frozen BK250.out 2
                have hfz37_3 := blk_frozen BK250.out 3
                go_wp2
                go_meet
                case rel => exact ⟨_, (false), (by first | rfl | (simp; done) | (simp [*]; done)), H', ⟨by have := HK1.out; first | omega | exact Nat.le_refl _⟩, ⟨by (with_reducible repeat (first | refine blk_drewN ?_ _ | refine blk_drew ?_ | refine blk_alloc ?_ _)); refine blk_put (cs := #[.int .i64 t262, .int .i64 t263, .int .i64 t264, .int .i64 x251003_1]) ?_ 3 _ rfl; (with_reducible repeat (first | refine blk_drewN ?_ _ | refine blk_drew ?_ | refine blk_alloc ?_ _)); refine blk_put (cs := #[.int .i64 t262, .int .i64 t263, .int .i64 x251002_1, .int .i64 x251003_1]) ?_ 2 _ rfl; (with_reducible repeat (first | refine blk_drewN ?_ _ | refine blk_drew ?_ | refine blk_alloc ?_ _)); refine blk_put (cs := #[.int .i64 t262, .int .i64 x251001_1, .int .i64 x251002_1, .int .i64 x251003_1]) ?_ 1 _ rfl; (with_reducible repeat (first | refine blk_drewN ?_ _ | refine blk_drew ?_ | refine blk_alloc ?_ _)); refine blk_put (cs := #[.int .i64 x251000_1, .int .i64 x251001_1, .int .i64 x251002_1, .int .i64 x251003_1]) ?_ 0 _ rfl; (with_reducible repeat (first | refine blk_drewN ?_ _ | refine blk_drew ?_ | refine blk_alloc ?_ _)); refine blk_far ?_ NB250_267.out _; (with_reducible repeat (first | refine blk_drewN ?_ _ | refine blk_drew ?_ | refine blk_alloc ?_ _)); refine blk_far ?_ NB250_267.out _; (with_reducible repeat (first | refine blk_drewN ?_ _ | refine blk_drew ?_ | refine blk_alloc ?_ _)); refine blk_far ?_ NB250_267.out _; (with_reducible repeat (first | refine blk_drewN ?_ _ | refine blk_drew ?_ | refine blk_alloc ?_ _)); refine blk_far ?_ NB250_267.out _; (with_reducible repeat (first | refine blk_drewN ?_ _ | refine blk_drew ?_ | refine blk_alloc ?_ _)); exact BK250.out⟩, ⟨by (with_reducible repeat (first | refine blk_drewN ?_ _ | refine blk_drew ?_ | refine blk_alloc ?_ _)); refine blk_far ?_ NB267_250.out _; (with_reducible repeat (first | refine blk_drewN ?_ _ | refine blk_drew ?_ | refine blk_alloc ?_ _)); refine blk_far ?_ NB267_250.out _; (with_reducible repeat (first | refine blk_drewN ?_ _ | refine blk_drew ?_ | refine blk_alloc ?_ _)); refine blk_far ?_ NB267_250.out _; (with_reducible repeat (first | refine blk_drewN ?_ _ | refine blk_drew ?_ | refine blk_alloc ?_ _)); refine blk_far ?_ NB267_250.out _; (with_reducible repeat (first | refine blk_drewN ?_ _ | refine blk_drew ?_ | refine blk_alloc ?_ _)); refine blk_put (cs := #[.int .i64 t262, .int .i64 t263, .int .i64 t264, .int .i64 0]) ?_ 3 _ rfl; (with_reducible repeat (first | refine blk_drewN ?_ _ | refine blk_drew ?_ | refine blk_alloc ?_ _)); refine blk_put (cs := #[.int .i64 t262, .int .i64 t263, .int .i64 0, .int .i64 0]) ?_ 2 _ rfl; (with_reducible repeat (first | refine blk_drewN ?_ _ | refine blk_drew ?_ | refine blk_alloc ?_ _)); refine blk_put (cs := #[.int .i64 t262, .int .i64 0, .int .i64 0, .int .i64 0]) ?_ 1 _ rfl; (with_reducible repeat (first | refine blk_drewN ?_ _ | refine blk_drew ?_ | refine blk_alloc ?_ _)); refine blk_put (cs := #[.int .i64 0, .int .i64 0, .int .i64 0, .int .i64 0]) ?_ 0 _ rfl; (with_reducible repeat (first | refine blk_drewN ?_ _ | refine blk_drew ?_ | refine blk_alloc ?_ _)); exact BK267.out⟩, ⟨by repeat (first | (with_reducible first | exact HI245.out | apply IsS52.alloc | apply IsS52.drewN | apply IsS52.drew | apply IsS52.set_0 | apply IsS52.set_1 | apply IsS52.set_2 | apply IsS52.set_3 | apply IsS52.set_4 | apply IsS52.set_5 | refine IsS52.far ?_ NB245_250.out _ | refine IsS52.far ?_ NB245_267.out _) | exact HI245.out)⟩, ⟨by repeat (first | (with_reducible first | exact HB.out | apply below_alloc | apply pw_below_drewN | apply below_drew1 | refine below_set ?_ (IsS52.ge HI245.out) | refine below_set ?_ GE250.out | refine below_set ?_ GE267.out) | exact HB.out)⟩⟩
          case rest =>
            clear HC16
            try clear c1
            try clear p1
            try clear q1
            try clear hx1
            try clear c2
            try clear p2
            try clear c3
            try clear c4
            try clear c8
            try clear c9
            try clear c10
            try clear c12
            try clear c12b0
            try clear c13
            try clear c13b0
            try clear p14
            try clear q14
            try clear hx14
            try clear c16
            try clear c17
            try clear c18
            try clear c25
            try clear c26
            try clear c28
            try clear c30
            try clear c31
            try clear c31b0
            try clear c32
            try clear c33
            try clear c35
            try clear c36
            try clear hcz11_0
            try clear hcz11_1
            try clear hcz11_2
            try clear hcz11_3
            try clear hcz27_0
            try clear hcz27_1
            try clear hcz27_2
            try clear hcz27_3
            try clear hcz29_0
            try clear hcz29_1
            try clear hcz29_2
            try clear hcz29_3
            try clear hcz34_0
            try clear hcz34_1
            try clear hcz34_2
            try clear hcz34_3
            try clear hcz37_0
            try clear hcz37_1
            try clear hcz37_2
            try clear hcz37_3
            try clear hfz11_0
            try clear hfz11_1
            try clear hfz11_2
            try clear hfz11_3
            try clear hfz27_0
            try clear hfz27_1
            try clear hfz27_2
            try clear hfz27_3
            try clear hfz29_0
            try clear hfz29_1
            try clear hfz29_2
            try clear hfz29_3
            try clear hfz34_0
            try clear hfz34_1
            try clear hfz34_2
            try clear hfz34_3
            try clear hfz37_0
            try clear hfz37_1
            try clear hfz37_2
            try clear hfz37_3
            try clear p14
            try clear p2
            try clear q14
            obtain ⟨kq, x8_15, rfl, HA, HJ15, BK250, BK267, HI245, HB⟩ := hcut
            cases kq with
            | zero => exact absurd HA.out (by simp [chequerlaw05_TokenReads.j1])
            | succ kj15 =>
              have H := HA.out
              clear HA
              simp only [chequerlaw05_TokenReads.j1] at H
              have HC38 := Aside0.mk H
              clear H
              go_upto_region 14 with (fail)
              go_cut [79] (fun v79 wc => ∃ (kq : Nat) (x79_37 : Bool) (x246000_37 : Int) (x246001_37 : Int) (x246002_37 : Int) (x246003_37 : Bool) (x246004_37 : Int) (x246005_37 : Int), v79 = .bool x79_37 ∧ Aside0 (chequerlaw05_TokenReads.j2 kq t237 x8_15 x9_1 x79_37 x246000_37 x246001_37 x246002_37 x246003_37 x246004_37 x246005_37 t262 t263 t264 t265 = some r) ∧ Aside0 (kq ≤ kj15) ∧ Aside0 (wc.heap[gb250]? = some (.cells #[.int .i64 t262, .int .i64 t263, .int .i64 t264, .int .i64 t265] 38 (0, 0))) ∧ Aside0 (wc.heap[gb267]? = some (.cells #[.int .i64 t262, .int .i64 t263, .int .i64 t264, .int .i64 t265] 38 (0, 0))) ∧ Aside0 (IsS52 w wc g245 x246000_37 x246001_37 x246002_37 x246003_37 x246004_37 x246005_37) ∧ Aside0 (Below w.heap.size w wc))
              case first =>
                have H := HC38.out
                clear HC38
                by_cases c39 : 0 ≤ x9_1
                · rw [if_pos c39] at H
                  have c39b0 : decide (0 ≤ x9_1) = true := decide_eq_true c39
                  clear c39
                  (first | rw [c39b0] | (simp only [i64_w, i32_w]; rw [c39b0]) | skip)
                  by_cases c40 : x9_1 < (t237.size : Int)
                  · rw [if_pos c40] at H
                    have c40b0 : decide (x9_1 < (t237.size : Int)) = true := decide_eq_true c40
                    clear c40
                    replace H := Option.bind_eq_some_iff.mp H
                    obtain ⟨⟨t268, t269, t270, t271, t272, t273, t274⟩, A420, H⟩ := H
                    replace H : (if t268 = t266 then ((token_Number_Begun.f t269 t270 t271 t272 t273 t274).bind fun bt275 => (if (bt275.1 != x8_15) = true then (chequerlaw05_TokenReads.j2 kj15 t237 x8_15 x9_1 true bt275.2.1 bt275.2.2.1 bt275.2.2.2.1 bt275.2.2.2.2.1 bt275.2.2.2.2.2.1 bt275.2.2.2.2.2.2 t262 t263 t264 t265) else ((token_Blank.f (bt t237 x9_1)).bind fun t282 => ((chequerref05_Blank.f (bt t237 x9_1)).bind fun t283 => (chequerlaw05_TokenReads.j2 kj15 t237 x8_15 x9_1 (t282 != t283) bt275.2.1 bt275.2.2.1 bt275.2.2.2.1 bt275.2.2.2.2.1 bt275.2.2.2.2.2.1 bt275.2.2.2.2.2.2 t262 t263 t264 t265))))) else (chequerlaw05_TokenReads.j2 kj15 t237 x8_15 x9_1 true t269 t270 t271 t272 t273 t274 t262 t263 t264 t265)) = some r := H
                    have A42 := Aside0.mk A420
                    clear A420
                    by_cases c43 : t268 = t266
                    · rw [if_pos c43] at H
                      have c43b0 : (t268 == t266) = true := beq_iff_eq.mpr c43
                      have c43b1 : (t268 != t266) = false := bne_eq_false_iff_eq.mpr c43
                      clear c43
                      replace H := Option.bind_eq_some_iff.mp H
                      obtain ⟨⟨t275, t276, t277, t278, t279, t280, t281⟩, A440, H⟩ := H
                      replace H : (if (t275 != x8_15) = true then (chequerlaw05_TokenReads.j2 kj15 t237 x8_15 x9_1 true t276 t277 t278 t279 t280 t281 t262 t263 t264 t265) else ((token_Blank.f (bt t237 x9_1)).bind fun t282 => ((chequerref05_Blank.f (bt t237 x9_1)).bind fun t283 => (chequerlaw05_TokenReads.j2 kj15 t237 x8_15 x9_1 (t282 != t283) t276 t277 t278 t279 t280 t281 t262 t263 t264 t265)))) = some r := H
                      have A44 := Aside0.mk A440
                      clear A440
                      by_cases c45 : (t275 != x8_15) = true
                      · rw [if_pos c45] at H
                        have c45b0 : (t275 != x8_15) = true := c45
                        (try (have c45b1 : decide (t275 = x8_15) = false := by simpa using c45))
                        (try (have c45b2 : (t275 == x8_15) = false := by simpa using c45))
                        (try (have c45b3 : ¬ (t275 = x8_15) := by simpa using c45))
                        clear c45
                        have H' := Aside0.mk H
                        clear H
                        try go_wp2
                        (try (rw [drewN_self wc]; generalize hq_ : World.drewN wc _ = wc; have n0_ : Aside0 (wc.heap[gb250]? = some (.cells #[.int .i64 t262, .int .i64 t263, .int .i64 t264, .int .i64 t265] 38 (0, 0))) := ⟨by rw [← hq_]; exact (by (with_reducible repeat (first | refine blk_drewN ?_ _ | refine blk_drew ?_ | refine blk_alloc ?_ _)); exact BK250.out)⟩; have n1_ : Aside0 (wc.heap[gb267]? = some (.cells #[.int .i64 t262, .int .i64 t263, .int .i64 t264, .int .i64 t265] 38 (0, 0))) := ⟨by rw [← hq_]; exact (by (with_reducible repeat (first | refine blk_drewN ?_ _ | refine blk_drew ?_ | refine blk_alloc ?_ _)); exact BK267.out)⟩; have n2_ : Aside0 (IsS52 w wc g245 x246000_1 x246001_1 x246002_1 x246003_1 x246004_1 x246005_1) := ⟨by rw [← hq_]; exact (by repeat (first | (with_reducible first | exact HI245.out | apply IsS52.alloc | apply IsS52.drewN | apply IsS52.drew | apply IsS52.set_0 | apply IsS52.set_1 | apply IsS52.set_2 | apply IsS52.set_3 | apply IsS52.set_4 | apply IsS52.set_5 | refine IsS52.far ?_ NB245_250.out _ | refine IsS52.far ?_ NB245_267.out _) | exact HI245.out))⟩; have n3_ : Aside0 (Below w.heap.size w wc) := ⟨by rw [← hq_]; exact (by repeat (first | (with_reducible first | exact HB.out | apply below_alloc | apply pw_below_drewN | apply below_drew1 | refine below_set ?_ (IsS52.ge HI245.out) | refine below_set ?_ GE250.out | refine below_set ?_ GE267.out) | exact HB.out))⟩; clear BK250 BK267 HI245 HB hq_; have BK250 := n0_; have BK267 := n1_; have HI245 := n2_; have HB := n3_; clear n0_ n1_ n2_ n3_))
                        have n0_ := Aside0.mk (blk_drew BK250.out)
                        have n1_ := Aside0.mk (blk_drew BK267.out)
                        have n2_ := Aside0.mk (IsS52.drew HI245.out)
                        have n3_ := Aside0.mk (below_drew1 HB.out)
                        clear BK250
                        clear BK267
                        clear HI245
                        clear HB
                        have BK250 := n0_
                        have BK267 := n1_
                        have HI245 := n2_
                        have HB := n3_
                        clear n0_ n1_ n2_ n3_
                        have p41 : 0 ≤ (x9_1 : Int) := of_decide_eq_true (by first | (with_reducible assumption) | assumption)
                        have q41 : x9_1 < (t237.size : Int) := of_decide_eq_true (by first | (with_reducible assumption) | assumption)
                        have hx41 := bt_at t237 x9_1
                        replace p41 := eq_true p41
                        replace q41 := eq_true q41
                        refine start_ (n := 24) (S := fun w' => True) (ds := []) #[false, false, false, false, false, false, false, false, false, false, false, false, false, false, false, false, false, false, false, false, false, false, false, false] (by kernel_rfl) rfl rfl trivial (fun hHeld => ?_); refine with_tabW chequerlaw05_TokenReads.tab14 chequerlaw05_TokenReads.bits14 (fun HT_ HW_ => ?_)
                        generalize wc.drew = w46 at BK250 BK267 HI245 HB hHeld ⊢
                        refine pure_ (i := 0) (N := some 56) (v := ?_) (a' := ?_) #[true, false, false, false, false, false, false, false, false, false, false, false, false, false, false, false, false, false, false, false, false, false, false, false] rfl rfl (any_of HT_.out (by kernel_rfl)) (fun _ _ _ h => h) (Or.inl ⟨by rfl, ?_⟩) ?_ ?_
                        rotate_left
                        · intro w'
                          go_simp
                          with_reducible rfl
                        rotate_left
                        · simp only [Act.put, List.setIfInBounds_toArray, List.set_cons_zero, List.set_cons_succ, i64_w, i32_w]
                          rfl
                        refine pure_ (i := 1) (N := some 57) (v := ?_) (a' := ?_) #[true, true, false, false, false, false, false, false, false, false, false, false, false, false, false, false, false, false, false, false, false, false, false, false] rfl rfl (any_of HT_.out (by kernel_rfl)) (fun _ _ _ h => h) (Or.inl ⟨by rfl, ?_⟩) ?_ ?_
                        rotate_left
                        · intro w'
                          go_simp
                          with_reducible rfl
                        rotate_left
                        · simp only [Act.put, List.setIfInBounds_toArray, List.set_cons_zero, List.set_cons_succ, i64_w, i32_w]
                          rfl
                        refine pure_ (i := 2) (N := some 58) (v := ?_) (a' := ?_) #[true, true, true, false, false, false, false, false, false, false, false, false, false, false, false, false, false, false, false, false, false, false, false, false] rfl rfl (any_of HT_.out (by kernel_rfl)) (fun _ _ _ h => h) (Or.inl ⟨by rfl, ?_⟩) ?_ ?_
                        rotate_left
                        · intro w'
                          go_simp
                          with_reducible rfl
                        rotate_left
                        · simp only [Act.put, List.setIfInBounds_toArray, List.set_cons_zero, List.set_cons_succ, i64_w, i32_w]
                          rfl
                        refine pure_ (i := 5) (N := some 61) (v := ?_) (a' := ?_) #[true, true, true, false, false, true, false, false, false, false, false, false, false, false, false, false, false, false, false, false, false, false, false, false] rfl rfl (any_of HT_.out (by kernel_rfl)) (fun _ _ _ h => h) (Or.inl ⟨by rfl, ?_⟩) ?_ ?_
                        rotate_left
                        · intro w'
                          go_simp
                          with_reducible rfl
                        rotate_left
                        · simp only [Act.put, List.setIfInBounds_toArray, List.set_cons_zero, List.set_cons_succ, i64_w, i32_w]
                          rfl
                        refine take_ (i := 3) (N := some 59) (v := ?_) (a' := ?_) #[true, true, true, true, false, true, false, false, false, false, false, false, false, false, false, false, false, false, false, false, false, false, false, false] rfl rfl (take_ofW HT_.out HW_.out (by kernel_rfl)) (fun _ _ _ h => h) (Or.inl ⟨by rfl, ?_⟩) hHeld ?_ ?_
                        rotate_left
                        · intro w' _
                          go_simp
                          with_reducible rfl
                        rotate_left
                        · simp only [Act.put, List.setIfInBounds_toArray, List.set_cons_zero, List.set_cons_succ, i64_w, i32_w]
                          rfl
                        refine one_ (i := 4) (N := some 60) #[true, true, true, true, true, true, false, false, false, false, false, false, false, false, false, false, false, false, false, false, false, false, false, false] rfl rfl (one_of HT_.out (by kernel_rfl)) (by decide) (fun K hK => ?_)
                        refine goes_ Try.func19 (by kernel_rfl) rfl #[.pointer (some ⟨g245, 0, none⟩), .int .u8 (bt t237 x9_1)] (by rfl) rfl rfl (by (try simp only [List.map_toArray, List.map_cons, List.map_nil]); first | done | rfl | (simp only [List.length_drop, List.length_take]; rfl)) ?_
                        with_reducible refine (token_Number_Put.calls g245 x246000_1 x246001_1 x246002_1 x246003_1 x246004_1 x246005_1 (bt t237 x9_1) t268 t269 t270 t271 t272 t273 t274 w _ ?side1 ?side2 A42.out).mono ?_
                        (case side1 => repeat (first | (with_reducible first | exact HI245.out | apply IsS52.alloc | apply IsS52.drewN | apply IsS52.drew | apply IsS52.set_0 | apply IsS52.set_1 | apply IsS52.set_2 | apply IsS52.set_3 | apply IsS52.set_4 | apply IsS52.set_5 | refine IsS52.far ?_ NB245_250.out _ | refine IsS52.far ?_ NB245_267.out _) | exact HI245.out))
                        (case side2 => repeat (first | (with_reducible first | exact HB.out | apply below_alloc | apply pw_below_drewN | apply below_drew1 | refine below_set ?_ (IsS52.ge HI245.out) | refine below_set ?_ GE250.out | refine below_set ?_ GE267.out) | exact HB.out))
                        rintro e w47 ⟨rfl, hi, hb, hk⟩
                        refine ⟨_, rfl, ?_⟩
                        have n0_ := Aside0.mk (KeepBut.blk hk (g' := gb250) (o := .cells #[.int .i64 t262, .int .i64 t263, .int .i64 t264, .int .i64 t265] 38 (0, 0)) (by (with_reducible repeat (first | refine blk_drewN ?_ _ | refine blk_drew ?_ | refine blk_alloc ?_ _)); exact BK250.out) NB250_245.out (by simp))
                        have n1_ := Aside0.mk (KeepBut.blk hk (g' := gb267) (o := .cells #[.int .i64 t262, .int .i64 t263, .int .i64 t264, .int .i64 t265] 38 (0, 0)) (by (with_reducible repeat (first | refine blk_drewN ?_ _ | refine blk_drew ?_ | refine blk_alloc ?_ _)); exact BK267.out) NB267_245.out (by simp))
                        have n2_ := Aside0.mk (hb)
                        have n3_ := Aside0.mk (hi)
                        clear BK250
                        clear BK267
                        clear HB
                        clear HI245
                        have BK250 := n0_
                        have BK267 := n1_
                        have HB := n2_
                        have HI245 := n3_
                        clear n0_ n1_ n2_ n3_
                        (try clear hb)
                        (try clear hb2)
                        (try clear hk)
                        (try clear hi)
                        refine hK.out _ _ trivial (fun hHeld => ?_)
                        clear hK K
                        refine norm_ (a' := ?_) ?_ ?_
                        rotate_left
                        · show Act.put _ (some 60) _ = _
                          simp only [Act.put, List.setIfInBounds_toArray, List.set_cons_zero, List.set_cons_succ, i64_w, i32_w]
                          rfl
                        refine pure_ (i := 6) (N := some 62) (v := ?_) (a' := ?_) #[true, true, true, true, true, true, true, false, false, false, false, false, false, false, false, false, false, false, false, false, false, false, false, false] rfl rfl (any_of HT_.out (by kernel_rfl)) (fun _ _ _ h => h) (Or.inl ⟨by rfl, ?_⟩) ?_ ?_
                        rotate_left
                        · intro w'
                          go_simp
                          with_reducible rfl
                        rotate_left
                        · simp only [Act.put, List.setIfInBounds_toArray, List.set_cons_zero, List.set_cons_succ, i64_w, i32_w]
                          rfl
                        refine pure_ (i := 7) (N := some 63) (v := ?_) (a' := ?_) #[true, true, true, true, true, true, true, true, false, false, false, false, false, false, false, false, false, false, false, false, false, false, false, false] rfl rfl (any_of HT_.out (by kernel_rfl)) (fun _ _ _ h => h) (Or.inl ⟨by rfl, ?_⟩) ?_ ?_
                        rotate_left
                        · intro w'
                          go_simp
                          with_reducible rfl
                        rotate_left
                        · simp only [Act.put, List.setIfInBounds_toArray, List.set_cons_zero, List.set_cons_succ, i64_w, i32_w]
                          rfl
                        refine pure_ (i := 8) (N := some 64) (v := ?_) (a' := ?_) #[true, true, true, true, true, true, true, true, true, false, false, false, false, false, false, false, false, false, false, false, false, false, false, false] rfl rfl (any_of HT_.out (by kernel_rfl)) (fun _ _ _ h => h) (Or.inl ⟨by rfl, ?_⟩) ?_ ?_
                        rotate_left
                        · intro w'
                          go_simp
                          with_reducible rfl
                        rotate_left
                        · simp only [Act.put, List.setIfInBounds_toArray, List.set_cons_zero, List.set_cons_succ, i64_w, i32_w]
                          rfl
                        refine pure_ (i := 10) (N := some 66) (v := ?_) (a' := ?_) #[true, true, true, true, true, true, true, true, true, false, true, false, false, false, false, false, false, false, false, false, false, false, false, false] rfl rfl (any_of HT_.out (by kernel_rfl)) (fun _ _ _ h => h) (Or.inl ⟨by rfl, ?_⟩) ?_ ?_
                        rotate_left
                        · intro w'
                          go_simp
                          with_reducible rfl
                        rotate_left
                        · simp only [Act.put, List.setIfInBounds_toArray, List.set_cons_zero, List.set_cons_succ, i64_w, i32_w]
                          rfl
                        refine one_ (i := 9) (N := some 65) #[true, true, true, true, true, true, true, true, true, true, true, false, false, false, false, false, false, false, false, false, false, false, false, false] rfl rfl (one_of HT_.out (by kernel_rfl)) (by decide) (fun K hK => ?_)
                        refine goes_ Try.func20 (by kernel_rfl) rfl #[.pointer (some ⟨g245, 0, none⟩)] (by rfl) rfl rfl (by (try simp only [List.map_toArray, List.map_cons, List.map_nil]); first | done | rfl | (simp only [List.length_drop, List.length_take]; rfl)) ?_
                        with_reducible refine (token_Number_Begun.calls g245 t269 t270 t271 t272 t273 t274 t275 t276 t277 t278 t279 t280 t281 w _ ?side1 ?side2 A44.out).mono ?_
                        (case side1 => repeat (first | (with_reducible first | exact HI245.out | apply IsS52.alloc | apply IsS52.drewN | apply IsS52.drew | apply IsS52.set_0 | apply IsS52.set_1 | apply IsS52.set_2 | apply IsS52.set_3 | apply IsS52.set_4 | apply IsS52.set_5 | refine IsS52.far ?_ NB245_250.out _ | refine IsS52.far ?_ NB245_267.out _) | exact HI245.out))
                        (case side2 => repeat (first | (with_reducible first | exact HB.out | apply below_alloc | apply pw_below_drewN | apply below_drew1 | refine below_set ?_ (IsS52.ge HI245.out) | refine below_set ?_ GE250.out | refine below_set ?_ GE267.out) | exact HB.out))
                        rintro e w48 ⟨rfl, hi, hb, hk⟩
                        refine ⟨_, rfl, ?_⟩
                        have n0_ := Aside0.mk (KeepBut.blk hk (g' := gb250) (o := .cells #[.int .i64 t262, .int .i64 t263, .int .i64 t264, .int .i64 t265] 38 (0, 0)) (by (with_reducible repeat (first | refine blk_drewN ?_ _ | refine blk_drew ?_ | refine blk_alloc ?_ _)); exact BK250.out) NB250_245.out (by simp))
                        have n1_ := Aside0.mk (KeepBut.blk hk (g' := gb267) (o := .cells #[.int .i64 t262, .int .i64 t263, .int .i64 t264, .int .i64 t265] 38 (0, 0)) (by (with_reducible repeat (first | refine blk_drewN ?_ _ | refine blk_drew ?_ | refine blk_alloc ?_ _)); exact BK267.out) NB267_245.out (by simp))
                        have n2_ := Aside0.mk (hb)
                        have n3_ := Aside0.mk (hi)
                        clear BK250
                        clear BK267
                        clear HB
                        clear HI245
                        have BK250 := n0_
                        have BK267 := n1_
                        have HB := n2_
                        have HI245 := n3_
                        clear n0_ n1_ n2_ n3_
                        (try clear hb)
                        (try clear hb2)
                        (try clear hk)
                        (try clear hi)
                        refine hK.out _ _ trivial (fun hHeld => ?_)
                        clear hK K
                        refine norm_ (a' := ?_) ?_ ?_
                        rotate_left
                        · show Act.put _ (some 65) _ = _
                          simp only [Act.put, List.setIfInBounds_toArray, List.set_cons_zero, List.set_cons_succ, i64_w, i32_w]
                          rfl
                        refine pure_ (i := 11) (N := some 67) (v := ?_) (a' := ?_) #[true, true, true, true, true, true, true, true, true, true, true, true, false, false, false, false, false, false, false, false, false, false, false, false] rfl rfl (any_of HT_.out (by kernel_rfl)) (fun _ _ _ h => h) (Or.inl ⟨by rfl, ?_⟩) ?_ ?_
                        rotate_left
                        · intro w'
                          go_simp
                          with_reducible rfl
                        rotate_left
                        · simp only [Act.put, List.setIfInBounds_toArray, List.set_cons_zero, List.set_cons_succ, i64_w, i32_w]
                          rfl
                        refine pure_ (i := 12) (N := some 68) (v := ?_) (a' := ?_) #[true, true, true, true, true, true, true, true, true, true, true, true, true, false, false, false, false, false, false, false, false, false, false, false] rfl rfl (any_of HT_.out (by kernel_rfl)) (fun _ _ _ h => h) (Or.inl ⟨by rfl, ?_⟩) ?_ ?_
                        rotate_left
                        · intro w'
                          go_simp
                          with_reducible rfl
                        rotate_left
                        · simp only [Act.put, List.setIfInBounds_toArray, List.set_cons_zero, List.set_cons_succ, i64_w, i32_w]
                          rfl
                        refine pure_ (i := 13) (N := some 69) (v := ?_) (a' := ?_) #[true, true, true, true, true, true, true, true, true, true, true, true, true, true, false, false, false, false, false, false, false, false, false, false] rfl rfl (any_of HT_.out (by kernel_rfl)) (fun _ _ _ h => h) (Or.inl ⟨by rfl, ?_⟩) ?_ ?_
                        rotate_left
                        · intro w'
                          go_simp
                          with_reducible rfl
                        rotate_left
                        · simp only [Act.put, List.setIfInBounds_toArray, List.set_cons_zero, List.set_cons_succ, i64_w, i32_w]
                          rfl
                        refine pure_ (i := 14) (N := some 70) (v := undef) (a' := ?_) #[true, true, true, true, true, true, true, true, true, true, true, true, true, true, true, false, false, false, false, false, false, false, false, false] rfl rfl (any_of HT_.out (by kernel_rfl)) (fun _ _ _ h => h) (Or.inr ⟨by rfl, rfl⟩) ?_ ?_
                        rotate_left
                        · simp only [Act.put, List.setIfInBounds_toArray, List.set_cons_zero, List.set_cons_succ, i64_w, i32_w]
                          rfl
                        refine pure_ (i := 15) (N := some 71) (v := undef) (a' := ?_) #[true, true, true, true, true, true, true, true, true, true, true, true, true, true, true, true, false, false, false, false, false, false, false, false] rfl rfl (any_of HT_.out (by kernel_rfl)) (fun _ _ _ h => h) (Or.inr ⟨by rfl, rfl⟩) ?_ ?_
                        rotate_left
                        · simp only [Act.put, List.setIfInBounds_toArray, List.set_cons_zero, List.set_cons_succ, i64_w, i32_w]
                          rfl
                        refine pure_ (i := 16) (N := some 72) (v := undef) (a' := ?_) #[true, true, true, true, true, true, true, true, true, true, true, true, true, true, true, true, true, false, false, false, false, false, false, false] rfl rfl (any_of HT_.out (by kernel_rfl)) (fun _ _ _ h => h) (Or.inr ⟨by rfl, rfl⟩) ?_ ?_
                        rotate_left
                        · simp only [Act.put, List.setIfInBounds_toArray, List.set_cons_zero, List.set_cons_succ, i64_w, i32_w]
                          rfl
                        refine pure_ (i := 17) (N := some 73) (v := undef) (a' := ?_) #[true, true, true, true, true, true, true, true, true, true, true, true, true, true, true, true, true, true, false, false, false, false, false, false] rfl rfl (any_of HT_.out (by kernel_rfl)) (fun _ _ _ h => h) (Or.inr ⟨by rfl, rfl⟩) ?_ ?_
                        rotate_left
                        · simp only [Act.put, List.setIfInBounds_toArray, List.set_cons_zero, List.set_cons_succ, i64_w, i32_w]
                          rfl
                        refine pure_ (i := 18) (N := some 74) (v := undef) (a' := ?_) #[true, true, true, true, true, true, true, true, true, true, true, true, true, true, true, true, true, true, true, false, false, false, false, false] rfl rfl (any_of HT_.out (by kernel_rfl)) (fun _ _ _ h => h) (Or.inr ⟨by rfl, rfl⟩) ?_ ?_
                        rotate_left
                        · simp only [Act.put, List.setIfInBounds_toArray, List.set_cons_zero, List.set_cons_succ, i64_w, i32_w]
                          rfl
                        refine pure_ (i := 19) (N := some 75) (v := undef) (a' := ?_) #[true, true, true, true, true, true, true, true, true, true, true, true, true, true, true, true, true, true, true, true, false, false, false, false] rfl rfl (any_of HT_.out (by kernel_rfl)) (fun _ _ _ h => h) (Or.inr ⟨by rfl, rfl⟩) ?_ ?_
                        rotate_left
                        · simp only [Act.put, List.setIfInBounds_toArray, List.set_cons_zero, List.set_cons_succ, i64_w, i32_w]
                          rfl
                        refine pure_ (i := 20) (N := some 76) (v := undef) (a' := ?_) #[true, true, true, true, true, true, true, true, true, true, true, true, true, true, true, true, true, true, true, true, true, false, false, false] rfl rfl (any_of HT_.out (by kernel_rfl)) (fun _ _ _ h => h) (Or.inr ⟨by rfl, rfl⟩) ?_ ?_
                        rotate_left
                        · simp only [Act.put, List.setIfInBounds_toArray, List.set_cons_zero, List.set_cons_succ, i64_w, i32_w]
                          rfl
                        refine pure_ (i := 21) (N := some 77) (v := undef) (a' := ?_) #[true, true, true, true, true, true, true, true, true, true, true, true, true, true, true, true, true, true, true, true, true, true, false, false] rfl rfl (any_of HT_.out (by kernel_rfl)) (fun _ _ _ h => h) (Or.inr ⟨by rfl, rfl⟩) ?_ ?_
                        rotate_left
                        · simp only [Act.put, List.setIfInBounds_toArray, List.set_cons_zero, List.set_cons_succ, i64_w, i32_w]
                          rfl
                        refine pure_ (i := 22) (N := some 78) (v := undef) (a' := ?_) #[true, true, true, true, true, true, true, true, true, true, true, true, true, true, true, true, true, true, true, true, true, true, true, false] rfl rfl (any_of HT_.out (by kernel_rfl)) (fun _ _ _ h => h) (Or.inr ⟨by rfl, rfl⟩) ?_ ?_
                        rotate_left
                        · simp only [Act.put, List.setIfInBounds_toArray, List.set_cons_zero, List.set_cons_succ, i64_w, i32_w]
                          rfl
                        refine pure_ (i := 23) (N := some 79) (v := ?_) (a' := ?_) #[true, true, true, true, true, true, true, true, true, true, true, true, true, true, true, true, true, true, true, true, true, true, true, true] rfl rfl (any_of HT_.out (by kernel_rfl)) (fun _ _ _ h => h) (Or.inl ⟨by rfl, ?_⟩) ?_ ?_
                        rotate_left
                        · intro w'
                          go_simp
                          with_reducible rfl
                        rotate_left
                        · simp only [Act.put, List.setIfInBounds_toArray, List.set_cons_zero, List.set_cons_succ, i64_w, i32_w]
                          rfl
                        refine done_ (done_of HT_.out (by kernel_rfl)) ?_
                        try go_wp2
                        go_meet
                        case rel => exact ⟨_, (true), (t276), (t277), (t278), (t279), (t280), (t281), (by first | rfl | (simp; done) | (simp [*]; done)), H', ⟨by have := HK1.out; have := HJ15.out; first | omega | exact Nat.le_refl _⟩, ⟨by (with_reducible repeat (first | refine blk_drewN ?_ _ | refine blk_drew ?_ | refine blk_alloc ?_ _)); exact BK250.out⟩, ⟨by (with_reducible repeat (first | refine blk_drewN ?_ _ | refine blk_drew ?_ | refine blk_alloc ?_ _)); exact BK267.out⟩, ⟨by repeat (first | (with_reducible first | exact HI245.out | apply IsS52.alloc | apply IsS52.drewN | apply IsS52.drew | apply IsS52.set_0 | apply IsS52.set_1 | apply IsS52.set_2 | apply IsS52.set_3 | apply IsS52.set_4 | apply IsS52.set_5 | refine IsS52.far ?_ NB245_250.out _ | refine IsS52.far ?_ NB245_267.out _) | exact HI245.out)⟩, ⟨by repeat (first | (with_reducible first | exact HB.out | apply below_alloc | apply pw_below_drewN | apply below_drew1 | refine below_set ?_ (IsS52.ge HI245.out) | refine below_set ?_ GE250.out | refine below_set ?_ GE267.out) | exact HB.out)⟩⟩
                      · rw [if_neg c45] at H
                        have c45b0 : (t275 != x8_15) = false := by simpa using c45
                        (try (have c45b1 : decide (t275 = x8_15) = true := by simpa using c45))
                        (try (have c45b2 : (t275 == x8_15) = true := by simpa using c45))
                        clear c45
                        replace H := Option.bind_eq_some_iff.mp H
                        obtain ⟨t282, A500, H⟩ := H
                        replace H : ((chequerref05_Blank.f (bt t237 x9_1)).bind fun t283 => (chequerlaw05_TokenReads.j2 kj15 t237 x8_15 x9_1 (t282 != t283) t276 t277 t278 t279 t280 t281 t262 t263 t264 t265)) = some r := H
                        have A50 := Aside0.mk A500
                        clear A500
                        replace H := Option.bind_eq_some_iff.mp H
                        obtain ⟨t283, A520, H⟩ := H
                        replace H : (chequerlaw05_TokenReads.j2 kj15 t237 x8_15 x9_1 (t282 != t283) t276 t277 t278 t279 t280 t281 t262 t263 t264 t265) = some r := H
                        have A52 := Aside0.mk A520
                        clear A520
                        have H' := Aside0.mk H
                        clear H
                        try go_wp2
                        (try (rw [drewN_self wc]; generalize hq_ : World.drewN wc _ = wc; have n0_ : Aside0 (wc.heap[gb250]? = some (.cells #[.int .i64 t262, .int .i64 t263, .int .i64 t264, .int .i64 t265] 38 (0, 0))) := ⟨by rw [← hq_]; exact (by (with_reducible repeat (first | refine blk_drewN ?_ _ | refine blk_drew ?_ | refine blk_alloc ?_ _)); exact BK250.out)⟩; have n1_ : Aside0 (wc.heap[gb267]? = some (.cells #[.int .i64 t262, .int .i64 t263, .int .i64 t264, .int .i64 t265] 38 (0, 0))) := ⟨by rw [← hq_]; exact (by (with_reducible repeat (first | refine blk_drewN ?_ _ | refine blk_drew ?_ | refine blk_alloc ?_ _)); exact BK267.out)⟩; have n2_ : Aside0 (IsS52 w wc g245 x246000_1 x246001_1 x246002_1 x246003_1 x246004_1 x246005_1) := ⟨by rw [← hq_]; exact (by repeat (first | (with_reducible first | exact HI245.out | apply IsS52.alloc | apply IsS52.drewN | apply IsS52.drew | apply IsS52.set_0 | apply IsS52.set_1 | apply IsS52.set_2 | apply IsS52.set_3 | apply IsS52.set_4 | apply IsS52.set_5 | refine IsS52.far ?_ NB245_250.out _ | refine IsS52.far ?_ NB245_267.out _) | exact HI245.out))⟩; have n3_ : Aside0 (Below w.heap.size w wc) := ⟨by rw [← hq_]; exact (by repeat (first | (with_reducible first | exact HB.out | apply below_alloc | apply pw_below_drewN | apply below_drew1 | refine below_set ?_ (IsS52.ge HI245.out) | refine below_set ?_ GE250.out | refine below_set ?_ GE267.out) | exact HB.out))⟩; clear BK250 BK267 HI245 HB hq_; have BK250 := n0_; have BK267 := n1_; have HI245 := n2_; have HB := n3_; clear n0_ n1_ n2_ n3_))
                        have n0_ := Aside0.mk (blk_drew BK250.out)
                        have n1_ := Aside0.mk (blk_drew BK267.out)
                        have n2_ := Aside0.mk (IsS52.drew HI245.out)
                        have n3_ := Aside0.mk (below_drew1 HB.out)
                        clear BK250
                        clear BK267
                        clear HI245
                        clear HB
                        have BK250 := n0_
                        have BK267 := n1_
                        have HI245 := n2_
                        have HB := n3_
                        clear n0_ n1_ n2_ n3_
                        have p41 : 0 ≤ (x9_1 : Int) := of_decide_eq_true (by first | (with_reducible assumption) | assumption)
                        have q41 : x9_1 < (t237.size : Int) := of_decide_eq_true (by first | (with_reducible assumption) | assumption)
                        have hx41 := bt_at t237 x9_1
                        replace p41 := eq_true p41
                        replace q41 := eq_true q41
                        refine start_ (n := 24) (S := fun w' => True) (ds := []) #[false, false, false, false, false, false, false, false, false, false, false, false, false, false, false, false, false, false, false, false, false, false, false, false] (by kernel_rfl) rfl rfl trivial (fun hHeld => ?_); refine with_tabW chequerlaw05_TokenReads.tab14 chequerlaw05_TokenReads.bits14 (fun HT_ HW_ => ?_)
                        generalize wc.drew = w53 at BK250 BK267 HI245 HB hHeld ⊢
                        refine pure_ (i := 0) (N := some 56) (v := ?_) (a' := ?_) #[true, false, false, false, false, false, false, false, false, false, false, false, false, false, false, false, false, false, false, false, false, false, false, false] rfl rfl (any_of HT_.out (by kernel_rfl)) (fun _ _ _ h => h) (Or.inl ⟨by rfl, ?_⟩) ?_ ?_
                        rotate_left
                        · intro w'
                          go_simp
                          with_reducible rfl
                        rotate_left
                        · simp only [Act.put, List.setIfInBounds_toArray, List.set_cons_zero, List.set_cons_succ, i64_w, i32_w]
                          rfl
                        refine pure_ (i := 1) (N := some 57) (v := ?_) (a' := ?_) #[true, true, false, false, false, false, false, false, false, false, false, false, false, false, false, false, false, false, false, false, false, false, false, false] rfl rfl (any_of HT_.out (by kernel_rfl)) (fun _ _ _ h => h) (Or.inl ⟨by rfl, ?_⟩) ?_ ?_
                        rotate_left
                        · intro w'
                          go_simp
                          with_reducible rfl
                        rotate_left
                        · simp only [Act.put, List.setIfInBounds_toArray, List.set_cons_zero, List.set_cons_succ, i64_w, i32_w]
                          rfl
                        refine pure_ (i := 2) (N := some 58) (v := ?_) (a' := ?_) #[true, true, true, false, false, false, false, false, false, false, false, false, false, false, false, false, false, false, false, false, false, false, false, false] rfl rfl (any_of HT_.out (by kernel_rfl)) (fun _ _ _ h => h) (Or.inl ⟨by rfl, ?_⟩) ?_ ?_
                        rotate_left
                        · intro w'
                          go_simp
                          with_reducible rfl
                        rotate_left
                        · simp only [Act.put, List.setIfInBounds_toArray, List.set_cons_zero, List.set_cons_succ, i64_w, i32_w]
                          rfl
                        refine pure_ (i := 5) (N := some 61) (v := ?_) (a' := ?_) #[true, true, true, false, false, true, false, false, false, false, false, false, false, false, false, false, false, false, false, false, false, false, false, false] rfl rfl (any_of HT_.out (by kernel_rfl)) (fun _ _ _ h => h) (Or.inl ⟨by rfl, ?_⟩) ?_ ?_
                        rotate_left
                        · intro w'
                          go_simp
                          with_reducible rfl
                        rotate_left
                        · simp only [Act.put, List.setIfInBounds_toArray, List.set_cons_zero, List.set_cons_succ, i64_w, i32_w]
                          rfl
                        refine take_ (i := 3) (N := some 59) (v := ?_) (a' := ?_) #[true, true, true, true, false, true, false, false, false, false, false, false, false, false, false, false, false, false, false, false, false, false, false, false] rfl rfl (take_ofW HT_.out HW_.out (by kernel_rfl)) (fun _ _ _ h => h) (Or.inl ⟨by rfl, ?_⟩) hHeld ?_ ?_
                        rotate_left
                        · intro w' _
                          go_simp
                          with_reducible rfl
                        rotate_left
                        · simp only [Act.put, List.setIfInBounds_toArray, List.set_cons_zero, List.set_cons_succ, i64_w, i32_w]
                          rfl
                        refine one_ (i := 4) (N := some 60) #[true, true, true, true, true, true, false, false, false, false, false, false, false, false, false, false, false, false, false, false, false, false, false, false] rfl rfl (one_of HT_.out (by kernel_rfl)) (by decide) (fun K hK => ?_)
                        refine goes_ Try.func19 (by kernel_rfl) rfl #[.pointer (some ⟨g245, 0, none⟩), .int .u8 (bt t237 x9_1)] (by rfl) rfl rfl (by (try simp only [List.map_toArray, List.map_cons, List.map_nil]); first | done | rfl | (simp only [List.length_drop, List.length_take]; rfl)) ?_
                        with_reducible refine (token_Number_Put.calls g245 x246000_1 x246001_1 x246002_1 x246003_1 x246004_1 x246005_1 (bt t237 x9_1) t268 t269 t270 t271 t272 t273 t274 w _ ?side1 ?side2 A42.out).mono ?_
                        (case side1 => repeat (first | (with_reducible first | exact HI245.out | apply IsS52.alloc | apply IsS52.drewN | apply IsS52.drew | apply IsS52.set_0 | apply IsS52.set_1 | apply IsS52.set_2 | apply IsS52.set_3 | apply IsS52.set_4 | apply IsS52.set_5 | refine IsS52.far ?_ NB245_250.out _ | refine IsS52.far ?_ NB245_267.out _) | exact HI245.out))
                        (case side2 => repeat (first | (with_reducible first | exact HB.out | apply below_alloc | apply pw_below_drewN | apply below_drew1 | refine below_set ?_ (IsS52.ge HI245.out) | refine below_set ?_ GE250.out | refine below_set ?_ GE267.out) | exact HB.out))
                        rintro e w54 ⟨rfl, hi, hb, hk⟩
                        refine ⟨_, rfl, ?_⟩
                        have n0_ := Aside0.mk (KeepBut.blk hk (g' := gb250) (o := .cells #[.int .i64 t262, .int .i64 t263, .int .i64 t264, .int .i64 t265] 38 (0, 0)) (by (with_reducible repeat (first | refine blk_drewN ?_ _ | refine blk_drew ?_ | refine blk_alloc ?_ _)); exact BK250.out) NB250_245.out (by simp))
                        have n1_ := Aside0.mk (KeepBut.blk hk (g' := gb267) (o := .cells #[.int .i64 t262, .int .i64 t263, .int .i64 t264, .int .i64 t265] 38 (0, 0)) (by (with_reducible repeat (first | refine blk_drewN ?_ _ | refine blk_drew ?_ | refine blk_alloc ?_ _)); exact BK267.out) NB267_245.out (by simp))
                        have n2_ := Aside0.mk (hb)
                        have n3_ := Aside0.mk (hi)
                        clear BK250
                        clear BK267
                        clear HB
                        clear HI245
                        have BK250 := n0_
                        have BK267 := n1_
                        have HB := n2_
                        have HI245 := n3_
                        clear n0_ n1_ n2_ n3_
                        (try clear hb)
                        (try clear hb2)
                        (try clear hk)
                        (try clear hi)
                        refine hK.out _ _ trivial (fun hHeld => ?_)
                        clear hK K
                        refine norm_ (a' := ?_) ?_ ?_
                        rotate_left
                        · show Act.put _ (some 60) _ = _
                          simp only [Act.put, List.setIfInBounds_toArray, List.set_cons_zero, List.set_cons_succ, i64_w, i32_w]
                          rfl
                        refine pure_ (i := 6) (N := some 62) (v := ?_) (a' := ?_) #[true, true, true, true, true, true, true, false, false, false, false, false, false, false, false, false, false, false, false, false, false, false, false, false] rfl rfl (any_of HT_.out (by kernel_rfl)) (fun _ _ _ h => h) (Or.inl ⟨by rfl, ?_⟩) ?_ ?_
                        rotate_left
                        · intro w'
                          go_simp
                          with_reducible rfl
                        rotate_left
                        · simp only [Act.put, List.setIfInBounds_toArray, List.set_cons_zero, List.set_cons_succ, i64_w, i32_w]
                          rfl
                        refine pure_ (i := 7) (N := some 63) (v := ?_) (a' := ?_) #[true, true, true, true, true, true, true, true, false, false, false, false, false, false, false, false, false, false, false, false, false, false, false, false] rfl rfl (any_of HT_.out (by kernel_rfl)) (fun _ _ _ h => h) (Or.inl ⟨by rfl, ?_⟩) ?_ ?_
                        rotate_left
                        · intro w'
                          go_simp
                          with_reducible rfl
                        rotate_left
                        · simp only [Act.put, List.setIfInBounds_toArray, List.set_cons_zero, List.set_cons_succ, i64_w, i32_w]
                          rfl
                        refine pure_ (i := 8) (N := some 64) (v := ?_) (a' := ?_) #[true, true, true, true, true, true, true, true, true, false, false, false, false, false, false, false, false, false, false, false, false, false, false, false] rfl rfl (any_of HT_.out (by kernel_rfl)) (fun _ _ _ h => h) (Or.inl ⟨by rfl, ?_⟩) ?_ ?_
                        rotate_left
                        · intro w'
                          go_simp
                          with_reducible rfl
                        rotate_left
                        · simp only [Act.put, List.setIfInBounds_toArray, List.set_cons_zero, List.set_cons_succ, i64_w, i32_w]
                          rfl
                        refine pure_ (i := 10) (N := some 66) (v := ?_) (a' := ?_) #[true, true, true, true, true, true, true, true, true, false, true, false, false, false, false, false, false, false, false, false, false, false, false, false] rfl rfl (any_of HT_.out (by kernel_rfl)) (fun _ _ _ h => h) (Or.inl ⟨by rfl, ?_⟩) ?_ ?_
                        rotate_left
                        · intro w'
                          go_simp
                          with_reducible rfl
                        rotate_left
                        · simp only [Act.put, List.setIfInBounds_toArray, List.set_cons_zero, List.set_cons_succ, i64_w, i32_w]
                          rfl
                        refine one_ (i := 9) (N := some 65) #[true, true, true, true, true, true, true, true, true, true, true, false, false, false, false, false, false, false, false, false, false, false, false, false] rfl rfl (one_of HT_.out (by kernel_rfl)) (by decide) (fun K hK => ?_)
                        refine goes_ Try.func20 (by kernel_rfl) rfl #[.pointer (some ⟨g245, 0, none⟩)] (by rfl) rfl rfl (by (try simp only [List.map_toArray, List.map_cons, List.map_nil]); first | done | rfl | (simp only [List.length_drop, List.length_take]; rfl)) ?_
                        with_reducible refine (token_Number_Begun.calls g245 t269 t270 t271 t272 t273 t274 t275 t276 t277 t278 t279 t280 t281 w _ ?side1 ?side2 A44.out).mono ?_
                        (case side1 => repeat (first | (with_reducible first | exact HI245.out | apply IsS52.alloc | apply IsS52.drewN | apply IsS52.drew | apply IsS52.set_0 | apply IsS52.set_1 | apply IsS52.set_2 | apply IsS52.set_3 | apply IsS52.set_4 | apply IsS52.set_5 | refine IsS52.far ?_ NB245_250.out _ | refine IsS52.far ?_ NB245_267.out _) | exact HI245.out))
                        (case side2 => repeat (first | (with_reducible first | exact HB.out | apply below_alloc | apply pw_below_drewN | apply below_drew1 | refine below_set ?_ (IsS52.ge HI245.out) | refine below_set ?_ GE250.out | refine below_set ?_ GE267.out) | exact HB.out))
                        rintro e w55 ⟨rfl, hi, hb, hk⟩
                        refine ⟨_, rfl, ?_⟩
                        have n0_ := Aside0.mk (KeepBut.blk hk (g' := gb250) (o := .cells #[.int .i64 t262, .int .i64 t263, .int .i64 t264, .int .i64 t265] 38 (0, 0)) (by (with_reducible repeat (first | refine blk_drewN ?_ _ | refine blk_drew ?_ | refine blk_alloc ?_ _)); exact BK250.out) NB250_245.out (by simp))
                        have n1_ := Aside0.mk (KeepBut.blk hk (g' := gb267) (o := .cells #[.int .i64 t262, .int .i64 t263, .int .i64 t264, .int .i64 t265] 38 (0, 0)) (by (with_reducible repeat (first | refine blk_drewN ?_ _ | refine blk_drew ?_ | refine blk_alloc ?_ _)); exact BK267.out) NB267_245.out (by simp))
                        have n2_ := Aside0.mk (hb)
                        have n3_ := Aside0.mk (hi)
                        clear BK250
                        clear BK267
                        clear HB
                        clear HI245
                        have BK250 := n0_
                        have BK267 := n1_
                        have HB := n2_
                        have HI245 := n3_
                        clear n0_ n1_ n2_ n3_
                        (try clear hb)
                        (try clear hb2)
                        (try clear hk)
                        (try clear hi)
                        have p49 : 0 ≤ (x9_1 : Int) := of_decide_eq_true (by first | (with_reducible assumption) | assumption)
                        have q49 : x9_1 < (t237.size : Int) := of_decide_eq_true (by first | (with_reducible assumption) | assumption)
                        have hx49 := bt_at t237 x9_1
                        replace p49 := eq_true p49
                        replace q49 := eq_true q49
                        refine hK.out _ _ trivial (fun hHeld => ?_)
                        clear hK K
                        refine norm_ (a' := ?_) ?_ ?_
                        rotate_left
                        · show Act.put _ (some 65) _ = _
                          simp only [Act.put, List.setIfInBounds_toArray, List.set_cons_zero, List.set_cons_succ, i64_w, i32_w]
                          rfl
                        refine pure_ (i := 11) (N := some 67) (v := ?_) (a' := ?_) #[true, true, true, true, true, true, true, true, true, true, true, true, false, false, false, false, false, false, false, false, false, false, false, false] rfl rfl (any_of HT_.out (by kernel_rfl)) (fun _ _ _ h => h) (Or.inl ⟨by rfl, ?_⟩) ?_ ?_
                        rotate_left
                        · intro w'
                          go_simp
                          with_reducible rfl
                        rotate_left
                        · simp only [Act.put, List.setIfInBounds_toArray, List.set_cons_zero, List.set_cons_succ, i64_w, i32_w]
                          rfl
                        refine pure_ (i := 12) (N := some 68) (v := ?_) (a' := ?_) #[true, true, true, true, true, true, true, true, true, true, true, true, true, false, false, false, false, false, false, false, false, false, false, false] rfl rfl (any_of HT_.out (by kernel_rfl)) (fun _ _ _ h => h) (Or.inl ⟨by rfl, ?_⟩) ?_ ?_
                        rotate_left
                        · intro w'
                          go_simp
                          with_reducible rfl
                        rotate_left
                        · simp only [Act.put, List.setIfInBounds_toArray, List.set_cons_zero, List.set_cons_succ, i64_w, i32_w]
                          rfl
                        refine pure_ (i := 13) (N := some 69) (v := ?_) (a' := ?_) #[true, true, true, true, true, true, true, true, true, true, true, true, true, true, false, false, false, false, false, false, false, false, false, false] rfl rfl (any_of HT_.out (by kernel_rfl)) (fun _ _ _ h => h) (Or.inl ⟨by rfl, ?_⟩) ?_ ?_
                        rotate_left
                        · intro w'
                          go_simp
                          with_reducible rfl
                        rotate_left
                        · simp only [Act.put, List.setIfInBounds_toArray, List.set_cons_zero, List.set_cons_succ, i64_w, i32_w]
                          rfl
                        refine pure_ (i := 14) (N := some 70) (v := ?_) (a' := ?_) #[true, true, true, true, true, true, true, true, true, true, true, true, true, true, true, false, false, false, false, false, false, false, false, false] rfl rfl (any_of HT_.out (by kernel_rfl)) (fun _ _ _ h => h) (Or.inl ⟨by rfl, ?_⟩) ?_ ?_
                        rotate_left
                        · intro w'
                          go_simp
                          with_reducible rfl
                        rotate_left
                        · simp only [Act.put, List.setIfInBounds_toArray, List.set_cons_zero, List.set_cons_succ, i64_w, i32_w]
                          rfl
                        refine pure_ (i := 15) (N := some 71) (v := ?_) (a' := ?_) #[true, true, true, true, true, true, true, true, true, true, true, true, true, true, true, true, false, false, false, false, false, false, false, false] rfl rfl (any_of HT_.out (by kernel_rfl)) (fun _ _ _ h => h) (Or.inl ⟨by rfl, ?_⟩) ?_ ?_
                        rotate_left
                        · intro w'
                          go_simp
                          with_reducible rfl
                        rotate_left
                        · simp only [Act.put, List.setIfInBounds_toArray, List.set_cons_zero, List.set_cons_succ, i64_w, i32_w]
                          rfl
                        refine pure_ (i := 18) (N := some 74) (v := ?_) (a' := ?_) #[true, true, true, true, true, true, true, true, true, true, true, true, true, true, true, true, false, false, true, false, false, false, false, false] rfl rfl (any_of HT_.out (by kernel_rfl)) (fun _ _ _ h => h) (Or.inl ⟨by rfl, ?_⟩) ?_ ?_
                        rotate_left
                        · intro w'
                          go_simp
                          with_reducible rfl
                        rotate_left
                        · simp only [Act.put, List.setIfInBounds_toArray, List.set_cons_zero, List.set_cons_succ, i64_w, i32_w]
                          rfl
                        refine pure_ (i := 19) (N := some 75) (v := ?_) (a' := ?_) #[true, true, true, true, true, true, true, true, true, true, true, true, true, true, true, true, false, false, true, true, false, false, false, false] rfl rfl (any_of HT_.out (by kernel_rfl)) (fun _ _ _ h => h) (Or.inl ⟨by rfl, ?_⟩) ?_ ?_
                        rotate_left
                        · intro w'
                          go_simp
                          with_reducible rfl
                        rotate_left
                        · simp only [Act.put, List.setIfInBounds_toArray, List.set_cons_zero, List.set_cons_succ, i64_w, i32_w]
                          rfl
                        refine take_ (i := 16) (N := some 72) (v := ?_) (a' := ?_) #[true, true, true, true, true, true, true, true, true, true, true, true, true, true, true, true, true, false, true, true, false, false, false, false] rfl rfl (take_ofW HT_.out HW_.out (by kernel_rfl)) (fun _ _ _ h => h) (Or.inl ⟨by rfl, ?_⟩) hHeld ?_ ?_
                        rotate_left
                        · intro w' _
                          go_simp
                          with_reducible rfl
                        rotate_left
                        · simp only [Act.put, List.setIfInBounds_toArray, List.set_cons_zero, List.set_cons_succ, i64_w, i32_w]
                          rfl
                        refine take_ (i := 20) (N := some 76) (v := ?_) (a' := ?_) #[true, true, true, true, true, true, true, true, true, true, true, true, true, true, true, true, true, false, true, true, true, false, false, false] rfl rfl (take_ofW HT_.out HW_.out (by kernel_rfl)) (fun _ _ _ h => h) (Or.inl ⟨by rfl, ?_⟩) hHeld ?_ ?_
                        rotate_left
                        · intro w' _
                          go_simp
                          with_reducible rfl
                        rotate_left
                        · simp only [Act.put, List.setIfInBounds_toArray, List.set_cons_zero, List.set_cons_succ, i64_w, i32_w]
                          rfl
                        refine one_ (i := 17) (N := some 73) #[true, true, true, true, true, true, true, true, true, true, true, true, true, true, true, true, true, true, true, true, true, false, false, false] rfl rfl (one_of HT_.out (by kernel_rfl)) (by decide) (fun K hK => ?_)
                        refine goes_ Try.func21 (by kernel_rfl) rfl #[.int .u8 (bt t237 x9_1)] (by rfl) rfl rfl (by (try simp only [List.map_toArray, List.map_cons, List.map_nil]); first | done | rfl | (simp only [List.length_drop, List.length_take]; rfl)) ?_
                        with_reducible refine (token_Blank.calls (bt t237 x9_1) t282 _ A50.out).mono ?_
                        rintro e w' ⟨rfl, ⟨nd, rfl⟩⟩
                        refine ⟨_, rfl, ?_⟩
                        have p51 : 0 ≤ (x9_1 : Int) := of_decide_eq_true (by first | (with_reducible assumption) | assumption)
                        have q51 : x9_1 < (t237.size : Int) := of_decide_eq_true (by first | (with_reducible assumption) | assumption)
                        have hx51 := bt_at t237 x9_1
                        replace p51 := eq_true p51
                        replace q51 := eq_true q51
                        refine hK.out _ _ trivial (fun hHeld => ?_)
                        clear hK K
                        refine norm_ (a' := ?_) ?_ ?_
                        rotate_left
                        · show Act.put _ (some 73) _ = _
                          simp only [Act.put, List.setIfInBounds_toArray, List.set_cons_zero, List.set_cons_succ, i64_w, i32_w]
                          rfl
                        refine one_ (i := 21) (N := some 77) #[true, true, true, true, true, true, true, true, true, true, true, true, true, true, true, true, true, true, true, true, true, true, false, false] rfl rfl (one_of HT_.out (by kernel_rfl)) (by decide) (fun K hK => ?_)
                        refine goes_ Try.func22 (by kernel_rfl) rfl #[.int .u8 (bt t237 x9_1)] (by rfl) rfl rfl (by (try simp only [List.map_toArray, List.map_cons, List.map_nil]); first | done | rfl | (simp only [List.length_drop, List.length_take]; rfl)) ?_
                        with_reducible refine (chequerref05_Blank.calls (bt t237 x9_1) t283 _ A52.out).mono ?_
                        rintro e w' ⟨rfl, ⟨nd, rfl⟩⟩
                        refine ⟨_, rfl, ?_⟩
                        refine hK.out _ _ trivial (fun hHeld => ?_)
                        clear hK K
                        refine norm_ (a' := ?_) ?_ ?_
                        rotate_left
                        · show Act.put _ (some 77) _ = _
                          simp only [Act.put, List.setIfInBounds_toArray, List.set_cons_zero, List.set_cons_succ, i64_w, i32_w]
                          rfl
                        refine pure_ (i := 22) (N := some 78) (v := ?_) (a' := ?_) #[true, true, true, true, true, true, true, true, true, true, true, true, true, true, true, true, true, true, true, true, true, true, true, false] rfl rfl (any_of HT_.out (by kernel_rfl)) (fun _ _ _ h => h) (Or.inl ⟨by rfl, ?_⟩) ?_ ?_
                        rotate_left
                        · intro w'
                          go_simp
                          with_reducible rfl
                        rotate_left
                        · simp only [Act.put, List.setIfInBounds_toArray, List.set_cons_zero, List.set_cons_succ, i64_w, i32_w]
                          rfl
                        refine pure_ (i := 23) (N := some 79) (v := ?_) (a' := ?_) #[true, true, true, true, true, true, true, true, true, true, true, true, true, true, true, true, true, true, true, true, true, true, true, true] rfl rfl (any_of HT_.out (by kernel_rfl)) (fun _ _ _ h => h) (Or.inl ⟨by rfl, ?_⟩) ?_ ?_
                        rotate_left
                        · intro w'
                          go_simp
                          with_reducible rfl
                        rotate_left
                        · simp only [Act.put, List.setIfInBounds_toArray, List.set_cons_zero, List.set_cons_succ, i64_w, i32_w]
                          rfl
                        refine done_ (done_of HT_.out (by kernel_rfl)) ?_
                        try go_wp2
                        go_meet
                        case rel => exact ⟨_, ((t282 != t283)), (t276), (t277), (t278), (t279), (t280), (t281), (by first | rfl | (simp; done) | (simp [*]; done)), H', ⟨by have := HK1.out; have := HJ15.out; first | omega | exact Nat.le_refl _⟩, ⟨by (with_reducible repeat (first | refine blk_drewN ?_ _ | refine blk_drew ?_ | refine blk_alloc ?_ _)); exact BK250.out⟩, ⟨by (with_reducible repeat (first | refine blk_drewN ?_ _ | refine blk_drew ?_ | refine blk_alloc ?_ _)); exact BK267.out⟩, ⟨by repeat (first | (with_reducible first | exact HI245.out | apply IsS52.alloc | apply IsS52.drewN | apply IsS52.drew | apply IsS52.set_0 | apply IsS52.set_1 | apply IsS52.set_2 | apply IsS52.set_3 | apply IsS52.set_4 | apply IsS52.set_5 | refine IsS52.far ?_ NB245_250.out _ | refine IsS52.far ?_ NB245_267.out _) | exact HI245.out)⟩, ⟨by repeat (first | (with_reducible first | exact HB.out | apply below_alloc | apply pw_below_drewN | apply below_drew1 | refine below_set ?_ (IsS52.ge HI245.out) | refine below_set ?_ GE250.out | refine below_set ?_ GE267.out) | exact HB.out)⟩⟩
                    · rw [if_neg c43] at H
                      have c43b0 : (t268 == t266) = false := beq_eq_false_iff_ne.mpr c43
                      have c43b1 : (t268 != t266) = true := bne_iff_ne.mpr c43
                      have H' := Aside0.mk H
                      clear H
                      try go_wp2
                      (try (rw [drewN_self wc]; generalize hq_ : World.drewN wc _ = wc; have n0_ : Aside0 (wc.heap[gb250]? = some (.cells #[.int .i64 t262, .int .i64 t263, .int .i64 t264, .int .i64 t265] 38 (0, 0))) := ⟨by rw [← hq_]; exact (by (with_reducible repeat (first | refine blk_drewN ?_ _ | refine blk_drew ?_ | refine blk_alloc ?_ _)); exact BK250.out)⟩; have n1_ : Aside0 (wc.heap[gb267]? = some (.cells #[.int .i64 t262, .int .i64 t263, .int .i64 t264, .int .i64 t265] 38 (0, 0))) := ⟨by rw [← hq_]; exact (by (with_reducible repeat (first | refine blk_drewN ?_ _ | refine blk_drew ?_ | refine blk_alloc ?_ _)); exact BK267.out)⟩; have n2_ : Aside0 (IsS52 w wc g245 x246000_1 x246001_1 x246002_1 x246003_1 x246004_1 x246005_1) := ⟨by rw [← hq_]; exact (by repeat (first | (with_reducible first | exact HI245.out | apply IsS52.alloc | apply IsS52.drewN | apply IsS52.drew | apply IsS52.set_0 | apply IsS52.set_1 | apply IsS52.set_2 | apply IsS52.set_3 | apply IsS52.set_4 | apply IsS52.set_5 | refine IsS52.far ?_ NB245_250.out _ | refine IsS52.far ?_ NB245_267.out _) | exact HI245.out))⟩; have n3_ : Aside0 (Below w.heap.size w wc) := ⟨by rw [← hq_]; exact (by repeat (first | (with_reducible first | exact HB.out | apply below_alloc | apply pw_below_drewN | apply below_drew1 | refine below_set ?_ (IsS52.ge HI245.out) | refine below_set ?_ GE250.out | refine below_set ?_ GE267.out) | exact HB.out))⟩; clear BK250 BK267 HI245 HB hq_; have BK250 := n0_; have BK267 := n1_; have HI245 := n2_; have HB := n3_; clear n0_ n1_ n2_ n3_))
                      have n0_ := Aside0.mk (blk_drew BK250.out)
                      have n1_ := Aside0.mk (blk_drew BK267.out)
                      have n2_ := Aside0.mk (IsS52.drew HI245.out)
                      have n3_ := Aside0.mk (below_drew1 HB.out)
                      clear BK250
                      clear BK267
                      clear HI245
                      clear HB
                      have BK250 := n0_
                      have BK267 := n1_
                      have HI245 := n2_
                      have HB := n3_
                      clear n0_ n1_ n2_ n3_
                      have p41 : 0 ≤ (x9_1 : Int) := of_decide_eq_true (by first | (with_reducible assumption) | assumption)
                      have q41 : x9_1 < (t237.size : Int) := of_decide_eq_true (by first | (with_reducible assumption) | assumption)
                      have hx41 := bt_at t237 x9_1
                      replace p41 := eq_true p41
                      replace q41 := eq_true q41
                      refine start_ (n := 24) (S := fun w' => True) (ds := []) #[false, false, false, false, false, false, false, false, false, false, false, false, false, false, false, false, false, false, false, false, false, false, false, false] (by kernel_rfl) rfl rfl trivial (fun hHeld => ?_); refine with_tabW chequerlaw05_TokenReads.tab14 chequerlaw05_TokenReads.bits14 (fun HT_ HW_ => ?_)
                      generalize wc.drew = w56 at BK250 BK267 HI245 HB hHeld ⊢
                      refine pure_ (i := 0) (N := some 56) (v := ?_) (a' := ?_) #[true, false, false, false, false, false, false, false, false, false, false, false, false, false, false, false, false, false, false, false, false, false, false, false] rfl rfl (any_of HT_.out (by kernel_rfl)) (fun _ _ _ h => h) (Or.inl ⟨by rfl, ?_⟩) ?_ ?_
                      rotate_left
                      · intro w'
                        go_simp
                        with_reducible rfl
                      rotate_left
                      · simp only [Act.put, List.setIfInBounds_toArray, List.set_cons_zero, List.set_cons_succ, i64_w, i32_w]
                        rfl
                      refine pure_ (i := 1) (N := some 57) (v := ?_) (a' := ?_) #[true, true, false, false, false, false, false, false, false, false, false, false, false, false, false, false, false, false, false, false, false, false, false, false] rfl rfl (any_of HT_.out (by kernel_rfl)) (fun _ _ _ h => h) (Or.inl ⟨by rfl, ?_⟩) ?_ ?_
                      rotate_left
                      · intro w'
                        go_simp
                        with_reducible rfl
                      rotate_left
                      · simp only [Act.put, List.setIfInBounds_toArray, List.set_cons_zero, List.set_cons_succ, i64_w, i32_w]
                        rfl
                      refine pure_ (i := 2) (N := some 58) (v := ?_) (a' := ?_) #[true, true, true, false, false, false, false, false, false, false, false, false, false, false, false, false, false, false, false, false, false, false, false, false] rfl rfl (any_of HT_.out (by kernel_rfl)) (fun _ _ _ h => h) (Or.inl ⟨by rfl, ?_⟩) ?_ ?_
                      rotate_left
                      · intro w'
                        go_simp
                        with_reducible rfl
                      rotate_left
                      · simp only [Act.put, List.setIfInBounds_toArray, List.set_cons_zero, List.set_cons_succ, i64_w, i32_w]
                        rfl
                      refine pure_ (i := 5) (N := some 61) (v := ?_) (a' := ?_) #[true, true, true, false, false, true, false, false, false, false, false, false, false, false, false, false, false, false, false, false, false, false, false, false] rfl rfl (any_of HT_.out (by kernel_rfl)) (fun _ _ _ h => h) (Or.inl ⟨by rfl, ?_⟩) ?_ ?_
                      rotate_left
                      · intro w'
                        go_simp
                        with_reducible rfl
                      rotate_left
                      · simp only [Act.put, List.setIfInBounds_toArray, List.set_cons_zero, List.set_cons_succ, i64_w, i32_w]
                        rfl
                      refine take_ (i := 3) (N := some 59) (v := ?_) (a' := ?_) #[true, true, true, true, false, true, false, false, false, false, false, false, false, false, false, false, false, false, false, false, false, false, false, false] rfl rfl (take_ofW HT_.out HW_.out (by kernel_rfl)) (fun _ _ _ h => h) (Or.inl ⟨by rfl, ?_⟩) hHeld ?_ ?_
                      rotate_left
                      · intro w' _
                        go_simp
                        with_reducible rfl
                      rotate_left
                      · simp only [Act.put, List.setIfInBounds_toArray, List.set_cons_zero, List.set_cons_succ, i64_w, i32_w]
                        rfl
                      refine one_ (i := 4) (N := some 60) #[true, true, true, true, true, true, false, false, false, false, false, false, false, false, false, false, false, false, false, false, false, false, false, false] rfl rfl (one_of HT_.out (by kernel_rfl)) (by decide) (fun K hK => ?_)
                      refine goes_ Try.func19 (by kernel_rfl) rfl #[.pointer (some ⟨g245, 0, none⟩), .int .u8 (bt t237 x9_1)] (by rfl) rfl rfl (by (try simp only [List.map_toArray, List.map_cons, List.map_nil]); first | done | rfl | (simp only [List.length_drop, List.length_take]; rfl)) ?_
                      with_reducible refine (token_Number_Put.calls g245 x246000_1 x246001_1 x246002_1 x246003_1 x246004_1 x246005_1 (bt t237 x9_1) t268 t269 t270 t271 t272 t273 t274 w _ ?side1 ?side2 A42.out).mono ?_
                      (case side1 => repeat (first | (with_reducible first | exact HI245.out | apply IsS52.alloc | apply IsS52.drewN | apply IsS52.drew | apply IsS52.set_0 | apply IsS52.set_1 | apply IsS52.set_2 | apply IsS52.set_3 | apply IsS52.set_4 | apply IsS52.set_5 | refine IsS52.far ?_ NB245_250.out _ | refine IsS52.far ?_ NB245_267.out _) | exact HI245.out))
                      (case side2 => repeat (first | (with_reducible first | exact HB.out | apply below_alloc | apply pw_below_drewN | apply below_drew1 | refine below_set ?_ (IsS52.ge HI245.out) | refine below_set ?_ GE250.out | refine below_set ?_ GE267.out) | exact HB.out))
                      rintro e w57 ⟨rfl, hi, hb, hk⟩
                      refine ⟨_, rfl, ?_⟩
                      have n0_ := Aside0.mk (KeepBut.blk hk (g' := gb250) (o := .cells #[.int .i64 t262, .int .i64 t263, .int .i64 t264, .int .i64 t265] 38 (0, 0)) (by (with_reducible repeat (first | refine blk_drewN ?_ _ | refine blk_drew ?_ | refine blk_alloc ?_ _)); exact BK250.out) NB250_245.out (by simp))
                      have n1_ := Aside0.mk (KeepBut.blk hk (g' := gb267) (o := .cells #[.int .i64 t262, .int .i64 t263, .int .i64 t264, .int .i64 t265] 38 (0, 0)) (by (with_reducible repeat (first | refine blk_drewN ?_ _ | refine blk_drew ?_ | refine blk_alloc ?_ _)); exact BK267.out) NB267_245.out (by simp))
                      have n2_ := Aside0.mk (hb)
                      have n3_ := Aside0.mk (hi)
                      clear BK250
                      clear BK267
                      clear HB
                      clear HI245
                      have BK250 := n0_
                      have BK267 := n1_
                      have HB := n2_
                      have HI245 := n3_
                      clear n0_ n1_ n2_ n3_
                      (try clear hb)
                      (try clear hb2)
                      (try clear hk)
                      (try clear hi)
                      refine hK.out _ _ trivial (fun hHeld => ?_)
                      clear hK K
                      refine norm_ (a' := ?_) ?_ ?_
                      rotate_left
                      · show Act.put _ (some 60) _ = _
                        simp only [Act.put, List.setIfInBounds_toArray, List.set_cons_zero, List.set_cons_succ, i64_w, i32_w]
                        rfl
                      refine pure_ (i := 6) (N := some 62) (v := ?_) (a' := ?_) #[true, true, true, true, true, true, true, false, false, false, false, false, false, false, false, false, false, false, false, false, false, false, false, false] rfl rfl (any_of HT_.out (by kernel_rfl)) (fun _ _ _ h => h) (Or.inl ⟨by rfl, ?_⟩) ?_ ?_
                      rotate_left
                      · intro w'
                        go_simp
                        with_reducible rfl
                      rotate_left
                      · simp only [Act.put, List.setIfInBounds_toArray, List.set_cons_zero, List.set_cons_succ, i64_w, i32_w]
                        rfl
                      refine pure_ (i := 7) (N := some 63) (v := ?_) (a' := ?_) #[true, true, true, true, true, true, true, true, false, false, false, false, false, false, false, false, false, false, false, false, false, false, false, false] rfl rfl (any_of HT_.out (by kernel_rfl)) (fun _ _ _ h => h) (Or.inl ⟨by rfl, ?_⟩) ?_ ?_
                      rotate_left
                      · intro w'
                        go_simp
                        with_reducible rfl
                      rotate_left
                      · simp only [Act.put, List.setIfInBounds_toArray, List.set_cons_zero, List.set_cons_succ, i64_w, i32_w]
                        rfl
                      refine pure_ (i := 8) (N := some 64) (v := undef) (a' := ?_) #[true, true, true, true, true, true, true, true, true, false, false, false, false, false, false, false, false, false, false, false, false, false, false, false] rfl rfl (any_of HT_.out (by kernel_rfl)) (fun _ _ _ h => h) (Or.inr ⟨by rfl, rfl⟩) ?_ ?_
                      rotate_left
                      · simp only [Act.put, List.setIfInBounds_toArray, List.set_cons_zero, List.set_cons_succ, i64_w, i32_w]
                        rfl
                      refine pure_ (i := 9) (N := some 65) (v := undef) (a' := ?_) #[true, true, true, true, true, true, true, true, true, true, false, false, false, false, false, false, false, false, false, false, false, false, false, false] rfl rfl (any_of HT_.out (by kernel_rfl)) (fun _ _ _ h => h) (Or.inr ⟨by rfl, rfl⟩) ?_ ?_
                      rotate_left
                      · simp only [Act.put, List.setIfInBounds_toArray, List.set_cons_zero, List.set_cons_succ, i64_w, i32_w]
                        rfl
                      refine pure_ (i := 10) (N := some 66) (v := undef) (a' := ?_) #[true, true, true, true, true, true, true, true, true, true, true, false, false, false, false, false, false, false, false, false, false, false, false, false] rfl rfl (any_of HT_.out (by kernel_rfl)) (fun _ _ _ h => h) (Or.inr ⟨by rfl, rfl⟩) ?_ ?_
                      rotate_left
                      · simp only [Act.put, List.setIfInBounds_toArray, List.set_cons_zero, List.set_cons_succ, i64_w, i32_w]
                        rfl
                      refine pure_ (i := 11) (N := some 67) (v := undef) (a' := ?_) #[true, true, true, true, true, true, true, true, true, true, true, true, false, false, false, false, false, false, false, false, false, false, false, false] rfl rfl (any_of HT_.out (by kernel_rfl)) (fun _ _ _ h => h) (Or.inr ⟨by rfl, rfl⟩) ?_ ?_
                      rotate_left
                      · simp only [Act.put, List.setIfInBounds_toArray, List.set_cons_zero, List.set_cons_succ, i64_w, i32_w]
                        rfl
                      refine pure_ (i := 12) (N := some 68) (v := ?_) (a' := ?_) #[true, true, true, true, true, true, true, true, true, true, true, true, true, false, false, false, false, false, false, false, false, false, false, false] rfl rfl (any_of HT_.out (by kernel_rfl)) (fun _ _ _ h => h) (Or.inl ⟨by rfl, ?_⟩) ?_ ?_
                      rotate_left
                      · intro w'
                        go_simp
                        with_reducible rfl
                      rotate_left
                      · simp only [Act.put, List.setIfInBounds_toArray, List.set_cons_zero, List.set_cons_succ, i64_w, i32_w]
                        rfl
                      refine pure_ (i := 13) (N := some 69) (v := ?_) (a' := ?_) #[true, true, true, true, true, true, true, true, true, true, true, true, true, true, false, false, false, false, false, false, false, false, false, false] rfl rfl (any_of HT_.out (by kernel_rfl)) (fun _ _ _ h => h) (Or.inl ⟨by rfl, ?_⟩) ?_ ?_
                      rotate_left
                      · intro w'
                        go_simp
                        with_reducible rfl
                      rotate_left
                      · simp only [Act.put, List.setIfInBounds_toArray, List.set_cons_zero, List.set_cons_succ, i64_w, i32_w]
                        rfl
                      refine pure_ (i := 14) (N := some 70) (v := undef) (a' := ?_) #[true, true, true, true, true, true, true, true, true, true, true, true, true, true, true, false, false, false, false, false, false, false, false, false] rfl rfl (any_of HT_.out (by kernel_rfl)) (fun _ _ _ h => h) (Or.inr ⟨by rfl, rfl⟩) ?_ ?_
                      rotate_left
                      · simp only [Act.put, List.setIfInBounds_toArray, List.set_cons_zero, List.set_cons_succ, i64_w, i32_w]
                        rfl
                      refine pure_ (i := 15) (N := some 71) (v := undef) (a' := ?_) #[true, true, true, true, true, true, true, true, true, true, true, true, true, true, true, true, false, false, false, false, false, false, false, false] rfl rfl (any_of HT_.out (by kernel_rfl)) (fun _ _ _ h => h) (Or.inr ⟨by rfl, rfl⟩) ?_ ?_
                      rotate_left
                      · simp only [Act.put, List.setIfInBounds_toArray, List.set_cons_zero, List.set_cons_succ, i64_w, i32_w]
                        rfl
                      refine pure_ (i := 16) (N := some 72) (v := undef) (a' := ?_) #[true, true, true, true, true, true, true, true, true, true, true, true, true, true, true, true, true, false, false, false, false, false, false, false] rfl rfl (any_of HT_.out (by kernel_rfl)) (fun _ _ _ h => h) (Or.inr ⟨by rfl, rfl⟩) ?_ ?_
                      rotate_left
                      · simp only [Act.put, List.setIfInBounds_toArray, List.set_cons_zero, List.set_cons_succ, i64_w, i32_w]
                        rfl
                      refine pure_ (i := 17) (N := some 73) (v := undef) (a' := ?_) #[true, true, true, true, true, true, true, true, true, true, true, true, true, true, true, true, true, true, false, false, false, false, false, false] rfl rfl (any_of HT_.out (by kernel_rfl)) (fun _ _ _ h => h) (Or.inr ⟨by rfl, rfl⟩) ?_ ?_
                      rotate_left
                      · simp only [Act.put, List.setIfInBounds_toArray, List.set_cons_zero, List.set_cons_succ, i64_w, i32_w]
                        rfl
                      refine pure_ (i := 18) (N := some 74) (v := undef) (a' := ?_) #[true, true, true, true, true, true, true, true, true, true, true, true, true, true, true, true, true, true, true, false, false, false, false, false] rfl rfl (any_of HT_.out (by kernel_rfl)) (fun _ _ _ h => h) (Or.inr ⟨by rfl, rfl⟩) ?_ ?_
                      rotate_left
                      · simp only [Act.put, List.setIfInBounds_toArray, List.set_cons_zero, List.set_cons_succ, i64_w, i32_w]
                        rfl
                      refine pure_ (i := 19) (N := some 75) (v := undef) (a' := ?_) #[true, true, true, true, true, true, true, true, true, true, true, true, true, true, true, true, true, true, true, true, false, false, false, false] rfl rfl (any_of HT_.out (by kernel_rfl)) (fun _ _ _ h => h) (Or.inr ⟨by rfl, rfl⟩) ?_ ?_
                      rotate_left
                      · simp only [Act.put, List.setIfInBounds_toArray, List.set_cons_zero, List.set_cons_succ, i64_w, i32_w]
                        rfl
                      refine pure_ (i := 20) (N := some 76) (v := undef) (a' := ?_) #[true, true, true, true, true, true, true, true, true, true, true, true, true, true, true, true, true, true, true, true, true, false, false, false] rfl rfl (any_of HT_.out (by kernel_rfl)) (fun _ _ _ h => h) (Or.inr ⟨by rfl, rfl⟩) ?_ ?_
                      rotate_left
                      · simp only [Act.put, List.setIfInBounds_toArray, List.set_cons_zero, List.set_cons_succ, i64_w, i32_w]
                        rfl
                      refine pure_ (i := 21) (N := some 77) (v := undef) (a' := ?_) #[true, true, true, true, true, true, true, true, true, true, true, true, true, true, true, true, true, true, true, true, true, true, false, false] rfl rfl (any_of HT_.out (by kernel_rfl)) (fun _ _ _ h => h) (Or.inr ⟨by rfl, rfl⟩) ?_ ?_
                      rotate_left
                      · simp only [Act.put, List.setIfInBounds_toArray, List.set_cons_zero, List.set_cons_succ, i64_w, i32_w]
                        rfl
                      refine pure_ (i := 22) (N := some 78) (v := undef) (a' := ?_) #[true, true, true, true, true, true, true, true, true, true, true, true, true, true, true, true, true, true, true, true, true, true, true, false] rfl rfl (any_of HT_.out (by kernel_rfl)) (fun _ _ _ h => h) (Or.inr ⟨by rfl, rfl⟩) ?_ ?_
                      rotate_left
                      · simp only [Act.put, List.setIfInBounds_toArray, List.set_cons_zero, List.set_cons_succ, i64_w, i32_w]
                        rfl
                      refine pure_ (i := 23) (N := some 79) (v := ?_) (a' := ?_) #[true, true, true, true, true, true, true, true, true, true, true, true, true, true, true, true, true, true, true, true, true, true, true, true] rfl rfl (any_of HT_.out (by kernel_rfl)) (fun _ _ _ h => h) (Or.inl ⟨by rfl, ?_⟩) ?_ ?_
                      rotate_left
                      · intro w'
                        go_simp
                        with_reducible rfl
                      rotate_left
                      · simp only [Act.put, List.setIfInBounds_toArray, List.set_cons_zero, List.set_cons_succ, i64_w, i32_w]
                        rfl
                      refine done_ (done_of HT_.out (by kernel_rfl)) ?_
                      try go_wp2
                      go_meet
                      case rel => exact ⟨_, (true), (t269), (t270), (t271), (t272), (t273), (t274), (by first | rfl | (simp; done) | (simp [*]; done)), H', ⟨by have := HK1.out; have := HJ15.out; first | omega | exact Nat.le_refl _⟩, ⟨by (with_reducible repeat (first | refine blk_drewN ?_ _ | refine blk_drew ?_ | refine blk_alloc ?_ _)); exact BK250.out⟩, ⟨by (with_reducible repeat (first | refine blk_drewN ?_ _ | refine blk_drew ?_ | refine blk_alloc ?_ _)); exact BK267.out⟩, ⟨by repeat (first | (with_reducible first | exact HI245.out | apply IsS52.alloc | apply IsS52.drewN | apply IsS52.drew | apply IsS52.set_0 | apply IsS52.set_1 | apply IsS52.set_2 | apply IsS52.set_3 | apply IsS52.set_4 | apply IsS52.set_5 | refine IsS52.far ?_ NB245_250.out _ | refine IsS52.far ?_ NB245_267.out _) | exact HI245.out)⟩, ⟨by repeat (first | (with_reducible first | exact HB.out | apply below_alloc | apply pw_below_drewN | apply below_drew1 | refine below_set ?_ (IsS52.ge HI245.out) | refine below_set ?_ GE250.out | refine below_set ?_ GE267.out) | exact HB.out)⟩⟩
                  · rw [if_neg c40] at H
                    exact absurd H (by simp)
                · rw [if_neg c39] at H
                  exact absurd H (by simp)
              case rest =>
                clear HC38
                try clear c1
                try clear c2
                try clear p2
                try clear c3
                try clear c4
                try clear p4
                try clear q4
                try clear hx4
                try clear p5
                try clear q5
                try clear hx5
                try clear c19
                try clear c20
                try clear c21
                try clear c22
                try clear c39
                try clear c40
                try clear p41
                try clear q41
                try clear hx41
                try clear c43
                try clear c43b0
                try clear c43b1
                try clear c45
                try clear c45b0
                try clear c45b1
                try clear c45b2
                try clear p49
                try clear q49
                try clear hx49
                try clear p51
                try clear q51
                try clear hx51
                try clear p41
                try clear p49
                try clear p51
                try clear q41
                try clear q49
                try clear q51
                obtain ⟨kq, x79_37, x246000_37, x246001_37, x246002_37, x246003_37, x246004_37, x246005_37, rfl, HA, HJ37, BK250, BK267, HI245, HB⟩ := hcut
                cases kq with
                | zero => exact absurd HA.out (by simp [chequerlaw05_TokenReads.j2])
                | succ kj37 =>
                  have H := HA.out
                  clear HA
                  simp only [chequerlaw05_TokenReads.j2] at H
                  by_cases c58 : x79_37 = true
                  · subst c58
                    have H1 : (some false) = some r := by rw [if_pos rfl] at H; exact H
                    clear H
                    have H := H1
                    clear H1
                    obtain rfl := Option.some.inj H
                    go_wp2
                    go_ret
                    exact ⟨by first | rfl | (simp [errW_none, errW_some] <;> rfl) | (simp [*, errW_none, errW_some] <;> rfl), by repeat (first | (with_reducible first | exact HB.out | apply below_alloc | apply pw_below_drewN | apply below_drew1 | refine below_set ?_ (IsS52.ge HI245.out) | refine below_set ?_ GE250.out | refine below_set ?_ GE267.out) | exact HB.out)⟩
                  · replace c58 := Bool.eq_false_iff.mpr c58
                    subst c58
                    have H1 : ((token_Number_Value.f x246000_37 x246001_37 x246002_37 x246003_37 x246004_37 x246005_37).bind fun bt284 => ((chequerref05_Value.f t262 t263 t264 t265).bind fun bt292 => (if bt284.1 = bt292.1 then (if bt284.2.1 = bt292.2 then (chequerlaw05_TokenReads.l0 kj37 t237 x8_15 (wrap64 (x9_1 + 1)) bt284.2.2.1 bt284.2.2.2.1 bt284.2.2.2.2.1 bt284.2.2.2.2.2.1 bt284.2.2.2.2.2.2.1 bt284.2.2.2.2.2.2.2 t262 t263 t264 t265) else (some false)) else (some false)))) = some r := by rw [if_neg (show ¬ (false = true) by decide)] at H; exact H
                    clear H
                    have H := H1
                    clear H1
                    replace H := Option.bind_eq_some_iff.mp H
                    obtain ⟨⟨t284, t285, t286, t287, t288, t289, t290, t291⟩, A590, H⟩ := H
                    replace H : ((chequerref05_Value.f t262 t263 t264 t265).bind fun bt292 => (if t284 = bt292.1 then (if t285 = bt292.2 then (chequerlaw05_TokenReads.l0 kj37 t237 x8_15 (wrap64 (x9_1 + 1)) t286 t287 t288 t289 t290 t291 t262 t263 t264 t265) else (some false)) else (some false))) = some r := H
                    have A59 := Aside0.mk A590
                    clear A590
                    replace H := Option.bind_eq_some_iff.mp H
                    obtain ⟨⟨t292, t293⟩, A600, H⟩ := H
                    replace H : (if t284 = t292 then (if t285 = t293 then (chequerlaw05_TokenReads.l0 kj37 t237 x8_15 (wrap64 (x9_1 + 1)) t286 t287 t288 t289 t290 t291 t262 t263 t264 t265) else (some false)) else (some false)) = some r := H
                    have A60 := Aside0.mk A600
                    clear A600
                    by_cases c61 : t284 = t292
                    · rw [if_pos c61] at H
                      have c61b0 : (t284 == t292) = true := beq_iff_eq.mpr c61
                      have c61b1 : (t284 != t292) = false := bne_eq_false_iff_eq.mpr c61
                      clear c61
                      by_cases c62 : t285 = t293
                      · rw [if_pos c62] at H
                        have c62b0 : (t285 == t293) = true := beq_iff_eq.mpr c62
                        have c62b1 : (t285 != t293) = false := bne_eq_false_iff_eq.mpr c62
                        clear c62
                        have H' := Aside0.mk H
                        clear H
                        go_wp2_with (first | ((with_reducible refine gate_callee (f := 23) rfl ?_); refine goesL_ (some 82) rfl rfl Try.func23 (by kernel_rfl) rfl #[.pointer (some ⟨g245, 0, none⟩)] rfl (by (try simp only [List.map_toArray, List.map_cons, List.map_nil]); first | done | rfl | (simp only [List.length_drop, List.length_take]; rfl)) ?_; (with_reducible refine (token_Number_Value.calls g245 x246000_37 x246001_37 x246002_37 x246003_37 x246004_37 x246005_37 t284 t285 t286 t287 t288 t289 t290 t291 w _ ?side1 ?side2 A59.out).mono ?_); (case side1 => repeat (first | (with_reducible first | exact HI245.out | apply IsS52.alloc | apply IsS52.drewN | apply IsS52.drew | apply IsS52.set_0 | apply IsS52.set_1 | apply IsS52.set_2 | apply IsS52.set_3 | apply IsS52.set_4 | apply IsS52.set_5 | refine IsS52.far ?_ NB245_250.out _ | refine IsS52.far ?_ NB245_267.out _) | exact HI245.out)); (case side2 => repeat (first | (with_reducible first | exact HB.out | apply below_alloc | apply pw_below_drewN | apply below_drew1 | refine below_set ?_ (IsS52.ge HI245.out) | refine below_set ?_ GE250.out | refine below_set ?_ GE267.out) | exact HB.out)); rintro e w63 ⟨rfl, hi, hb, hk⟩; refine ⟨_, rfl, ?_⟩; have n0_ := Aside0.mk (KeepBut.blk hk (g' := gb250) (o := .cells #[.int .i64 t262, .int .i64 t263, .int .i64 t264, .int .i64 t265] 38 (0, 0)) (by (with_reducible repeat (first | refine blk_drewN ?_ _ | refine blk_drew ?_ | refine blk_alloc ?_ _)); exact BK250.out) NB250_245.out (by simp)); have n1_ := Aside0.mk (KeepBut.blk hk (g' := gb267) (o := .cells #[.int .i64 t262, .int .i64 t263, .int .i64 t264, .int .i64 t265] 38 (0, 0)) (by (with_reducible repeat (first | refine blk_drewN ?_ _ | refine blk_drew ?_ | refine blk_alloc ?_ _)); exact BK267.out) NB267_245.out (by simp)); have n2_ := Aside0.mk (hb); have n3_ := Aside0.mk (hi); clear BK250; clear BK267; clear HB; clear HI245; have BK250 := n0_; have BK267 := n1_; have HB := n2_; have HI245 := n3_; clear n0_ n1_ n2_ n3_; (try clear hb); (try clear hb2); (try clear hk); (try clear hi); have hnb64 := NB250_267.out; have hnc64 := NB267_250.out; have hnb65 := NB250_245.out; have hnc65 := NB245_250.out; have hcz66_0 : w63.cell? ⟨gb250, 0, none⟩ = some (.int .i64 t262) := (blk_cell BK250.out 0).trans rfl; have hcz66_1 : w63.cell? ⟨gb250, 1, none⟩ = some (.int .i64 t263) := (blk_cell BK250.out 1).trans rfl; have hcz66_2 : w63.cell? ⟨gb250, 2, none⟩ = some (.int .i64 t264) := (blk_cell BK250.out 2).trans rfl; have hcz66_3 : w63.cell? ⟨gb250, 3, none⟩ = some (.int .i64 t265) := (blk_cell BK250.out 3).trans rfl; have hfz66_0 := blk_frozen BK250.out 0; have hfz66_1 := blk_frozen BK250.out 1; have hfz66_2 := blk_frozen BK250.out 2; have hfz66_3 := blk_frozen BK250.out 3) | ((with_reducible refine gate_callee (f := 24) rfl ?_); refine goesL_ (some 87) rfl rfl Try.func24 (by kernel_rfl) rfl #[.agg #[.int .i64 t262, .int .i64 t263, .int .i64 t264, .int .i64 t265]] rfl (by (try simp only [List.map_toArray, List.map_cons, List.map_nil]); first | done | rfl | (simp only [List.length_drop, List.length_take]; rfl)) ?_; (with_reducible refine (chequerref05_Value.calls t262 t263 t264 t265 t292 t293 _ A60.out).mono ?_); rintro e w67 ⟨rfl, hb⟩; refine ⟨_, rfl, ?_⟩; have n0_ := Aside0.mk (blk_below (g := gb250) (o := .cells #[.int .i64 t262, .int .i64 t263, .int .i64 t264, .int .i64 t265] 38 (0, 0)) (by (with_reducible repeat (first | refine blk_drewN ?_ _ | refine blk_drew ?_ | refine blk_alloc ?_ _)); exact BK250.out) hb); have n1_ := Aside0.mk (blk_below (g := gb267) (o := .cells #[.int .i64 t262, .int .i64 t263, .int .i64 t264, .int .i64 t265] 38 (0, 0)) (by (with_reducible repeat (first | refine blk_drewN ?_ _ | refine blk_drew ?_ | refine blk_alloc ?_ _)); exact BK267.out) hb); have n2_ := Aside0.mk (IsS52.below (by repeat (first | (with_reducible first | exact HI245.out | apply IsS52.alloc | apply IsS52.drewN | apply IsS52.drew | apply IsS52.set_0 | apply IsS52.set_1 | apply IsS52.set_2 | apply IsS52.set_3 | apply IsS52.set_4 | apply IsS52.set_5 | refine IsS52.far ?_ NB245_250.out _ | refine IsS52.far ?_ NB245_267.out _) | exact HI245.out)) hb); have n3_ := Aside0.mk (below_step (by repeat (first | (with_reducible first | exact HB.out | apply below_alloc | apply pw_below_drewN | apply below_drew1 | refine below_set ?_ (IsS52.ge HI245.out) | refine below_set ?_ GE250.out | refine below_set ?_ GE267.out) | exact HB.out)) hb); clear BK250; clear BK267; clear HI245; clear HB; have BK250 := n0_; have BK267 := n1_; have HI245 := n2_; have HB := n3_; clear n0_ n1_ n2_ n3_; (try clear hb); (try clear hb2); (try clear hk); (try clear hi)))
                        go_roundg kj37
                        case measure => have := HK1.out; have := HJ15.out; have := HJ37.out; omega
                        case rel => exact ⟨(x8_15), (wrap64 (x9_1 + 1)), (t286), (t287), (t288), (t289), (t290), (t291), (t262), (t263), (t264), (t265), (by first | rfl | (simp; done) | (simp [*]; done)), (by first | rfl | (simp; done) | (simp [*]; done)), H', ⟨by have := HK1.out; have := HJ15.out; have := HJ37.out; omega⟩, ⟨by (with_reducible repeat (first | refine blk_drewN ?_ _ | refine blk_drew ?_ | refine blk_alloc ?_ _)); exact BK250.out⟩, ⟨by repeat (first | (with_reducible first | exact HI245.out | apply IsS52.alloc | apply IsS52.drewN | apply IsS52.drew | apply IsS52.set_0 | apply IsS52.set_1 | apply IsS52.set_2 | apply IsS52.set_3 | apply IsS52.set_4 | apply IsS52.set_5 | refine IsS52.far ?_ NB245_250.out _ | refine IsS52.far ?_ NB245_267.out _) | exact HI245.out)⟩, ⟨by repeat (first | (with_reducible first | exact HB.out | apply below_alloc | apply pw_below_drewN | apply below_drew1 | refine below_set ?_ (IsS52.ge HI245.out) | refine below_set ?_ GE250.out | refine below_set ?_ GE267.out) | exact HB.out)⟩⟩
                      · rw [if_neg c62] at H
                        have c62b0 : (t285 == t293) = false := beq_eq_false_iff_ne.mpr c62
                        have c62b1 : (t285 != t293) = true := bne_iff_ne.mpr c62
                        obtain rfl := Option.some.inj H
                        go_wp2_with (first | ((with_reducible refine gate_callee (f := 23) rfl ?_); refine goesL_ (some 82) rfl rfl Try.func23 (by kernel_rfl) rfl #[.pointer (some ⟨g245, 0, none⟩)] rfl (by (try simp only [List.map_toArray, List.map_cons, List.map_nil]); first | done | rfl | (simp only [List.length_drop, List.length_take]; rfl)) ?_; (with_reducible refine (token_Number_Value.calls g245 x246000_37 x246001_37 x246002_37 x246003_37 x246004_37 x246005_37 t284 t285 t286 t287 t288 t289 t290 t291 w _ ?side1 ?side2 A59.out).mono ?_); (case side1 => repeat (first | (with_reducible first | exact HI245.out | apply IsS52.alloc | apply IsS52.drewN | apply IsS52.drew | apply IsS52.set_0 | apply IsS52.set_1 | apply IsS52.set_2 | apply IsS52.set_3 | apply IsS52.set_4 | apply IsS52.set_5 | refine IsS52.far ?_ NB245_250.out _) | exact HI245.out)); (case side2 => repeat (first | (with_reducible first | exact HB.out | apply below_alloc | apply pw_below_drewN | apply below_drew1 | refine below_set ?_ (IsS52.ge HI245.out) | refine below_set ?_ GE250.out) | exact HB.out)); rintro e w68 ⟨rfl, hi, hb, hk⟩; refine ⟨_, rfl, ?_⟩; have n0_ := Aside0.mk (KeepBut.blk hk (g' := gb250) (o := .cells #[.int .i64 t262, .int .i64 t263, .int .i64 t264, .int .i64 t265] 38 (0, 0)) (by (with_reducible repeat (first | refine blk_drewN ?_ _ | refine blk_drew ?_ | refine blk_alloc ?_ _)); exact BK250.out) NB250_245.out (by simp)); have n1_ := Aside0.mk (hb); have n2_ := Aside0.mk (hi); clear BK250; clear HB; clear HI245; have BK250 := n0_; have HB := n1_; have HI245 := n2_; clear n0_ n1_ n2_; (try clear hb); (try clear hb2); (try clear hk); (try clear hi); have hnb69 := NB250_245.out; have hnc69 := NB245_250.out; have hcz70_0 : w68.cell? ⟨gb250, 0, none⟩ = some (.int .i64 t262) := (blk_cell BK250.out 0).trans rfl; have hcz70_1 : w68.cell? ⟨gb250, 1, none⟩ = some (.int .i64 t263) := (blk_cell BK250.out 1).trans rfl; have hcz70_2 : w68.cell? ⟨gb250, 2, none⟩ = some (.int .i64 t264) := (blk_cell BK250.out 2).trans rfl; have hcz70_3 : w68.cell? ⟨gb250, 3, none⟩ = some (.int .i64 t265) := (blk_cell BK250.out 3).trans rfl; have hfz70_0 := blk_frozen BK250.out 0; have hfz70_1 := blk_frozen BK250.out 1; have hfz70_2 := blk_frozen BK250.out 2; have hfz70_3 := blk_frozen BK250.out 3) | ((with_reducible refine gate_callee (f := 24) rfl ?_); refine goesL_ (some 87) rfl rfl Try.func24 (by kernel_rfl) rfl #[.agg #[.int .i64 t262, .int .i64 t263, .int .i64 t264, .int .i64 t265]] rfl (by (try simp only [List.map_toArray, List.map_cons, List.map_nil]); first | done | rfl | (simp only [List.length_drop, List.length_take]; rfl)) ?_; (with_reducible refine (chequerref05_Value.calls t262 t263 t264 t265 t292 t293 _ A60.out).mono ?_); rintro e w71 ⟨rfl, hb⟩; refine ⟨_, rfl, ?_⟩; have n0_ := Aside0.mk (IsS52.below (by repeat (first | (with_reducible first | exact HI245.out | apply IsS52.alloc | apply IsS52.drewN | apply IsS52.drew | apply IsS52.set_0 | apply IsS52.set_1 | apply IsS52.set_2 | apply IsS52.set_3 | apply IsS52.set_4 | apply IsS52.set_5) | exact HI245.out)) hb); have n1_ := Aside0.mk (below_step (by repeat (first | (with_reducible first | exact HB.out | apply below_alloc | apply pw_below_drewN | apply below_drew1 | refine below_set ?_ (IsS52.ge HI245.out)) | exact HB.out)) hb); clear HI245; clear HB; have HI245 := n0_; have HB := n1_; clear n0_ n1_; (try clear hb); (try clear hb2); (try clear hk); (try clear hi)))
                        go_ret
                        exact ⟨by first | rfl | (simp [errW_none, errW_some] <;> rfl) | (simp [*, errW_none, errW_some] <;> rfl), by repeat (first | (with_reducible first | exact HB.out | apply below_alloc | apply pw_below_drewN | apply below_drew1 | refine below_set ?_ (IsS52.ge HI245.out)) | exact HB.out)⟩
                    · rw [if_neg c61] at H
                      have c61b0 : (t284 == t292) = false := beq_eq_false_iff_ne.mpr c61
                      have c61b1 : (t284 != t292) = true := bne_iff_ne.mpr c61
                      obtain rfl := Option.some.inj H
                      go_wp2_with (first | ((with_reducible refine gate_callee (f := 23) rfl ?_); refine goesL_ (some 82) rfl rfl Try.func23 (by kernel_rfl) rfl #[.pointer (some ⟨g245, 0, none⟩)] rfl (by (try simp only [List.map_toArray, List.map_cons, List.map_nil]); first | done | rfl | (simp only [List.length_drop, List.length_take]; rfl)) ?_; (with_reducible refine (token_Number_Value.calls g245 x246000_37 x246001_37 x246002_37 x246003_37 x246004_37 x246005_37 t284 t285 t286 t287 t288 t289 t290 t291 w _ ?side1 ?side2 A59.out).mono ?_); (case side1 => repeat (first | (with_reducible first | exact HI245.out | apply IsS52.alloc | apply IsS52.drewN | apply IsS52.drew | apply IsS52.set_0 | apply IsS52.set_1 | apply IsS52.set_2 | apply IsS52.set_3 | apply IsS52.set_4 | apply IsS52.set_5 | refine IsS52.far ?_ NB245_250.out _) | exact HI245.out)); (case side2 => repeat (first | (with_reducible first | exact HB.out | apply below_alloc | apply pw_below_drewN | apply below_drew1 | refine below_set ?_ (IsS52.ge HI245.out) | refine below_set ?_ GE250.out) | exact HB.out)); rintro e w72 ⟨rfl, hi, hb, hk⟩; refine ⟨_, rfl, ?_⟩; have n0_ := Aside0.mk (KeepBut.blk hk (g' := gb250) (o := .cells #[.int .i64 t262, .int .i64 t263, .int .i64 t264, .int .i64 t265] 38 (0, 0)) (by (with_reducible repeat (first | refine blk_drewN ?_ _ | refine blk_drew ?_ | refine blk_alloc ?_ _)); exact BK250.out) NB250_245.out (by simp)); have n1_ := Aside0.mk (hb); have n2_ := Aside0.mk (hi); clear BK250; clear HB; clear HI245; have BK250 := n0_; have HB := n1_; have HI245 := n2_; clear n0_ n1_ n2_; (try clear hb); (try clear hb2); (try clear hk); (try clear hi); have hnb73 := NB250_245.out; have hnc73 := NB245_250.out; have hcz74_0 : w72.cell? ⟨gb250, 0, none⟩ = some (.int .i64 t262) := (blk_cell BK250.out 0).trans rfl; have hcz74_1 : w72.cell? ⟨gb250, 1, none⟩ = some (.int .i64 t263) := (blk_cell BK250.out 1).trans rfl; have hcz74_2 : w72.cell? ⟨gb250, 2, none⟩ = some (.int .i64 t264) := (blk_cell BK250.out 2).trans rfl; have hcz74_3 : w72.cell? ⟨gb250, 3, none⟩ = some (.int .i64 t265) := (blk_cell BK250.out 3).trans rfl; have hfz74_0 := blk_frozen BK250.out 0; have hfz74_1 := blk_frozen BK250.out 1; have hfz74_2 := blk_frozen BK250.out 2; have hfz74_3 := blk_frozen BK250.out 3) | ((with_reducible refine gate_callee (f := 24) rfl ?_); refine goesL_ (some 87) rfl rfl Try.func24 (by kernel_rfl) rfl #[.agg #[.int .i64 t262, .int .i64 t263, .int .i64 t264, .int .i64 t265]] rfl (by (try simp only [List.map_toArray, List.map_cons, List.map_nil]); first | done | rfl | (simp only [List.length_drop, List.length_take]; rfl)) ?_; (with_reducible refine (chequerref05_Value.calls t262 t263 t264 t265 t292 t293 _ A60.out).mono ?_); rintro e w75 ⟨rfl, hb⟩; refine ⟨_, rfl, ?_⟩; have n0_ := Aside0.mk (IsS52.below (by repeat (first | (with_reducible first | exact HI245.out | apply IsS52.alloc | apply IsS52.drewN | apply IsS52.drew | apply IsS52.set_0 | apply IsS52.set_1 | apply IsS52.set_2 | apply IsS52.set_3 | apply IsS52.set_4 | apply IsS52.set_5) | exact HI245.out)) hb); have n1_ := Aside0.mk (below_step (by repeat (first | (with_reducible first | exact HB.out | apply below_alloc | apply pw_below_drewN | apply below_drew1 | refine below_set ?_ (IsS52.ge HI245.out)) | exact HB.out)) hb); clear HI245; clear HB; have HI245 := n0_; have HB := n1_; clear n0_ n1_; (try clear hb); (try clear hb2); (try clear hk); (try clear hi)))
                      go_ret
                      exact ⟨by first | rfl | (simp [errW_none, errW_some] <;> rfl) | (simp [*, errW_none, errW_some] <;> rfl), by repeat (first | (with_reducible first | exact HB.out | apply below_alloc | apply pw_below_drewN | apply below_drew1 | refine below_set ?_ (IsS52.ge HI245.out)) | exact HB.out)⟩
        · rw [if_neg c13] at H
          exact absurd H (by simp)
      · rw [if_neg c12] at H
        have c12b0 : decide (x9_1 < (t237.size : Int)) = false := decide_eq_false c12
        clear c12
        replace H := Option.bind_eq_some_iff.mp H
        obtain ⟨⟨t251, t252, t253, t254, t255, t256, t257, t258⟩, A760, H⟩ := H
        replace H : ((chequerref05_Value.f x251000_1 x251001_1 x251002_1 x251003_1).bind fun bt259 => (if t251 = bt259.1 then (if t252 = bt259.2 then ((chequerlaw05_lives.f).bind fun t261 => (some t261)) else (some false)) else (some false))) = some r := H
        have A76 := Aside0.mk A760
        clear A760
        replace H := Option.bind_eq_some_iff.mp H
        obtain ⟨⟨t259, t260⟩, A770, H⟩ := H
        replace H : (if t251 = t259 then (if t252 = t260 then ((chequerlaw05_lives.f).bind fun t261 => (some t261)) else (some false)) else (some false)) = some r := H
        have A77 := Aside0.mk A770
        clear A770
        by_cases c78 : t251 = t259
        · rw [if_pos c78] at H
          have c78b0 : (t251 == t259) = true := beq_iff_eq.mpr c78
          have c78b1 : (t251 != t259) = false := bne_eq_false_iff_eq.mpr c78
          clear c78
          by_cases c79 : t252 = t260
          · rw [if_pos c79] at H
            have c79b0 : (t252 == t260) = true := beq_iff_eq.mpr c79
            have c79b1 : (t252 != t260) = false := bne_eq_false_iff_eq.mpr c79
            clear c79
            replace H := Option.bind_eq_some_iff.mp H
            obtain ⟨t261, A800, H⟩ := H
            replace H : (some t261) = some r := H
            have A80 := Aside0.mk A800
            clear A800
            obtain rfl := Option.some.inj H
            go_wp2_with (first | ((with_reducible refine gate_callee (f := 23) rfl ?_); refine goesL_ (some 100) rfl rfl Try.func23 (by kernel_rfl) rfl #[.pointer (some ⟨g245, 0, none⟩)] rfl (by (try simp only [List.map_toArray, List.map_cons, List.map_nil]); first | done | rfl | (simp only [List.length_drop, List.length_take]; rfl)) ?_; (with_reducible refine (token_Number_Value.calls g245 x246000_1 x246001_1 x246002_1 x246003_1 x246004_1 x246005_1 t251 t252 t253 t254 t255 t256 t257 t258 w _ ?side1 ?side2 A76.out).mono ?_); (case side1 => repeat (first | (with_reducible first | exact HI245.out | apply IsS52.alloc | apply IsS52.drewN | apply IsS52.drew | apply IsS52.set_0 | apply IsS52.set_1 | apply IsS52.set_2 | apply IsS52.set_3 | apply IsS52.set_4 | apply IsS52.set_5 | refine IsS52.far ?_ NB245_250.out _) | exact HI245.out)); (case side2 => repeat (first | (with_reducible first | exact HB.out | apply below_alloc | apply pw_below_drewN | apply below_drew1 | refine below_set ?_ (IsS52.ge HI245.out) | refine below_set ?_ GE250.out) | exact HB.out)); rintro e w81 ⟨rfl, hi, hb, hk⟩; refine ⟨_, rfl, ?_⟩; have n0_ := Aside0.mk (KeepBut.blk hk (g' := gb250) (o := .cells #[.int .i64 x251000_1, .int .i64 x251001_1, .int .i64 x251002_1, .int .i64 x251003_1] 38 (0, 0)) (by (with_reducible repeat (first | refine blk_drewN ?_ _ | refine blk_drew ?_ | refine blk_alloc ?_ _)); exact BK250.out) NB250_245.out (by simp)); have n1_ := Aside0.mk (hb); have n2_ := Aside0.mk (hi); clear BK250; clear HB; clear HI245; have BK250 := n0_; have HB := n1_; have HI245 := n2_; clear n0_ n1_ n2_; (try clear hb); (try clear hb2); (try clear hk); (try clear hi); have hnb82 := NB250_245.out; have hnc82 := NB245_250.out; have hcz83_0 : w81.cell? ⟨gb250, 0, none⟩ = some (.int .i64 x251000_1) := (blk_cell BK250.out 0).trans rfl; have hcz83_1 : w81.cell? ⟨gb250, 1, none⟩ = some (.int .i64 x251001_1) := (blk_cell BK250.out 1).trans rfl; have hcz83_2 : w81.cell? ⟨gb250, 2, none⟩ = some (.int .i64 x251002_1) := (blk_cell BK250.out 2).trans rfl; have hcz83_3 : w81.cell? ⟨gb250, 3, none⟩ = some (.int .i64 x251003_1) := (blk_cell BK250.out 3).trans rfl; have hfz83_0 := blk_frozen BK250.out 0; have hfz83_1 := blk_frozen BK250.out 1; have hfz83_2 := blk_frozen BK250.out 2; have hfz83_3 := blk_frozen BK250.out 3) | ((with_reducible refine gate_callee (f := 24) rfl ?_); refine goesL_ (some 105) rfl rfl Try.func24 (by kernel_rfl) rfl #[.agg #[.int .i64 x251000_1, .int .i64 x251001_1, .int .i64 x251002_1, .int .i64 x251003_1]] rfl (by (try simp only [List.map_toArray, List.map_cons, List.map_nil]); first | done | rfl | (simp only [List.length_drop, List.length_take]; rfl)) ?_; (with_reducible refine (chequerref05_Value.calls x251000_1 x251001_1 x251002_1 x251003_1 t259 t260 _ A77.out).mono ?_); rintro e w84 ⟨rfl, hb⟩; refine ⟨_, rfl, ?_⟩; have n0_ := Aside0.mk (IsS52.below (by repeat (first | (with_reducible first | exact HI245.out | apply IsS52.alloc | apply IsS52.drewN | apply IsS52.drew | apply IsS52.set_0 | apply IsS52.set_1 | apply IsS52.set_2 | apply IsS52.set_3 | apply IsS52.set_4 | apply IsS52.set_5) | exact HI245.out)) hb); have n1_ := Aside0.mk (below_step (by repeat (first | (with_reducible first | exact HB.out | apply below_alloc | apply pw_below_drewN | apply below_drew1 | refine below_set ?_ (IsS52.ge HI245.out)) | exact HB.out)) hb); clear HI245; clear HB; have HI245 := n0_; have HB := n1_; clear n0_ n1_; (try clear hb); (try clear hb2); (try clear hk); (try clear hi)) | (go_at_call 15; (with_reducible refine (chequerlaw05_lives.calls  t261 _ A80.out).mono ?_); rintro e w85 ⟨rfl, hb⟩; have n0_ := Aside0.mk (IsS52.below (by repeat (first | (with_reducible first | exact HI245.out | apply IsS52.alloc | apply IsS52.drewN | apply IsS52.drew | apply IsS52.set_0 | apply IsS52.set_1 | apply IsS52.set_2 | apply IsS52.set_3 | apply IsS52.set_4 | apply IsS52.set_5) | exact HI245.out)) hb); have n1_ := Aside0.mk (below_step (by repeat (first | (with_reducible first | exact HB.out | apply below_alloc | apply pw_below_drewN | apply below_drew1 | refine below_set ?_ (IsS52.ge HI245.out)) | exact HB.out)) hb); clear HI245; clear HB; have HI245 := n0_; have HB := n1_; clear n0_ n1_; (try clear hb); (try clear hb2); (try clear hk); (try clear hi)))
            go_ret
            exact ⟨by first | rfl | (simp [errW_none, errW_some] <;> rfl) | (simp [*, errW_none, errW_some] <;> rfl), by repeat (first | (with_reducible first | exact HB.out | apply below_alloc | apply pw_below_drewN | apply below_drew1 | refine below_set ?_ (IsS52.ge HI245.out)) | exact HB.out)⟩
          · rw [if_neg c79] at H
            have c79b0 : (t252 == t260) = false := beq_eq_false_iff_ne.mpr c79
            have c79b1 : (t252 != t260) = true := bne_iff_ne.mpr c79
            obtain rfl := Option.some.inj H
            go_wp2_with (first | ((with_reducible refine gate_callee (f := 23) rfl ?_); refine goesL_ (some 100) rfl rfl Try.func23 (by kernel_rfl) rfl #[.pointer (some ⟨g245, 0, none⟩)] rfl (by (try simp only [List.map_toArray, List.map_cons, List.map_nil]); first | done | rfl | (simp only [List.length_drop, List.length_take]; rfl)) ?_; (with_reducible refine (token_Number_Value.calls g245 x246000_1 x246001_1 x246002_1 x246003_1 x246004_1 x246005_1 t251 t252 t253 t254 t255 t256 t257 t258 w _ ?side1 ?side2 A76.out).mono ?_); (case side1 => repeat (first | (with_reducible first | exact HI245.out | apply IsS52.alloc | apply IsS52.drewN | apply IsS52.drew | apply IsS52.set_0 | apply IsS52.set_1 | apply IsS52.set_2 | apply IsS52.set_3 | apply IsS52.set_4 | apply IsS52.set_5 | refine IsS52.far ?_ NB245_250.out _) | exact HI245.out)); (case side2 => repeat (first | (with_reducible first | exact HB.out | apply below_alloc | apply pw_below_drewN | apply below_drew1 | refine below_set ?_ (IsS52.ge HI245.out) | refine below_set ?_ GE250.out) | exact HB.out)); rintro e w86 ⟨rfl, hi, hb, hk⟩; refine ⟨_, rfl, ?_⟩; have n0_ := Aside0.mk (KeepBut.blk hk (g' := gb250) (o := .cells #[.int .i64 x251000_1, .int .i64 x251001_1, .int .i64 x251002_1, .int .i64 x251003_1] 38 (0, 0)) (by (with_reducible repeat (first | refine blk_drewN ?_ _ | refine blk_drew ?_ | refine blk_alloc ?_ _)); exact BK250.out) NB250_245.out (by simp)); have n1_ := Aside0.mk (hb); have n2_ := Aside0.mk (hi); clear BK250; clear HB; clear HI245; have BK250 := n0_; have HB := n1_; have HI245 := n2_; clear n0_ n1_ n2_; (try clear hb); (try clear hb2); (try clear hk); (try clear hi); have hnb87 := NB250_245.out; have hnc87 := NB245_250.out; have hcz88_0 : w86.cell? ⟨gb250, 0, none⟩ = some (.int .i64 x251000_1) := (blk_cell BK250.out 0).trans rfl; have hcz88_1 : w86.cell? ⟨gb250, 1, none⟩ = some (.int .i64 x251001_1) := (blk_cell BK250.out 1).trans rfl; have hcz88_2 : w86.cell? ⟨gb250, 2, none⟩ = some (.int .i64 x251002_1) := (blk_cell BK250.out 2).trans rfl; have hcz88_3 : w86.cell? ⟨gb250, 3, none⟩ = some (.int .i64 x251003_1) := (blk_cell BK250.out 3).trans rfl; have hfz88_0 := blk_frozen BK250.out 0; have hfz88_1 := blk_frozen BK250.out 1; have hfz88_2 := blk_frozen BK250.out 2; have hfz88_3 := blk_frozen BK250.out 3) | ((with_reducible refine gate_callee (f := 24) rfl ?_); refine goesL_ (some 105) rfl rfl Try.func24 (by kernel_rfl) rfl #[.agg #[.int .i64 x251000_1, .int .i64 x251001_1, .int .i64 x251002_1, .int .i64 x251003_1]] rfl (by (try simp only [List.map_toArray, List.map_cons, List.map_nil]); first | done | rfl | (simp only [List.length_drop, List.length_take]; rfl)) ?_; (with_reducible refine (chequerref05_Value.calls x251000_1 x251001_1 x251002_1 x251003_1 t259 t260 _ A77.out).mono ?_); rintro e w89 ⟨rfl, hb⟩; refine ⟨_, rfl, ?_⟩; have n0_ := Aside0.mk (IsS52.below (by repeat (first | (with_reducible first | exact HI245.out | apply IsS52.alloc | apply IsS52.drewN | apply IsS52.drew | apply IsS52.set_0 | apply IsS52.set_1 | apply IsS52.set_2 | apply IsS52.set_3 | apply IsS52.set_4 | apply IsS52.set_5) | exact HI245.out)) hb); have n1_ := Aside0.mk (below_step (by repeat (first | (with_reducible first | exact HB.out | apply below_alloc | apply pw_below_drewN | apply below_drew1 | refine below_set ?_ (IsS52.ge HI245.out)) | exact HB.out)) hb); clear HI245; clear HB; have HI245 := n0_; have HB := n1_; clear n0_ n1_; (try clear hb); (try clear hb2); (try clear hk); (try clear hi)))
            go_ret
            exact ⟨by first | rfl | (simp [errW_none, errW_some] <;> rfl) | (simp [*, errW_none, errW_some] <;> rfl), by repeat (first | (with_reducible first | exact HB.out | apply below_alloc | apply pw_below_drewN | apply below_drew1 | refine below_set ?_ (IsS52.ge HI245.out)) | exact HB.out)⟩
        · rw [if_neg c78] at H
          have c78b0 : (t251 == t259) = false := beq_eq_false_iff_ne.mpr c78
          have c78b1 : (t251 != t259) = true := bne_iff_ne.mpr c78
          obtain rfl := Option.some.inj H
          go_wp2_with (first | ((with_reducible refine gate_callee (f := 23) rfl ?_); refine goesL_ (some 100) rfl rfl Try.func23 (by kernel_rfl) rfl #[.pointer (some ⟨g245, 0, none⟩)] rfl (by (try simp only [List.map_toArray, List.map_cons, List.map_nil]); first | done | rfl | (simp only [List.length_drop, List.length_take]; rfl)) ?_; (with_reducible refine (token_Number_Value.calls g245 x246000_1 x246001_1 x246002_1 x246003_1 x246004_1 x246005_1 t251 t252 t253 t254 t255 t256 t257 t258 w _ ?side1 ?side2 A76.out).mono ?_); (case side1 => repeat (first | (with_reducible first | exact HI245.out | apply IsS52.alloc | apply IsS52.drewN | apply IsS52.drew | apply IsS52.set_0 | apply IsS52.set_1 | apply IsS52.set_2 | apply IsS52.set_3 | apply IsS52.set_4 | apply IsS52.set_5 | refine IsS52.far ?_ NB245_250.out _) | exact HI245.out)); (case side2 => repeat (first | (with_reducible first | exact HB.out | apply below_alloc | apply pw_below_drewN | apply below_drew1 | refine below_set ?_ (IsS52.ge HI245.out) | refine below_set ?_ GE250.out) | exact HB.out)); rintro e w90 ⟨rfl, hi, hb, hk⟩; refine ⟨_, rfl, ?_⟩; have n0_ := Aside0.mk (KeepBut.blk hk (g' := gb250) (o := .cells #[.int .i64 x251000_1, .int .i64 x251001_1, .int .i64 x251002_1, .int .i64 x251003_1] 38 (0, 0)) (by (with_reducible repeat (first | refine blk_drewN ?_ _ | refine blk_drew ?_ | refine blk_alloc ?_ _)); exact BK250.out) NB250_245.out (by simp)); have n1_ := Aside0.mk (hb); have n2_ := Aside0.mk (hi); clear BK250; clear HB; clear HI245; have BK250 := n0_; have HB := n1_; have HI245 := n2_; clear n0_ n1_ n2_; (try clear hb); (try clear hb2); (try clear hk); (try clear hi); have hnb91 := NB250_245.out; have hnc91 := NB245_250.out; have hcz92_0 : w90.cell? ⟨gb250, 0, none⟩ = some (.int .i64 x251000_1) := (blk_cell BK250.out 0).trans rfl; have hcz92_1 : w90.cell? ⟨gb250, 1, none⟩ = some (.int .i64 x251001_1) := (blk_cell BK250.out 1).trans rfl; have hcz92_2 : w90.cell? ⟨gb250, 2, none⟩ = some (.int .i64 x251002_1) := (blk_cell BK250.out 2).trans rfl; have hcz92_3 : w90.cell? ⟨gb250, 3, none⟩ = some (.int .i64 x251003_1) := (blk_cell BK250.out 3).trans rfl; have hfz92_0 := blk_frozen BK250.out 0; have hfz92_1 := blk_frozen BK250.out 1; have hfz92_2 := blk_frozen BK250.out 2; have hfz92_3 := blk_frozen BK250.out 3) | ((with_reducible refine gate_callee (f := 24) rfl ?_); refine goesL_ (some 105) rfl rfl Try.func24 (by kernel_rfl) rfl #[.agg #[.int .i64 x251000_1, .int .i64 x251001_1, .int .i64 x251002_1, .int .i64 x251003_1]] rfl (by (try simp only [List.map_toArray, List.map_cons, List.map_nil]); first | done | rfl | (simp only [List.length_drop, List.length_take]; rfl)) ?_; (with_reducible refine (chequerref05_Value.calls x251000_1 x251001_1 x251002_1 x251003_1 t259 t260 _ A77.out).mono ?_); rintro e w93 ⟨rfl, hb⟩; refine ⟨_, rfl, ?_⟩; have n0_ := Aside0.mk (IsS52.below (by repeat (first | (with_reducible first | exact HI245.out | apply IsS52.alloc | apply IsS52.drewN | apply IsS52.drew | apply IsS52.set_0 | apply IsS52.set_1 | apply IsS52.set_2 | apply IsS52.set_3 | apply IsS52.set_4 | apply IsS52.set_5) | exact HI245.out)) hb); have n1_ := Aside0.mk (below_step (by repeat (first | (with_reducible first | exact HB.out | apply below_alloc | apply pw_below_drewN | apply below_drew1 | refine below_set ?_ (IsS52.ge HI245.out)) | exact HB.out)) hb); clear HI245; clear HB; have HI245 := n0_; have HB := n1_; clear n0_ n1_; (try clear hb); (try clear hb2); (try clear hk); (try clear hi)))
          go_ret
          exact ⟨by first | rfl | (simp [errW_none, errW_some] <;> rfl) | (simp [*, errW_none, errW_some] <;> rfl), by repeat (first | (with_reducible first | exact HB.out | apply below_alloc | apply pw_below_drewN | apply below_drew1 | refine below_set ?_ (IsS52.ge HI245.out)) | exact HB.out)⟩

/-- THE ONE PURE STATEMENT of chequerlaw05_TokenReads. -/
def chequerlaw05_TokenReads.Pure : Prop := ∀ (a0 : ByteArray) (a1 : Int), a0.size ≤ 140737488351232 → (Lit.int .i64 a1).wf = true → ∃ k, chequerlaw05_TokenReads.f k a0 a1 = some true
theorem chequerlaw05_TokenReads.walk (P : chequerlaw05_TokenReads.Pure) (a0 : ByteArray) (a1 : Int) (w : World) (w0 : a0.size ≤ 140737488351232) (w1 : (Lit.int .i64 a1).wf = true) :
    Calls Try.prog 4 #[.string a0, .int .i64 a1] w fun e w' => e = .returned (.bool true) ∧ Below w.heap.size w w' := by
  obtain ⟨k, h⟩ := P a0 a1 w0 w1
  refine (chequerlaw05_TokenReads.calls k a0 a1 true w h).mono ?_
  rintro e w' ⟨rfl, hd⟩
  exact ⟨rfl, hd⟩

end Go.Proofs.Ytbbgichpbjgifaa.Q
