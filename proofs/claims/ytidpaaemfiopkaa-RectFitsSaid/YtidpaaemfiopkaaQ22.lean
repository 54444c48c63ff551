-- written by our own program (wip/tools/myprint.py) out of the translation, by the kit's print; Lean checks it
import Derived.Test.YtidpaaemfiopkaaQ0
import Derived.Test.YtidpaaemfiopkaaQ2
import Derived.Test.YtidpaaemfiopkaaQ3
import Derived.Test.YtidpaaemfiopkaaQ7
import Derived.Test.YtidpaaemfiopkaaQ17
import Derived.Test.YtidpaaemfiopkaaQ21
namespace Go.Proofs.Ytidpaaemfiopkaa.Q
open Go.RowKit Go.Proofs.YtidpaaemfiopkaaW.PrintWords Go.Proofs.YtidpaaemfiopkaaW.PrintLast Go.Proofs.YtidpaaemfiopkaaW.PrintMore
attribute [local go_sem] max2_int min2_int max_two min_two max_three min_three max_four min_four   -- for this text's walks alone
set_option linter.unusedVariables false
set_option linter.unusedSimpArgs false

abbrev Fl237 : Array Bool := #[false, false, false, false, false, false, false, false, false, false, false, false, false, false, false, false, false, false, false, false, false, false, false, false]
abbrev Fl238 : Array Bool := #[false, false, false, false, false, false, false, false, false]
abbrev Fl239 : Array Bool := #[true, false, false, false, false, false, false, false, false, false, false, false, false, false, false, false, false, false, false, false, false, false, false, false]
abbrev Fl240 : Array Bool := #[true, false, false, false, false, false, false, false, false]
abbrev Fl241 : Array Bool := #[true, false, true, false, false, false, false, false, false]
abbrev Fl242 : Array Bool := #[true, false, true, false, true, false, false, false, false]
abbrev Fl243 : Array Bool := #[true, true, false, false, false, false, false, false, false, false, false, false, false, false, false, false, false, false, false, false, false, false, false, false]
abbrev Fl244 : Array Bool := #[true, true, true, false, false, false, false, false, false, false, false, false, false, false, false, false, false, false, false, false, false, false, false, false]
abbrev Fl245 : Array Bool := #[true, true, true, true, false, false, false, false, false, false, false, false, false, false, false, false, false, false, false, false, false, false, false, false]
abbrev Fl246 : Array Bool := #[true, true, true, true, true, false, false, false, false, false, false, false, false, false, false, false, false, false, false, false, false, false, false, false]
abbrev Fl247 : Array Bool := #[true, true, true, true, true, true, false, false, false, false, false, false, false, false, false, false, false, false, false, false, false, false, false, false]
abbrev Fl248 : Array Bool := #[true, true, true, true, true, true, true, true, true, true, true, false, false, false, false, false, false, false, false, false, false, false, false, false]
abbrev Fl249 : Array Bool := #[true, true, true, true, true, true, true, true, true, true, true, true, false, false, false, false, false, false, false, false, false, false, false, false]
abbrev Fl250 : Array Bool := #[true, true, true, true, true, true, true, true, true, true, true, true, true, false, false, false, false, false, false, false, false, false, false, false]
abbrev Fl251 : Array Bool := #[true, true, true, true, true, true, true, true, true, true, true, true, true, true, false, false, false, false, false, false, false, false, false, false]
abbrev Fl252 : Array Bool := #[true, true, true, true, true, true, true, true, true, true, true, true, true, true, true, false, false, false, false, false, false, false, false, false]
abbrev Fl253 : Array Bool := #[true, true, true, true, true, true, true, true, true, true, true, true, true, true, true, true, false, false, false, false, false, false, false, false]
abbrev Fl254 : Array Bool := #[true, true, true, true, true, true, true, true, true, true, true, true, true, true, true, true, true, false, false, false, false, false, false, false]
abbrev Fl255 : Array Bool := #[true, true, true, true, true, true, true, true, true, true, true, true, true, true, true, true, true, true, false, false, false, false, false, false]
abbrev Fl256 : Array Bool := #[true, true, true, true, true, true, true, true, true, true, true, true, true, true, true, true, true, true, true, false, false, false, false, false]
abbrev Fl257 : Array Bool := #[true, true, true, true, true, true, true, true, true, true, true, true, true, true, true, true, true, true, true, true, false, false, false, false]
abbrev Fl258 : Array Bool := #[true, true, true, true, true, true, true, true, true, true, true, true, true, true, true, true, true, true, true, true, true, false, false, false]
abbrev Fl259 : Array Bool := #[true, true, true, true, true, true, true, true, true, true, true, true, true, true, true, true, true, true, true, true, true, true, false, false]
abbrev Fl260 : Array Bool := #[true, true, true, true, true, true, true, true, true, true, true, true, true, true, true, true, true, true, true, true, true, true, true, false]
abbrev Fl261 : Array Bool := #[true, true, true, true, true, true, true, true, true, true, true, true, true, true, true, true, true, true, true, true, true, true, true, true]
abbrev Fl262 : Array Bool := #[true, true, true, true, true, true, false, true, false, false, false, false, false, false, false, false, false, false, false, false, false, false, false, false]
abbrev Fl263 : Array Bool := #[true, true, true, true, true, true, false, true, false, true, false, false, false, false, false, false, false, false, false, false, false, false, false, false]
abbrev Fl264 : Array Bool := #[true, true, true, true, true, true, false, true, false, true, true, false, false, false, false, false, false, false, false, false, false, false, false, false]
abbrev Fl265 : Array Bool := #[true, true, true, true, true, true, true, true, false, true, true, false, false, false, false, false, false, false, false, false, false, false, false, false]
abbrev Fl266 : Array Bool := #[true, true, true, true, true, true, true, false, false, false, false, false, false, false, false, false, false, false, false, false, false, false, false, false]
abbrev Fl267 : Array Bool := #[true, true, true, true, true, true, true, true, false, false, false, false, false, false, false, false, false, false, false, false, false, false, false, false]
abbrev Fl268 : Array Bool := #[true, true, true, true, true, true, true, true, true, false, false, false, false, false, false, false, false, false, false, false, false, false, false, false]
abbrev Fl269 : Array Bool := #[true, true, true, true, true, true, true, true, true, true, false, false, false, false, false, false, false, false, false, false, false, false, false, false]
/-! ### chequerlaw03_RectFits: function 8 -/
def chequerlaw03_RectFits.l0 : Nat → List Int → Int → Int → Int → Int → Int → Int → Int → Int → Int → List Int → Option (Bool)
 | 0, _, _, _, _, _, _, _, _, _, _, _ => none
 | k + 1, x1, x2, x3, x11, x610000, x610001, x613000, x613001, x614000, x614001, x614002 => if x11 < 4 then (if 0 ≤ (mn (wrap64 (3 * x11)) (x1.length : Int)) then (if (mn (wrap64 (3 * x11)) (x1.length : Int)) ≤ (x1.length : Int) then ((chequerref01_Good.f k (x1.drop ((mn (wrap64 (3 * x11)) (x1.length : Int)) : Int).toNat) x613000 x613001).bind fun t615 => (if x614002.length < 17592186044416 then (chequerlaw03_RectFits.l0 k x1 x2 x3 (wrap64 (x11 + 1)) x610000 x610001 x613000 x613001 x614000 x614001 (x614002 ++ [t615])) else (none))) else (none)) else (none)) else ((chequerlaw03_of.f x614000 x614001 x614002).bind fun bt619 => ((rect_Fits.f bt619.1 bt619.2.1 bt619.2.2 x613000 x613001).bind fun t624 => ((chequerlaw03_of.f x614000 x614001 x614002).bind fun bt625 => ((rect_Fits.f bt625.1 bt625.2.1 bt625.2.2 x610000 x610001).bind fun t630 => ((chequerref03_Fits.f k x614000 x614001 x614002 x610000 x610001).bind fun t631 => ((chequerref01_Around.f x2 4).bind fun t632 => (if 0 ≤ t632 then (if t632 < (x614002.length : Int) then ((some (x614002.set (t632 : Int).toNat x3 : List Int)).bind fun y633 => (if t624 = true then (if (t630 == t631) = true then ((chequerlaw03_of.f x614000 x614001 y633).bind fun bt634 => ((rect_Fits.f bt634.1 bt634.2.1 bt634.2.2 x613000 x613001).bind fun t639 => ((chequerref03_Fits.f k x614000 x614001 y633 x613000 x613001).bind fun t640 => (if (t639 == t640) = true then ((rect_Fits.f 0 0 ([] : List Int) x613000 x613001).bind fun t641 => (if t641 = true then (some false) else ((chequerlaw03_lives.f k).bind fun t642 => (some t642)))) else (some false))))) else (some false)) else (some false))) else (none)) else (none))))))))
def chequerlaw03_RectFits.f (k : Nat) (a0_0 : Int) (a0_1 : Int) (l1 : List Int) (a2 : Int) (a3 : Int) : Option (Bool) := (chequerref01_Form.f a0_0 a0_1).bind fun bt610 => (chequerlaw03_RectFits.l0 k l1 a2 a3 0 a0_0 a0_1 bt610.1 bt610.2 2 2 ([] : List Int))
theorem chequerlaw03_RectFits.mono_l : ∀ k, (∀ y0 y1 y2 y3 y4 y5 y6 y7 y8 y9 y10, LeO (chequerlaw03_RectFits.l0 k y0 y1 y2 y3 y4 y5 y6 y7 y8 y9 y10) (chequerlaw03_RectFits.l0 (k + 1) y0 y1 y2 y3 y4 y5 y6 y7 y8 y9 y10))
 | 0 => fun _ _ _ _ _ _ _ _ _ _ _ r h => by simp [chequerlaw03_RectFits.l0] at h
 | k + 1 => by
  have ih0 := chequerlaw03_RectFits.mono_l k
  · intro y0 y1 y2 y3 y4 y5 y6 y7 y8 y9 y10
    unfold chequerlaw03_RectFits.l0
    repeat' first
    | (with_reducible exact ih0 _ _ _ _ _ _ _ _ _ _ _)
    | (with_reducible exact chequerlaw03_lives.mono _)
    | (with_reducible exact chequerref01_Good.mono _ _ _ _)
    | (with_reducible exact chequerref03_Fits.mono _ _ _ _ _ _)
    | (with_reducible exact LeO.refl _)
    | (with_reducible exact LeO.none _)
    | (with_reducible refine LeO.ite ?_ ?_)
    | (with_reducible refine LeO.bind ?_ (fun _ => ?_))
    | exact ih0 _ _ _ _ _ _ _ _ _ _ _
    | exact chequerlaw03_lives.mono _
    | exact chequerref01_Good.mono _ _ _ _
    | exact chequerref03_Fits.mono _ _ _ _ _ _
    | exact LeO.none _
    | refine LeO.ite ?_ ?_
    | refine LeO.bind ?_ (fun _ => ?_)
theorem chequerlaw03_RectFits.mono : ∀ a0 a1 a2 a3 a4 k, LeO (chequerlaw03_RectFits.f k a0 a1 a2 a3 a4) (chequerlaw03_RectFits.f (k + 1) a0 a1 a2 a3 a4) := by
 intro a0 a1 a2 a3 a4 k
 have ih0 := chequerlaw03_RectFits.mono_l k
 unfold chequerlaw03_RectFits.f
 repeat' first
  | (with_reducible exact ih0 _ _ _ _ _ _ _ _ _ _ _)
  | (with_reducible exact chequerlaw03_lives.mono _)
  | (with_reducible exact chequerref01_Good.mono _ _ _ _)
  | (with_reducible exact chequerref03_Fits.mono _ _ _ _ _ _)
  | (with_reducible exact LeO.refl _)
  | (with_reducible exact LeO.none _)
  | (with_reducible refine LeO.ite ?_ ?_)
  | (with_reducible refine LeO.bind ?_ (fun _ => ?_))
  | exact ih0 _ _ _ _ _ _ _ _ _ _ _
  | exact chequerlaw03_lives.mono _
  | exact chequerref01_Good.mono _ _ _ _
  | exact chequerref03_Fits.mono _ _ _ _ _ _
  | exact LeO.none _
  | refine LeO.ite ?_ ?_
  | refine LeO.bind ?_ (fun _ => ?_)
def chequerlaw03_RectFits.T6 : Bool × List (List Nat × List Nat) := (true, [([], []), ([0], [0]), ([], []), ([], []), ([3], [3]), ([], []), ([5], [5]), ([4, 6], [4, 6]), ([2, 7], [2, 7]), ([], []), ([8, 9], [8, 9]), ([10], [10]), ([1, 11, 10], [1, 11]), ([0, 1, 2, 3, 4, 5, 6, 7, 8, 9, 10, 11, 12], []), ([13, 12, 12, 0, 1, 2, 3, 4, 5, 6, 7, 8, 9, 10, 11, 12], [12, 13])])
def chequerlaw03_RectFits.B6 : List Nat := [0, 1, 0, 0, 8, 0, 32, 120, 252, 0, 1020, 2044, 4095, 8191, 16383]
theorem chequerlaw03_RectFits.tab6 : rtab .any (opsOf Try.f8 6) = chequerlaw03_RectFits.T6 := by kernel_rfl
theorem chequerlaw03_RectFits.bits6 : waitsOk chequerlaw03_RectFits.T6.2 chequerlaw03_RectFits.B6 = true := by kernel_rfl
def chequerlaw03_RectFits.T8 : Bool × List (List Nat × List Nat) := (true, [([], []), ([0], [0]), ([], []), ([1, 2, 1], [1, 2]), ([], []), ([], []), ([4, 5, 3], [4, 5]), ([3, 6], [3, 6]), ([7, 6, 0, 1, 2, 3, 4, 5, 6, 7], [7])])
def chequerlaw03_RectFits.B8 : List Nat := [0, 1, 0, 7, 0, 0, 63, 127, 255]
theorem chequerlaw03_RectFits.tab8 : rtab .any (opsOf Try.f8 8) = chequerlaw03_RectFits.T8 := by kernel_rfl
theorem chequerlaw03_RectFits.bits8 : waitsOk chequerlaw03_RectFits.T8.2 chequerlaw03_RectFits.B8 = true := by kernel_rfl
def chequerlaw03_RectFits.T10 : Bool × List (List Nat × List Nat) := (true, [([], []), ([0], [0]), ([1], [1]), ([1, 2], [1, 2]), ([3, 1], [3]), ([4], [4]), ([5, 4, 4], [4, 5]), ([4], [4]), ([6, 7, 6, 4], [4, 6, 7]), ([4], [4]), ([4], [4]), ([9, 10, 8, 4], [4, 9, 10]), ([8, 11, 4], [4, 8, 11]), ([4, 12], [4, 12]), ([13, 11], [13]), ([14], [14]), ([14], [14]), ([15, 16, 14, 14], [14, 15, 16]), ([17, 14], [14, 17]), ([14, 18], [14, 18]), ([19, 17], [19]), ([20, 20], [20]), ([20, 21], [20, 21]), ([22, 21, 0, 1, 2, 3, 4, 5, 6, 7, 8, 9, 10, 11, 12, 13, 14, 15, 16, 17, 18, 19, 20, 21, 22], [22])])
def chequerlaw03_RectFits.B10 : List Nat := [0, 1, 3, 7, 15, 31, 63, 31, 255, 31, 31, 2047, 4095, 8191, 16383, 32767, 32767, 131071, 262143, 524287, 1048575, 2097151, 4194303, 8388607]
theorem chequerlaw03_RectFits.tab10 : rtab .any (opsOf Try.f8 10) = chequerlaw03_RectFits.T10 := by kernel_rfl
theorem chequerlaw03_RectFits.bits10 : waitsOk chequerlaw03_RectFits.T10.2 chequerlaw03_RectFits.B10 = true := by kernel_rfl
set_option maxHeartbeats 8000000 in
set_option maxRecDepth 100000 in
theorem chequerlaw03_RectFits.calls (k : Nat) (a0_0 : Int) (a0_1 : Int) (A1 : Option Addr) (c1 : Nat) (l1 : List Int) (a2 : Int) (a3 : Int) (r : Bool) (w : World) (hr1 : Kd.C (Kd.int .i64) w A1 l1.length l1) (hc1 : l1.length ≤ c1) (h : chequerlaw03_RectFits.f k a0_0 a0_1 l1 a2 a3 = some r) :
 Calls Try.prog 8 #[.agg #[.int .i64 a0_0, .int .i64 a0_1], .slice A1 l1.length c1, .int .i64 a2, .int .u64 a3] w fun e w' => e = .returned (.bool r) ∧ Below w.heap.size w w' := by
 have hu70 := Try.underlying70
 have hu24 := Try.underlying24
 have hu32 := Try.underlying32
 have HR1 := Aside0.mk hr1
 have HC1 := Aside0.mk hc1
 clear hr1 hc1
 have HB := Aside0.mk (Below.refl w.heap.size w)
 have H : ((chequerref01_Form.f a0_0 a0_1).bind fun bt610 => (chequerlaw03_RectFits.l0 k l1 a2 a3 0 a0_0 a0_1 bt610.1 bt610.2 2 2 ([] : List Int))) = some r := h
 clear h
 replace H := Option.bind_eq_some_iff.mp H
 obtain ⟨⟨t610, t611⟩, A50, H⟩ := H
 replace H : (chequerlaw03_RectFits.l0 k l1 a2 a3 0 a0_0 a0_1 t610 t611 2 2 ([] : List Int)) = some r := H
 have A5 := Aside0.mk A50
 clear A50
 have H' := Aside0.mk H
 clear H
 go_enter Try.func8, Try.ntmps8
 go_wp2_with (first | ((with_reducible refine gate_dst (N := 4) rfl ?_); refine box_event ?hg (N := 4) ?hd (cs := #[.int .i64 a0_0, .int .i64 a0_1]) (t := 70) ?hr ?_; (case hd => rfl); (case hg => rfl); (case hr => first | (go_simp; done) | (go_simp; rfl)); intro gb609 hg w6 hbox hb; have BK609 := Aside0.mk (hbox); have GW609 := Aside0.mk ((by rw [hg]; exact (below_size bp_) : w.heap.size ≤ gb609)); have GE609 := Aside0.mk ((by rw [hg]; exact (below_size bp_) : w.heap.size ≤ gb609)); replace HB := Aside0.mk (below_step bp_ hb); clear hb hbox hg; have hcz7_0 : w6.cell? ⟨gb609, 0, none⟩ = some (.int .i64 a0_0) := (blk_cell BK609.out 0).trans rfl; have hcz7_1 : w6.cell? ⟨gb609, 1, none⟩ = some (.int .i64 a0_1) := (blk_cell BK609.out 1).trans rfl; have hfz7_0 := blk_frozen BK609.out 0; have hfz7_1 := blk_frozen BK609.out 1) | ((with_reducible refine gate_callee (f := 36) rfl ?_); refine goQ_ (some 15) Try.func36 #[.agg #[.int .i64 a0_0, .int .i64 a0_1]] ?_; (with_reducible refine (chequerref01_Form.calls a0_0 a0_1 t610 t611 _ A5.out).mono ?_); rintro e w8 ⟨rfl, hb⟩; refine ⟨_, rfl, ?_⟩; replace BK609 := Aside0.mk (blk_below (hp_ BK609.out) hb); replace HB := Aside0.mk (below_step bp_ hb); (try clear hb); (try clear hb2); (try clear hk); (try clear hi)) | ((with_reducible refine gate_dst (N := 9) rfl ?_); refine box_event ?hg (N := 9) ?hd (cs := #[.int .i64 0, .int .i64 0]) (t := 70) ?hr ?_; (case hd => rfl); (case hg => rfl); (case hr => first | (go_simp; done) | (go_simp; rfl)); intro gb612 hg w9 hbox hb; have BK612 := Aside0.mk (hbox); have GW612 := Aside0.mk ((by rw [hg]; exact (below_size bp_) : w.heap.size ≤ gb612)); have GE612 := Aside0.mk ((by rw [hg]; exact (below_size bp_) : w.heap.size ≤ gb612)); replace HB := Aside0.mk (below_step bp_ hb); have NB609_612 := Aside0.mk ((nlt_ hg (hp_ BK609.out))); have NB612_609 := Aside0.mk ((ngt_ hg (hp_ BK609.out))); replace BK609 := Aside0.mk (blk_below (hp_ BK609.out) hb); clear hb hbox hg; have hnb10 := NB612_609.out; have hnc10 := NB609_612.out; have hcz11_0 : w9.cell? ⟨gb612, 0, none⟩ = some (.int .i64 0) := (blk_cell BK612.out 0).trans rfl; have hcz11_1 : w9.cell? ⟨gb612, 1, none⟩ = some (.int .i64 0) := (blk_cell BK612.out 1).trans rfl; have hfz11_0 := blk_frozen BK612.out 0; have hfz11_1 := blk_frozen BK612.out 1) | ((with_reducible refine gate_dst (N := 10) rfl ?_); refine box_event ?hg (N := 10) ?hd (cs := #[.int .i64 0, .int .i64 0, .slice none 0 0]) (t := 24) ?hr ?_; (case hd => rfl); (case hg => rfl); (case hr => first | (go_simp; done) | (go_simp; rfl)); intro gb613 hg w12 hbox hb; have BK613 := Aside0.mk (hbox); have GW613 := Aside0.mk ((by rw [hg]; exact (below_size bp_) : w.heap.size ≤ gb613)); have GE613 := Aside0.mk ((by rw [hg]; exact (below_size bp_) : w.heap.size ≤ gb613)); replace HB := Aside0.mk (below_step bp_ hb); have NB609_613 := Aside0.mk ((by rw [hg]; exact Nat.ne_of_lt (blk_lt (g := gb609) (o := .cells #[.int .i64 a0_0, .int .i64 a0_1] 70 (0, 0)) (hf_ BK609.out NB609_612.out)) : gb609 ≠ gb613)); have NB613_609 := Aside0.mk ((by rw [hg]; exact Nat.ne_of_gt (blk_lt (g := gb609) (o := .cells #[.int .i64 a0_0, .int .i64 a0_1] 70 (0, 0)) (hf_ BK609.out NB609_612.out)) : gb613 ≠ gb609)); replace BK609 := Aside0.mk (blk_below (hf_ BK609.out NB609_612.out) hb); have NB612_613 := Aside0.mk ((by rw [hg]; exact Nat.ne_of_lt (blk_lt (g := gb612) (o := .cells #[.int .i64 t610, .int .i64 t611] 70 (0, 0)) (by (with_reducible repeat (first | refine blk_drewN ?_ _ | refine blk_drew ?_ | refine blk_alloc ?_ _)); refine blk_put (cs := #[.int .i64 t610, .int .i64 0]) ?_ 1 _ rfl; (with_reducible repeat (first | refine blk_drewN ?_ _ | refine blk_drew ?_ | refine blk_alloc ?_ _)); refine blk_put (cs := #[.int .i64 0, .int .i64 0]) ?_ 0 _ rfl; (with_reducible repeat (first | refine blk_drewN ?_ _ | refine blk_drew ?_ | refine blk_alloc ?_ _)); exact BK612.out)) : gb612 ≠ gb613)); have NB613_612 := Aside0.mk ((by rw [hg]; exact Nat.ne_of_gt (blk_lt (g := gb612) (o := .cells #[.int .i64 t610, .int .i64 t611] 70 (0, 0)) (by (with_reducible repeat (first | refine blk_drewN ?_ _ | refine blk_drew ?_ | refine blk_alloc ?_ _)); refine blk_put (cs := #[.int .i64 t610, .int .i64 0]) ?_ 1 _ rfl; (with_reducible repeat (first | refine blk_drewN ?_ _ | refine blk_drew ?_ | refine blk_alloc ?_ _)); refine blk_put (cs := #[.int .i64 0, .int .i64 0]) ?_ 0 _ rfl; (with_reducible repeat (first | refine blk_drewN ?_ _ | refine blk_drew ?_ | refine blk_alloc ?_ _)); exact BK612.out)) : gb613 ≠ gb612)); replace BK612 := Aside0.mk (blk_below (g := gb612) (o := .cells #[.int .i64 t610, .int .i64 t611] 70 (0, 0)) (by (with_reducible repeat (first | refine blk_drewN ?_ _ | refine blk_drew ?_ | refine blk_alloc ?_ _)); refine blk_put (cs := #[.int .i64 t610, .int .i64 0]) ?_ 1 _ rfl; (with_reducible repeat (first | refine blk_drewN ?_ _ | refine blk_drew ?_ | refine blk_alloc ?_ _)); refine blk_put (cs := #[.int .i64 0, .int .i64 0]) ?_ 0 _ rfl; (with_reducible repeat (first | refine blk_drewN ?_ _ | refine blk_drew ?_ | refine blk_alloc ?_ _)); exact BK612.out) hb); clear hb hbox hg; have hnb13 := NB613_609.out; have hnc13 := NB609_613.out; have hnb14 := NB613_612.out; have hnc14 := NB612_613.out; have hcz15_0 : w12.cell? ⟨gb613, 0, none⟩ = some (.int .i64 0) := (blk_cell BK613.out 0).trans rfl; have hcz15_1 : w12.cell? ⟨gb613, 1, none⟩ = some (.int .i64 0) := (blk_cell BK613.out 1).trans rfl; have hcz15_2 : w12.cell? ⟨gb613, 2, none⟩ = some (.slice none 0 0) := (blk_cell BK613.out 2).trans rfl; have hfz15_0 := blk_frozen BK613.out 0; have hfz15_1 := blk_frozen BK613.out 1; have hfz15_2 := blk_frozen BK613.out 2))
 go_loopg [11] k (fun kq v11 w' => ∃ (x11_1 : Int) (x614002_1 : List Int) (u614002 : Value), v11 = .int .i64 x11_1 ∧ Aside0 (chequerlaw03_RectFits.l0 kq l1 a2 a3 x11_1 a0_0 a0_1 t610 t611 2 2 x614002_1 = some r) ∧ Aside0 (kq ≤ k) ∧ Aside0 (Kd.R (Kd.int .u64) 46 w' w.heap.size (fun _ => True) u614002 x614002_1) ∧ Aside0 (w'.heap[gb609]? = some (.cells #[.int .i64 a0_0, .int .i64 a0_1] 70 (0, 0))) ∧ Aside0 (w'.heap[gb612]? = some (.cells #[.int .i64 t610, .int .i64 t611] 70 (0, 0))) ∧ Aside0 (w'.heap[gb613]? = some (.cells #[.int .i64 2, .int .i64 2, u614002] 24 (0, 0))) ∧ Aside0 (Below w.heap.size w w'))
 case atStart => exact ⟨(0), (([] : List Int)), (.slice none 0 0), (by first | rfl | (simp; done) | (simp [*]; done)), H', ⟨Nat.le_refl _⟩, ⟨by first | exact Kd.R_nil _ _ _ _ _ | exact Kd.N_nil _ _ _ _ _ | exact Kd.V_nil _ _ _ _ _ | exact Kd.Q_nil _ _ _ _ _ | exact Kd.S_nil _ _ _ _ _⟩, ⟨hf_ BK609.out NB609_613.out⟩, ⟨hf_ BK612.out NB612_613.out⟩, ⟨by (with_reducible repeat (first | refine blk_drewN ?_ _ | refine blk_drew ?_ | refine blk_alloc ?_ _)); refine blk_put (cs := #[.int .i64 2, .int .i64 2, .slice none 0 0]) ?_ 2 _ rfl; (with_reducible repeat (first | refine blk_drewN ?_ _ | refine blk_drew ?_ | refine blk_alloc ?_ _)); refine blk_put (cs := #[.int .i64 2, .int .i64 0, .slice none 0 0]) ?_ 1 _ rfl; (with_reducible repeat (first | refine blk_drewN ?_ _ | refine blk_drew ?_ | refine blk_alloc ?_ _)); refine blk_put (cs := #[.int .i64 0, .int .i64 0, .slice none 0 0]) ?_ 0 _ rfl; (with_reducible repeat (first | refine blk_drewN ?_ _ | refine blk_drew ?_ | refine blk_alloc ?_ _)); exact BK613.out⟩, ⟨bp_⟩⟩
 case round =>
  clear H'
  try clear c1
  try clear p2
  try clear c3
  try clear c8
  try clear c10
  try clear c13
  try clear c14
  try clear hcz11_0
  try clear hcz11_1
  try clear hcz15_0
  try clear hcz15_1
  try clear hcz15_2
  try clear hcz7_0
  try clear hcz7_1
  try clear hfz11_0
  try clear hfz11_1
  try clear hfz15_0
  try clear hfz15_1
  try clear hfz15_2
  try clear hfz7_0
  try clear hfz7_1
  obtain ⟨x11_1, x614002_1, u614002, rfl, HA, HK1, HO_614002, BK609, BK612, BK613, HB⟩ := hrel
  cases gk with
  | zero => exact absurd HA.out (by simp [chequerlaw03_RectFits.l0])
  | succ k1 =>
   have H := HA.out
   clear HA
   simp only [chequerlaw03_RectFits.l0] at H
   by_cases c16 : x11_1 < 4
   · rw [if_pos c16] at H
     have c16b0 : decide (x11_1 < 4) = true := decide_eq_true c16
     clear c16
     obtain ⟨ji17, hji17⟩ : ∃ j_ : Int, (mn (wrap64 (3 * x11_1)) (l1.length : Int)) = j_ := ⟨_, rfl⟩
     replace H : (if 0 ≤ (ji17) then (if (ji17) ≤ (l1.length : Int) then ((chequerref01_Good.f k1 (l1.drop ((ji17) : Int).toNat) t610 t611).bind fun t615 => (if x614002_1.length < 17592186044416 then (chequerlaw03_RectFits.l0 k1 l1 a2 a3 (wrap64 (x11_1 + 1)) a0_0 a0_1 t610 t611 2 2 (x614002_1 ++ [t615])) else (none))) else (none)) else (none)) = some r := by first | (rw [hji17] at H; exact H) | (simp only [hji17] at H ⊢; exact H)
     have hji17_ : (if (l1.length : Int) < (wrap64 (3 * x11_1)) then (l1.length : Int) else (wrap64 (3 * x11_1))) = ji17 := hji17
     by_cases c18 : 0 ≤ (ji17)
     · rw [if_pos c18] at H
       have c18b0 := eq_true c18
       have c18b1 : decide (0 ≤ (ji17)) = true := decide_eq_true c18
       clear c18
       by_cases c19 : (ji17) ≤ (l1.length : Int)
       · rw [if_pos c19] at H
         have c19b0 := eq_true c19
         have c19b1 : decide ((ji17) ≤ (l1.length : Int)) = true := decide_eq_true c19
         clear c19
         replace H := Option.bind_eq_some_iff.mp H
         obtain ⟨t615, A200, H⟩ := H
         replace H : (if x614002_1.length < 17592186044416 then (chequerlaw03_RectFits.l0 k1 l1 a2 a3 (wrap64 (x11_1 + 1)) a0_0 a0_1 t610 t611 2 2 (x614002_1 ++ [t615])) else (none)) = some r := H
         have A20 := Aside0.mk A200
         clear A200
         by_cases c21 : x614002_1.length < 17592186044416
         · rw [if_pos c21] at H
           have LMc21 := Aside0.mk c21
           clear c21
           obtain ⟨y616, hy616⟩ : ∃ y_ : List Int, y_ = (x614002_1 ++ [t615]) := ⟨_, rfl⟩
           replace H : (chequerlaw03_RectFits.l0 k1 l1 a2 a3 (wrap64 (x11_1 + 1)) a0_0 a0_1 t610 t611 2 2 y616) = some r := by first | (rw [hy616]; with_reducible exact H) | (have H2_ := (Option.bind_some _ _).symm.trans H; rw [hy616]; with_reducible exact H2_) | (have H2_ := (Option.bind_some _ _).symm.trans H; with_reducible exact H2_) | with_reducible exact H | (rw [hy616]; exact H) | exact H
           have Ny616 := Aside0.mk hy616
           clear hy616
           have H' := Aside0.mk H
           clear H
           try go_wp2
           (try (rw [drewN_self wr]; generalize hq_ : World.drewN wr _ = wr; have n0_ := Aside0.mk (qrp_ hq_ HO_614002.out); have n1_ := Aside0.mk (qhp_ hq_ BK609.out); have n2_ := Aside0.mk (qhp_ hq_ BK612.out); have n3_ := Aside0.mk (qhp_ hq_ BK613.out); have n4_ : Aside0 (Below w.heap.size w wr) := ⟨qbp_ hq_⟩; clear HO_614002 BK609 BK612 BK613 HB hq_; have HO_614002 := n0_; have BK609 := n1_; have BK612 := n2_; have BK613 := n3_; have HB := n4_; clear n0_ n1_ n2_ n3_ n4_))
           replace HO_614002 := Aside0.mk (Kd.R_drew HO_614002.out)
           replace BK609 := Aside0.mk (blk_drew BK609.out)
           replace BK612 := Aside0.mk (blk_drew BK612.out)
           replace BK613 := Aside0.mk (blk_drew BK613.out)
           replace HB := Aside0.mk (below_drew1 HB.out)
           obtain ⟨i023, hi023, _, hsz23, _⟩ := info_parts info3
           obtain ⟨A23, hcut23, hA23, hC23⟩ := print_drop_of (P := Try.prog) (Value.int .i64) 0 39 3 .i64 Try.underlying39 hi023 hsz23 A1 c1 l1 (ji17) (of_decide_eq_true (by first | (with_reducible assumption) | assumption)) (of_decide_eq_true (by first | (with_reducible assumption) | assumption)) HC1.out
           have HR614 := Aside0.mk (Kd.C_of_reads (h1 := fun _ => rfl) (hA23 _ (Kd.reads_of_C HR1.out)))
           have HC614 := Aside0.mk hC23
           clear hA23 hC23 hi023 hsz23
           refine start_ (n := 15) (S := fun w' => w'.cell? ⟨gb613, 0, none⟩ = some (.int .i64 2) ∧ w'.cell? ⟨gb613, 1, none⟩ = some (.int .i64 2) ∧ w'.cell? ⟨gb613, 2, none⟩ = some (u614002) ∧ w'.cell? ⟨gb612, 0, none⟩ = some (.int .i64 t610) ∧ w'.cell? ⟨gb612, 1, none⟩ = some (.int .i64 t611)) (ds := [14]) #[false, false, false, false, false, false, false, false, false, false, false, false, false, false, false] (by kernel_rfl) rfl rfl ⟨(blk_cell BK613.out 0).trans rfl, (blk_cell BK613.out 1).trans rfl, (blk_cell BK613.out 2).trans rfl, (blk_cell BK612.out 0).trans rfl, (blk_cell BK612.out 1).trans rfl⟩ (fun hHeld => ?_); refine with_tabW chequerlaw03_RectFits.tab6 chequerlaw03_RectFits.bits6 (fun HT_ HW_ => ?_)
           generalize wr.drew = w22 at HO_614002 BK609 BK612 BK613 HB HR614 hHeld ⊢
           refine pur_ (i := 0) (N := some 21) #[true, false, false, false, false, false, false, false, false, false, false, false, false, false, false] (any_of HT_.out (by kernel_rfl)) ?_
           refine pur_ (i := 2) (N := some 23) #[true, false, true, false, false, false, false, false, false, false, false, false, false, false, false] (any_of HT_.out (by kernel_rfl)) ?_
           refine pur_ (i := 3) (N := some 24) #[true, false, true, true, false, false, false, false, false, false, false, false, false, false, false] (any_of HT_.out (by kernel_rfl)) ?_
           refine pur_ (i := 4) (N := some 25) #[true, false, true, true, true, false, false, false, false, false, false, false, false, false, false] (any_of HT_.out (by kernel_rfl)) ?_
           refine pur_ (i := 5) (N := some 26) #[true, false, true, true, true, true, false, false, false, false, false, false, false, false, false] (any_of HT_.out (by kernel_rfl)) ?_
           refine pur_ (i := 6) (N := some 27) #[true, false, true, true, true, true, true, false, false, false, false, false, false, false, false] (any_of HT_.out (by kernel_rfl)) ?_
           refine pur_ (i := 7) (N := some 28) #[true, false, true, true, true, true, true, true, false, false, false, false, false, false, false] (any_of HT_.out (by kernel_rfl)) ?_
           refine pur_ (i := 8) (N := some 29) #[true, false, true, true, true, true, true, true, true, false, false, false, false, false, false] (any_of HT_.out (by kernel_rfl)) ?_
           refine take_ (i := 1) (N := some 22) (v := ?_) (a' := ?_) #[true, true, true, true, true, true, true, true, true, false, false, false, false, false, false] rfl rfl (take_ofW HT_.out HW_.out (by kernel_rfl)) (fun _ _ _ h => h) (Or.inl ⟨by rfl, ?_⟩) hHeld ?_ ?_
           rotate_left
           · rintro w' ⟨s0, s1, s2, s3, s4⟩
             go_simp
             with_reducible rfl
           rotate_left
           · simp only [Act.put, List.setIfInBounds_toArray, List.set_cons_zero, List.set_cons_succ, i64_w, i32_w]
             rfl
           refine take_ (i := 9) (N := some 30) (v := ?_) (a' := ?_) #[true, true, true, true, true, true, true, true, true, true, false, false, false, false, false] rfl rfl (take_ofW HT_.out HW_.out (by kernel_rfl)) (fun _ _ _ h => h) (Or.inl ⟨by rfl, ?_⟩) hHeld ?_ ?_
           rotate_left
           · rintro w' ⟨s0, s1, s2, s3, s4⟩
             go_simp
             with_reducible rfl
           rotate_left
           · simp only [Act.put, List.setIfInBounds_toArray, List.set_cons_zero, List.set_cons_succ, i64_w, i32_w]
             rfl
           refine one_ (i := 10) (N := some 31) #[true, true, true, true, true, true, true, true, true, true, true, false, false, false, false] rfl rfl (one_of HT_.out (by kernel_rfl)) (by decide) (fun K hK => ?_)
           refine goes_ Try.func37 (by kernel_rfl) rfl #[.slice A23 (l1.drop ((ji17) : Int).toNat).length (c1 - (ji17).toNat), .agg #[.int .i64 t610, .int .i64 t611]] (by rfl) rfl rfl (by (try simp only [List.map_toArray, List.map_cons, List.map_nil]); first | done | (rw [show (l1.drop ((ji17) : Int).toNat).length = (l1.length - (ji17).toNat) from List.length_drop] <;> rfl) | (simp only [hji17]; rfl) | rfl | (simp only [List.length_drop, List.length_take]; rfl)) ?_
           with_reducible refine (chequerref01_Good.calls k1 _ _ (l1.drop ((ji17) : Int).toNat) t610 t611 t615 _ ?side1 ?side2 A20.out).mono ?_
           (case side1 => repeat (first | exact (Kd.C_below HR614.out HB.out) | (with_reducible refine Kd.C_alloc ?_ _) | (with_reducible refine Kd.C_drewN ?_ _) | (with_reducible refine Kd.C_drew ?_)))
           (case side2 => exact HC614.out)
           rintro e w24 ⟨rfl, hb⟩
           refine ⟨_, rfl, ?_⟩
           replace HO_614002 := Aside0.mk (Kd.R_below (rp_ HO_614002.out) hb)
           replace BK609 := Aside0.mk (blk_below (hp_ BK609.out) hb)
           replace BK612 := Aside0.mk (blk_below (hp_ BK612.out) hb)
           replace BK613 := Aside0.mk (blk_below (hp_ BK613.out) hb)
           replace HB := Aside0.mk (below_step bp_ hb)
           (try clear hb)
           (try clear hb2)
           (try clear hk)
           (try clear hi)
           refine hK.out _ _ ⟨(blk_cell BK613.out 0).trans rfl, (blk_cell BK613.out 1).trans rfl, (blk_cell BK613.out 2).trans rfl, (blk_cell BK612.out 0).trans rfl, (blk_cell BK612.out 1).trans rfl⟩ (fun hHeld => ?_)
           clear hK K
           refine norm_ (a' := ?_) ?_ ?_
           rotate_left
           · show Act.put _ (some 31) _ = _
             simp only [Act.put, List.setIfInBounds_toArray, List.set_cons_zero, List.set_cons_succ, i64_w, i32_w]
             rfl
           refine one_ (i := 11) (N := some 32) #[true, true, true, true, true, true, true, true, true, true, true, true, false, false, false] rfl rfl (one_of HT_.out (by kernel_rfl)) (by decide) (fun K hK => ?_)
           refine value_ (w1 := ?_) (v := ?_) (by rfl) rfl ?_ ?_
           rotate_left 2
           · go_simp
             constructor
             · rfl
             · rfl
           refine hK.out _ _ ⟨(blk_cell (blk_alloc BK613.out _) 0).trans rfl, (blk_cell (blk_alloc BK613.out _) 1).trans rfl, (blk_cell (blk_alloc BK613.out _) 2).trans rfl, (blk_cell (blk_alloc BK612.out _) 0).trans rfl, (blk_cell (blk_alloc BK612.out _) 1).trans rfl⟩ (fun hHeld => ?_)
           clear hK K
           refine norm_ (a' := ?_) ?_ ?_
           rotate_left
           · show Act.put _ (some 32) _ = _
             simp only [Act.put, List.setIfInBounds_toArray, List.set_cons_zero, List.set_cons_succ, i64_w, i32_w]
             rfl
           refine one_ (i := 12) (N := some 33) #[true, true, true, true, true, true, true, true, true, true, true, true, true, false, false] rfl rfl (one_of HT_.out (by kernel_rfl)) (by decide) (fun K hK => ?_)
           refine Kd.R_append_step (Kd.int .u64) (w0 := w) w.heap.size (by rfl) (.tmp 22) (.tmp 32) 22 46 (.int .u64 0) 8 rfl Try.underlying22 info46 rfl (by decide) (by omega) u614002 x614002_1 t615 [.int .u64 t615] (fun _ => True) (fun _ => False) rfl rfl ?aP (fun _ hk => hk.elim) ?aF ?aO ?aB ?aS ?aL ?_
           (case aP => exact rfl)
           (case aB => exact bp_)
           (case aF => exact (fun _ _ => trivial))
           (case aO => exact (rp_ HO_614002.out))
           (case aS => exact (below_size bp_))
           (case aL => have := LMc21.out; omega)
           intro v617 w25 ho hb hg hat
           rw [← Ny616.out] at ho
           replace BK609 := Aside0.mk (blk_grown (g := gb609) (o := .cells #[.int .i64 a0_0, .int .i64 a0_1] 70 (0, 0)) (hp_ BK609.out) hg (Kd.R_ne HO_614002.out BK609.out (by decide)))
           replace BK612 := Aside0.mk (blk_grown (g := gb612) (o := .cells #[.int .i64 t610, .int .i64 t611] 70 (0, 0)) (hp_ BK612.out) hg (Kd.R_ne HO_614002.out BK612.out (by decide)))
           replace BK613 := Aside0.mk (blk_grown (g := gb613) (o := .cells #[.int .i64 2, .int .i64 2, u614002] 24 (0, 0)) (hp_ BK613.out) hg (Kd.R_ne HO_614002.out BK613.out (by decide)))
           replace HB := Aside0.mk (hb)
           have HO618 := Aside0.mk (ho)
           clear HO_614002
           clear ho hb hg hat
           obtain ⟨Ao26, co26, eo26⟩ := Kd.R_slice HO618.out
           (first | subst eo26 | (injection eo26 with f1_ f2_ f3_; have f4_ := f1_.symm; have f5_ := f3_.symm; clear f1_ f2_ f3_; subst f4_; subst f5_))
           refine hK.out _ _ ⟨(blk_cell BK613.out 0).trans rfl, (blk_cell BK613.out 1).trans rfl, (blk_cell BK613.out 2).trans rfl, (blk_cell BK612.out 0).trans rfl, (blk_cell BK612.out 1).trans rfl⟩ (fun hHeld => ?_)
           clear hK K
           refine norm_ (a' := ?_) ?_ ?_
           rotate_left
           · show Act.put _ (some 33) _ = _
             simp only [Act.put, List.setIfInBounds_toArray, List.set_cons_zero, List.set_cons_succ, i64_w, i32_w]
             rfl
           refine pur_ (i := 13) (N := some 34) #[true, true, true, true, true, true, true, true, true, true, true, true, true, true, false] (any_of HT_.out (by kernel_rfl)) ?_
           refine last_ (i := 14) (N := none) #[true, true, true, true, true, true, true, true, true, true, true, true, true, true, true] rfl rfl (one_of HT_.out (by kernel_rfl)) (by decide) (fun K hK => ?_)
           have hs27 : w25.cell? ⟨gb613, 2, none⟩ = some (u614002) := (blk_cell BK613.out 2).trans rfl
           have hfs27 := blk_frozen BK613.out 2
           have hns27_0 := NB609_613.out
           have hns27_1 := NB612_613.out
           have hms27_0 := NB613_609.out
           have hms27_1 := NB613_612.out
           refine skip_ (w1 := ?_) (by rfl) rfl ?_ ?_
           rotate_left
           · go_simp
             rfl
           refine hK.out _ _ ?_
           clear hK K
           refine done_ (done_of HT_.out (by kernel_rfl)) ?_
           try go_wp2
           go_roundg k1
           case measure => have := HK1.out; omega
           case rel => exact ⟨(wrap64 (x11_1 + 1)), (y616), (.slice Ao26 y616.length co26), (by first | rfl | (simp; done) | (simp [*]; done)), H', ⟨by have := HK1.out; omega⟩, ⟨rf_ HO618.out BK613.out (by decide) (fun _ hk => trivial)⟩, ⟨hf_ BK609.out NB609_613.out⟩, ⟨hf_ BK612.out NB612_613.out⟩, ⟨by (with_reducible repeat (first | refine blk_drewN ?_ _ | refine blk_drew ?_ | refine blk_alloc ?_ _)); refine blk_put (cs := #[.int .i64 2, .int .i64 2, u614002]) ?_ 2 _ rfl; (with_reducible repeat (first | refine blk_drewN ?_ _ | refine blk_drew ?_ | refine blk_alloc ?_ _)); exact BK613.out⟩, ⟨bp_⟩⟩
         · rw [if_neg c21] at H
           exact absurd H (by simp)
       · rw [if_neg c19] at H
         exact absurd H (by simp)
     · rw [if_neg c18] at H
       exact absurd H (by simp)
   · rw [if_neg c16] at H
     have c16b0 : decide (x11_1 < 4) = false := decide_eq_false c16
     clear c16
     replace H := Option.bind_eq_some_iff.mp H
     obtain ⟨⟨t619, t620, t621⟩, A280, H⟩ := H
     replace H : ((rect_Fits.f t619 t620 t621 t610 t611).bind fun t624 => ((chequerlaw03_of.f 2 2 x614002_1).bind fun bt625 => ((rect_Fits.f bt625.1 bt625.2.1 bt625.2.2 a0_0 a0_1).bind fun t630 => ((chequerref03_Fits.f k1 2 2 x614002_1 a0_0 a0_1).bind fun t631 => ((chequerref01_Around.f a2 4).bind fun t632 => (if 0 ≤ t632 then (if t632 < (x614002_1.length : Int) then ((some (x614002_1.set (t632 : Int).toNat a3 : List Int)).bind fun y633 => (if t624 = true then (if (t630 == t631) = true then ((chequerlaw03_of.f 2 2 y633).bind fun bt634 => ((rect_Fits.f bt634.1 bt634.2.1 bt634.2.2 t610 t611).bind fun t639 => ((chequerref03_Fits.f k1 2 2 y633 t610 t611).bind fun t640 => (if (t639 == t640) = true then ((rect_Fits.f 0 0 ([] : List Int) t610 t611).bind fun t641 => (if t641 = true then (some false) else ((chequerlaw03_lives.f k1).bind fun t642 => (some t642)))) else (some false))))) else (some false)) else (some false))) else (none)) else (none))))))) = some r := H
     have A28 := Aside0.mk A280
     clear A280
     replace H := Option.bind_eq_some_iff.mp H
     obtain ⟨t624, A290, H⟩ := H
     replace H : ((chequerlaw03_of.f 2 2 x614002_1).bind fun bt625 => ((rect_Fits.f bt625.1 bt625.2.1 bt625.2.2 a0_0 a0_1).bind fun t630 => ((chequerref03_Fits.f k1 2 2 x614002_1 a0_0 a0_1).bind fun t631 => ((chequerref01_Around.f a2 4).bind fun t632 => (if 0 ≤ t632 then (if t632 < (x614002_1.length : Int) then ((some (x614002_1.set (t632 : Int).toNat a3 : List Int)).bind fun y633 => (if t624 = true then (if (t630 == t631) = true then ((chequerlaw03_of.f 2 2 y633).bind fun bt634 => ((rect_Fits.f bt634.1 bt634.2.1 bt634.2.2 t610 t611).bind fun t639 => ((chequerref03_Fits.f k1 2 2 y633 t610 t611).bind fun t640 => (if (t639 == t640) = true then ((rect_Fits.f 0 0 ([] : List Int) t610 t611).bind fun t641 => (if t641 = true then (some false) else ((chequerlaw03_lives.f k1).bind fun t642 => (some t642)))) else (some false))))) else (some false)) else (some false))) else (none)) else (none)))))) = some r := H
     have A29 := Aside0.mk A290
     clear A290
     replace H := Option.bind_eq_some_iff.mp H
     obtain ⟨⟨t625, t626, t627⟩, A300, H⟩ := H
     replace H : ((rect_Fits.f t625 t626 t627 a0_0 a0_1).bind fun t630 => ((chequerref03_Fits.f k1 2 2 x614002_1 a0_0 a0_1).bind fun t631 => ((chequerref01_Around.f a2 4).bind fun t632 => (if 0 ≤ t632 then (if t632 < (x614002_1.length : Int) then ((some (x614002_1.set (t632 : Int).toNat a3 : List Int)).bind fun y633 => (if t624 = true then (if (t630 == t631) = true then ((chequerlaw03_of.f 2 2 y633).bind fun bt634 => ((rect_Fits.f bt634.1 bt634.2.1 bt634.2.2 t610 t611).bind fun t639 => ((chequerref03_Fits.f k1 2 2 y633 t610 t611).bind fun t640 => (if (t639 == t640) = true then ((rect_Fits.f 0 0 ([] : List Int) t610 t611).bind fun t641 => (if t641 = true then (some false) else ((chequerlaw03_lives.f k1).bind fun t642 => (some t642)))) else (some false))))) else (some false)) else (some false))) else (none)) else (none))))) = some r := H
     have A30 := Aside0.mk A300
     clear A300
     replace H := Option.bind_eq_some_iff.mp H
     obtain ⟨t630, A310, H⟩ := H
     replace H : ((chequerref03_Fits.f k1 2 2 x614002_1 a0_0 a0_1).bind fun t631 => ((chequerref01_Around.f a2 4).bind fun t632 => (if 0 ≤ t632 then (if t632 < (x614002_1.length : Int) then ((some (x614002_1.set (t632 : Int).toNat a3 : List Int)).bind fun y633 => (if t624 = true then (if (t630 == t631) = true then ((chequerlaw03_of.f 2 2 y633).bind fun bt634 => ((rect_Fits.f bt634.1 bt634.2.1 bt634.2.2 t610 t611).bind fun t639 => ((chequerref03_Fits.f k1 2 2 y633 t610 t611).bind fun t640 => (if (t639 == t640) = true then ((rect_Fits.f 0 0 ([] : List Int) t610 t611).bind fun t641 => (if t641 = true then (some false) else ((chequerlaw03_lives.f k1).bind fun t642 => (some t642)))) else (some false))))) else (some false)) else (some false))) else (none)) else (none)))) = some r := H
     have A31 := Aside0.mk A310
     clear A310
     replace H := Option.bind_eq_some_iff.mp H
     obtain ⟨t631, A320, H⟩ := H
     replace H : ((chequerref01_Around.f a2 4).bind fun t632 => (if 0 ≤ t632 then (if t632 < (x614002_1.length : Int) then ((some (x614002_1.set (t632 : Int).toNat a3 : List Int)).bind fun y633 => (if t624 = true then (if (t630 == t631) = true then ((chequerlaw03_of.f 2 2 y633).bind fun bt634 => ((rect_Fits.f bt634.1 bt634.2.1 bt634.2.2 t610 t611).bind fun t639 => ((chequerref03_Fits.f k1 2 2 y633 t610 t611).bind fun t640 => (if (t639 == t640) = true then ((rect_Fits.f 0 0 ([] : List Int) t610 t611).bind fun t641 => (if t641 = true then (some false) else ((chequerlaw03_lives.f k1).bind fun t642 => (some t642)))) else (some false))))) else (some false)) else (some false))) else (none)) else (none))) = some r := H
     have A32 := Aside0.mk A320
     clear A320
     replace H := Option.bind_eq_some_iff.mp H
     obtain ⟨t632, A330, H⟩ := H
     replace H : (if 0 ≤ t632 then (if t632 < (x614002_1.length : Int) then ((some (x614002_1.set (t632 : Int).toNat a3 : List Int)).bind fun y633 => (if t624 = true then (if (t630 == t631) = true then ((chequerlaw03_of.f 2 2 y633).bind fun bt634 => ((rect_Fits.f bt634.1 bt634.2.1 bt634.2.2 t610 t611).bind fun t639 => ((chequerref03_Fits.f k1 2 2 y633 t610 t611).bind fun t640 => (if (t639 == t640) = true then ((rect_Fits.f 0 0 ([] : List Int) t610 t611).bind fun t641 => (if t641 = true then (some false) else ((chequerlaw03_lives.f k1).bind fun t642 => (some t642)))) else (some false))))) else (some false)) else (some false))) else (none)) else (none)) = some r := H
     have A33 := Aside0.mk A330
     clear A330
     by_cases c34 : 0 ≤ t632
     · rw [if_pos c34] at H
       have c34b0 : decide (0 ≤ t632) = true := decide_eq_true c34
       clear c34
       by_cases c35 : t632 < (x614002_1.length : Int)
       · rw [if_pos c35] at H
         have c35b0 : decide (t632 < (x614002_1.length : Int)) = true := decide_eq_true c35
         clear c35
         obtain ⟨y633, hy633⟩ : ∃ y_ : List Int, y_ = (x614002_1.set (t632 : Int).toNat a3) := ⟨_, rfl⟩
         replace H : (if t624 = true then (if (t630 == t631) = true then ((chequerlaw03_of.f 2 2 y633).bind fun bt634 => ((rect_Fits.f bt634.1 bt634.2.1 bt634.2.2 t610 t611).bind fun t639 => ((chequerref03_Fits.f k1 2 2 y633 t610 t611).bind fun t640 => (if (t639 == t640) = true then ((rect_Fits.f 0 0 ([] : List Int) t610 t611).bind fun t641 => (if t641 = true then (some false) else ((chequerlaw03_lives.f k1).bind fun t642 => (some t642)))) else (some false))))) else (some false)) else (some false)) = some r := by first | (rw [hy633]; with_reducible exact H) | (have H2_ := (Option.bind_some _ _).symm.trans H; rw [hy633]; with_reducible exact H2_) | (have H2_ := (Option.bind_some _ _).symm.trans H; with_reducible exact H2_) | with_reducible exact H | (rw [hy633]; exact H) | exact H
         have Ny633 := Aside0.mk hy633
         clear hy633
         by_cases c37 : t624 = true
         · subst c37
           have H1 : (if (t630 == t631) = true then ((chequerlaw03_of.f 2 2 y633).bind fun bt634 => ((rect_Fits.f bt634.1 bt634.2.1 bt634.2.2 t610 t611).bind fun t639 => ((chequerref03_Fits.f k1 2 2 y633 t610 t611).bind fun t640 => (if (t639 == t640) = true then ((rect_Fits.f 0 0 ([] : List Int) t610 t611).bind fun t641 => (if t641 = true then (some false) else ((chequerlaw03_lives.f k1).bind fun t642 => (some t642)))) else (some false))))) else (some false)) = some r := by rw [if_pos rfl] at H; exact H
           clear H
           have H := H1
           clear H1
           by_cases c38 : (t630 == t631) = true
           · rw [if_pos c38] at H
             have c38b0 : (t630 == t631) = true := c38
             (try (have c38b1 : decide (t630 = t631) = true := by simpa using c38))
             (try (have c38b2 : (t630 == t631) = true := by simpa using c38))
             clear c38
             replace H := Option.bind_eq_some_iff.mp H
             obtain ⟨⟨t634, t635, t636⟩, A390, H⟩ := H
             replace H : ((rect_Fits.f t634 t635 t636 t610 t611).bind fun t639 => ((chequerref03_Fits.f k1 2 2 y633 t610 t611).bind fun t640 => (if (t639 == t640) = true then ((rect_Fits.f 0 0 ([] : List Int) t610 t611).bind fun t641 => (if t641 = true then (some false) else ((chequerlaw03_lives.f k1).bind fun t642 => (some t642)))) else (some false)))) = some r := H
             have A39 := Aside0.mk A390
             clear A390
             replace H := Option.bind_eq_some_iff.mp H
             obtain ⟨t639, A400, H⟩ := H
             replace H : ((chequerref03_Fits.f k1 2 2 y633 t610 t611).bind fun t640 => (if (t639 == t640) = true then ((rect_Fits.f 0 0 ([] : List Int) t610 t611).bind fun t641 => (if t641 = true then (some false) else ((chequerlaw03_lives.f k1).bind fun t642 => (some t642)))) else (some false))) = some r := H
             have A40 := Aside0.mk A400
             clear A400
             replace H := Option.bind_eq_some_iff.mp H
             obtain ⟨t640, A410, H⟩ := H
             replace H : (if (t639 == t640) = true then ((rect_Fits.f 0 0 ([] : List Int) t610 t611).bind fun t641 => (if t641 = true then (some false) else ((chequerlaw03_lives.f k1).bind fun t642 => (some t642)))) else (some false)) = some r := H
             have A41 := Aside0.mk A410
             clear A410
             by_cases c42 : (t639 == t640) = true
             · rw [if_pos c42] at H
               have c42b0 : (t639 == t640) = true := c42
               (try (have c42b1 : decide (t639 = t640) = true := by simpa using c42))
               (try (have c42b2 : (t639 == t640) = true := by simpa using c42))
               clear c42
               replace H := Option.bind_eq_some_iff.mp H
               obtain ⟨t641, A430, H⟩ := H
               replace H : (if t641 = true then (some false) else ((chequerlaw03_lives.f k1).bind fun t642 => (some t642))) = some r := H
               have A43 := Aside0.mk A430
               clear A430
               by_cases c44 : t641 = true
               · subst c44
                 have H1 : (some false) = some r := by rw [if_pos rfl] at H; exact H
                 clear H
                 have H := H1
                 clear H1
                 obtain rfl := Option.some.inj H
                 try go_wp2
                 (try (rw [drewN_self wr]; generalize hq_ : World.drewN wr _ = wr; have n0_ := Aside0.mk (qrp_ hq_ HO_614002.out); have n1_ := Aside0.mk (qhp_ hq_ BK609.out); have n2_ := Aside0.mk (qhp_ hq_ BK612.out); have n3_ := Aside0.mk (qhp_ hq_ BK613.out); have n4_ : Aside0 (Below w.heap.size w wr) := ⟨qbp_ hq_⟩; clear HO_614002 BK609 BK612 BK613 HB hq_; have HO_614002 := n0_; have BK609 := n1_; have BK612 := n2_; have BK613 := n3_; have HB := n4_; clear n0_ n1_ n2_ n3_ n4_))
                 replace HO_614002 := Aside0.mk (Kd.R_drew HO_614002.out)
                 replace BK609 := Aside0.mk (blk_drew BK609.out)
                 replace BK612 := Aside0.mk (blk_drew BK612.out)
                 replace BK613 := Aside0.mk (blk_drew BK613.out)
                 replace HB := Aside0.mk (below_drew1 HB.out)
                 obtain ⟨Ao46, co46, eo46⟩ := Kd.R_slice HO_614002.out
                 (first | subst eo46 | (injection eo46 with f1_ f2_ f3_; have f4_ := f1_.symm; have f5_ := f3_.symm; clear f1_ f2_ f3_; subst f4_; subst f5_))
                 refine start_ (n := 5) (S := fun w' => w'.cell? ⟨gb613, 0, none⟩ = some (.int .i64 2) ∧ w'.cell? ⟨gb613, 1, none⟩ = some (.int .i64 2) ∧ w'.cell? ⟨gb613, 2, none⟩ = some (.slice Ao46 x614002_1.length co46) ∧ w'.cell? ⟨gb612, 0, none⟩ = some (.int .i64 t610) ∧ w'.cell? ⟨gb612, 1, none⟩ = some (.int .i64 t611)) (ds := []) #[false, false, false, false, false] (by kernel_rfl) rfl rfl ⟨(blk_cell BK613.out 0).trans rfl, (blk_cell BK613.out 1).trans rfl, (blk_cell BK613.out 2).trans rfl, (blk_cell BK612.out 0).trans rfl, (blk_cell BK612.out 1).trans rfl⟩ (fun hHeld => ?_)
                 generalize wr.drew = w45 at HO_614002 BK609 BK612 BK613 HB hHeld ⊢
                 refine take_ (i := 0) (N := some 35) (v := ?_) (a' := ?_) #[true, false, false, false, false] rfl rfl (by kernel_rfl) (fun _ _ _ h => h) (Or.inl ⟨by rfl, ?_⟩) hHeld ?_ ?_
                 rotate_left
                 · rintro w' ⟨s0, s1, s2, s3, s4⟩
                   go_simp
                   with_reducible rfl
                 rotate_left
                 · simp only [Act.put, List.setIfInBounds_toArray, List.set_cons_zero, List.set_cons_succ, i64_w, i32_w]
                   rfl
                 refine take_ (i := 2) (N := some 37) (v := ?_) (a' := ?_) #[true, false, true, false, false] rfl rfl (by kernel_rfl) (fun _ _ _ h => h) (Or.inl ⟨by rfl, ?_⟩) hHeld ?_ ?_
                 rotate_left
                 · rintro w' ⟨s0, s1, s2, s3, s4⟩
                   go_simp
                   with_reducible rfl
                 rotate_left
                 · simp only [Act.put, List.setIfInBounds_toArray, List.set_cons_zero, List.set_cons_succ, i64_w, i32_w]
                   rfl
                 refine one_ (i := 1) (N := some 36) #[true, true, true, false, false] rfl rfl (by kernel_rfl) (by decide) (fun K hK => ?_)
                 refine goes_ Try.func13 (by kernel_rfl) rfl #[.agg #[.int .i64 2, .int .i64 2, .slice Ao46 x614002_1.length co46]] (by rfl) rfl rfl (by (try simp only [List.map_toArray, List.map_cons, List.map_nil]); first | done | rfl | (simp only [List.length_drop, List.length_take]; rfl)) ?_
                 with_reducible refine (chequerlaw03_of.calls 2 2 (fun k_ => some k_ = (.slice Ao46 x614002_1.length co46 : Value).ownBlock) _ _ x614002_1 t619 t620 t621 _ ?side1 A28.out).mono ?_
                 (case side1 => exact Kd.R_V (Kd.R_tight rfl (Kd.R_types (Kd.R_types (Kd.R_types (HO_614002.out) BK609.out (by decide)) BK612.out (by decide)) BK613.out (by decide))))
                 rintro e w47 ⟨v622, rfl, ho0, hb⟩
                 refine ⟨_, rfl, ?_⟩
                 have HO623 := Aside0.mk (Kd.V_lower (Kd.V_mono (ok' := fun k_ => k_ ≠ gb609 ∧ k_ ≠ gb612 ∧ k_ ≠ gb613) ho0 (fun k_ hk_ => ⟨Or.elim hk_ (fun hs_ => ((Kd.R_types (Kd.R_types (Kd.R_types (HO_614002.out) BK609.out (by decide)) BK612.out (by decide)) BK613.out (by decide)).1 k_ hs_.symm).1.1.2) (fun hn_ => (Kd.freshB (g := gb609) (o := .cells #[.int .i64 a0_0, .int .i64 a0_1] 70 (0, 0)) (hp_ BK609.out) k_ hn_)), Or.elim hk_ (fun hs_ => ((Kd.R_types (Kd.R_types (Kd.R_types (HO_614002.out) BK609.out (by decide)) BK612.out (by decide)) BK613.out (by decide)).1 k_ hs_.symm).1.2) (fun hn_ => (Kd.freshB (g := gb612) (o := .cells #[.int .i64 t610, .int .i64 t611] 70 (0, 0)) (hp_ BK612.out) k_ hn_)), Or.elim hk_ (fun hs_ => ((Kd.R_types (Kd.R_types (Kd.R_types (HO_614002.out) BK609.out (by decide)) BK612.out (by decide)) BK613.out (by decide)).1 k_ hs_.symm).2) (fun hn_ => (Kd.freshB (g := gb613) (o := .cells #[.int .i64 2, .int .i64 2, .slice Ao46 x614002_1.length co46] 24 (0, 0)) (hp_ BK613.out) k_ hn_))⟩)) (below_size bp_))
                 replace HO_614002 := Aside0.mk (Kd.R_below (rp_ HO_614002.out) hb)
                 replace BK609 := Aside0.mk (blk_below (hp_ BK609.out) hb)
                 replace BK612 := Aside0.mk (blk_below (hp_ BK612.out) hb)
                 replace BK613 := Aside0.mk (blk_below (hp_ BK613.out) hb)
                 replace HB := Aside0.mk (below_step bp_ hb)
                 (try clear hb)
                 (try clear hb2)
                 (try clear hk)
                 (try clear hi)
                 (try clear ho0)
                 obtain ⟨Ao48, co48, eo48⟩ := Kd.V_slice HO623.out
                 (first | subst eo48 | (injection eo48 with f1_ f2_ f3_; have f4_ := f1_.symm; have f5_ := f3_.symm; clear f1_ f2_ f3_; subst f4_; subst f5_))
                 refine hK.out _ _ ⟨(blk_cell BK613.out 0).trans rfl, (blk_cell BK613.out 1).trans rfl, (blk_cell BK613.out 2).trans rfl, (blk_cell BK612.out 0).trans rfl, (blk_cell BK612.out 1).trans rfl⟩ (fun hHeld => ?_)
                 clear hK K
                 refine norm_ (a' := ?_) ?_ ?_
                 rotate_left
                 · show Act.put _ (some 36) _ = _
                   simp only [Act.put, List.setIfInBounds_toArray, List.set_cons_zero, List.set_cons_succ, i64_w, i32_w]
                   rfl
                 refine one_ (i := 3) (N := some 38) #[true, true, true, true, false] rfl rfl (by kernel_rfl) (by decide) (fun K hK => ?_)
                 refine goes_ Try.func38 (by kernel_rfl) rfl #[.agg #[.int .i64 t619, .int .i64 t620, .slice Ao48 t621.length co48], .agg #[.int .i64 t610, .int .i64 t611]] (by rfl) rfl rfl (by (try simp only [List.map_toArray, List.map_cons, List.map_nil]); first | done | rfl | (simp only [List.length_drop, List.length_take]; rfl)) ?_
                 with_reducible refine (rect_Fits.calls t619 t620 _ _ t621 t610 t611 true _ ?side1 ?side2 A29.out).mono ?_
                 (case side1 => exact cp_ (Kd.V_reads' HO623.out).2.2)
                 (case side2 => exact (Kd.V_reads' HO623.out).2.1)
                 rintro e w49 ⟨rfl, hb⟩
                 refine ⟨_, rfl, ?_⟩
                 replace HO_614002 := Aside0.mk (Kd.R_below (rp_ HO_614002.out) hb)
                 replace HO623 := Aside0.mk (Kd.V_below (vp_ HO623.out) hb)
                 replace BK609 := Aside0.mk (blk_below (hp_ BK609.out) hb)
                 replace BK612 := Aside0.mk (blk_below (hp_ BK612.out) hb)
                 replace BK613 := Aside0.mk (blk_below (hp_ BK613.out) hb)
                 replace HB := Aside0.mk (below_step bp_ hb)
                 (try clear hb)
                 (try clear hb2)
                 (try clear hk)
                 (try clear hi)
                 refine hK.out _ _ ⟨(blk_cell BK613.out 0).trans rfl, (blk_cell BK613.out 1).trans rfl, (blk_cell BK613.out 2).trans rfl, (blk_cell BK612.out 0).trans rfl, (blk_cell BK612.out 1).trans rfl⟩ (fun hHeld => ?_)
                 clear hK K
                 refine norm_ (a' := ?_) ?_ ?_
                 rotate_left
                 · show Act.put _ (some 38) _ = _
                   simp only [Act.put, List.setIfInBounds_toArray, List.set_cons_zero, List.set_cons_succ, i64_w, i32_w]
                   rfl
                 refine pure_ (i := 4) (N := some 12) (v := ?_) (a' := ?_) #[true, true, true, true, true] rfl rfl (by kernel_rfl) (fun _ _ _ h => h) (Or.inl ⟨by rfl, ?_⟩) ?_ ?_
                 rotate_left
                 · intro w'
                   go_simp
                   with_reducible rfl
                 rotate_left
                 · simp only [Act.put, List.setIfInBounds_toArray, List.set_cons_zero, List.set_cons_succ, i64_w, i32_w]
                   rfl
                 refine done_ (by kernel_rfl) ?_
                 try go_wp2
                 replace HO_614002 := Aside0.mk (Kd.R_drew HO_614002.out)
                 replace BK609 := Aside0.mk (blk_drew BK609.out)
                 replace BK612 := Aside0.mk (blk_drew BK612.out)
                 replace BK613 := Aside0.mk (blk_drew BK613.out)
                 replace HB := Aside0.mk (below_drew1 HB.out)
                 refine start_ (n := 9) (S := fun w' => w'.cell? ⟨gb613, 0, none⟩ = some (.int .i64 2) ∧ w'.cell? ⟨gb613, 1, none⟩ = some (.int .i64 2) ∧ w'.cell? ⟨gb613, 2, none⟩ = some (.slice Ao46 x614002_1.length co46) ∧ w'.cell? ⟨gb609, 0, none⟩ = some (.int .i64 a0_0) ∧ w'.cell? ⟨gb609, 1, none⟩ = some (.int .i64 a0_1)) (ds := []) Fl238 (by kernel_rfl) rfl rfl ⟨(blk_cell BK613.out 0).trans rfl, (blk_cell BK613.out 1).trans rfl, (blk_cell BK613.out 2).trans rfl, (blk_cell BK609.out 0).trans rfl, (blk_cell BK609.out 1).trans rfl⟩ (fun hHeld => ?_); refine with_tabW chequerlaw03_RectFits.tab8 chequerlaw03_RectFits.bits8 (fun HT_ HW_ => ?_)
                 generalize w49.drew = w50 at HO_614002 BK609 BK612 BK613 HB hHeld ⊢
                 refine take_ (i := 0) (N := some 39) (v := ?_) (a' := ?_) Fl240 rfl rfl (take_ofW HT_.out HW_.out (by kernel_rfl)) (fun _ _ _ h => h) (Or.inl ⟨by rfl, ?_⟩) hHeld ?_ ?_
                 rotate_left
                 · rintro w' ⟨s0, s1, s2, s3, s4⟩
                   go_simp
                   with_reducible rfl
                 rotate_left
                 · simp only [Act.put, List.setIfInBounds_toArray, List.set_cons_zero, List.set_cons_succ, i64_w, i32_w]
                   rfl
                 refine take_ (i := 2) (N := some 41) (v := ?_) (a' := ?_) Fl241 rfl rfl (take_ofW HT_.out HW_.out (by kernel_rfl)) (fun _ _ _ h => h) (Or.inl ⟨by rfl, ?_⟩) hHeld ?_ ?_
                 rotate_left
                 · rintro w' ⟨s0, s1, s2, s3, s4⟩
                   go_simp
                   with_reducible rfl
                 rotate_left
                 · simp only [Act.put, List.setIfInBounds_toArray, List.set_cons_zero, List.set_cons_succ, i64_w, i32_w]
                   rfl
                 refine take_ (i := 4) (N := some 43) (v := ?_) (a' := ?_) Fl242 rfl rfl (take_ofW HT_.out HW_.out (by kernel_rfl)) (fun _ _ _ h => h) (Or.inl ⟨by rfl, ?_⟩) hHeld ?_ ?_
                 rotate_left
                 · rintro w' ⟨s0, s1, s2, s3, s4⟩
                   go_simp
                   with_reducible rfl
                 rotate_left
                 · simp only [Act.put, List.setIfInBounds_toArray, List.set_cons_zero, List.set_cons_succ, i64_w, i32_w]
                   rfl
                 refine take_ (i := 5) (N := some 44) (v := ?_) (a' := ?_) #[true, false, true, false, true, true, false, false, false] rfl rfl (take_ofW HT_.out HW_.out (by kernel_rfl)) (fun _ _ _ h => h) (Or.inl ⟨by rfl, ?_⟩) hHeld ?_ ?_
                 rotate_left
                 · rintro w' ⟨s0, s1, s2, s3, s4⟩
                   go_simp
                   with_reducible rfl
                 rotate_left
                 · simp only [Act.put, List.setIfInBounds_toArray, List.set_cons_zero, List.set_cons_succ, i64_w, i32_w]
                   rfl
                 refine one_ (i := 1) (N := some 40) #[true, true, true, false, true, true, false, false, false] rfl rfl (one_of HT_.out (by kernel_rfl)) (by decide) (fun K hK => ?_)
                 refine goes_ Try.func13 (by kernel_rfl) rfl #[.agg #[.int .i64 2, .int .i64 2, .slice Ao46 x614002_1.length co46]] (by rfl) rfl rfl (by (try simp only [List.map_toArray, List.map_cons, List.map_nil]); first | done | rfl | (simp only [List.length_drop, List.length_take]; rfl)) ?_
                 with_reducible refine (chequerlaw03_of.calls 2 2 (fun k_ => some k_ = (.slice Ao46 x614002_1.length co46 : Value).ownBlock) _ _ x614002_1 t625 t626 t627 _ ?side1 A30.out).mono ?_
                 (case side1 => exact Kd.R_V (Kd.R_tight rfl (Kd.R_types (Kd.R_types (Kd.R_types (HO_614002.out) BK609.out (by decide)) BK612.out (by decide)) BK613.out (by decide))))
                 rintro e w51 ⟨v628, rfl, ho0, hb⟩
                 refine ⟨_, rfl, ?_⟩
                 have HO629 := Aside0.mk (Kd.V_lower (Kd.V_mono (ok' := fun k_ => k_ ≠ gb609 ∧ k_ ≠ gb612 ∧ k_ ≠ gb613) ho0 (fun k_ hk_ => ⟨Or.elim hk_ (fun hs_ => ((Kd.R_types (Kd.R_types (Kd.R_types (HO_614002.out) BK609.out (by decide)) BK612.out (by decide)) BK613.out (by decide)).1 k_ hs_.symm).1.1.2) (fun hn_ => (Kd.freshB (g := gb609) (o := .cells #[.int .i64 a0_0, .int .i64 a0_1] 70 (0, 0)) (hp_ BK609.out) k_ hn_)), Or.elim hk_ (fun hs_ => ((Kd.R_types (Kd.R_types (Kd.R_types (HO_614002.out) BK609.out (by decide)) BK612.out (by decide)) BK613.out (by decide)).1 k_ hs_.symm).1.2) (fun hn_ => (Kd.freshB (g := gb612) (o := .cells #[.int .i64 t610, .int .i64 t611] 70 (0, 0)) (hp_ BK612.out) k_ hn_)), Or.elim hk_ (fun hs_ => ((Kd.R_types (Kd.R_types (Kd.R_types (HO_614002.out) BK609.out (by decide)) BK612.out (by decide)) BK613.out (by decide)).1 k_ hs_.symm).2) (fun hn_ => (Kd.freshB (g := gb613) (o := .cells #[.int .i64 2, .int .i64 2, .slice Ao46 x614002_1.length co46] 24 (0, 0)) (hp_ BK613.out) k_ hn_))⟩)) (below_size bp_))
                 replace HO_614002 := Aside0.mk (Kd.R_below (rp_ HO_614002.out) hb)
                 replace BK609 := Aside0.mk (blk_below (hp_ BK609.out) hb)
                 replace BK612 := Aside0.mk (blk_below (hp_ BK612.out) hb)
                 replace BK613 := Aside0.mk (blk_below (hp_ BK613.out) hb)
                 replace HB := Aside0.mk (below_step bp_ hb)
                 (try clear hb)
                 (try clear hb2)
                 (try clear hk)
                 (try clear hi)
                 (try clear ho0)
                 obtain ⟨Ao52, co52, eo52⟩ := Kd.V_slice HO629.out
                 (first | subst eo52 | (injection eo52 with f1_ f2_ f3_; have f4_ := f1_.symm; have f5_ := f3_.symm; clear f1_ f2_ f3_; subst f4_; subst f5_))
                 refine hK.out _ _ ⟨(blk_cell BK613.out 0).trans rfl, (blk_cell BK613.out 1).trans rfl, (blk_cell BK613.out 2).trans rfl, (blk_cell BK609.out 0).trans rfl, (blk_cell BK609.out 1).trans rfl⟩ (fun hHeld => ?_)
                 clear hK K
                 refine norm_ (a' := ?_) ?_ ?_
                 rotate_left
                 · show Act.put _ (some 40) _ = _
                   simp only [Act.put, List.setIfInBounds_toArray, List.set_cons_zero, List.set_cons_succ, i64_w, i32_w]
                   rfl
                 refine one_ (i := 3) (N := some 42) #[true, true, true, true, true, true, false, false, false] rfl rfl (one_of HT_.out (by kernel_rfl)) (by decide) (fun K hK => ?_)
                 refine goes_ Try.func38 (by kernel_rfl) rfl #[.agg #[.int .i64 t625, .int .i64 t626, .slice Ao52 t627.length co52], .agg #[.int .i64 a0_0, .int .i64 a0_1]] (by rfl) rfl rfl (by (try simp only [List.map_toArray, List.map_cons, List.map_nil]); first | done | rfl | (simp only [List.length_drop, List.length_take]; rfl)) ?_
                 with_reducible refine (rect_Fits.calls t625 t626 _ _ t627 a0_0 a0_1 t630 _ ?side1 ?side2 A31.out).mono ?_
                 (case side1 => exact cp_ (Kd.V_reads' HO629.out).2.2)
                 (case side2 => exact (Kd.V_reads' HO629.out).2.1)
                 rintro e w53 ⟨rfl, hb⟩
                 refine ⟨_, rfl, ?_⟩
                 replace HO_614002 := Aside0.mk (Kd.R_below (rp_ HO_614002.out) hb)
                 replace HO629 := Aside0.mk (Kd.V_below (vp_ HO629.out) hb)
                 replace BK609 := Aside0.mk (blk_below (hp_ BK609.out) hb)
                 replace BK612 := Aside0.mk (blk_below (hp_ BK612.out) hb)
                 replace BK613 := Aside0.mk (blk_below (hp_ BK613.out) hb)
                 replace HB := Aside0.mk (below_step bp_ hb)
                 (try clear hb)
                 (try clear hb2)
                 (try clear hk)
                 (try clear hi)
                 refine hK.out _ _ ⟨(blk_cell BK613.out 0).trans rfl, (blk_cell BK613.out 1).trans rfl, (blk_cell BK613.out 2).trans rfl, (blk_cell BK609.out 0).trans rfl, (blk_cell BK609.out 1).trans rfl⟩ (fun hHeld => ?_)
                 clear hK K
                 refine norm_ (a' := ?_) ?_ ?_
                 rotate_left
                 · show Act.put _ (some 42) _ = _
                   simp only [Act.put, List.setIfInBounds_toArray, List.set_cons_zero, List.set_cons_succ, i64_w, i32_w]
                   rfl
                 refine one_ (i := 6) (N := some 45) #[true, true, true, true, true, true, true, false, false] rfl rfl (one_of HT_.out (by kernel_rfl)) (by decide) (fun K hK => ?_)
                 refine goes_ Try.func39 (by kernel_rfl) rfl #[.agg #[.int .i64 2, .int .i64 2, .slice Ao46 x614002_1.length co46], .agg #[.int .i64 a0_0, .int .i64 a0_1]] (by rfl) rfl rfl (by (try simp only [List.map_toArray, List.map_cons, List.map_nil]); first | done | rfl | (simp only [List.length_drop, List.length_take]; rfl)) ?_
                 with_reducible refine (chequerref03_Fits.calls k1 2 2 _ _ x614002_1 a0_0 a0_1 t631 _ ?side1 ?side2 A32.out).mono ?_
                 (case side1 => exact cp_ (Kd.R_reads' HO_614002.out).2.2)
                 (case side2 => exact (Kd.R_reads' HO_614002.out).2.1)
                 rintro e w54 ⟨rfl, hb⟩
                 refine ⟨_, rfl, ?_⟩
                 replace HO_614002 := Aside0.mk (Kd.R_below (rp_ HO_614002.out) hb)
                 replace HO629 := Aside0.mk (Kd.V_below (vp_ HO629.out) hb)
                 replace BK609 := Aside0.mk (blk_below (hp_ BK609.out) hb)
                 replace BK612 := Aside0.mk (blk_below (hp_ BK612.out) hb)
                 replace BK613 := Aside0.mk (blk_below (hp_ BK613.out) hb)
                 replace HB := Aside0.mk (below_step bp_ hb)
                 (try clear hb)
                 (try clear hb2)
                 (try clear hk)
                 (try clear hi)
                 refine hK.out _ _ ⟨(blk_cell BK613.out 0).trans rfl, (blk_cell BK613.out 1).trans rfl, (blk_cell BK613.out 2).trans rfl, (blk_cell BK609.out 0).trans rfl, (blk_cell BK609.out 1).trans rfl⟩ (fun hHeld => ?_)
                 clear hK K
                 refine norm_ (a' := ?_) ?_ ?_
                 rotate_left
                 · show Act.put _ (some 45) _ = _
                   simp only [Act.put, List.setIfInBounds_toArray, List.set_cons_zero, List.set_cons_succ, i64_w, i32_w]
                   rfl
                 refine pur_ (i := 7) (N := some 46) #[true, true, true, true, true, true, true, true, false] (any_of HT_.out (by kernel_rfl)) ?_
                 refine pur_ (i := 8) (N := some 13) #[true, true, true, true, true, true, true, true, true] (any_of HT_.out (by kernel_rfl)) ?_
                 refine done_ (done_of HT_.out (by kernel_rfl)) ?_
                 try go_wp2
                 replace HO_614002 := Aside0.mk (Kd.R_drew HO_614002.out)
                 replace BK612 := Aside0.mk (blk_drew BK612.out)
                 replace BK613 := Aside0.mk (blk_drew BK613.out)
                 replace HB := Aside0.mk (below_drew1 HB.out)
                 refine start_ (n := 7) (S := fun w' => w'.cell? ⟨gb613, 0, none⟩ = some (.int .i64 2) ∧ w'.cell? ⟨gb613, 1, none⟩ = some (.int .i64 2) ∧ w'.cell? ⟨gb613, 2, none⟩ = some (.slice Ao46 x614002_1.length co46)) (ds := [6]) #[false, false, false, false, false, false, false] (by kernel_rfl) rfl rfl ⟨(blk_cell BK613.out 0).trans rfl, (blk_cell BK613.out 1).trans rfl, (blk_cell BK613.out 2).trans rfl⟩ (fun hHeld => ?_)
                 generalize w54.drew = w55 at HO_614002 BK612 BK613 HB hHeld ⊢
                 refine pure_ (i := 0) (N := some 47) (v := ?_) (a' := ?_) #[true, false, false, false, false, false, false] rfl rfl (by kernel_rfl) (fun _ _ _ h => h) (Or.inl ⟨by rfl, ?_⟩) ?_ ?_
                 rotate_left
                 · intro w'
                   go_simp
                   with_reducible rfl
                 rotate_left
                 · simp only [Act.put, List.setIfInBounds_toArray, List.set_cons_zero, List.set_cons_succ, i64_w, i32_w]
                   rfl
                 refine pure_ (i := 2) (N := some 49) (v := ?_) (a' := ?_) #[true, false, true, false, false, false, false] rfl rfl (by kernel_rfl) (fun _ _ _ h => h) (Or.inl ⟨by rfl, ?_⟩) ?_ ?_
                 rotate_left
                 · intro w'
                   go_simp
                   with_reducible rfl
                 rotate_left
                 · simp only [Act.put, List.setIfInBounds_toArray, List.set_cons_zero, List.set_cons_succ, i64_w, i32_w]
                   rfl
                 refine pure_ (i := 4) (N := some 51) (v := ?_) (a' := ?_) #[true, false, true, false, true, false, false] rfl rfl (by kernel_rfl) (fun _ _ _ h => h) (Or.inl ⟨by rfl, ?_⟩) ?_ ?_
                 rotate_left
                 · intro w'
                   go_simp
                   with_reducible rfl
                 rotate_left
                 · simp only [Act.put, List.setIfInBounds_toArray, List.set_cons_zero, List.set_cons_succ, i64_w, i32_w]
                   rfl
                 refine take_ (i := 1) (N := some 48) (v := ?_) (a' := ?_) #[true, true, true, false, true, false, false] rfl rfl (by kernel_rfl) (fun _ _ _ h => h) (Or.inl ⟨by rfl, ?_⟩) hHeld ?_ ?_
                 rotate_left
                 · rintro w' ⟨s0, s1, s2⟩
                   go_simp
                   with_reducible rfl
                 rotate_left
                 · simp only [Act.put, List.setIfInBounds_toArray, List.set_cons_zero, List.set_cons_succ, i64_w, i32_w]
                   rfl
                 refine one_ (i := 3) (N := some 50) #[true, true, true, true, true, false, false] rfl rfl (by kernel_rfl) (by decide) (fun K hK => ?_)
                 refine goes_ Try.func11 (by kernel_rfl) rfl #[.int .i64 a2, .int .i64 4] (by rfl) rfl rfl (by (try simp only [List.map_toArray, List.map_cons, List.map_nil]); first | done | rfl | (simp only [List.length_drop, List.length_take]; rfl)) ?_
                 with_reducible refine (chequerref01_Around.calls a2 4 t632 _ A33.out).mono ?_
                 rintro e w' ⟨rfl, ⟨nd, rfl⟩⟩
                 refine ⟨_, rfl, ?_⟩
                 have p36 : 0 ≤ (t632 : Int) := of_decide_eq_true (by first | (with_reducible assumption) | assumption)
                 have q36 : (t632 : Int) < ((x614002_1.length : Int) : Int) := of_decide_eq_true (by first | (with_reducible assumption) | assumption)
                 obtain ⟨go36, co36, eo36, gb36, gl36, cl36, HG36⟩ := Kd.R_form HO_614002.out (by omega)
                 (first | cases eo36 | (injection eo36 with ea_ en_ ec_; (first | subst ea_ | (injection ea_ with ea_; subst ea_)); subst ec_; clear en_))
                 have GB36 := Aside0.mk gb36
                 have GG36 := Aside0.mk HG36
                 clear gb36 gl36 HG36
                 obtain ⟨hx36_0, hf36_0⟩ := Kd.R_celln 0 HO_614002.out (t632 : Int) p36 q36
                 replace p36 := eq_true p36
                 replace q36 := eq_true q36
                 have HP56 := Kd.R_putn HO_614002.out (t632 : Int) a3
                 rw [← Ny633.out] at HP56
                 have HQ56 := Aside0.mk HP56
                 clear HP56
                 refine hK.out _ _ ⟨(blk_cell BK613.out 0).trans rfl, (blk_cell BK613.out 1).trans rfl, (blk_cell BK613.out 2).trans rfl⟩ (fun hHeld => ?_)
                 clear hK K
                 refine norm_ (a' := ?_) ?_ ?_
                 rotate_left
                 · show Act.put _ (some 50) _ = _
                   simp only [Act.put, List.setIfInBounds_toArray, List.set_cons_zero, List.set_cons_succ, i64_w, i32_w]
                   rfl
                 refine pure_ (i := 5) (N := some 52) (v := ?_) (a' := ?_) #[true, true, true, true, true, true, false] rfl rfl (by kernel_rfl) (fun _ _ _ h => h) (Or.inl ⟨by rfl, ?_⟩) ?_ ?_
                 rotate_left
                 · intro w'
                   go_simp
                   with_reducible rfl
                 rotate_left
                 · simp only [Act.put, List.setIfInBounds_toArray, List.set_cons_zero, List.set_cons_succ, i64_w, i32_w]
                   rfl
                 refine last_ (i := 6) (N := none) #[true, true, true, true, true, true, true] rfl rfl (by kernel_rfl) (by decide) (fun K hK => ?_)
                 refine skip_ (w1 := ?_) (by rfl) rfl ?_ ?_
                 rotate_left
                 · go_simp
                   rfl
                 refine hK.out _ _ ?_
                 clear hK K
                 refine done_ (by kernel_rfl) ?_
                 try go_wp2
                 (try rw [show ∀ (w : World) (n : Nat) (a : Addr) (v : Value), (w.drewN n).setCell a v = (w.setCell a v).drewN n from fun _ _ _ _ => rfl])
                 have n0_ : Aside0 (Kd.R (Kd.int .u64) 46 (w55.setCell ⟨go36, (t632 : Int).toNat, none⟩ (.int .u64 a3)) w.heap.size (fun _ => True) (.slice (some ⟨go36, 0, none⟩) x614002_1.length co46) y633) := ⟨rp_ HQ56.out⟩
                 have n1_ : Aside0 ((w55.setCell ⟨go36, (t632 : Int).toNat, none⟩ (.int .u64 a3)).heap[gb612]? = some (.cells #[.int .i64 t610, .int .i64 t611] 70 (0, 0))) := ⟨by (with_reducible repeat (first | refine blk_drewN ?_ _ | refine blk_drew ?_ | refine blk_alloc ?_ _)); refine blk_far ?_ (by have h_ := Kd.R_ne HO_614002.out BK612.out (by decide); intro e_; exact h_ (by rw [e_]; rfl)) _; (with_reducible repeat (first | refine blk_drewN ?_ _ | refine blk_drew ?_ | refine blk_alloc ?_ _)); exact BK612.out⟩
                 have n2_ : Aside0 ((w55.setCell ⟨go36, (t632 : Int).toNat, none⟩ (.int .u64 a3)).heap[gb613]? = some (.cells #[.int .i64 2, .int .i64 2, .slice (some ⟨go36, 0, none⟩) x614002_1.length co46] 24 (0, 0))) := ⟨by (with_reducible repeat (first | refine blk_drewN ?_ _ | refine blk_drew ?_ | refine blk_alloc ?_ _)); refine blk_far ?_ (by have h_ := Kd.R_ne HO_614002.out BK613.out (by decide); intro e_; exact h_ (by rw [e_]; rfl)) _; (with_reducible repeat (first | refine blk_drewN ?_ _ | refine blk_drew ?_ | refine blk_alloc ?_ _)); exact BK613.out⟩
                 have n3_ : Aside0 (Below w.heap.size w (w55.setCell ⟨go36, (t632 : Int).toNat, none⟩ (.int .u64 a3))) := ⟨bp_⟩
                 (try clear HO_614002)
                 (try clear BK612)
                 (try clear BK613)
                 (try clear HB)
                 generalize (w55.setCell ⟨go36, (t632 : Int).toNat, none⟩ (.int .u64 a3)) = w57 at n0_ n1_ n2_ n3_ ⊢
                 have HO_614002 := n0_
                 have BK612 := n1_
                 have BK613 := n2_
                 have HB := n3_
                 clear n0_ n1_ n2_ n3_
                 (try (rw [drewN_self w57]; generalize hq_ : World.drewN w57 _ = w57; have n0_ := Aside0.mk (qrp_ hq_ HO_614002.out); have n1_ := Aside0.mk (qhp_ hq_ BK612.out); have n2_ := Aside0.mk (qhp_ hq_ BK613.out); have n3_ : Aside0 (Below w.heap.size w w57) := ⟨qbp_ hq_⟩; clear HO_614002 BK612 BK613 HB hq_; have HO_614002 := n0_; have BK612 := n1_; have BK613 := n2_; have HB := n3_; clear n0_ n1_ n2_ n3_))
                 replace HO_614002 := Aside0.mk (Kd.R_drew HO_614002.out)
                 replace BK612 := Aside0.mk (blk_drew BK612.out)
                 replace BK613 := Aside0.mk (blk_drew BK613.out)
                 replace HB := Aside0.mk (below_drew1 HB.out)
                 refine start_ (n := 24) (S := fun w' => w'.cell? ⟨gb613, 0, none⟩ = some (.int .i64 2) ∧ w'.cell? ⟨gb613, 1, none⟩ = some (.int .i64 2) ∧ w'.cell? ⟨gb613, 2, none⟩ = some (.slice (some ⟨go36, 0, none⟩) x614002_1.length co46) ∧ w'.cell? ⟨gb612, 0, none⟩ = some (.int .i64 t610) ∧ w'.cell? ⟨gb612, 1, none⟩ = some (.int .i64 t611)) (ds := []) Fl237 (by kernel_rfl) rfl rfl ⟨(blk_cell BK613.out 0).trans rfl, (blk_cell BK613.out 1).trans rfl, (blk_cell BK613.out 2).trans rfl, (blk_cell BK612.out 0).trans rfl, (blk_cell BK612.out 1).trans rfl⟩ (fun hHeld => ?_); refine with_tabW chequerlaw03_RectFits.tab10 chequerlaw03_RectFits.bits10 (fun HT_ HW_ => ?_)
                 generalize w57.drew = w58 at HO_614002 BK612 BK613 HB HQ56 hHeld ⊢
                 refine pur_ (i := 0) (N := some 53) Fl239 (any_of HT_.out (by kernel_rfl)) ?_
                 refine pur_ (i := 1) (N := some 54) Fl243 (any_of HT_.out (by kernel_rfl)) ?_
                 refine pur_ (i := 2) (N := some 55) Fl244 (any_of HT_.out (by kernel_rfl)) ?_
                 refine pur_ (i := 3) (N := some 56) Fl245 (any_of HT_.out (by kernel_rfl)) ?_
                 refine pur_ (i := 4) (N := some 57) Fl246 (any_of HT_.out (by kernel_rfl)) ?_
                 refine take_ (i := 5) (N := some 58) (v := ?_) (a' := ?_) Fl247 rfl rfl (take_ofW HT_.out HW_.out (by kernel_rfl)) (fun _ _ _ h => h) (Or.inl ⟨by rfl, ?_⟩) hHeld ?_ ?_
                 rotate_left
                 · rintro w' ⟨s0, s1, s2, s3, s4⟩
                   go_simp
                   with_reducible rfl
                 rotate_left
                 · simp only [Act.put, List.setIfInBounds_toArray, List.set_cons_zero, List.set_cons_succ, i64_w, i32_w]
                   rfl
                 refine take_ (i := 7) (N := some 60) (v := ?_) (a' := ?_) Fl262 rfl rfl (take_ofW HT_.out HW_.out (by kernel_rfl)) (fun _ _ _ h => h) (Or.inl ⟨by rfl, ?_⟩) hHeld ?_ ?_
                 rotate_left
                 · rintro w' ⟨s0, s1, s2, s3, s4⟩
                   go_simp
                   with_reducible rfl
                 rotate_left
                 · simp only [Act.put, List.setIfInBounds_toArray, List.set_cons_zero, List.set_cons_succ, i64_w, i32_w]
                   rfl
                 refine take_ (i := 9) (N := some 62) (v := ?_) (a' := ?_) Fl263 rfl rfl (take_ofW HT_.out HW_.out (by kernel_rfl)) (fun _ _ _ h => h) (Or.inl ⟨by rfl, ?_⟩) hHeld ?_ ?_
                 rotate_left
                 · rintro w' ⟨s0, s1, s2, s3, s4⟩
                   go_simp
                   with_reducible rfl
                 rotate_left
                 · simp only [Act.put, List.setIfInBounds_toArray, List.set_cons_zero, List.set_cons_succ, i64_w, i32_w]
                   rfl
                 refine take_ (i := 10) (N := some 63) (v := ?_) (a' := ?_) Fl264 rfl rfl (take_ofW HT_.out HW_.out (by kernel_rfl)) (fun _ _ _ h => h) (Or.inl ⟨by rfl, ?_⟩) hHeld ?_ ?_
                 rotate_left
                 · rintro w' ⟨s0, s1, s2, s3, s4⟩
                   go_simp
                   with_reducible rfl
                 rotate_left
                 · simp only [Act.put, List.setIfInBounds_toArray, List.set_cons_zero, List.set_cons_succ, i64_w, i32_w]
                   rfl
                 refine one_ (i := 6) (N := some 59) Fl265 rfl rfl (one_of HT_.out (by kernel_rfl)) (by decide) (fun K hK => ?_)
                 refine goes_ Try.func13 (by kernel_rfl) rfl #[.agg #[.int .i64 2, .int .i64 2, .slice (some ⟨go36, 0, none⟩) y633.length co46]] (by rfl) rfl rfl (by (try simp only [List.map_toArray, List.map_cons, List.map_nil]); first | done | (rw [show y633.length = x614002_1.length from (Kd.R_reads' HO_614002.out).1.symm] <;> rfl) | rfl | (simp only [List.length_drop, List.length_take]; rfl)) ?_
                 with_reducible refine (chequerlaw03_of.calls 2 2 (fun k_ => some k_ = (.slice (some ⟨go36, 0, none⟩) x614002_1.length co46 : Value).ownBlock) _ _ y633 t634 t635 t636 _ ?side1 A39.out).mono ?_
                 (case side1 => rw [show y633.length = x614002_1.length from (Kd.R_reads' HO_614002.out).1.symm]; exact Kd.R_V (Kd.R_tight rfl (Kd.R_types (Kd.R_types (HO_614002.out) BK612.out (by decide)) BK613.out (by decide))))
                 rintro e w59 ⟨v637, rfl, ho0, hb⟩
                 refine ⟨_, rfl, ?_⟩
                 have HO638 := Aside0.mk (Kd.V_lower (Kd.V_mono (ok' := fun k_ => k_ ≠ gb612 ∧ k_ ≠ gb613) ho0 (fun k_ hk_ => ⟨Or.elim hk_ (fun hs_ => ((Kd.R_types (Kd.R_types (HO_614002.out) BK612.out (by decide)) BK613.out (by decide)).1 k_ hs_.symm).1.2) (fun hn_ => (Kd.freshB (g := gb612) (o := .cells #[.int .i64 t610, .int .i64 t611] 70 (0, 0)) (hp_ BK612.out) k_ hn_)), Or.elim hk_ (fun hs_ => ((Kd.R_types (Kd.R_types (HO_614002.out) BK612.out (by decide)) BK613.out (by decide)).1 k_ hs_.symm).2) (fun hn_ => (Kd.freshB (g := gb613) (o := .cells #[.int .i64 2, .int .i64 2, .slice (some ⟨go36, 0, none⟩) x614002_1.length co46] 24 (0, 0)) (hp_ BK613.out) k_ hn_))⟩)) (below_size bp_))
                 replace HO_614002 := Aside0.mk (Kd.R_below (rp_ HO_614002.out) hb)
                 replace BK612 := Aside0.mk (blk_below (hp_ BK612.out) hb)
                 replace BK613 := Aside0.mk (blk_below (hp_ BK613.out) hb)
                 replace HB := Aside0.mk (below_step bp_ hb)
                 (try clear hb)
                 (try clear hb2)
                 (try clear hk)
                 (try clear hi)
                 (try clear ho0)
                 obtain ⟨Ao60, co60, eo60⟩ := Kd.V_slice HO638.out
                 (first | subst eo60 | (injection eo60 with f1_ f2_ f3_; have f4_ := f1_.symm; have f5_ := f3_.symm; clear f1_ f2_ f3_; subst f4_; subst f5_))
                 refine hK.out _ _ ⟨(blk_cell BK613.out 0).trans rfl, (blk_cell BK613.out 1).trans rfl, (blk_cell BK613.out 2).trans rfl, (blk_cell BK612.out 0).trans rfl, (blk_cell BK612.out 1).trans rfl⟩ (fun hHeld => ?_)
                 clear hK K
                 refine norm_ (a' := ?_) ?_ ?_
                 rotate_left
                 · show Act.put _ (some 59) _ = _
                   simp only [Act.put, List.setIfInBounds_toArray, List.set_cons_zero, List.set_cons_succ, i64_w, i32_w]
                   rfl
                 refine one_ (i := 8) (N := some 61) Fl248 rfl rfl (one_of HT_.out (by kernel_rfl)) (by decide) (fun K hK => ?_)
                 refine goes_ Try.func38 (by kernel_rfl) rfl #[.agg #[.int .i64 t634, .int .i64 t635, .slice Ao60 t636.length co60], .agg #[.int .i64 t610, .int .i64 t611]] (by rfl) rfl rfl (by (try simp only [List.map_toArray, List.map_cons, List.map_nil]); first | done | rfl | (simp only [List.length_drop, List.length_take]; rfl)) ?_
                 with_reducible refine (rect_Fits.calls t634 t635 _ _ t636 t610 t611 t639 _ ?side1 ?side2 A40.out).mono ?_
                 (case side1 => exact cp_ (Kd.V_reads' HO638.out).2.2)
                 (case side2 => exact (Kd.V_reads' HO638.out).2.1)
                 rintro e w61 ⟨rfl, hb⟩
                 refine ⟨_, rfl, ?_⟩
                 replace HO_614002 := Aside0.mk (Kd.R_below (rp_ HO_614002.out) hb)
                 replace HO638 := Aside0.mk (Kd.V_below (vp_ HO638.out) hb)
                 replace BK612 := Aside0.mk (blk_below (hp_ BK612.out) hb)
                 replace BK613 := Aside0.mk (blk_below (hp_ BK613.out) hb)
                 replace HB := Aside0.mk (below_step bp_ hb)
                 (try clear hb)
                 (try clear hb2)
                 (try clear hk)
                 (try clear hi)
                 refine hK.out _ _ ⟨(blk_cell BK613.out 0).trans rfl, (blk_cell BK613.out 1).trans rfl, (blk_cell BK613.out 2).trans rfl, (blk_cell BK612.out 0).trans rfl, (blk_cell BK612.out 1).trans rfl⟩ (fun hHeld => ?_)
                 clear hK K
                 refine norm_ (a' := ?_) ?_ ?_
                 rotate_left
                 · show Act.put _ (some 61) _ = _
                   simp only [Act.put, List.setIfInBounds_toArray, List.set_cons_zero, List.set_cons_succ, i64_w, i32_w]
                   rfl
                 refine one_ (i := 11) (N := some 64) Fl249 rfl rfl (one_of HT_.out (by kernel_rfl)) (by decide) (fun K hK => ?_)
                 refine goes_ Try.func39 (by kernel_rfl) rfl #[.agg #[.int .i64 2, .int .i64 2, .slice (some ⟨go36, 0, none⟩) y633.length co46], .agg #[.int .i64 t610, .int .i64 t611]] (by rfl) rfl rfl (by (try simp only [List.map_toArray, List.map_cons, List.map_nil]); first | done | (rw [show y633.length = x614002_1.length from (Kd.R_reads' HO_614002.out).1.symm] <;> rfl) | rfl | (simp only [List.length_drop, List.length_take]; rfl)) ?_
                 with_reducible refine (chequerref03_Fits.calls k1 2 2 _ _ y633 t610 t611 t640 _ ?side1 ?side2 A41.out).mono ?_
                 (case side1 => exact cp_ (Kd.R_reads' HO_614002.out).2.2)
                 (case side2 => rw [show y633.length = x614002_1.length from (Kd.R_reads' HO_614002.out).1.symm]; exact (Kd.R_reads' HO_614002.out).2.1)
                 rintro e w62 ⟨rfl, hb⟩
                 refine ⟨_, rfl, ?_⟩
                 replace HO_614002 := Aside0.mk (Kd.R_below (rp_ HO_614002.out) hb)
                 replace HO638 := Aside0.mk (Kd.V_below (vp_ HO638.out) hb)
                 replace BK612 := Aside0.mk (blk_below (hp_ BK612.out) hb)
                 replace BK613 := Aside0.mk (blk_below (hp_ BK613.out) hb)
                 replace HB := Aside0.mk (below_step bp_ hb)
                 (try clear hb)
                 (try clear hb2)
                 (try clear hk)
                 (try clear hi)
                 refine hK.out _ _ ⟨(blk_cell BK613.out 0).trans rfl, (blk_cell BK613.out 1).trans rfl, (blk_cell BK613.out 2).trans rfl, (blk_cell BK612.out 0).trans rfl, (blk_cell BK612.out 1).trans rfl⟩ (fun hHeld => ?_)
                 clear hK K
                 refine norm_ (a' := ?_) ?_ ?_
                 rotate_left
                 · show Act.put _ (some 64) _ = _
                   simp only [Act.put, List.setIfInBounds_toArray, List.set_cons_zero, List.set_cons_succ, i64_w, i32_w]
                   rfl
                 refine pur_ (i := 12) (N := some 65) Fl250 (any_of HT_.out (by kernel_rfl)) ?_
                 refine pur_ (i := 13) (N := some 66) Fl251 (any_of HT_.out (by kernel_rfl)) ?_
                 refine pur_ (i := 14) (N := some 67) Fl252 (any_of HT_.out (by kernel_rfl)) ?_
                 refine pur_ (i := 15) (N := some 68) Fl253 (any_of HT_.out (by kernel_rfl)) ?_
                 refine take_ (i := 16) (N := some 69) (v := ?_) (a' := ?_) Fl254 rfl rfl (take_ofW HT_.out HW_.out (by kernel_rfl)) (fun _ _ _ h => h) (Or.inl ⟨by rfl, ?_⟩) hHeld ?_ ?_
                 rotate_left
                 · rintro w' ⟨s0, s1, s2, s3, s4⟩
                   go_simp
                   with_reducible rfl
                 rotate_left
                 · simp only [Act.put, List.setIfInBounds_toArray, List.set_cons_zero, List.set_cons_succ, i64_w, i32_w]
                   rfl
                 refine one_ (i := 17) (N := some 70) Fl255 rfl rfl (one_of HT_.out (by kernel_rfl)) (by decide) (fun K hK => ?_)
                 refine goes_ Try.func38 (by kernel_rfl) rfl #[.agg #[.int .i64 0, .int .i64 0, .slice none 0 0], .agg #[.int .i64 t610, .int .i64 t611]] (by rfl) rfl rfl (by (try simp only [List.map_toArray, List.map_cons, List.map_nil]); first | done | rfl | (simp only [List.length_drop, List.length_take]; rfl)) ?_
                 refine (rect_Fits.calls 0 0 _ _ ([] : List Int) t610 t611 true _ ?side1 ?side2 A43.out).mono ?_
                 (case side1 => exact Kd.C_nil _ _)
                 (case side2 => exact Nat.le_refl _)
                 rintro e w63 ⟨rfl, hb⟩
                 refine ⟨_, rfl, ?_⟩
                 replace HO_614002 := Aside0.mk (Kd.R_below (rp_ HO_614002.out) hb)
                 replace HO638 := Aside0.mk (Kd.V_below (vp_ HO638.out) hb)
                 replace BK612 := Aside0.mk (blk_below (hp_ BK612.out) hb)
                 replace BK613 := Aside0.mk (blk_below (hp_ BK613.out) hb)
                 replace HB := Aside0.mk (below_step bp_ hb)
                 (try clear hb)
                 (try clear hb2)
                 (try clear hk)
                 (try clear hi)
                 refine hK.out _ _ ⟨(blk_cell BK613.out 0).trans rfl, (blk_cell BK613.out 1).trans rfl, (blk_cell BK613.out 2).trans rfl, (blk_cell BK612.out 0).trans rfl, (blk_cell BK612.out 1).trans rfl⟩ (fun hHeld => ?_)
                 clear hK K
                 refine norm_ (a' := ?_) ?_ ?_
                 rotate_left
                 · show Act.put _ (some 70) _ = _
                   simp only [Act.put, List.setIfInBounds_toArray, List.set_cons_zero, List.set_cons_succ, i64_w, i32_w]
                   rfl
                 refine pur_ (i := 18) (N := some 71) Fl256 (any_of HT_.out (by kernel_rfl)) ?_
                 refine pur_ (i := 19) (N := some 72) Fl257 (any_of HT_.out (by kernel_rfl)) ?_
                 refine pur_ (i := 20) (N := some 73) Fl258 (any_of HT_.out (by kernel_rfl)) ?_
                 refine pun_ (i := 21) (N := some 74) Fl259 (any_of HT_.out (by kernel_rfl)) ?_
                 refine pur_ (i := 22) (N := some 75) Fl260 (any_of HT_.out (by kernel_rfl)) ?_
                 refine pur_ (i := 23) (N := some 8) Fl261 (any_of HT_.out (by kernel_rfl)) ?_
                 refine done_ (done_of HT_.out (by kernel_rfl)) ?_
                 try go_wp2
                 go_ret
                 exact ⟨by first | rfl | (simp [errW_none, errW_some] <;> rfl) | (simp [*, errW_none, errW_some] <;> rfl), bp_⟩
               · replace c44 := Bool.eq_false_iff.mpr c44
                 subst c44
                 have H1 : ((chequerlaw03_lives.f k1).bind fun t642 => (some t642)) = some r := by rw [if_neg (show ¬ (false = true) by decide)] at H; exact H
                 clear H
                 have H := H1
                 clear H1
                 replace H := Option.bind_eq_some_iff.mp H
                 obtain ⟨t642, A640, H⟩ := H
                 replace H : (some t642) = some r := H
                 have A64 := Aside0.mk A640
                 clear A640
                 obtain rfl := Option.some.inj H
                 try go_wp2
                 (try (rw [drewN_self wr]; generalize hq_ : World.drewN wr _ = wr; have n0_ := Aside0.mk (qrp_ hq_ HO_614002.out); have n1_ := Aside0.mk (qhp_ hq_ BK609.out); have n2_ := Aside0.mk (qhp_ hq_ BK612.out); have n3_ := Aside0.mk (qhp_ hq_ BK613.out); have n4_ : Aside0 (Below w.heap.size w wr) := ⟨qbp_ hq_⟩; clear HO_614002 BK609 BK612 BK613 HB hq_; have HO_614002 := n0_; have BK609 := n1_; have BK612 := n2_; have BK613 := n3_; have HB := n4_; clear n0_ n1_ n2_ n3_ n4_))
                 replace HO_614002 := Aside0.mk (Kd.R_drew HO_614002.out)
                 replace BK609 := Aside0.mk (blk_drew BK609.out)
                 replace BK612 := Aside0.mk (blk_drew BK612.out)
                 replace BK613 := Aside0.mk (blk_drew BK613.out)
                 replace HB := Aside0.mk (below_drew1 HB.out)
                 obtain ⟨Ao66, co66, eo66⟩ := Kd.R_slice HO_614002.out
                 (first | subst eo66 | (injection eo66 with f1_ f2_ f3_; have f4_ := f1_.symm; have f5_ := f3_.symm; clear f1_ f2_ f3_; subst f4_; subst f5_))
                 refine start_ (n := 5) (S := fun w' => w'.cell? ⟨gb613, 0, none⟩ = some (.int .i64 2) ∧ w'.cell? ⟨gb613, 1, none⟩ = some (.int .i64 2) ∧ w'.cell? ⟨gb613, 2, none⟩ = some (.slice Ao66 x614002_1.length co66) ∧ w'.cell? ⟨gb612, 0, none⟩ = some (.int .i64 t610) ∧ w'.cell? ⟨gb612, 1, none⟩ = some (.int .i64 t611)) (ds := []) #[false, false, false, false, false] (by kernel_rfl) rfl rfl ⟨(blk_cell BK613.out 0).trans rfl, (blk_cell BK613.out 1).trans rfl, (blk_cell BK613.out 2).trans rfl, (blk_cell BK612.out 0).trans rfl, (blk_cell BK612.out 1).trans rfl⟩ (fun hHeld => ?_)
                 generalize wr.drew = w65 at HO_614002 BK609 BK612 BK613 HB hHeld ⊢
                 refine take_ (i := 0) (N := some 35) (v := ?_) (a' := ?_) #[true, false, false, false, false] rfl rfl (by kernel_rfl) (fun _ _ _ h => h) (Or.inl ⟨by rfl, ?_⟩) hHeld ?_ ?_
                 rotate_left
                 · rintro w' ⟨s0, s1, s2, s3, s4⟩
                   go_simp
                   with_reducible rfl
                 rotate_left
                 · simp only [Act.put, List.setIfInBounds_toArray, List.set_cons_zero, List.set_cons_succ, i64_w, i32_w]
                   rfl
                 refine take_ (i := 2) (N := some 37) (v := ?_) (a' := ?_) #[true, false, true, false, false] rfl rfl (by kernel_rfl) (fun _ _ _ h => h) (Or.inl ⟨by rfl, ?_⟩) hHeld ?_ ?_
                 rotate_left
                 · rintro w' ⟨s0, s1, s2, s3, s4⟩
                   go_simp
                   with_reducible rfl
                 rotate_left
                 · simp only [Act.put, List.setIfInBounds_toArray, List.set_cons_zero, List.set_cons_succ, i64_w, i32_w]
                   rfl
                 refine one_ (i := 1) (N := some 36) #[true, true, true, false, false] rfl rfl (by kernel_rfl) (by decide) (fun K hK => ?_)
                 refine goes_ Try.func13 (by kernel_rfl) rfl #[.agg #[.int .i64 2, .int .i64 2, .slice Ao66 x614002_1.length co66]] (by rfl) rfl rfl (by (try simp only [List.map_toArray, List.map_cons, List.map_nil]); first | done | rfl | (simp only [List.length_drop, List.length_take]; rfl)) ?_
                 with_reducible refine (chequerlaw03_of.calls 2 2 (fun k_ => some k_ = (.slice Ao66 x614002_1.length co66 : Value).ownBlock) _ _ x614002_1 t619 t620 t621 _ ?side1 A28.out).mono ?_
                 (case side1 => exact Kd.R_V (Kd.R_tight rfl (Kd.R_types (Kd.R_types (Kd.R_types (HO_614002.out) BK609.out (by decide)) BK612.out (by decide)) BK613.out (by decide))))
                 rintro e w67 ⟨v622, rfl, ho0, hb⟩
                 refine ⟨_, rfl, ?_⟩
                 have HO623 := Aside0.mk (Kd.V_lower (Kd.V_mono (ok' := fun k_ => k_ ≠ gb609 ∧ k_ ≠ gb612 ∧ k_ ≠ gb613) ho0 (fun k_ hk_ => ⟨Or.elim hk_ (fun hs_ => ((Kd.R_types (Kd.R_types (Kd.R_types (HO_614002.out) BK609.out (by decide)) BK612.out (by decide)) BK613.out (by decide)).1 k_ hs_.symm).1.1.2) (fun hn_ => (Kd.freshB (g := gb609) (o := .cells #[.int .i64 a0_0, .int .i64 a0_1] 70 (0, 0)) (hp_ BK609.out) k_ hn_)), Or.elim hk_ (fun hs_ => ((Kd.R_types (Kd.R_types (Kd.R_types (HO_614002.out) BK609.out (by decide)) BK612.out (by decide)) BK613.out (by decide)).1 k_ hs_.symm).1.2) (fun hn_ => (Kd.freshB (g := gb612) (o := .cells #[.int .i64 t610, .int .i64 t611] 70 (0, 0)) (hp_ BK612.out) k_ hn_)), Or.elim hk_ (fun hs_ => ((Kd.R_types (Kd.R_types (Kd.R_types (HO_614002.out) BK609.out (by decide)) BK612.out (by decide)) BK613.out (by decide)).1 k_ hs_.symm).2) (fun hn_ => (Kd.freshB (g := gb613) (o := .cells #[.int .i64 2, .int .i64 2, .slice Ao66 x614002_1.length co66] 24 (0, 0)) (hp_ BK613.out) k_ hn_))⟩)) (below_size bp_))
                 replace HO_614002 := Aside0.mk (Kd.R_below (rp_ HO_614002.out) hb)
                 replace BK609 := Aside0.mk (blk_below (hp_ BK609.out) hb)
                 replace BK612 := Aside0.mk (blk_below (hp_ BK612.out) hb)
                 replace BK613 := Aside0.mk (blk_below (hp_ BK613.out) hb)
                 replace HB := Aside0.mk (below_step bp_ hb)
                 (try clear hb)
                 (try clear hb2)
                 (try clear hk)
                 (try clear hi)
                 (try clear ho0)
                 obtain ⟨Ao68, co68, eo68⟩ := Kd.V_slice HO623.out
                 (first | subst eo68 | (injection eo68 with f1_ f2_ f3_; have f4_ := f1_.symm; have f5_ := f3_.symm; clear f1_ f2_ f3_; subst f4_; subst f5_))
                 refine hK.out _ _ ⟨(blk_cell BK613.out 0).trans rfl, (blk_cell BK613.out 1).trans rfl, (blk_cell BK613.out 2).trans rfl, (blk_cell BK612.out 0).trans rfl, (blk_cell BK612.out 1).trans rfl⟩ (fun hHeld => ?_)
                 clear hK K
                 refine norm_ (a' := ?_) ?_ ?_
                 rotate_left
                 · show Act.put _ (some 36) _ = _
                   simp only [Act.put, List.setIfInBounds_toArray, List.set_cons_zero, List.set_cons_succ, i64_w, i32_w]
                   rfl
                 refine one_ (i := 3) (N := some 38) #[true, true, true, true, false] rfl rfl (by kernel_rfl) (by decide) (fun K hK => ?_)
                 refine goes_ Try.func38 (by kernel_rfl) rfl #[.agg #[.int .i64 t619, .int .i64 t620, .slice Ao68 t621.length co68], .agg #[.int .i64 t610, .int .i64 t611]] (by rfl) rfl rfl (by (try simp only [List.map_toArray, List.map_cons, List.map_nil]); first | done | rfl | (simp only [List.length_drop, List.length_take]; rfl)) ?_
                 with_reducible refine (rect_Fits.calls t619 t620 _ _ t621 t610 t611 true _ ?side1 ?side2 A29.out).mono ?_
                 (case side1 => exact cp_ (Kd.V_reads' HO623.out).2.2)
                 (case side2 => exact (Kd.V_reads' HO623.out).2.1)
                 rintro e w69 ⟨rfl, hb⟩
                 refine ⟨_, rfl, ?_⟩
                 replace HO_614002 := Aside0.mk (Kd.R_below (rp_ HO_614002.out) hb)
                 replace HO623 := Aside0.mk (Kd.V_below (vp_ HO623.out) hb)
                 replace BK609 := Aside0.mk (blk_below (hp_ BK609.out) hb)
                 replace BK612 := Aside0.mk (blk_below (hp_ BK612.out) hb)
                 replace BK613 := Aside0.mk (blk_below (hp_ BK613.out) hb)
                 replace HB := Aside0.mk (below_step bp_ hb)
                 (try clear hb)
                 (try clear hb2)
                 (try clear hk)
                 (try clear hi)
                 refine hK.out _ _ ⟨(blk_cell BK613.out 0).trans rfl, (blk_cell BK613.out 1).trans rfl, (blk_cell BK613.out 2).trans rfl, (blk_cell BK612.out 0).trans rfl, (blk_cell BK612.out 1).trans rfl⟩ (fun hHeld => ?_)
                 clear hK K
                 refine norm_ (a' := ?_) ?_ ?_
                 rotate_left
                 · show Act.put _ (some 38) _ = _
                   simp only [Act.put, List.setIfInBounds_toArray, List.set_cons_zero, List.set_cons_succ, i64_w, i32_w]
                   rfl
                 refine pure_ (i := 4) (N := some 12) (v := ?_) (a' := ?_) #[true, true, true, true, true] rfl rfl (by kernel_rfl) (fun _ _ _ h => h) (Or.inl ⟨by rfl, ?_⟩) ?_ ?_
                 rotate_left
                 · intro w'
                   go_simp
                   with_reducible rfl
                 rotate_left
                 · simp only [Act.put, List.setIfInBounds_toArray, List.set_cons_zero, List.set_cons_succ, i64_w, i32_w]
                   rfl
                 refine done_ (by kernel_rfl) ?_
                 try go_wp2
                 replace HO_614002 := Aside0.mk (Kd.R_drew HO_614002.out)
                 replace BK609 := Aside0.mk (blk_drew BK609.out)
                 replace BK612 := Aside0.mk (blk_drew BK612.out)
                 replace BK613 := Aside0.mk (blk_drew BK613.out)
                 replace HB := Aside0.mk (below_drew1 HB.out)
                 refine start_ (n := 9) (S := fun w' => w'.cell? ⟨gb613, 0, none⟩ = some (.int .i64 2) ∧ w'.cell? ⟨gb613, 1, none⟩ = some (.int .i64 2) ∧ w'.cell? ⟨gb613, 2, none⟩ = some (.slice Ao66 x614002_1.length co66) ∧ w'.cell? ⟨gb609, 0, none⟩ = some (.int .i64 a0_0) ∧ w'.cell? ⟨gb609, 1, none⟩ = some (.int .i64 a0_1)) (ds := []) Fl238 (by kernel_rfl) rfl rfl ⟨(blk_cell BK613.out 0).trans rfl, (blk_cell BK613.out 1).trans rfl, (blk_cell BK613.out 2).trans rfl, (blk_cell BK609.out 0).trans rfl, (blk_cell BK609.out 1).trans rfl⟩ (fun hHeld => ?_); refine with_tabW chequerlaw03_RectFits.tab8 chequerlaw03_RectFits.bits8 (fun HT_ HW_ => ?_)
                 generalize w69.drew = w70 at HO_614002 BK609 BK612 BK613 HB hHeld ⊢
                 refine take_ (i := 0) (N := some 39) (v := ?_) (a' := ?_) Fl240 rfl rfl (take_ofW HT_.out HW_.out (by kernel_rfl)) (fun _ _ _ h => h) (Or.inl ⟨by rfl, ?_⟩) hHeld ?_ ?_
                 rotate_left
                 · rintro w' ⟨s0, s1, s2, s3, s4⟩
                   go_simp
                   with_reducible rfl
                 rotate_left
                 · simp only [Act.put, List.setIfInBounds_toArray, List.set_cons_zero, List.set_cons_succ, i64_w, i32_w]
                   rfl
                 refine take_ (i := 2) (N := some 41) (v := ?_) (a' := ?_) Fl241 rfl rfl (take_ofW HT_.out HW_.out (by kernel_rfl)) (fun _ _ _ h => h) (Or.inl ⟨by rfl, ?_⟩) hHeld ?_ ?_
                 rotate_left
                 · rintro w' ⟨s0, s1, s2, s3, s4⟩
                   go_simp
                   with_reducible rfl
                 rotate_left
                 · simp only [Act.put, List.setIfInBounds_toArray, List.set_cons_zero, List.set_cons_succ, i64_w, i32_w]
                   rfl
                 refine take_ (i := 4) (N := some 43) (v := ?_) (a' := ?_) Fl242 rfl rfl (take_ofW HT_.out HW_.out (by kernel_rfl)) (fun _ _ _ h => h) (Or.inl ⟨by rfl, ?_⟩) hHeld ?_ ?_
                 rotate_left
                 · rintro w' ⟨s0, s1, s2, s3, s4⟩
                   go_simp
                   with_reducible rfl
                 rotate_left
                 · simp only [Act.put, List.setIfInBounds_toArray, List.set_cons_zero, List.set_cons_succ, i64_w, i32_w]
                   rfl
                 refine take_ (i := 5) (N := some 44) (v := ?_) (a' := ?_) #[true, false, true, false, true, true, false, false, false] rfl rfl (take_ofW HT_.out HW_.out (by kernel_rfl)) (fun _ _ _ h => h) (Or.inl ⟨by rfl, ?_⟩) hHeld ?_ ?_
                 rotate_left
                 · rintro w' ⟨s0, s1, s2, s3, s4⟩
                   go_simp
                   with_reducible rfl
                 rotate_left
                 · simp only [Act.put, List.setIfInBounds_toArray, List.set_cons_zero, List.set_cons_succ, i64_w, i32_w]
                   rfl
                 refine one_ (i := 1) (N := some 40) #[true, true, true, false, true, true, false, false, false] rfl rfl (one_of HT_.out (by kernel_rfl)) (by decide) (fun K hK => ?_)
                 refine goes_ Try.func13 (by kernel_rfl) rfl #[.agg #[.int .i64 2, .int .i64 2, .slice Ao66 x614002_1.length co66]] (by rfl) rfl rfl (by (try simp only [List.map_toArray, List.map_cons, List.map_nil]); first | done | rfl | (simp only [List.length_drop, List.length_take]; rfl)) ?_
                 with_reducible refine (chequerlaw03_of.calls 2 2 (fun k_ => some k_ = (.slice Ao66 x614002_1.length co66 : Value).ownBlock) _ _ x614002_1 t625 t626 t627 _ ?side1 A30.out).mono ?_
                 (case side1 => exact Kd.R_V (Kd.R_tight rfl (Kd.R_types (Kd.R_types (Kd.R_types (HO_614002.out) BK609.out (by decide)) BK612.out (by decide)) BK613.out (by decide))))
                 rintro e w71 ⟨v628, rfl, ho0, hb⟩
                 refine ⟨_, rfl, ?_⟩
                 have HO629 := Aside0.mk (Kd.V_lower (Kd.V_mono (ok' := fun k_ => k_ ≠ gb609 ∧ k_ ≠ gb612 ∧ k_ ≠ gb613) ho0 (fun k_ hk_ => ⟨Or.elim hk_ (fun hs_ => ((Kd.R_types (Kd.R_types (Kd.R_types (HO_614002.out) BK609.out (by decide)) BK612.out (by decide)) BK613.out (by decide)).1 k_ hs_.symm).1.1.2) (fun hn_ => (Kd.freshB (g := gb609) (o := .cells #[.int .i64 a0_0, .int .i64 a0_1] 70 (0, 0)) (hp_ BK609.out) k_ hn_)), Or.elim hk_ (fun hs_ => ((Kd.R_types (Kd.R_types (Kd.R_types (HO_614002.out) BK609.out (by decide)) BK612.out (by decide)) BK613.out (by decide)).1 k_ hs_.symm).1.2) (fun hn_ => (Kd.freshB (g := gb612) (o := .cells #[.int .i64 t610, .int .i64 t611] 70 (0, 0)) (hp_ BK612.out) k_ hn_)), Or.elim hk_ (fun hs_ => ((Kd.R_types (Kd.R_types (Kd.R_types (HO_614002.out) BK609.out (by decide)) BK612.out (by decide)) BK613.out (by decide)).1 k_ hs_.symm).2) (fun hn_ => (Kd.freshB (g := gb613) (o := .cells #[.int .i64 2, .int .i64 2, .slice Ao66 x614002_1.length co66] 24 (0, 0)) (hp_ BK613.out) k_ hn_))⟩)) (below_size bp_))
                 replace HO_614002 := Aside0.mk (Kd.R_below (rp_ HO_614002.out) hb)
                 replace BK609 := Aside0.mk (blk_below (hp_ BK609.out) hb)
                 replace BK612 := Aside0.mk (blk_below (hp_ BK612.out) hb)
                 replace BK613 := Aside0.mk (blk_below (hp_ BK613.out) hb)
                 replace HB := Aside0.mk (below_step bp_ hb)
                 (try clear hb)
                 (try clear hb2)
                 (try clear hk)
                 (try clear hi)
                 (try clear ho0)
                 obtain ⟨Ao72, co72, eo72⟩ := Kd.V_slice HO629.out
                 (first | subst eo72 | (injection eo72 with f1_ f2_ f3_; have f4_ := f1_.symm; have f5_ := f3_.symm; clear f1_ f2_ f3_; subst f4_; subst f5_))
                 refine hK.out _ _ ⟨(blk_cell BK613.out 0).trans rfl, (blk_cell BK613.out 1).trans rfl, (blk_cell BK613.out 2).trans rfl, (blk_cell BK609.out 0).trans rfl, (blk_cell BK609.out 1).trans rfl⟩ (fun hHeld => ?_)
                 clear hK K
                 refine norm_ (a' := ?_) ?_ ?_
                 rotate_left
                 · show Act.put _ (some 40) _ = _
                   simp only [Act.put, List.setIfInBounds_toArray, List.set_cons_zero, List.set_cons_succ, i64_w, i32_w]
                   rfl
                 refine one_ (i := 3) (N := some 42) #[true, true, true, true, true, true, false, false, false] rfl rfl (one_of HT_.out (by kernel_rfl)) (by decide) (fun K hK => ?_)
                 refine goes_ Try.func38 (by kernel_rfl) rfl #[.agg #[.int .i64 t625, .int .i64 t626, .slice Ao72 t627.length co72], .agg #[.int .i64 a0_0, .int .i64 a0_1]] (by rfl) rfl rfl (by (try simp only [List.map_toArray, List.map_cons, List.map_nil]); first | done | rfl | (simp only [List.length_drop, List.length_take]; rfl)) ?_
                 with_reducible refine (rect_Fits.calls t625 t626 _ _ t627 a0_0 a0_1 t630 _ ?side1 ?side2 A31.out).mono ?_
                 (case side1 => exact cp_ (Kd.V_reads' HO629.out).2.2)
                 (case side2 => exact (Kd.V_reads' HO629.out).2.1)
                 rintro e w73 ⟨rfl, hb⟩
                 refine ⟨_, rfl, ?_⟩
                 replace HO_614002 := Aside0.mk (Kd.R_below (rp_ HO_614002.out) hb)
                 replace HO629 := Aside0.mk (Kd.V_below (vp_ HO629.out) hb)
                 replace BK609 := Aside0.mk (blk_below (hp_ BK609.out) hb)
                 replace BK612 := Aside0.mk (blk_below (hp_ BK612.out) hb)
                 replace BK613 := Aside0.mk (blk_below (hp_ BK613.out) hb)
                 replace HB := Aside0.mk (below_step bp_ hb)
                 (try clear hb)
                 (try clear hb2)
                 (try clear hk)
                 (try clear hi)
                 refine hK.out _ _ ⟨(blk_cell BK613.out 0).trans rfl, (blk_cell BK613.out 1).trans rfl, (blk_cell BK613.out 2).trans rfl, (blk_cell BK609.out 0).trans rfl, (blk_cell BK609.out 1).trans rfl⟩ (fun hHeld => ?_)
                 clear hK K
                 refine norm_ (a' := ?_) ?_ ?_
                 rotate_left
                 · show Act.put _ (some 42) _ = _
                   simp only [Act.put, List.setIfInBounds_toArray, List.set_cons_zero, List.set_cons_succ, i64_w, i32_w]
                   rfl
                 refine one_ (i := 6) (N := some 45) #[true, true, true, true, true, true, true, false, false] rfl rfl (one_of HT_.out (by kernel_rfl)) (by decide) (fun K hK => ?_)
                 refine goes_ Try.func39 (by kernel_rfl) rfl #[.agg #[.int .i64 2, .int .i64 2, .slice Ao66 x614002_1.length co66], .agg #[.int .i64 a0_0, .int .i64 a0_1]] (by rfl) rfl rfl (by (try simp only [List.map_toArray, List.map_cons, List.map_nil]); first | done | rfl | (simp only [List.length_drop, List.length_take]; rfl)) ?_
                 with_reducible refine (chequerref03_Fits.calls k1 2 2 _ _ x614002_1 a0_0 a0_1 t631 _ ?side1 ?side2 A32.out).mono ?_
                 (case side1 => exact cp_ (Kd.R_reads' HO_614002.out).2.2)
                 (case side2 => exact (Kd.R_reads' HO_614002.out).2.1)
                 rintro e w74 ⟨rfl, hb⟩
                 refine ⟨_, rfl, ?_⟩
                 replace HO_614002 := Aside0.mk (Kd.R_below (rp_ HO_614002.out) hb)
                 replace HO629 := Aside0.mk (Kd.V_below (vp_ HO629.out) hb)
                 replace BK609 := Aside0.mk (blk_below (hp_ BK609.out) hb)
                 replace BK612 := Aside0.mk (blk_below (hp_ BK612.out) hb)
                 replace BK613 := Aside0.mk (blk_below (hp_ BK613.out) hb)
                 replace HB := Aside0.mk (below_step bp_ hb)
                 (try clear hb)
                 (try clear hb2)
                 (try clear hk)
                 (try clear hi)
                 refine hK.out _ _ ⟨(blk_cell BK613.out 0).trans rfl, (blk_cell BK613.out 1).trans rfl, (blk_cell BK613.out 2).trans rfl, (blk_cell BK609.out 0).trans rfl, (blk_cell BK609.out 1).trans rfl⟩ (fun hHeld => ?_)
                 clear hK K
                 refine norm_ (a' := ?_) ?_ ?_
                 rotate_left
                 · show Act.put _ (some 45) _ = _
                   simp only [Act.put, List.setIfInBounds_toArray, List.set_cons_zero, List.set_cons_succ, i64_w, i32_w]
                   rfl
                 refine pur_ (i := 7) (N := some 46) #[true, true, true, true, true, true, true, true, false] (any_of HT_.out (by kernel_rfl)) ?_
                 refine pur_ (i := 8) (N := some 13) #[true, true, true, true, true, true, true, true, true] (any_of HT_.out (by kernel_rfl)) ?_
                 refine done_ (done_of HT_.out (by kernel_rfl)) ?_
                 try go_wp2
                 replace HO_614002 := Aside0.mk (Kd.R_drew HO_614002.out)
                 replace BK612 := Aside0.mk (blk_drew BK612.out)
                 replace BK613 := Aside0.mk (blk_drew BK613.out)
                 replace HB := Aside0.mk (below_drew1 HB.out)
                 refine start_ (n := 7) (S := fun w' => w'.cell? ⟨gb613, 0, none⟩ = some (.int .i64 2) ∧ w'.cell? ⟨gb613, 1, none⟩ = some (.int .i64 2) ∧ w'.cell? ⟨gb613, 2, none⟩ = some (.slice Ao66 x614002_1.length co66)) (ds := [6]) #[false, false, false, false, false, false, false] (by kernel_rfl) rfl rfl ⟨(blk_cell BK613.out 0).trans rfl, (blk_cell BK613.out 1).trans rfl, (blk_cell BK613.out 2).trans rfl⟩ (fun hHeld => ?_)
                 generalize w74.drew = w75 at HO_614002 BK612 BK613 HB hHeld ⊢
                 refine pure_ (i := 0) (N := some 47) (v := ?_) (a' := ?_) #[true, false, false, false, false, false, false] rfl rfl (by kernel_rfl) (fun _ _ _ h => h) (Or.inl ⟨by rfl, ?_⟩) ?_ ?_
                 rotate_left
                 · intro w'
                   go_simp
                   with_reducible rfl
                 rotate_left
                 · simp only [Act.put, List.setIfInBounds_toArray, List.set_cons_zero, List.set_cons_succ, i64_w, i32_w]
                   rfl
                 refine pure_ (i := 2) (N := some 49) (v := ?_) (a' := ?_) #[true, false, true, false, false, false, false] rfl rfl (by kernel_rfl) (fun _ _ _ h => h) (Or.inl ⟨by rfl, ?_⟩) ?_ ?_
                 rotate_left
                 · intro w'
                   go_simp
                   with_reducible rfl
                 rotate_left
                 · simp only [Act.put, List.setIfInBounds_toArray, List.set_cons_zero, List.set_cons_succ, i64_w, i32_w]
                   rfl
                 refine pure_ (i := 4) (N := some 51) (v := ?_) (a' := ?_) #[true, false, true, false, true, false, false] rfl rfl (by kernel_rfl) (fun _ _ _ h => h) (Or.inl ⟨by rfl, ?_⟩) ?_ ?_
                 rotate_left
                 · intro w'
                   go_simp
                   with_reducible rfl
                 rotate_left
                 · simp only [Act.put, List.setIfInBounds_toArray, List.set_cons_zero, List.set_cons_succ, i64_w, i32_w]
                   rfl
                 refine take_ (i := 1) (N := some 48) (v := ?_) (a' := ?_) #[true, true, true, false, true, false, false] rfl rfl (by kernel_rfl) (fun _ _ _ h => h) (Or.inl ⟨by rfl, ?_⟩) hHeld ?_ ?_
                 rotate_left
                 · rintro w' ⟨s0, s1, s2⟩
                   go_simp
                   with_reducible rfl
                 rotate_left
                 · simp only [Act.put, List.setIfInBounds_toArray, List.set_cons_zero, List.set_cons_succ, i64_w, i32_w]
                   rfl
                 refine one_ (i := 3) (N := some 50) #[true, true, true, true, true, false, false] rfl rfl (by kernel_rfl) (by decide) (fun K hK => ?_)
                 refine goes_ Try.func11 (by kernel_rfl) rfl #[.int .i64 a2, .int .i64 4] (by rfl) rfl rfl (by (try simp only [List.map_toArray, List.map_cons, List.map_nil]); first | done | rfl | (simp only [List.length_drop, List.length_take]; rfl)) ?_
                 with_reducible refine (chequerref01_Around.calls a2 4 t632 _ A33.out).mono ?_
                 rintro e w' ⟨rfl, ⟨nd, rfl⟩⟩
                 refine ⟨_, rfl, ?_⟩
                 have p36 : 0 ≤ (t632 : Int) := of_decide_eq_true (by first | (with_reducible assumption) | assumption)
                 have q36 : (t632 : Int) < ((x614002_1.length : Int) : Int) := of_decide_eq_true (by first | (with_reducible assumption) | assumption)
                 obtain ⟨go36, co36, eo36, gb36, gl36, cl36, HG36⟩ := Kd.R_form HO_614002.out (by omega)
                 (first | cases eo36 | (injection eo36 with ea_ en_ ec_; (first | subst ea_ | (injection ea_ with ea_; subst ea_)); subst ec_; clear en_))
                 have GB36 := Aside0.mk gb36
                 have GG36 := Aside0.mk HG36
                 clear gb36 gl36 HG36
                 obtain ⟨hx36_0, hf36_0⟩ := Kd.R_celln 0 HO_614002.out (t632 : Int) p36 q36
                 replace p36 := eq_true p36
                 replace q36 := eq_true q36
                 have HP76 := Kd.R_putn HO_614002.out (t632 : Int) a3
                 rw [← Ny633.out] at HP76
                 have HQ76 := Aside0.mk HP76
                 clear HP76
                 refine hK.out _ _ ⟨(blk_cell BK613.out 0).trans rfl, (blk_cell BK613.out 1).trans rfl, (blk_cell BK613.out 2).trans rfl⟩ (fun hHeld => ?_)
                 clear hK K
                 refine norm_ (a' := ?_) ?_ ?_
                 rotate_left
                 · show Act.put _ (some 50) _ = _
                   simp only [Act.put, List.setIfInBounds_toArray, List.set_cons_zero, List.set_cons_succ, i64_w, i32_w]
                   rfl
                 refine pure_ (i := 5) (N := some 52) (v := ?_) (a' := ?_) #[true, true, true, true, true, true, false] rfl rfl (by kernel_rfl) (fun _ _ _ h => h) (Or.inl ⟨by rfl, ?_⟩) ?_ ?_
                 rotate_left
                 · intro w'
                   go_simp
                   with_reducible rfl
                 rotate_left
                 · simp only [Act.put, List.setIfInBounds_toArray, List.set_cons_zero, List.set_cons_succ, i64_w, i32_w]
                   rfl
                 refine last_ (i := 6) (N := none) #[true, true, true, true, true, true, true] rfl rfl (by kernel_rfl) (by decide) (fun K hK => ?_)
                 refine skip_ (w1 := ?_) (by rfl) rfl ?_ ?_
                 rotate_left
                 · go_simp
                   rfl
                 refine hK.out _ _ ?_
                 clear hK K
                 refine done_ (by kernel_rfl) ?_
                 try go_wp2
                 (try rw [show ∀ (w : World) (n : Nat) (a : Addr) (v : Value), (w.drewN n).setCell a v = (w.setCell a v).drewN n from fun _ _ _ _ => rfl])
                 have n0_ : Aside0 (Kd.R (Kd.int .u64) 46 (w75.setCell ⟨go36, (t632 : Int).toNat, none⟩ (.int .u64 a3)) w.heap.size (fun _ => True) (.slice (some ⟨go36, 0, none⟩) x614002_1.length co66) y633) := ⟨rp_ HQ76.out⟩
                 have n1_ : Aside0 ((w75.setCell ⟨go36, (t632 : Int).toNat, none⟩ (.int .u64 a3)).heap[gb612]? = some (.cells #[.int .i64 t610, .int .i64 t611] 70 (0, 0))) := ⟨by (with_reducible repeat (first | refine blk_drewN ?_ _ | refine blk_drew ?_ | refine blk_alloc ?_ _)); refine blk_far ?_ (by have h_ := Kd.R_ne HO_614002.out BK612.out (by decide); intro e_; exact h_ (by rw [e_]; rfl)) _; (with_reducible repeat (first | refine blk_drewN ?_ _ | refine blk_drew ?_ | refine blk_alloc ?_ _)); exact BK612.out⟩
                 have n2_ : Aside0 ((w75.setCell ⟨go36, (t632 : Int).toNat, none⟩ (.int .u64 a3)).heap[gb613]? = some (.cells #[.int .i64 2, .int .i64 2, .slice (some ⟨go36, 0, none⟩) x614002_1.length co66] 24 (0, 0))) := ⟨by (with_reducible repeat (first | refine blk_drewN ?_ _ | refine blk_drew ?_ | refine blk_alloc ?_ _)); refine blk_far ?_ (by have h_ := Kd.R_ne HO_614002.out BK613.out (by decide); intro e_; exact h_ (by rw [e_]; rfl)) _; (with_reducible repeat (first | refine blk_drewN ?_ _ | refine blk_drew ?_ | refine blk_alloc ?_ _)); exact BK613.out⟩
                 have n3_ : Aside0 (Below w.heap.size w (w75.setCell ⟨go36, (t632 : Int).toNat, none⟩ (.int .u64 a3))) := ⟨bp_⟩
                 (try clear HO_614002)
                 (try clear BK612)
                 (try clear BK613)
                 (try clear HB)
                 generalize (w75.setCell ⟨go36, (t632 : Int).toNat, none⟩ (.int .u64 a3)) = w77 at n0_ n1_ n2_ n3_ ⊢
                 have HO_614002 := n0_
                 have BK612 := n1_
                 have BK613 := n2_
                 have HB := n3_
                 clear n0_ n1_ n2_ n3_
                 (try (rw [drewN_self w77]; generalize hq_ : World.drewN w77 _ = w77; have n0_ := Aside0.mk (qrp_ hq_ HO_614002.out); have n1_ := Aside0.mk (qhp_ hq_ BK612.out); have n2_ := Aside0.mk (qhp_ hq_ BK613.out); have n3_ : Aside0 (Below w.heap.size w w77) := ⟨qbp_ hq_⟩; clear HO_614002 BK612 BK613 HB hq_; have HO_614002 := n0_; have BK612 := n1_; have BK613 := n2_; have HB := n3_; clear n0_ n1_ n2_ n3_))
                 replace HO_614002 := Aside0.mk (Kd.R_drew HO_614002.out)
                 replace BK612 := Aside0.mk (blk_drew BK612.out)
                 replace BK613 := Aside0.mk (blk_drew BK613.out)
                 replace HB := Aside0.mk (below_drew1 HB.out)
                 refine start_ (n := 24) (S := fun w' => w'.cell? ⟨gb613, 0, none⟩ = some (.int .i64 2) ∧ w'.cell? ⟨gb613, 1, none⟩ = some (.int .i64 2) ∧ w'.cell? ⟨gb613, 2, none⟩ = some (.slice (some ⟨go36, 0, none⟩) x614002_1.length co66) ∧ w'.cell? ⟨gb612, 0, none⟩ = some (.int .i64 t610) ∧ w'.cell? ⟨gb612, 1, none⟩ = some (.int .i64 t611)) (ds := []) Fl237 (by kernel_rfl) rfl rfl ⟨(blk_cell BK613.out 0).trans rfl, (blk_cell BK613.out 1).trans rfl, (blk_cell BK613.out 2).trans rfl, (blk_cell BK612.out 0).trans rfl, (blk_cell BK612.out 1).trans rfl⟩ (fun hHeld => ?_); refine with_tabW chequerlaw03_RectFits.tab10 chequerlaw03_RectFits.bits10 (fun HT_ HW_ => ?_)
                 generalize w77.drew = w78 at HO_614002 BK612 BK613 HB HQ76 hHeld ⊢
                 refine pur_ (i := 0) (N := some 53) Fl239 (any_of HT_.out (by kernel_rfl)) ?_
                 refine pur_ (i := 1) (N := some 54) Fl243 (any_of HT_.out (by kernel_rfl)) ?_
                 refine pur_ (i := 2) (N := some 55) Fl244 (any_of HT_.out (by kernel_rfl)) ?_
                 refine pur_ (i := 3) (N := some 56) Fl245 (any_of HT_.out (by kernel_rfl)) ?_
                 refine pur_ (i := 4) (N := some 57) Fl246 (any_of HT_.out (by kernel_rfl)) ?_
                 refine take_ (i := 5) (N := some 58) (v := ?_) (a' := ?_) Fl247 rfl rfl (take_ofW HT_.out HW_.out (by kernel_rfl)) (fun _ _ _ h => h) (Or.inl ⟨by rfl, ?_⟩) hHeld ?_ ?_
                 rotate_left
                 · rintro w' ⟨s0, s1, s2, s3, s4⟩
                   go_simp
                   with_reducible rfl
                 rotate_left
                 · simp only [Act.put, List.setIfInBounds_toArray, List.set_cons_zero, List.set_cons_succ, i64_w, i32_w]
                   rfl
                 refine take_ (i := 7) (N := some 60) (v := ?_) (a' := ?_) Fl262 rfl rfl (take_ofW HT_.out HW_.out (by kernel_rfl)) (fun _ _ _ h => h) (Or.inl ⟨by rfl, ?_⟩) hHeld ?_ ?_
                 rotate_left
                 · rintro w' ⟨s0, s1, s2, s3, s4⟩
                   go_simp
                   with_reducible rfl
                 rotate_left
                 · simp only [Act.put, List.setIfInBounds_toArray, List.set_cons_zero, List.set_cons_succ, i64_w, i32_w]
                   rfl
                 refine take_ (i := 9) (N := some 62) (v := ?_) (a' := ?_) Fl263 rfl rfl (take_ofW HT_.out HW_.out (by kernel_rfl)) (fun _ _ _ h => h) (Or.inl ⟨by rfl, ?_⟩) hHeld ?_ ?_
                 rotate_left
                 · rintro w' ⟨s0, s1, s2, s3, s4⟩
                   go_simp
                   with_reducible rfl
                 rotate_left
                 · simp only [Act.put, List.setIfInBounds_toArray, List.set_cons_zero, List.set_cons_succ, i64_w, i32_w]
                   rfl
                 refine take_ (i := 10) (N := some 63) (v := ?_) (a' := ?_) Fl264 rfl rfl (take_ofW HT_.out HW_.out (by kernel_rfl)) (fun _ _ _ h => h) (Or.inl ⟨by rfl, ?_⟩) hHeld ?_ ?_
                 rotate_left
                 · rintro w' ⟨s0, s1, s2, s3, s4⟩
                   go_simp
                   with_reducible rfl
                 rotate_left
                 · simp only [Act.put, List.setIfInBounds_toArray, List.set_cons_zero, List.set_cons_succ, i64_w, i32_w]
                   rfl
                 refine one_ (i := 6) (N := some 59) Fl265 rfl rfl (one_of HT_.out (by kernel_rfl)) (by decide) (fun K hK => ?_)
                 refine goes_ Try.func13 (by kernel_rfl) rfl #[.agg #[.int .i64 2, .int .i64 2, .slice (some ⟨go36, 0, none⟩) y633.length co66]] (by rfl) rfl rfl (by (try simp only [List.map_toArray, List.map_cons, List.map_nil]); first | done | (rw [show y633.length = x614002_1.length from (Kd.R_reads' HO_614002.out).1.symm] <;> rfl) | rfl | (simp only [List.length_drop, List.length_take]; rfl)) ?_
                 with_reducible refine (chequerlaw03_of.calls 2 2 (fun k_ => some k_ = (.slice (some ⟨go36, 0, none⟩) x614002_1.length co66 : Value).ownBlock) _ _ y633 t634 t635 t636 _ ?side1 A39.out).mono ?_
                 (case side1 => rw [show y633.length = x614002_1.length from (Kd.R_reads' HO_614002.out).1.symm]; exact Kd.R_V (Kd.R_tight rfl (Kd.R_types (Kd.R_types (HO_614002.out) BK612.out (by decide)) BK613.out (by decide))))
                 rintro e w79 ⟨v637, rfl, ho0, hb⟩
                 refine ⟨_, rfl, ?_⟩
                 have HO638 := Aside0.mk (Kd.V_lower (Kd.V_mono (ok' := fun k_ => k_ ≠ gb612 ∧ k_ ≠ gb613) ho0 (fun k_ hk_ => ⟨Or.elim hk_ (fun hs_ => ((Kd.R_types (Kd.R_types (HO_614002.out) BK612.out (by decide)) BK613.out (by decide)).1 k_ hs_.symm).1.2) (fun hn_ => (Kd.freshB (g := gb612) (o := .cells #[.int .i64 t610, .int .i64 t611] 70 (0, 0)) (hp_ BK612.out) k_ hn_)), Or.elim hk_ (fun hs_ => ((Kd.R_types (Kd.R_types (HO_614002.out) BK612.out (by decide)) BK613.out (by decide)).1 k_ hs_.symm).2) (fun hn_ => (Kd.freshB (g := gb613) (o := .cells #[.int .i64 2, .int .i64 2, .slice (some ⟨go36, 0, none⟩) x614002_1.length co66] 24 (0, 0)) (hp_ BK613.out) k_ hn_))⟩)) (below_size bp_))
                 replace HO_614002 := Aside0.mk (Kd.R_below (rp_ HO_614002.out) hb)
                 replace BK612 := Aside0.mk (blk_below (hp_ BK612.out) hb)
                 replace BK613 := Aside0.mk (blk_below (hp_ BK613.out) hb)
                 replace HB := Aside0.mk (below_step bp_ hb)
                 (try clear hb)
                 (try clear hb2)
                 (try clear hk)
                 (try clear hi)
                 (try clear ho0)
                 obtain ⟨Ao80, co80, eo80⟩ := Kd.V_slice HO638.out
                 (first | subst eo80 | (injection eo80 with f1_ f2_ f3_; have f4_ := f1_.symm; have f5_ := f3_.symm; clear f1_ f2_ f3_; subst f4_; subst f5_))
                 refine hK.out _ _ ⟨(blk_cell BK613.out 0).trans rfl, (blk_cell BK613.out 1).trans rfl, (blk_cell BK613.out 2).trans rfl, (blk_cell BK612.out 0).trans rfl, (blk_cell BK612.out 1).trans rfl⟩ (fun hHeld => ?_)
                 clear hK K
                 refine norm_ (a' := ?_) ?_ ?_
                 rotate_left
                 · show Act.put _ (some 59) _ = _
                   simp only [Act.put, List.setIfInBounds_toArray, List.set_cons_zero, List.set_cons_succ, i64_w, i32_w]
                   rfl
                 refine one_ (i := 8) (N := some 61) Fl248 rfl rfl (one_of HT_.out (by kernel_rfl)) (by decide) (fun K hK => ?_)
                 refine goes_ Try.func38 (by kernel_rfl) rfl #[.agg #[.int .i64 t634, .int .i64 t635, .slice Ao80 t636.length co80], .agg #[.int .i64 t610, .int .i64 t611]] (by rfl) rfl rfl (by (try simp only [List.map_toArray, List.map_cons, List.map_nil]); first | done | rfl | (simp only [List.length_drop, List.length_take]; rfl)) ?_
                 with_reducible refine (rect_Fits.calls t634 t635 _ _ t636 t610 t611 t639 _ ?side1 ?side2 A40.out).mono ?_
                 (case side1 => exact cp_ (Kd.V_reads' HO638.out).2.2)
                 (case side2 => exact (Kd.V_reads' HO638.out).2.1)
                 rintro e w81 ⟨rfl, hb⟩
                 refine ⟨_, rfl, ?_⟩
                 replace HO_614002 := Aside0.mk (Kd.R_below (rp_ HO_614002.out) hb)
                 replace HO638 := Aside0.mk (Kd.V_below (vp_ HO638.out) hb)
                 replace BK612 := Aside0.mk (blk_below (hp_ BK612.out) hb)
                 replace BK613 := Aside0.mk (blk_below (hp_ BK613.out) hb)
                 replace HB := Aside0.mk (below_step bp_ hb)
                 (try clear hb)
                 (try clear hb2)
                 (try clear hk)
                 (try clear hi)
                 refine hK.out _ _ ⟨(blk_cell BK613.out 0).trans rfl, (blk_cell BK613.out 1).trans rfl, (blk_cell BK613.out 2).trans rfl, (blk_cell BK612.out 0).trans rfl, (blk_cell BK612.out 1).trans rfl⟩ (fun hHeld => ?_)
                 clear hK K
                 refine norm_ (a' := ?_) ?_ ?_
                 rotate_left
                 · show Act.put _ (some 61) _ = _
                   simp only [Act.put, List.setIfInBounds_toArray, List.set_cons_zero, List.set_cons_succ, i64_w, i32_w]
                   rfl
                 refine one_ (i := 11) (N := some 64) Fl249 rfl rfl (one_of HT_.out (by kernel_rfl)) (by decide) (fun K hK => ?_)
                 refine goes_ Try.func39 (by kernel_rfl) rfl #[.agg #[.int .i64 2, .int .i64 2, .slice (some ⟨go36, 0, none⟩) y633.length co66], .agg #[.int .i64 t610, .int .i64 t611]] (by rfl) rfl rfl (by (try simp only [List.map_toArray, List.map_cons, List.map_nil]); first | done | (rw [show y633.length = x614002_1.length from (Kd.R_reads' HO_614002.out).1.symm] <;> rfl) | rfl | (simp only [List.length_drop, List.length_take]; rfl)) ?_
                 with_reducible refine (chequerref03_Fits.calls k1 2 2 _ _ y633 t610 t611 t640 _ ?side1 ?side2 A41.out).mono ?_
                 (case side1 => exact cp_ (Kd.R_reads' HO_614002.out).2.2)
                 (case side2 => rw [show y633.length = x614002_1.length from (Kd.R_reads' HO_614002.out).1.symm]; exact (Kd.R_reads' HO_614002.out).2.1)
                 rintro e w82 ⟨rfl, hb⟩
                 refine ⟨_, rfl, ?_⟩
                 replace HO_614002 := Aside0.mk (Kd.R_below (rp_ HO_614002.out) hb)
                 replace HO638 := Aside0.mk (Kd.V_below (vp_ HO638.out) hb)
                 replace BK612 := Aside0.mk (blk_below (hp_ BK612.out) hb)
                 replace BK613 := Aside0.mk (blk_below (hp_ BK613.out) hb)
                 replace HB := Aside0.mk (below_step bp_ hb)
                 (try clear hb)
                 (try clear hb2)
                 (try clear hk)
                 (try clear hi)
                 refine hK.out _ _ ⟨(blk_cell BK613.out 0).trans rfl, (blk_cell BK613.out 1).trans rfl, (blk_cell BK613.out 2).trans rfl, (blk_cell BK612.out 0).trans rfl, (blk_cell BK612.out 1).trans rfl⟩ (fun hHeld => ?_)
                 clear hK K
                 refine norm_ (a' := ?_) ?_ ?_
                 rotate_left
                 · show Act.put _ (some 64) _ = _
                   simp only [Act.put, List.setIfInBounds_toArray, List.set_cons_zero, List.set_cons_succ, i64_w, i32_w]
                   rfl
                 refine pur_ (i := 12) (N := some 65) Fl250 (any_of HT_.out (by kernel_rfl)) ?_
                 refine pur_ (i := 13) (N := some 66) Fl251 (any_of HT_.out (by kernel_rfl)) ?_
                 refine pur_ (i := 14) (N := some 67) Fl252 (any_of HT_.out (by kernel_rfl)) ?_
                 refine pur_ (i := 15) (N := some 68) Fl253 (any_of HT_.out (by kernel_rfl)) ?_
                 refine take_ (i := 16) (N := some 69) (v := ?_) (a' := ?_) Fl254 rfl rfl (take_ofW HT_.out HW_.out (by kernel_rfl)) (fun _ _ _ h => h) (Or.inl ⟨by rfl, ?_⟩) hHeld ?_ ?_
                 rotate_left
                 · rintro w' ⟨s0, s1, s2, s3, s4⟩
                   go_simp
                   with_reducible rfl
                 rotate_left
                 · simp only [Act.put, List.setIfInBounds_toArray, List.set_cons_zero, List.set_cons_succ, i64_w, i32_w]
                   rfl
                 refine one_ (i := 17) (N := some 70) Fl255 rfl rfl (one_of HT_.out (by kernel_rfl)) (by decide) (fun K hK => ?_)
                 refine goes_ Try.func38 (by kernel_rfl) rfl #[.agg #[.int .i64 0, .int .i64 0, .slice none 0 0], .agg #[.int .i64 t610, .int .i64 t611]] (by rfl) rfl rfl (by (try simp only [List.map_toArray, List.map_cons, List.map_nil]); first | done | rfl | (simp only [List.length_drop, List.length_take]; rfl)) ?_
                 refine (rect_Fits.calls 0 0 _ _ ([] : List Int) t610 t611 false _ ?side1 ?side2 A43.out).mono ?_
                 (case side1 => exact Kd.C_nil _ _)
                 (case side2 => exact Nat.le_refl _)
                 rintro e w83 ⟨rfl, hb⟩
                 refine ⟨_, rfl, ?_⟩
                 replace HO_614002 := Aside0.mk (Kd.R_below (rp_ HO_614002.out) hb)
                 replace HO638 := Aside0.mk (Kd.V_below (vp_ HO638.out) hb)
                 replace BK612 := Aside0.mk (blk_below (hp_ BK612.out) hb)
                 replace BK613 := Aside0.mk (blk_below (hp_ BK613.out) hb)
                 replace HB := Aside0.mk (below_step bp_ hb)
                 (try clear hb)
                 (try clear hb2)
                 (try clear hk)
                 (try clear hi)
                 refine hK.out _ _ ⟨(blk_cell BK613.out 0).trans rfl, (blk_cell BK613.out 1).trans rfl, (blk_cell BK613.out 2).trans rfl, (blk_cell BK612.out 0).trans rfl, (blk_cell BK612.out 1).trans rfl⟩ (fun hHeld => ?_)
                 clear hK K
                 refine norm_ (a' := ?_) ?_ ?_
                 rotate_left
                 · show Act.put _ (some 70) _ = _
                   simp only [Act.put, List.setIfInBounds_toArray, List.set_cons_zero, List.set_cons_succ, i64_w, i32_w]
                   rfl
                 refine pur_ (i := 18) (N := some 71) Fl256 (any_of HT_.out (by kernel_rfl)) ?_
                 refine pur_ (i := 19) (N := some 72) Fl257 (any_of HT_.out (by kernel_rfl)) ?_
                 refine pur_ (i := 20) (N := some 73) Fl258 (any_of HT_.out (by kernel_rfl)) ?_
                 refine one_ (i := 21) (N := some 74) Fl259 rfl rfl (one_of HT_.out (by kernel_rfl)) (by decide) (fun K hK => ?_)
                 refine goes_ Try.func16 (by kernel_rfl) rfl #[] (by rfl) rfl rfl (by (try simp only [List.map_toArray, List.map_cons, List.map_nil]); first | done | rfl | (simp only [List.length_drop, List.length_take]; rfl)) ?_
                 with_reducible refine (chequerlaw03_lives.calls k1  t642 _ A64.out).mono ?_
                 rintro e w84 ⟨rfl, hb⟩
                 refine ⟨_, rfl, ?_⟩
                 replace HO_614002 := Aside0.mk (Kd.R_below (rp_ HO_614002.out) hb)
                 replace HO638 := Aside0.mk (Kd.V_below (vp_ HO638.out) hb)
                 replace BK612 := Aside0.mk (blk_below (hp_ BK612.out) hb)
                 replace BK613 := Aside0.mk (blk_below (hp_ BK613.out) hb)
                 replace HB := Aside0.mk (below_step bp_ hb)
                 (try clear hb)
                 (try clear hb2)
                 (try clear hk)
                 (try clear hi)
                 refine hK.out _ _ ⟨(blk_cell BK613.out 0).trans rfl, (blk_cell BK613.out 1).trans rfl, (blk_cell BK613.out 2).trans rfl, (blk_cell BK612.out 0).trans rfl, (blk_cell BK612.out 1).trans rfl⟩ (fun hHeld => ?_)
                 clear hK K
                 refine norm_ (a' := ?_) ?_ ?_
                 rotate_left
                 · show Act.put _ (some 74) _ = _
                   simp only [Act.put, List.setIfInBounds_toArray, List.set_cons_zero, List.set_cons_succ, i64_w, i32_w]
                   rfl
                 refine pur_ (i := 22) (N := some 75) Fl260 (any_of HT_.out (by kernel_rfl)) ?_
                 refine pur_ (i := 23) (N := some 8) Fl261 (any_of HT_.out (by kernel_rfl)) ?_
                 refine done_ (done_of HT_.out (by kernel_rfl)) ?_
                 try go_wp2
                 go_ret
                 exact ⟨by first | rfl | (simp [errW_none, errW_some] <;> rfl) | (simp [*, errW_none, errW_some] <;> rfl), bp_⟩
             · rw [if_neg c42] at H
               have c42b0 : (t639 == t640) = false := by simpa using c42
               (try (have c42b1 : decide (t639 = t640) = false := by simpa using c42))
               (try (have c42b2 : (t639 == t640) = false := by simpa using c42))
               (try (have c42b3 : ¬ (t639 = t640) := by simpa using c42))
               clear c42
               obtain rfl := Option.some.inj H
               try go_wp2
               (try (rw [drewN_self wr]; generalize hq_ : World.drewN wr _ = wr; have n0_ := Aside0.mk (qrp_ hq_ HO_614002.out); have n1_ := Aside0.mk (qhp_ hq_ BK609.out); have n2_ := Aside0.mk (qhp_ hq_ BK612.out); have n3_ := Aside0.mk (qhp_ hq_ BK613.out); have n4_ : Aside0 (Below w.heap.size w wr) := ⟨qbp_ hq_⟩; clear HO_614002 BK609 BK612 BK613 HB hq_; have HO_614002 := n0_; have BK609 := n1_; have BK612 := n2_; have BK613 := n3_; have HB := n4_; clear n0_ n1_ n2_ n3_ n4_))
               replace HO_614002 := Aside0.mk (Kd.R_drew HO_614002.out)
               replace BK609 := Aside0.mk (blk_drew BK609.out)
               replace BK612 := Aside0.mk (blk_drew BK612.out)
               replace BK613 := Aside0.mk (blk_drew BK613.out)
               replace HB := Aside0.mk (below_drew1 HB.out)
               obtain ⟨Ao86, co86, eo86⟩ := Kd.R_slice HO_614002.out
               (first | subst eo86 | (injection eo86 with f1_ f2_ f3_; have f4_ := f1_.symm; have f5_ := f3_.symm; clear f1_ f2_ f3_; subst f4_; subst f5_))
               refine start_ (n := 5) (S := fun w' => w'.cell? ⟨gb613, 0, none⟩ = some (.int .i64 2) ∧ w'.cell? ⟨gb613, 1, none⟩ = some (.int .i64 2) ∧ w'.cell? ⟨gb613, 2, none⟩ = some (.slice Ao86 x614002_1.length co86) ∧ w'.cell? ⟨gb612, 0, none⟩ = some (.int .i64 t610) ∧ w'.cell? ⟨gb612, 1, none⟩ = some (.int .i64 t611)) (ds := []) #[false, false, false, false, false] (by kernel_rfl) rfl rfl ⟨(blk_cell BK613.out 0).trans rfl, (blk_cell BK613.out 1).trans rfl, (blk_cell BK613.out 2).trans rfl, (blk_cell BK612.out 0).trans rfl, (blk_cell BK612.out 1).trans rfl⟩ (fun hHeld => ?_)
               generalize wr.drew = w85 at HO_614002 BK609 BK612 BK613 HB hHeld ⊢
               refine take_ (i := 0) (N := some 35) (v := ?_) (a' := ?_) #[true, false, false, false, false] rfl rfl (by kernel_rfl) (fun _ _ _ h => h) (Or.inl ⟨by rfl, ?_⟩) hHeld ?_ ?_
               rotate_left
               · rintro w' ⟨s0, s1, s2, s3, s4⟩
                 go_simp
                 with_reducible rfl
               rotate_left
               · simp only [Act.put, List.setIfInBounds_toArray, List.set_cons_zero, List.set_cons_succ, i64_w, i32_w]
                 rfl
               refine take_ (i := 2) (N := some 37) (v := ?_) (a' := ?_) #[true, false, true, false, false] rfl rfl (by kernel_rfl) (fun _ _ _ h => h) (Or.inl ⟨by rfl, ?_⟩) hHeld ?_ ?_
               rotate_left
               · rintro w' ⟨s0, s1, s2, s3, s4⟩
                 go_simp
                 with_reducible rfl
               rotate_left
               · simp only [Act.put, List.setIfInBounds_toArray, List.set_cons_zero, List.set_cons_succ, i64_w, i32_w]
                 rfl
               refine one_ (i := 1) (N := some 36) #[true, true, true, false, false] rfl rfl (by kernel_rfl) (by decide) (fun K hK => ?_)
               refine goes_ Try.func13 (by kernel_rfl) rfl #[.agg #[.int .i64 2, .int .i64 2, .slice Ao86 x614002_1.length co86]] (by rfl) rfl rfl (by (try simp only [List.map_toArray, List.map_cons, List.map_nil]); first | done | rfl | (simp only [List.length_drop, List.length_take]; rfl)) ?_
               with_reducible refine (chequerlaw03_of.calls 2 2 (fun k_ => some k_ = (.slice Ao86 x614002_1.length co86 : Value).ownBlock) _ _ x614002_1 t619 t620 t621 _ ?side1 A28.out).mono ?_
               (case side1 => exact Kd.R_V (Kd.R_tight rfl (Kd.R_types (Kd.R_types (Kd.R_types (HO_614002.out) BK609.out (by decide)) BK612.out (by decide)) BK613.out (by decide))))
               rintro e w87 ⟨v622, rfl, ho0, hb⟩
               refine ⟨_, rfl, ?_⟩
               have HO623 := Aside0.mk (Kd.V_lower (Kd.V_mono (ok' := fun k_ => k_ ≠ gb609 ∧ k_ ≠ gb612 ∧ k_ ≠ gb613) ho0 (fun k_ hk_ => ⟨Or.elim hk_ (fun hs_ => ((Kd.R_types (Kd.R_types (Kd.R_types (HO_614002.out) BK609.out (by decide)) BK612.out (by decide)) BK613.out (by decide)).1 k_ hs_.symm).1.1.2) (fun hn_ => (Kd.freshB (g := gb609) (o := .cells #[.int .i64 a0_0, .int .i64 a0_1] 70 (0, 0)) (hp_ BK609.out) k_ hn_)), Or.elim hk_ (fun hs_ => ((Kd.R_types (Kd.R_types (Kd.R_types (HO_614002.out) BK609.out (by decide)) BK612.out (by decide)) BK613.out (by decide)).1 k_ hs_.symm).1.2) (fun hn_ => (Kd.freshB (g := gb612) (o := .cells #[.int .i64 t610, .int .i64 t611] 70 (0, 0)) (hp_ BK612.out) k_ hn_)), Or.elim hk_ (fun hs_ => ((Kd.R_types (Kd.R_types (Kd.R_types (HO_614002.out) BK609.out (by decide)) BK612.out (by decide)) BK613.out (by decide)).1 k_ hs_.symm).2) (fun hn_ => (Kd.freshB (g := gb613) (o := .cells #[.int .i64 2, .int .i64 2, .slice Ao86 x614002_1.length co86] 24 (0, 0)) (hp_ BK613.out) k_ hn_))⟩)) (below_size bp_))
               replace HO_614002 := Aside0.mk (Kd.R_below (rp_ HO_614002.out) hb)
               replace BK609 := Aside0.mk (blk_below (hp_ BK609.out) hb)
               replace BK612 := Aside0.mk (blk_below (hp_ BK612.out) hb)
               replace BK613 := Aside0.mk (blk_below (hp_ BK613.out) hb)
               replace HB := Aside0.mk (below_step bp_ hb)
               (try clear hb)
               (try clear hb2)
               (try clear hk)
               (try clear hi)
               (try clear ho0)
               obtain ⟨Ao88, co88, eo88⟩ := Kd.V_slice HO623.out
               (first | subst eo88 | (injection eo88 with f1_ f2_ f3_; have f4_ := f1_.symm; have f5_ := f3_.symm; clear f1_ f2_ f3_; subst f4_; subst f5_))
               refine hK.out _ _ ⟨(blk_cell BK613.out 0).trans rfl, (blk_cell BK613.out 1).trans rfl, (blk_cell BK613.out 2).trans rfl, (blk_cell BK612.out 0).trans rfl, (blk_cell BK612.out 1).trans rfl⟩ (fun hHeld => ?_)
               clear hK K
               refine norm_ (a' := ?_) ?_ ?_
               rotate_left
               · show Act.put _ (some 36) _ = _
                 simp only [Act.put, List.setIfInBounds_toArray, List.set_cons_zero, List.set_cons_succ, i64_w, i32_w]
                 rfl
               refine one_ (i := 3) (N := some 38) #[true, true, true, true, false] rfl rfl (by kernel_rfl) (by decide) (fun K hK => ?_)
               refine goes_ Try.func38 (by kernel_rfl) rfl #[.agg #[.int .i64 t619, .int .i64 t620, .slice Ao88 t621.length co88], .agg #[.int .i64 t610, .int .i64 t611]] (by rfl) rfl rfl (by (try simp only [List.map_toArray, List.map_cons, List.map_nil]); first | done | rfl | (simp only [List.length_drop, List.length_take]; rfl)) ?_
               with_reducible refine (rect_Fits.calls t619 t620 _ _ t621 t610 t611 true _ ?side1 ?side2 A29.out).mono ?_
               (case side1 => exact cp_ (Kd.V_reads' HO623.out).2.2)
               (case side2 => exact (Kd.V_reads' HO623.out).2.1)
               rintro e w89 ⟨rfl, hb⟩
               refine ⟨_, rfl, ?_⟩
               replace HO_614002 := Aside0.mk (Kd.R_below (rp_ HO_614002.out) hb)
               replace HO623 := Aside0.mk (Kd.V_below (vp_ HO623.out) hb)
               replace BK609 := Aside0.mk (blk_below (hp_ BK609.out) hb)
               replace BK612 := Aside0.mk (blk_below (hp_ BK612.out) hb)
               replace BK613 := Aside0.mk (blk_below (hp_ BK613.out) hb)
               replace HB := Aside0.mk (below_step bp_ hb)
               (try clear hb)
               (try clear hb2)
               (try clear hk)
               (try clear hi)
               refine hK.out _ _ ⟨(blk_cell BK613.out 0).trans rfl, (blk_cell BK613.out 1).trans rfl, (blk_cell BK613.out 2).trans rfl, (blk_cell BK612.out 0).trans rfl, (blk_cell BK612.out 1).trans rfl⟩ (fun hHeld => ?_)
               clear hK K
               refine norm_ (a' := ?_) ?_ ?_
               rotate_left
               · show Act.put _ (some 38) _ = _
                 simp only [Act.put, List.setIfInBounds_toArray, List.set_cons_zero, List.set_cons_succ, i64_w, i32_w]
                 rfl
               refine pure_ (i := 4) (N := some 12) (v := ?_) (a' := ?_) #[true, true, true, true, true] rfl rfl (by kernel_rfl) (fun _ _ _ h => h) (Or.inl ⟨by rfl, ?_⟩) ?_ ?_
               rotate_left
               · intro w'
                 go_simp
                 with_reducible rfl
               rotate_left
               · simp only [Act.put, List.setIfInBounds_toArray, List.set_cons_zero, List.set_cons_succ, i64_w, i32_w]
                 rfl
               refine done_ (by kernel_rfl) ?_
               try go_wp2
               replace HO_614002 := Aside0.mk (Kd.R_drew HO_614002.out)
               replace BK609 := Aside0.mk (blk_drew BK609.out)
               replace BK612 := Aside0.mk (blk_drew BK612.out)
               replace BK613 := Aside0.mk (blk_drew BK613.out)
               replace HB := Aside0.mk (below_drew1 HB.out)
               refine start_ (n := 9) (S := fun w' => w'.cell? ⟨gb613, 0, none⟩ = some (.int .i64 2) ∧ w'.cell? ⟨gb613, 1, none⟩ = some (.int .i64 2) ∧ w'.cell? ⟨gb613, 2, none⟩ = some (.slice Ao86 x614002_1.length co86) ∧ w'.cell? ⟨gb609, 0, none⟩ = some (.int .i64 a0_0) ∧ w'.cell? ⟨gb609, 1, none⟩ = some (.int .i64 a0_1)) (ds := []) Fl238 (by kernel_rfl) rfl rfl ⟨(blk_cell BK613.out 0).trans rfl, (blk_cell BK613.out 1).trans rfl, (blk_cell BK613.out 2).trans rfl, (blk_cell BK609.out 0).trans rfl, (blk_cell BK609.out 1).trans rfl⟩ (fun hHeld => ?_); refine with_tabW chequerlaw03_RectFits.tab8 chequerlaw03_RectFits.bits8 (fun HT_ HW_ => ?_)
               generalize w89.drew = w90 at HO_614002 BK609 BK612 BK613 HB hHeld ⊢
               refine take_ (i := 0) (N := some 39) (v := ?_) (a' := ?_) Fl240 rfl rfl (take_ofW HT_.out HW_.out (by kernel_rfl)) (fun _ _ _ h => h) (Or.inl ⟨by rfl, ?_⟩) hHeld ?_ ?_
               rotate_left
               · rintro w' ⟨s0, s1, s2, s3, s4⟩
                 go_simp
                 with_reducible rfl
               rotate_left
               · simp only [Act.put, List.setIfInBounds_toArray, List.set_cons_zero, List.set_cons_succ, i64_w, i32_w]
                 rfl
               refine take_ (i := 2) (N := some 41) (v := ?_) (a' := ?_) Fl241 rfl rfl (take_ofW HT_.out HW_.out (by kernel_rfl)) (fun _ _ _ h => h) (Or.inl ⟨by rfl, ?_⟩) hHeld ?_ ?_
               rotate_left
               · rintro w' ⟨s0, s1, s2, s3, s4⟩
                 go_simp
                 with_reducible rfl
               rotate_left
               · simp only [Act.put, List.setIfInBounds_toArray, List.set_cons_zero, List.set_cons_succ, i64_w, i32_w]
                 rfl
               refine take_ (i := 4) (N := some 43) (v := ?_) (a' := ?_) Fl242 rfl rfl (take_ofW HT_.out HW_.out (by kernel_rfl)) (fun _ _ _ h => h) (Or.inl ⟨by rfl, ?_⟩) hHeld ?_ ?_
               rotate_left
               · rintro w' ⟨s0, s1, s2, s3, s4⟩
                 go_simp
                 with_reducible rfl
               rotate_left
               · simp only [Act.put, List.setIfInBounds_toArray, List.set_cons_zero, List.set_cons_succ, i64_w, i32_w]
                 rfl
               refine take_ (i := 5) (N := some 44) (v := ?_) (a' := ?_) #[true, false, true, false, true, true, false, false, false] rfl rfl (take_ofW HT_.out HW_.out (by kernel_rfl)) (fun _ _ _ h => h) (Or.inl ⟨by rfl, ?_⟩) hHeld ?_ ?_
               rotate_left
               · rintro w' ⟨s0, s1, s2, s3, s4⟩
                 go_simp
                 with_reducible rfl
               rotate_left
               · simp only [Act.put, List.setIfInBounds_toArray, List.set_cons_zero, List.set_cons_succ, i64_w, i32_w]
                 rfl
               refine one_ (i := 1) (N := some 40) #[true, true, true, false, true, true, false, false, false] rfl rfl (one_of HT_.out (by kernel_rfl)) (by decide) (fun K hK => ?_)
               refine goes_ Try.func13 (by kernel_rfl) rfl #[.agg #[.int .i64 2, .int .i64 2, .slice Ao86 x614002_1.length co86]] (by rfl) rfl rfl (by (try simp only [List.map_toArray, List.map_cons, List.map_nil]); first | done | rfl | (simp only [List.length_drop, List.length_take]; rfl)) ?_
               with_reducible refine (chequerlaw03_of.calls 2 2 (fun k_ => some k_ = (.slice Ao86 x614002_1.length co86 : Value).ownBlock) _ _ x614002_1 t625 t626 t627 _ ?side1 A30.out).mono ?_
               (case side1 => exact Kd.R_V (Kd.R_tight rfl (Kd.R_types (Kd.R_types (Kd.R_types (HO_614002.out) BK609.out (by decide)) BK612.out (by decide)) BK613.out (by decide))))
               rintro e w91 ⟨v628, rfl, ho0, hb⟩
               refine ⟨_, rfl, ?_⟩
               have HO629 := Aside0.mk (Kd.V_lower (Kd.V_mono (ok' := fun k_ => k_ ≠ gb609 ∧ k_ ≠ gb612 ∧ k_ ≠ gb613) ho0 (fun k_ hk_ => ⟨Or.elim hk_ (fun hs_ => ((Kd.R_types (Kd.R_types (Kd.R_types (HO_614002.out) BK609.out (by decide)) BK612.out (by decide)) BK613.out (by decide)).1 k_ hs_.symm).1.1.2) (fun hn_ => (Kd.freshB (g := gb609) (o := .cells #[.int .i64 a0_0, .int .i64 a0_1] 70 (0, 0)) (hp_ BK609.out) k_ hn_)), Or.elim hk_ (fun hs_ => ((Kd.R_types (Kd.R_types (Kd.R_types (HO_614002.out) BK609.out (by decide)) BK612.out (by decide)) BK613.out (by decide)).1 k_ hs_.symm).1.2) (fun hn_ => (Kd.freshB (g := gb612) (o := .cells #[.int .i64 t610, .int .i64 t611] 70 (0, 0)) (hp_ BK612.out) k_ hn_)), Or.elim hk_ (fun hs_ => ((Kd.R_types (Kd.R_types (Kd.R_types (HO_614002.out) BK609.out (by decide)) BK612.out (by decide)) BK613.out (by decide)).1 k_ hs_.symm).2) (fun hn_ => (Kd.freshB (g := gb613) (o := .cells #[.int .i64 2, .int .i64 2, .slice Ao86 x614002_1.length co86] 24 (0, 0)) (hp_ BK613.out) k_ hn_))⟩)) (below_size bp_))
               replace HO_614002 := Aside0.mk (Kd.R_below (rp_ HO_614002.out) hb)
               replace BK609 := Aside0.mk (blk_below (hp_ BK609.out) hb)
               replace BK612 := Aside0.mk (blk_below (hp_ BK612.out) hb)
               replace BK613 := Aside0.mk (blk_below (hp_ BK613.out) hb)
               replace HB := Aside0.mk (below_step bp_ hb)
               (try clear hb)
               (try clear hb2)
               (try clear hk)
               (try clear hi)
               (try clear ho0)
               obtain ⟨Ao92, co92, eo92⟩ := Kd.V_slice HO629.out
               (first | subst eo92 | (injection eo92 with f1_ f2_ f3_; have f4_ := f1_.symm; have f5_ := f3_.symm; clear f1_ f2_ f3_; subst f4_; subst f5_))
               refine hK.out _ _ ⟨(blk_cell BK613.out 0).trans rfl, (blk_cell BK613.out 1).trans rfl, (blk_cell BK613.out 2).trans rfl, (blk_cell BK609.out 0).trans rfl, (blk_cell BK609.out 1).trans rfl⟩ (fun hHeld => ?_)
               clear hK K
               refine norm_ (a' := ?_) ?_ ?_
               rotate_left
               · show Act.put _ (some 40) _ = _
                 simp only [Act.put, List.setIfInBounds_toArray, List.set_cons_zero, List.set_cons_succ, i64_w, i32_w]
                 rfl
               refine one_ (i := 3) (N := some 42) #[true, true, true, true, true, true, false, false, false] rfl rfl (one_of HT_.out (by kernel_rfl)) (by decide) (fun K hK => ?_)
               refine goes_ Try.func38 (by kernel_rfl) rfl #[.agg #[.int .i64 t625, .int .i64 t626, .slice Ao92 t627.length co92], .agg #[.int .i64 a0_0, .int .i64 a0_1]] (by rfl) rfl rfl (by (try simp only [List.map_toArray, List.map_cons, List.map_nil]); first | done | rfl | (simp only [List.length_drop, List.length_take]; rfl)) ?_
               with_reducible refine (rect_Fits.calls t625 t626 _ _ t627 a0_0 a0_1 t630 _ ?side1 ?side2 A31.out).mono ?_
               (case side1 => exact cp_ (Kd.V_reads' HO629.out).2.2)
               (case side2 => exact (Kd.V_reads' HO629.out).2.1)
               rintro e w93 ⟨rfl, hb⟩
               refine ⟨_, rfl, ?_⟩
               replace HO_614002 := Aside0.mk (Kd.R_below (rp_ HO_614002.out) hb)
               replace HO629 := Aside0.mk (Kd.V_below (vp_ HO629.out) hb)
               replace BK609 := Aside0.mk (blk_below (hp_ BK609.out) hb)
               replace BK612 := Aside0.mk (blk_below (hp_ BK612.out) hb)
               replace BK613 := Aside0.mk (blk_below (hp_ BK613.out) hb)
               replace HB := Aside0.mk (below_step bp_ hb)
               (try clear hb)
               (try clear hb2)
               (try clear hk)
               (try clear hi)
               refine hK.out _ _ ⟨(blk_cell BK613.out 0).trans rfl, (blk_cell BK613.out 1).trans rfl, (blk_cell BK613.out 2).trans rfl, (blk_cell BK609.out 0).trans rfl, (blk_cell BK609.out 1).trans rfl⟩ (fun hHeld => ?_)
               clear hK K
               refine norm_ (a' := ?_) ?_ ?_
               rotate_left
               · show Act.put _ (some 42) _ = _
                 simp only [Act.put, List.setIfInBounds_toArray, List.set_cons_zero, List.set_cons_succ, i64_w, i32_w]
                 rfl
               refine one_ (i := 6) (N := some 45) #[true, true, true, true, true, true, true, false, false] rfl rfl (one_of HT_.out (by kernel_rfl)) (by decide) (fun K hK => ?_)
               refine goes_ Try.func39 (by kernel_rfl) rfl #[.agg #[.int .i64 2, .int .i64 2, .slice Ao86 x614002_1.length co86], .agg #[.int .i64 a0_0, .int .i64 a0_1]] (by rfl) rfl rfl (by (try simp only [List.map_toArray, List.map_cons, List.map_nil]); first | done | rfl | (simp only [List.length_drop, List.length_take]; rfl)) ?_
               with_reducible refine (chequerref03_Fits.calls k1 2 2 _ _ x614002_1 a0_0 a0_1 t631 _ ?side1 ?side2 A32.out).mono ?_
               (case side1 => exact cp_ (Kd.R_reads' HO_614002.out).2.2)
               (case side2 => exact (Kd.R_reads' HO_614002.out).2.1)
               rintro e w94 ⟨rfl, hb⟩
               refine ⟨_, rfl, ?_⟩
               replace HO_614002 := Aside0.mk (Kd.R_below (rp_ HO_614002.out) hb)
               replace HO629 := Aside0.mk (Kd.V_below (vp_ HO629.out) hb)
               replace BK609 := Aside0.mk (blk_below (hp_ BK609.out) hb)
               replace BK612 := Aside0.mk (blk_below (hp_ BK612.out) hb)
               replace BK613 := Aside0.mk (blk_below (hp_ BK613.out) hb)
               replace HB := Aside0.mk (below_step bp_ hb)
               (try clear hb)
               (try clear hb2)
               (try clear hk)
               (try clear hi)
               refine hK.out _ _ ⟨(blk_cell BK613.out 0).trans rfl, (blk_cell BK613.out 1).trans rfl, (blk_cell BK613.out 2).trans rfl, (blk_cell BK609.out 0).trans rfl, (blk_cell BK609.out 1).trans rfl⟩ (fun hHeld => ?_)
               clear hK K
               refine norm_ (a' := ?_) ?_ ?_
               rotate_left
               · show Act.put _ (some 45) _ = _
                 simp only [Act.put, List.setIfInBounds_toArray, List.set_cons_zero, List.set_cons_succ, i64_w, i32_w]
                 rfl
               refine pur_ (i := 7) (N := some 46) #[true, true, true, true, true, true, true, true, false] (any_of HT_.out (by kernel_rfl)) ?_
               refine pur_ (i := 8) (N := some 13) #[true, true, true, true, true, true, true, true, true] (any_of HT_.out (by kernel_rfl)) ?_
               refine done_ (done_of HT_.out (by kernel_rfl)) ?_
               try go_wp2
               replace HO_614002 := Aside0.mk (Kd.R_drew HO_614002.out)
               replace BK612 := Aside0.mk (blk_drew BK612.out)
               replace BK613 := Aside0.mk (blk_drew BK613.out)
               replace HB := Aside0.mk (below_drew1 HB.out)
               refine start_ (n := 7) (S := fun w' => w'.cell? ⟨gb613, 0, none⟩ = some (.int .i64 2) ∧ w'.cell? ⟨gb613, 1, none⟩ = some (.int .i64 2) ∧ w'.cell? ⟨gb613, 2, none⟩ = some (.slice Ao86 x614002_1.length co86)) (ds := [6]) #[false, false, false, false, false, false, false] (by kernel_rfl) rfl rfl ⟨(blk_cell BK613.out 0).trans rfl, (blk_cell BK613.out 1).trans rfl, (blk_cell BK613.out 2).trans rfl⟩ (fun hHeld => ?_)
               generalize w94.drew = w95 at HO_614002 BK612 BK613 HB hHeld ⊢
               refine pure_ (i := 0) (N := some 47) (v := ?_) (a' := ?_) #[true, false, false, false, false, false, false] rfl rfl (by kernel_rfl) (fun _ _ _ h => h) (Or.inl ⟨by rfl, ?_⟩) ?_ ?_
               rotate_left
               · intro w'
                 go_simp
                 with_reducible rfl
               rotate_left
               · simp only [Act.put, List.setIfInBounds_toArray, List.set_cons_zero, List.set_cons_succ, i64_w, i32_w]
                 rfl
               refine pure_ (i := 2) (N := some 49) (v := ?_) (a' := ?_) #[true, false, true, false, false, false, false] rfl rfl (by kernel_rfl) (fun _ _ _ h => h) (Or.inl ⟨by rfl, ?_⟩) ?_ ?_
               rotate_left
               · intro w'
                 go_simp
                 with_reducible rfl
               rotate_left
               · simp only [Act.put, List.setIfInBounds_toArray, List.set_cons_zero, List.set_cons_succ, i64_w, i32_w]
                 rfl
               refine pure_ (i := 4) (N := some 51) (v := ?_) (a' := ?_) #[true, false, true, false, true, false, false] rfl rfl (by kernel_rfl) (fun _ _ _ h => h) (Or.inl ⟨by rfl, ?_⟩) ?_ ?_
               rotate_left
               · intro w'
                 go_simp
                 with_reducible rfl
               rotate_left
               · simp only [Act.put, List.setIfInBounds_toArray, List.set_cons_zero, List.set_cons_succ, i64_w, i32_w]
                 rfl
               refine take_ (i := 1) (N := some 48) (v := ?_) (a' := ?_) #[true, true, true, false, true, false, false] rfl rfl (by kernel_rfl) (fun _ _ _ h => h) (Or.inl ⟨by rfl, ?_⟩) hHeld ?_ ?_
               rotate_left
               · rintro w' ⟨s0, s1, s2⟩
                 go_simp
                 with_reducible rfl
               rotate_left
               · simp only [Act.put, List.setIfInBounds_toArray, List.set_cons_zero, List.set_cons_succ, i64_w, i32_w]
                 rfl
               refine one_ (i := 3) (N := some 50) #[true, true, true, true, true, false, false] rfl rfl (by kernel_rfl) (by decide) (fun K hK => ?_)
               refine goes_ Try.func11 (by kernel_rfl) rfl #[.int .i64 a2, .int .i64 4] (by rfl) rfl rfl (by (try simp only [List.map_toArray, List.map_cons, List.map_nil]); first | done | rfl | (simp only [List.length_drop, List.length_take]; rfl)) ?_
               with_reducible refine (chequerref01_Around.calls a2 4 t632 _ A33.out).mono ?_
               rintro e w' ⟨rfl, ⟨nd, rfl⟩⟩
               refine ⟨_, rfl, ?_⟩
               have p36 : 0 ≤ (t632 : Int) := of_decide_eq_true (by first | (with_reducible assumption) | assumption)
               have q36 : (t632 : Int) < ((x614002_1.length : Int) : Int) := of_decide_eq_true (by first | (with_reducible assumption) | assumption)
               obtain ⟨go36, co36, eo36, gb36, gl36, cl36, HG36⟩ := Kd.R_form HO_614002.out (by omega)
               (first | cases eo36 | (injection eo36 with ea_ en_ ec_; (first | subst ea_ | (injection ea_ with ea_; subst ea_)); subst ec_; clear en_))
               have GB36 := Aside0.mk gb36
               have GG36 := Aside0.mk HG36
               clear gb36 gl36 HG36
               obtain ⟨hx36_0, hf36_0⟩ := Kd.R_celln 0 HO_614002.out (t632 : Int) p36 q36
               replace p36 := eq_true p36
               replace q36 := eq_true q36
               have HP96 := Kd.R_putn HO_614002.out (t632 : Int) a3
               rw [← Ny633.out] at HP96
               have HQ96 := Aside0.mk HP96
               clear HP96
               refine hK.out _ _ ⟨(blk_cell BK613.out 0).trans rfl, (blk_cell BK613.out 1).trans rfl, (blk_cell BK613.out 2).trans rfl⟩ (fun hHeld => ?_)
               clear hK K
               refine norm_ (a' := ?_) ?_ ?_
               rotate_left
               · show Act.put _ (some 50) _ = _
                 simp only [Act.put, List.setIfInBounds_toArray, List.set_cons_zero, List.set_cons_succ, i64_w, i32_w]
                 rfl
               refine pure_ (i := 5) (N := some 52) (v := ?_) (a' := ?_) #[true, true, true, true, true, true, false] rfl rfl (by kernel_rfl) (fun _ _ _ h => h) (Or.inl ⟨by rfl, ?_⟩) ?_ ?_
               rotate_left
               · intro w'
                 go_simp
                 with_reducible rfl
               rotate_left
               · simp only [Act.put, List.setIfInBounds_toArray, List.set_cons_zero, List.set_cons_succ, i64_w, i32_w]
                 rfl
               refine last_ (i := 6) (N := none) #[true, true, true, true, true, true, true] rfl rfl (by kernel_rfl) (by decide) (fun K hK => ?_)
               refine skip_ (w1 := ?_) (by rfl) rfl ?_ ?_
               rotate_left
               · go_simp
                 rfl
               refine hK.out _ _ ?_
               clear hK K
               refine done_ (by kernel_rfl) ?_
               try go_wp2
               (try rw [show ∀ (w : World) (n : Nat) (a : Addr) (v : Value), (w.drewN n).setCell a v = (w.setCell a v).drewN n from fun _ _ _ _ => rfl])
               have n0_ : Aside0 (Kd.R (Kd.int .u64) 46 (w95.setCell ⟨go36, (t632 : Int).toNat, none⟩ (.int .u64 a3)) w.heap.size (fun _ => True) (.slice (some ⟨go36, 0, none⟩) x614002_1.length co86) y633) := ⟨rp_ HQ96.out⟩
               have n1_ : Aside0 ((w95.setCell ⟨go36, (t632 : Int).toNat, none⟩ (.int .u64 a3)).heap[gb612]? = some (.cells #[.int .i64 t610, .int .i64 t611] 70 (0, 0))) := ⟨by (with_reducible repeat (first | refine blk_drewN ?_ _ | refine blk_drew ?_ | refine blk_alloc ?_ _)); refine blk_far ?_ (by have h_ := Kd.R_ne HO_614002.out BK612.out (by decide); intro e_; exact h_ (by rw [e_]; rfl)) _; (with_reducible repeat (first | refine blk_drewN ?_ _ | refine blk_drew ?_ | refine blk_alloc ?_ _)); exact BK612.out⟩
               have n2_ : Aside0 ((w95.setCell ⟨go36, (t632 : Int).toNat, none⟩ (.int .u64 a3)).heap[gb613]? = some (.cells #[.int .i64 2, .int .i64 2, .slice (some ⟨go36, 0, none⟩) x614002_1.length co86] 24 (0, 0))) := ⟨by (with_reducible repeat (first | refine blk_drewN ?_ _ | refine blk_drew ?_ | refine blk_alloc ?_ _)); refine blk_far ?_ (by have h_ := Kd.R_ne HO_614002.out BK613.out (by decide); intro e_; exact h_ (by rw [e_]; rfl)) _; (with_reducible repeat (first | refine blk_drewN ?_ _ | refine blk_drew ?_ | refine blk_alloc ?_ _)); exact BK613.out⟩
               have n3_ : Aside0 (Below w.heap.size w (w95.setCell ⟨go36, (t632 : Int).toNat, none⟩ (.int .u64 a3))) := ⟨bp_⟩
               (try clear HO_614002)
               (try clear BK612)
               (try clear BK613)
               (try clear HB)
               generalize (w95.setCell ⟨go36, (t632 : Int).toNat, none⟩ (.int .u64 a3)) = w97 at n0_ n1_ n2_ n3_ ⊢
               have HO_614002 := n0_
               have BK612 := n1_
               have BK613 := n2_
               have HB := n3_
               clear n0_ n1_ n2_ n3_
               (try (rw [drewN_self w97]; generalize hq_ : World.drewN w97 _ = w97; have n0_ := Aside0.mk (qrp_ hq_ HO_614002.out); have n1_ := Aside0.mk (qhp_ hq_ BK612.out); have n2_ := Aside0.mk (qhp_ hq_ BK613.out); have n3_ : Aside0 (Below w.heap.size w w97) := ⟨qbp_ hq_⟩; clear HO_614002 BK612 BK613 HB hq_; have HO_614002 := n0_; have BK612 := n1_; have BK613 := n2_; have HB := n3_; clear n0_ n1_ n2_ n3_))
               replace HO_614002 := Aside0.mk (Kd.R_drew HO_614002.out)
               replace BK612 := Aside0.mk (blk_drew BK612.out)
               replace BK613 := Aside0.mk (blk_drew BK613.out)
               replace HB := Aside0.mk (below_drew1 HB.out)
               refine start_ (n := 24) (S := fun w' => w'.cell? ⟨gb613, 0, none⟩ = some (.int .i64 2) ∧ w'.cell? ⟨gb613, 1, none⟩ = some (.int .i64 2) ∧ w'.cell? ⟨gb613, 2, none⟩ = some (.slice (some ⟨go36, 0, none⟩) x614002_1.length co86) ∧ w'.cell? ⟨gb612, 0, none⟩ = some (.int .i64 t610) ∧ w'.cell? ⟨gb612, 1, none⟩ = some (.int .i64 t611)) (ds := []) Fl237 (by kernel_rfl) rfl rfl ⟨(blk_cell BK613.out 0).trans rfl, (blk_cell BK613.out 1).trans rfl, (blk_cell BK613.out 2).trans rfl, (blk_cell BK612.out 0).trans rfl, (blk_cell BK612.out 1).trans rfl⟩ (fun hHeld => ?_); refine with_tabW chequerlaw03_RectFits.tab10 chequerlaw03_RectFits.bits10 (fun HT_ HW_ => ?_)
               generalize w97.drew = w98 at HO_614002 BK612 BK613 HB HQ96 hHeld ⊢
               refine pur_ (i := 0) (N := some 53) Fl239 (any_of HT_.out (by kernel_rfl)) ?_
               refine pur_ (i := 1) (N := some 54) Fl243 (any_of HT_.out (by kernel_rfl)) ?_
               refine pur_ (i := 2) (N := some 55) Fl244 (any_of HT_.out (by kernel_rfl)) ?_
               refine pur_ (i := 3) (N := some 56) Fl245 (any_of HT_.out (by kernel_rfl)) ?_
               refine pur_ (i := 4) (N := some 57) Fl246 (any_of HT_.out (by kernel_rfl)) ?_
               refine take_ (i := 5) (N := some 58) (v := ?_) (a' := ?_) Fl247 rfl rfl (take_ofW HT_.out HW_.out (by kernel_rfl)) (fun _ _ _ h => h) (Or.inl ⟨by rfl, ?_⟩) hHeld ?_ ?_
               rotate_left
               · rintro w' ⟨s0, s1, s2, s3, s4⟩
                 go_simp
                 with_reducible rfl
               rotate_left
               · simp only [Act.put, List.setIfInBounds_toArray, List.set_cons_zero, List.set_cons_succ, i64_w, i32_w]
                 rfl
               refine take_ (i := 7) (N := some 60) (v := ?_) (a' := ?_) Fl262 rfl rfl (take_ofW HT_.out HW_.out (by kernel_rfl)) (fun _ _ _ h => h) (Or.inl ⟨by rfl, ?_⟩) hHeld ?_ ?_
               rotate_left
               · rintro w' ⟨s0, s1, s2, s3, s4⟩
                 go_simp
                 with_reducible rfl
               rotate_left
               · simp only [Act.put, List.setIfInBounds_toArray, List.set_cons_zero, List.set_cons_succ, i64_w, i32_w]
                 rfl
               refine take_ (i := 9) (N := some 62) (v := ?_) (a' := ?_) Fl263 rfl rfl (take_ofW HT_.out HW_.out (by kernel_rfl)) (fun _ _ _ h => h) (Or.inl ⟨by rfl, ?_⟩) hHeld ?_ ?_
               rotate_left
               · rintro w' ⟨s0, s1, s2, s3, s4⟩
                 go_simp
                 with_reducible rfl
               rotate_left
               · simp only [Act.put, List.setIfInBounds_toArray, List.set_cons_zero, List.set_cons_succ, i64_w, i32_w]
                 rfl
               refine take_ (i := 10) (N := some 63) (v := ?_) (a' := ?_) Fl264 rfl rfl (take_ofW HT_.out HW_.out (by kernel_rfl)) (fun _ _ _ h => h) (Or.inl ⟨by rfl, ?_⟩) hHeld ?_ ?_
               rotate_left
               · rintro w' ⟨s0, s1, s2, s3, s4⟩
                 go_simp
                 with_reducible rfl
               rotate_left
               · simp only [Act.put, List.setIfInBounds_toArray, List.set_cons_zero, List.set_cons_succ, i64_w, i32_w]
                 rfl
               refine one_ (i := 6) (N := some 59) Fl265 rfl rfl (one_of HT_.out (by kernel_rfl)) (by decide) (fun K hK => ?_)
               refine goes_ Try.func13 (by kernel_rfl) rfl #[.agg #[.int .i64 2, .int .i64 2, .slice (some ⟨go36, 0, none⟩) y633.length co86]] (by rfl) rfl rfl (by (try simp only [List.map_toArray, List.map_cons, List.map_nil]); first | done | (rw [show y633.length = x614002_1.length from (Kd.R_reads' HO_614002.out).1.symm] <;> rfl) | rfl | (simp only [List.length_drop, List.length_take]; rfl)) ?_
               with_reducible refine (chequerlaw03_of.calls 2 2 (fun k_ => some k_ = (.slice (some ⟨go36, 0, none⟩) x614002_1.length co86 : Value).ownBlock) _ _ y633 t634 t635 t636 _ ?side1 A39.out).mono ?_
               (case side1 => rw [show y633.length = x614002_1.length from (Kd.R_reads' HO_614002.out).1.symm]; exact Kd.R_V (Kd.R_tight rfl (Kd.R_types (Kd.R_types (HO_614002.out) BK612.out (by decide)) BK613.out (by decide))))
               rintro e w99 ⟨v637, rfl, ho0, hb⟩
               refine ⟨_, rfl, ?_⟩
               have HO638 := Aside0.mk (Kd.V_lower (Kd.V_mono (ok' := fun k_ => k_ ≠ gb612 ∧ k_ ≠ gb613) ho0 (fun k_ hk_ => ⟨Or.elim hk_ (fun hs_ => ((Kd.R_types (Kd.R_types (HO_614002.out) BK612.out (by decide)) BK613.out (by decide)).1 k_ hs_.symm).1.2) (fun hn_ => (Kd.freshB (g := gb612) (o := .cells #[.int .i64 t610, .int .i64 t611] 70 (0, 0)) (hp_ BK612.out) k_ hn_)), Or.elim hk_ (fun hs_ => ((Kd.R_types (Kd.R_types (HO_614002.out) BK612.out (by decide)) BK613.out (by decide)).1 k_ hs_.symm).2) (fun hn_ => (Kd.freshB (g := gb613) (o := .cells #[.int .i64 2, .int .i64 2, .slice (some ⟨go36, 0, none⟩) x614002_1.length co86] 24 (0, 0)) (hp_ BK613.out) k_ hn_))⟩)) (below_size bp_))
               replace HO_614002 := Aside0.mk (Kd.R_below (rp_ HO_614002.out) hb)
               replace BK612 := Aside0.mk (blk_below (hp_ BK612.out) hb)
               replace BK613 := Aside0.mk (blk_below (hp_ BK613.out) hb)
               replace HB := Aside0.mk (below_step bp_ hb)
               (try clear hb)
               (try clear hb2)
               (try clear hk)
               (try clear hi)
               (try clear ho0)
               obtain ⟨Ao100, co100, eo100⟩ := Kd.V_slice HO638.out
               (first | subst eo100 | (injection eo100 with f1_ f2_ f3_; have f4_ := f1_.symm; have f5_ := f3_.symm; clear f1_ f2_ f3_; subst f4_; subst f5_))
               refine hK.out _ _ ⟨(blk_cell BK613.out 0).trans rfl, (blk_cell BK613.out 1).trans rfl, (blk_cell BK613.out 2).trans rfl, (blk_cell BK612.out 0).trans rfl, (blk_cell BK612.out 1).trans rfl⟩ (fun hHeld => ?_)
               clear hK K
               refine norm_ (a' := ?_) ?_ ?_
               rotate_left
               · show Act.put _ (some 59) _ = _
                 simp only [Act.put, List.setIfInBounds_toArray, List.set_cons_zero, List.set_cons_succ, i64_w, i32_w]
                 rfl
               refine one_ (i := 8) (N := some 61) Fl248 rfl rfl (one_of HT_.out (by kernel_rfl)) (by decide) (fun K hK => ?_)
               refine goes_ Try.func38 (by kernel_rfl) rfl #[.agg #[.int .i64 t634, .int .i64 t635, .slice Ao100 t636.length co100], .agg #[.int .i64 t610, .int .i64 t611]] (by rfl) rfl rfl (by (try simp only [List.map_toArray, List.map_cons, List.map_nil]); first | done | rfl | (simp only [List.length_drop, List.length_take]; rfl)) ?_
               with_reducible refine (rect_Fits.calls t634 t635 _ _ t636 t610 t611 t639 _ ?side1 ?side2 A40.out).mono ?_
               (case side1 => exact cp_ (Kd.V_reads' HO638.out).2.2)
               (case side2 => exact (Kd.V_reads' HO638.out).2.1)
               rintro e w101 ⟨rfl, hb⟩
               refine ⟨_, rfl, ?_⟩
               replace HO_614002 := Aside0.mk (Kd.R_below (rp_ HO_614002.out) hb)
               replace HO638 := Aside0.mk (Kd.V_below (vp_ HO638.out) hb)
               replace BK612 := Aside0.mk (blk_below (hp_ BK612.out) hb)
               replace BK613 := Aside0.mk (blk_below (hp_ BK613.out) hb)
               replace HB := Aside0.mk (below_step bp_ hb)
               (try clear hb)
               (try clear hb2)
               (try clear hk)
               (try clear hi)
               refine hK.out _ _ ⟨(blk_cell BK613.out 0).trans rfl, (blk_cell BK613.out 1).trans rfl, (blk_cell BK613.out 2).trans rfl, (blk_cell BK612.out 0).trans rfl, (blk_cell BK612.out 1).trans rfl⟩ (fun hHeld => ?_)
               clear hK K
               refine norm_ (a' := ?_) ?_ ?_
               rotate_left
               · show Act.put _ (some 61) _ = _
                 simp only [Act.put, List.setIfInBounds_toArray, List.set_cons_zero, List.set_cons_succ, i64_w, i32_w]
                 rfl
               refine one_ (i := 11) (N := some 64) Fl249 rfl rfl (one_of HT_.out (by kernel_rfl)) (by decide) (fun K hK => ?_)
               refine goes_ Try.func39 (by kernel_rfl) rfl #[.agg #[.int .i64 2, .int .i64 2, .slice (some ⟨go36, 0, none⟩) y633.length co86], .agg #[.int .i64 t610, .int .i64 t611]] (by rfl) rfl rfl (by (try simp only [List.map_toArray, List.map_cons, List.map_nil]); first | done | (rw [show y633.length = x614002_1.length from (Kd.R_reads' HO_614002.out).1.symm] <;> rfl) | rfl | (simp only [List.length_drop, List.length_take]; rfl)) ?_
               with_reducible refine (chequerref03_Fits.calls k1 2 2 _ _ y633 t610 t611 t640 _ ?side1 ?side2 A41.out).mono ?_
               (case side1 => exact cp_ (Kd.R_reads' HO_614002.out).2.2)
               (case side2 => rw [show y633.length = x614002_1.length from (Kd.R_reads' HO_614002.out).1.symm]; exact (Kd.R_reads' HO_614002.out).2.1)
               rintro e w102 ⟨rfl, hb⟩
               refine ⟨_, rfl, ?_⟩
               replace HO_614002 := Aside0.mk (Kd.R_below (rp_ HO_614002.out) hb)
               replace HO638 := Aside0.mk (Kd.V_below (vp_ HO638.out) hb)
               replace BK612 := Aside0.mk (blk_below (hp_ BK612.out) hb)
               replace BK613 := Aside0.mk (blk_below (hp_ BK613.out) hb)
               replace HB := Aside0.mk (below_step bp_ hb)
               (try clear hb)
               (try clear hb2)
               (try clear hk)
               (try clear hi)
               refine hK.out _ _ ⟨(blk_cell BK613.out 0).trans rfl, (blk_cell BK613.out 1).trans rfl, (blk_cell BK613.out 2).trans rfl, (blk_cell BK612.out 0).trans rfl, (blk_cell BK612.out 1).trans rfl⟩ (fun hHeld => ?_)
               clear hK K
               refine norm_ (a' := ?_) ?_ ?_
               rotate_left
               · show Act.put _ (some 64) _ = _
                 simp only [Act.put, List.setIfInBounds_toArray, List.set_cons_zero, List.set_cons_succ, i64_w, i32_w]
                 rfl
               refine pur_ (i := 12) (N := some 65) Fl250 (any_of HT_.out (by kernel_rfl)) ?_
               refine pur_ (i := 13) (N := some 66) Fl251 (any_of HT_.out (by kernel_rfl)) ?_
               refine pur_ (i := 14) (N := some 67) Fl252 (any_of HT_.out (by kernel_rfl)) ?_
               refine pun_ (i := 15) (N := some 68) Fl253 (any_of HT_.out (by kernel_rfl)) ?_
               refine pun_ (i := 16) (N := some 69) Fl254 (any_of HT_.out (by kernel_rfl)) ?_
               refine pun_ (i := 17) (N := some 70) Fl255 (any_of HT_.out (by kernel_rfl)) ?_
               refine pun_ (i := 18) (N := some 71) Fl256 (any_of HT_.out (by kernel_rfl)) ?_
               refine pur_ (i := 19) (N := some 72) Fl257 (any_of HT_.out (by kernel_rfl)) ?_
               refine pur_ (i := 20) (N := some 73) Fl258 (any_of HT_.out (by kernel_rfl)) ?_
               refine pun_ (i := 21) (N := some 74) Fl259 (any_of HT_.out (by kernel_rfl)) ?_
               refine pur_ (i := 22) (N := some 75) Fl260 (any_of HT_.out (by kernel_rfl)) ?_
               refine pur_ (i := 23) (N := some 8) Fl261 (any_of HT_.out (by kernel_rfl)) ?_
               refine done_ (done_of HT_.out (by kernel_rfl)) ?_
               try go_wp2
               go_ret
               exact ⟨by first | rfl | (simp [errW_none, errW_some] <;> rfl) | (simp [*, errW_none, errW_some] <;> rfl), bp_⟩
           · rw [if_neg c38] at H
             have c38b0 : (t630 == t631) = false := by simpa using c38
             (try (have c38b1 : decide (t630 = t631) = false := by simpa using c38))
             (try (have c38b2 : (t630 == t631) = false := by simpa using c38))
             (try (have c38b3 : ¬ (t630 = t631) := by simpa using c38))
             clear c38
             obtain rfl := Option.some.inj H
             try go_wp2
             (try (rw [drewN_self wr]; generalize hq_ : World.drewN wr _ = wr; have n0_ := Aside0.mk (qrp_ hq_ HO_614002.out); have n1_ := Aside0.mk (qhp_ hq_ BK609.out); have n2_ := Aside0.mk (qhp_ hq_ BK612.out); have n3_ := Aside0.mk (qhp_ hq_ BK613.out); have n4_ : Aside0 (Below w.heap.size w wr) := ⟨qbp_ hq_⟩; clear HO_614002 BK609 BK612 BK613 HB hq_; have HO_614002 := n0_; have BK609 := n1_; have BK612 := n2_; have BK613 := n3_; have HB := n4_; clear n0_ n1_ n2_ n3_ n4_))
             replace HO_614002 := Aside0.mk (Kd.R_drew HO_614002.out)
             replace BK609 := Aside0.mk (blk_drew BK609.out)
             replace BK612 := Aside0.mk (blk_drew BK612.out)
             replace BK613 := Aside0.mk (blk_drew BK613.out)
             replace HB := Aside0.mk (below_drew1 HB.out)
             obtain ⟨Ao104, co104, eo104⟩ := Kd.R_slice HO_614002.out
             (first | subst eo104 | (injection eo104 with f1_ f2_ f3_; have f4_ := f1_.symm; have f5_ := f3_.symm; clear f1_ f2_ f3_; subst f4_; subst f5_))
             refine start_ (n := 5) (S := fun w' => w'.cell? ⟨gb613, 0, none⟩ = some (.int .i64 2) ∧ w'.cell? ⟨gb613, 1, none⟩ = some (.int .i64 2) ∧ w'.cell? ⟨gb613, 2, none⟩ = some (.slice Ao104 x614002_1.length co104) ∧ w'.cell? ⟨gb612, 0, none⟩ = some (.int .i64 t610) ∧ w'.cell? ⟨gb612, 1, none⟩ = some (.int .i64 t611)) (ds := []) #[false, false, false, false, false] (by kernel_rfl) rfl rfl ⟨(blk_cell BK613.out 0).trans rfl, (blk_cell BK613.out 1).trans rfl, (blk_cell BK613.out 2).trans rfl, (blk_cell BK612.out 0).trans rfl, (blk_cell BK612.out 1).trans rfl⟩ (fun hHeld => ?_)
             generalize wr.drew = w103 at HO_614002 BK609 BK612 BK613 HB hHeld ⊢
             refine take_ (i := 0) (N := some 35) (v := ?_) (a' := ?_) #[true, false, false, false, false] rfl rfl (by kernel_rfl) (fun _ _ _ h => h) (Or.inl ⟨by rfl, ?_⟩) hHeld ?_ ?_
             rotate_left
             · rintro w' ⟨s0, s1, s2, s3, s4⟩
               go_simp
               with_reducible rfl
             rotate_left
             · simp only [Act.put, List.setIfInBounds_toArray, List.set_cons_zero, List.set_cons_succ, i64_w, i32_w]
               rfl
             refine take_ (i := 2) (N := some 37) (v := ?_) (a' := ?_) #[true, false, true, false, false] rfl rfl (by kernel_rfl) (fun _ _ _ h => h) (Or.inl ⟨by rfl, ?_⟩) hHeld ?_ ?_
             rotate_left
             · rintro w' ⟨s0, s1, s2, s3, s4⟩
               go_simp
               with_reducible rfl
             rotate_left
             · simp only [Act.put, List.setIfInBounds_toArray, List.set_cons_zero, List.set_cons_succ, i64_w, i32_w]
               rfl
             refine one_ (i := 1) (N := some 36) #[true, true, true, false, false] rfl rfl (by kernel_rfl) (by decide) (fun K hK => ?_)
             refine goes_ Try.func13 (by kernel_rfl) rfl #[.agg #[.int .i64 2, .int .i64 2, .slice Ao104 x614002_1.length co104]] (by rfl) rfl rfl (by (try simp only [List.map_toArray, List.map_cons, List.map_nil]); first | done | rfl | (simp only [List.length_drop, List.length_take]; rfl)) ?_
             with_reducible refine (chequerlaw03_of.calls 2 2 (fun k_ => some k_ = (.slice Ao104 x614002_1.length co104 : Value).ownBlock) _ _ x614002_1 t619 t620 t621 _ ?side1 A28.out).mono ?_
             (case side1 => exact Kd.R_V (Kd.R_tight rfl (Kd.R_types (Kd.R_types (Kd.R_types (HO_614002.out) BK609.out (by decide)) BK612.out (by decide)) BK613.out (by decide))))
             rintro e w105 ⟨v622, rfl, ho0, hb⟩
             refine ⟨_, rfl, ?_⟩
             have HO623 := Aside0.mk (Kd.V_lower (Kd.V_mono (ok' := fun k_ => k_ ≠ gb609 ∧ k_ ≠ gb612 ∧ k_ ≠ gb613) ho0 (fun k_ hk_ => ⟨Or.elim hk_ (fun hs_ => ((Kd.R_types (Kd.R_types (Kd.R_types (HO_614002.out) BK609.out (by decide)) BK612.out (by decide)) BK613.out (by decide)).1 k_ hs_.symm).1.1.2) (fun hn_ => (Kd.freshB (g := gb609) (o := .cells #[.int .i64 a0_0, .int .i64 a0_1] 70 (0, 0)) (hp_ BK609.out) k_ hn_)), Or.elim hk_ (fun hs_ => ((Kd.R_types (Kd.R_types (Kd.R_types (HO_614002.out) BK609.out (by decide)) BK612.out (by decide)) BK613.out (by decide)).1 k_ hs_.symm).1.2) (fun hn_ => (Kd.freshB (g := gb612) (o := .cells #[.int .i64 t610, .int .i64 t611] 70 (0, 0)) (hp_ BK612.out) k_ hn_)), Or.elim hk_ (fun hs_ => ((Kd.R_types (Kd.R_types (Kd.R_types (HO_614002.out) BK609.out (by decide)) BK612.out (by decide)) BK613.out (by decide)).1 k_ hs_.symm).2) (fun hn_ => (Kd.freshB (g := gb613) (o := .cells #[.int .i64 2, .int .i64 2, .slice Ao104 x614002_1.length co104] 24 (0, 0)) (hp_ BK613.out) k_ hn_))⟩)) (below_size bp_))
             replace HO_614002 := Aside0.mk (Kd.R_below (rp_ HO_614002.out) hb)
             replace BK609 := Aside0.mk (blk_below (hp_ BK609.out) hb)
             replace BK612 := Aside0.mk (blk_below (hp_ BK612.out) hb)
             replace BK613 := Aside0.mk (blk_below (hp_ BK613.out) hb)
             replace HB := Aside0.mk (below_step bp_ hb)
             (try clear hb)
             (try clear hb2)
             (try clear hk)
             (try clear hi)
             (try clear ho0)
             obtain ⟨Ao106, co106, eo106⟩ := Kd.V_slice HO623.out
             (first | subst eo106 | (injection eo106 with f1_ f2_ f3_; have f4_ := f1_.symm; have f5_ := f3_.symm; clear f1_ f2_ f3_; subst f4_; subst f5_))
             refine hK.out _ _ ⟨(blk_cell BK613.out 0).trans rfl, (blk_cell BK613.out 1).trans rfl, (blk_cell BK613.out 2).trans rfl, (blk_cell BK612.out 0).trans rfl, (blk_cell BK612.out 1).trans rfl⟩ (fun hHeld => ?_)
             clear hK K
             refine norm_ (a' := ?_) ?_ ?_
             rotate_left
             · show Act.put _ (some 36) _ = _
               simp only [Act.put, List.setIfInBounds_toArray, List.set_cons_zero, List.set_cons_succ, i64_w, i32_w]
               rfl
             refine one_ (i := 3) (N := some 38) #[true, true, true, true, false] rfl rfl (by kernel_rfl) (by decide) (fun K hK => ?_)
             refine goes_ Try.func38 (by kernel_rfl) rfl #[.agg #[.int .i64 t619, .int .i64 t620, .slice Ao106 t621.length co106], .agg #[.int .i64 t610, .int .i64 t611]] (by rfl) rfl rfl (by (try simp only [List.map_toArray, List.map_cons, List.map_nil]); first | done | rfl | (simp only [List.length_drop, List.length_take]; rfl)) ?_
             with_reducible refine (rect_Fits.calls t619 t620 _ _ t621 t610 t611 true _ ?side1 ?side2 A29.out).mono ?_
             (case side1 => exact cp_ (Kd.V_reads' HO623.out).2.2)
             (case side2 => exact (Kd.V_reads' HO623.out).2.1)
             rintro e w107 ⟨rfl, hb⟩
             refine ⟨_, rfl, ?_⟩
             replace HO_614002 := Aside0.mk (Kd.R_below (rp_ HO_614002.out) hb)
             replace HO623 := Aside0.mk (Kd.V_below (vp_ HO623.out) hb)
             replace BK609 := Aside0.mk (blk_below (hp_ BK609.out) hb)
             replace BK612 := Aside0.mk (blk_below (hp_ BK612.out) hb)
             replace BK613 := Aside0.mk (blk_below (hp_ BK613.out) hb)
             replace HB := Aside0.mk (below_step bp_ hb)
             (try clear hb)
             (try clear hb2)
             (try clear hk)
             (try clear hi)
             refine hK.out _ _ ⟨(blk_cell BK613.out 0).trans rfl, (blk_cell BK613.out 1).trans rfl, (blk_cell BK613.out 2).trans rfl, (blk_cell BK612.out 0).trans rfl, (blk_cell BK612.out 1).trans rfl⟩ (fun hHeld => ?_)
             clear hK K
             refine norm_ (a' := ?_) ?_ ?_
             rotate_left
             · show Act.put _ (some 38) _ = _
               simp only [Act.put, List.setIfInBounds_toArray, List.set_cons_zero, List.set_cons_succ, i64_w, i32_w]
               rfl
             refine pure_ (i := 4) (N := some 12) (v := ?_) (a' := ?_) #[true, true, true, true, true] rfl rfl (by kernel_rfl) (fun _ _ _ h => h) (Or.inl ⟨by rfl, ?_⟩) ?_ ?_
             rotate_left
             · intro w'
               go_simp
               with_reducible rfl
             rotate_left
             · simp only [Act.put, List.setIfInBounds_toArray, List.set_cons_zero, List.set_cons_succ, i64_w, i32_w]
               rfl
             refine done_ (by kernel_rfl) ?_
             try go_wp2
             replace HO_614002 := Aside0.mk (Kd.R_drew HO_614002.out)
             replace BK609 := Aside0.mk (blk_drew BK609.out)
             replace BK613 := Aside0.mk (blk_drew BK613.out)
             replace HB := Aside0.mk (below_drew1 HB.out)
             refine start_ (n := 9) (S := fun w' => w'.cell? ⟨gb613, 0, none⟩ = some (.int .i64 2) ∧ w'.cell? ⟨gb613, 1, none⟩ = some (.int .i64 2) ∧ w'.cell? ⟨gb613, 2, none⟩ = some (.slice Ao104 x614002_1.length co104) ∧ w'.cell? ⟨gb609, 0, none⟩ = some (.int .i64 a0_0) ∧ w'.cell? ⟨gb609, 1, none⟩ = some (.int .i64 a0_1)) (ds := []) Fl238 (by kernel_rfl) rfl rfl ⟨(blk_cell BK613.out 0).trans rfl, (blk_cell BK613.out 1).trans rfl, (blk_cell BK613.out 2).trans rfl, (blk_cell BK609.out 0).trans rfl, (blk_cell BK609.out 1).trans rfl⟩ (fun hHeld => ?_); refine with_tabW chequerlaw03_RectFits.tab8 chequerlaw03_RectFits.bits8 (fun HT_ HW_ => ?_)
             generalize w107.drew = w108 at HO_614002 BK609 BK613 HB hHeld ⊢
             refine take_ (i := 0) (N := some 39) (v := ?_) (a' := ?_) Fl240 rfl rfl (take_ofW HT_.out HW_.out (by kernel_rfl)) (fun _ _ _ h => h) (Or.inl ⟨by rfl, ?_⟩) hHeld ?_ ?_
             rotate_left
             · rintro w' ⟨s0, s1, s2, s3, s4⟩
               go_simp
               with_reducible rfl
             rotate_left
             · simp only [Act.put, List.setIfInBounds_toArray, List.set_cons_zero, List.set_cons_succ, i64_w, i32_w]
               rfl
             refine take_ (i := 2) (N := some 41) (v := ?_) (a' := ?_) Fl241 rfl rfl (take_ofW HT_.out HW_.out (by kernel_rfl)) (fun _ _ _ h => h) (Or.inl ⟨by rfl, ?_⟩) hHeld ?_ ?_
             rotate_left
             · rintro w' ⟨s0, s1, s2, s3, s4⟩
               go_simp
               with_reducible rfl
             rotate_left
             · simp only [Act.put, List.setIfInBounds_toArray, List.set_cons_zero, List.set_cons_succ, i64_w, i32_w]
               rfl
             refine take_ (i := 4) (N := some 43) (v := ?_) (a' := ?_) Fl242 rfl rfl (take_ofW HT_.out HW_.out (by kernel_rfl)) (fun _ _ _ h => h) (Or.inl ⟨by rfl, ?_⟩) hHeld ?_ ?_
             rotate_left
             · rintro w' ⟨s0, s1, s2, s3, s4⟩
               go_simp
               with_reducible rfl
             rotate_left
             · simp only [Act.put, List.setIfInBounds_toArray, List.set_cons_zero, List.set_cons_succ, i64_w, i32_w]
               rfl
             refine take_ (i := 5) (N := some 44) (v := ?_) (a' := ?_) #[true, false, true, false, true, true, false, false, false] rfl rfl (take_ofW HT_.out HW_.out (by kernel_rfl)) (fun _ _ _ h => h) (Or.inl ⟨by rfl, ?_⟩) hHeld ?_ ?_
             rotate_left
             · rintro w' ⟨s0, s1, s2, s3, s4⟩
               go_simp
               with_reducible rfl
             rotate_left
             · simp only [Act.put, List.setIfInBounds_toArray, List.set_cons_zero, List.set_cons_succ, i64_w, i32_w]
               rfl
             refine one_ (i := 1) (N := some 40) #[true, true, true, false, true, true, false, false, false] rfl rfl (one_of HT_.out (by kernel_rfl)) (by decide) (fun K hK => ?_)
             refine goes_ Try.func13 (by kernel_rfl) rfl #[.agg #[.int .i64 2, .int .i64 2, .slice Ao104 x614002_1.length co104]] (by rfl) rfl rfl (by (try simp only [List.map_toArray, List.map_cons, List.map_nil]); first | done | rfl | (simp only [List.length_drop, List.length_take]; rfl)) ?_
             with_reducible refine (chequerlaw03_of.calls 2 2 (fun k_ => some k_ = (.slice Ao104 x614002_1.length co104 : Value).ownBlock) _ _ x614002_1 t625 t626 t627 _ ?side1 A30.out).mono ?_
             (case side1 => exact Kd.R_V (Kd.R_tight rfl (Kd.R_types (Kd.R_types (HO_614002.out) BK609.out (by decide)) BK613.out (by decide))))
             rintro e w109 ⟨v628, rfl, ho0, hb⟩
             refine ⟨_, rfl, ?_⟩
             have HO629 := Aside0.mk (Kd.V_lower (Kd.V_mono (ok' := fun k_ => k_ ≠ gb609 ∧ k_ ≠ gb613) ho0 (fun k_ hk_ => ⟨Or.elim hk_ (fun hs_ => ((Kd.R_types (Kd.R_types (HO_614002.out) BK609.out (by decide)) BK613.out (by decide)).1 k_ hs_.symm).1.2) (fun hn_ => (Kd.freshB (g := gb609) (o := .cells #[.int .i64 a0_0, .int .i64 a0_1] 70 (0, 0)) (hp_ BK609.out) k_ hn_)), Or.elim hk_ (fun hs_ => ((Kd.R_types (Kd.R_types (HO_614002.out) BK609.out (by decide)) BK613.out (by decide)).1 k_ hs_.symm).2) (fun hn_ => (Kd.freshB (g := gb613) (o := .cells #[.int .i64 2, .int .i64 2, .slice Ao104 x614002_1.length co104] 24 (0, 0)) (hp_ BK613.out) k_ hn_))⟩)) (below_size bp_))
             replace HO_614002 := Aside0.mk (Kd.R_below (rp_ HO_614002.out) hb)
             replace BK609 := Aside0.mk (blk_below (hp_ BK609.out) hb)
             replace BK613 := Aside0.mk (blk_below (hp_ BK613.out) hb)
             replace HB := Aside0.mk (below_step bp_ hb)
             (try clear hb)
             (try clear hb2)
             (try clear hk)
             (try clear hi)
             (try clear ho0)
             obtain ⟨Ao110, co110, eo110⟩ := Kd.V_slice HO629.out
             (first | subst eo110 | (injection eo110 with f1_ f2_ f3_; have f4_ := f1_.symm; have f5_ := f3_.symm; clear f1_ f2_ f3_; subst f4_; subst f5_))
             refine hK.out _ _ ⟨(blk_cell BK613.out 0).trans rfl, (blk_cell BK613.out 1).trans rfl, (blk_cell BK613.out 2).trans rfl, (blk_cell BK609.out 0).trans rfl, (blk_cell BK609.out 1).trans rfl⟩ (fun hHeld => ?_)
             clear hK K
             refine norm_ (a' := ?_) ?_ ?_
             rotate_left
             · show Act.put _ (some 40) _ = _
               simp only [Act.put, List.setIfInBounds_toArray, List.set_cons_zero, List.set_cons_succ, i64_w, i32_w]
               rfl
             refine one_ (i := 3) (N := some 42) #[true, true, true, true, true, true, false, false, false] rfl rfl (one_of HT_.out (by kernel_rfl)) (by decide) (fun K hK => ?_)
             refine goes_ Try.func38 (by kernel_rfl) rfl #[.agg #[.int .i64 t625, .int .i64 t626, .slice Ao110 t627.length co110], .agg #[.int .i64 a0_0, .int .i64 a0_1]] (by rfl) rfl rfl (by (try simp only [List.map_toArray, List.map_cons, List.map_nil]); first | done | rfl | (simp only [List.length_drop, List.length_take]; rfl)) ?_
             with_reducible refine (rect_Fits.calls t625 t626 _ _ t627 a0_0 a0_1 t630 _ ?side1 ?side2 A31.out).mono ?_
             (case side1 => exact cp_ (Kd.V_reads' HO629.out).2.2)
             (case side2 => exact (Kd.V_reads' HO629.out).2.1)
             rintro e w111 ⟨rfl, hb⟩
             refine ⟨_, rfl, ?_⟩
             replace HO_614002 := Aside0.mk (Kd.R_below (rp_ HO_614002.out) hb)
             replace HO629 := Aside0.mk (Kd.V_below (vp_ HO629.out) hb)
             replace BK609 := Aside0.mk (blk_below (hp_ BK609.out) hb)
             replace BK613 := Aside0.mk (blk_below (hp_ BK613.out) hb)
             replace HB := Aside0.mk (below_step bp_ hb)
             (try clear hb)
             (try clear hb2)
             (try clear hk)
             (try clear hi)
             refine hK.out _ _ ⟨(blk_cell BK613.out 0).trans rfl, (blk_cell BK613.out 1).trans rfl, (blk_cell BK613.out 2).trans rfl, (blk_cell BK609.out 0).trans rfl, (blk_cell BK609.out 1).trans rfl⟩ (fun hHeld => ?_)
             clear hK K
             refine norm_ (a' := ?_) ?_ ?_
             rotate_left
             · show Act.put _ (some 42) _ = _
               simp only [Act.put, List.setIfInBounds_toArray, List.set_cons_zero, List.set_cons_succ, i64_w, i32_w]
               rfl
             refine one_ (i := 6) (N := some 45) #[true, true, true, true, true, true, true, false, false] rfl rfl (one_of HT_.out (by kernel_rfl)) (by decide) (fun K hK => ?_)
             refine goes_ Try.func39 (by kernel_rfl) rfl #[.agg #[.int .i64 2, .int .i64 2, .slice Ao104 x614002_1.length co104], .agg #[.int .i64 a0_0, .int .i64 a0_1]] (by rfl) rfl rfl (by (try simp only [List.map_toArray, List.map_cons, List.map_nil]); first | done | rfl | (simp only [List.length_drop, List.length_take]; rfl)) ?_
             with_reducible refine (chequerref03_Fits.calls k1 2 2 _ _ x614002_1 a0_0 a0_1 t631 _ ?side1 ?side2 A32.out).mono ?_
             (case side1 => exact cp_ (Kd.R_reads' HO_614002.out).2.2)
             (case side2 => exact (Kd.R_reads' HO_614002.out).2.1)
             rintro e w112 ⟨rfl, hb⟩
             refine ⟨_, rfl, ?_⟩
             replace HO_614002 := Aside0.mk (Kd.R_below (rp_ HO_614002.out) hb)
             replace HO629 := Aside0.mk (Kd.V_below (vp_ HO629.out) hb)
             replace BK609 := Aside0.mk (blk_below (hp_ BK609.out) hb)
             replace BK613 := Aside0.mk (blk_below (hp_ BK613.out) hb)
             replace HB := Aside0.mk (below_step bp_ hb)
             (try clear hb)
             (try clear hb2)
             (try clear hk)
             (try clear hi)
             refine hK.out _ _ ⟨(blk_cell BK613.out 0).trans rfl, (blk_cell BK613.out 1).trans rfl, (blk_cell BK613.out 2).trans rfl, (blk_cell BK609.out 0).trans rfl, (blk_cell BK609.out 1).trans rfl⟩ (fun hHeld => ?_)
             clear hK K
             refine norm_ (a' := ?_) ?_ ?_
             rotate_left
             · show Act.put _ (some 45) _ = _
               simp only [Act.put, List.setIfInBounds_toArray, List.set_cons_zero, List.set_cons_succ, i64_w, i32_w]
               rfl
             refine pur_ (i := 7) (N := some 46) #[true, true, true, true, true, true, true, true, false] (any_of HT_.out (by kernel_rfl)) ?_
             refine pur_ (i := 8) (N := some 13) #[true, true, true, true, true, true, true, true, true] (any_of HT_.out (by kernel_rfl)) ?_
             refine done_ (done_of HT_.out (by kernel_rfl)) ?_
             try go_wp2
             replace HO_614002 := Aside0.mk (Kd.R_drew HO_614002.out)
             replace BK613 := Aside0.mk (blk_drew BK613.out)
             replace HB := Aside0.mk (below_drew1 HB.out)
             refine start_ (n := 7) (S := fun w' => w'.cell? ⟨gb613, 0, none⟩ = some (.int .i64 2) ∧ w'.cell? ⟨gb613, 1, none⟩ = some (.int .i64 2) ∧ w'.cell? ⟨gb613, 2, none⟩ = some (.slice Ao104 x614002_1.length co104)) (ds := [6]) #[false, false, false, false, false, false, false] (by kernel_rfl) rfl rfl ⟨(blk_cell BK613.out 0).trans rfl, (blk_cell BK613.out 1).trans rfl, (blk_cell BK613.out 2).trans rfl⟩ (fun hHeld => ?_)
             generalize w112.drew = w113 at HO_614002 BK613 HB hHeld ⊢
             refine pure_ (i := 0) (N := some 47) (v := ?_) (a' := ?_) #[true, false, false, false, false, false, false] rfl rfl (by kernel_rfl) (fun _ _ _ h => h) (Or.inl ⟨by rfl, ?_⟩) ?_ ?_
             rotate_left
             · intro w'
               go_simp
               with_reducible rfl
             rotate_left
             · simp only [Act.put, List.setIfInBounds_toArray, List.set_cons_zero, List.set_cons_succ, i64_w, i32_w]
               rfl
             refine pure_ (i := 2) (N := some 49) (v := ?_) (a' := ?_) #[true, false, true, false, false, false, false] rfl rfl (by kernel_rfl) (fun _ _ _ h => h) (Or.inl ⟨by rfl, ?_⟩) ?_ ?_
             rotate_left
             · intro w'
               go_simp
               with_reducible rfl
             rotate_left
             · simp only [Act.put, List.setIfInBounds_toArray, List.set_cons_zero, List.set_cons_succ, i64_w, i32_w]
               rfl
             refine pure_ (i := 4) (N := some 51) (v := ?_) (a' := ?_) #[true, false, true, false, true, false, false] rfl rfl (by kernel_rfl) (fun _ _ _ h => h) (Or.inl ⟨by rfl, ?_⟩) ?_ ?_
             rotate_left
             · intro w'
               go_simp
               with_reducible rfl
             rotate_left
             · simp only [Act.put, List.setIfInBounds_toArray, List.set_cons_zero, List.set_cons_succ, i64_w, i32_w]
               rfl
             refine take_ (i := 1) (N := some 48) (v := ?_) (a' := ?_) #[true, true, true, false, true, false, false] rfl rfl (by kernel_rfl) (fun _ _ _ h => h) (Or.inl ⟨by rfl, ?_⟩) hHeld ?_ ?_
             rotate_left
             · rintro w' ⟨s0, s1, s2⟩
               go_simp
               with_reducible rfl
             rotate_left
             · simp only [Act.put, List.setIfInBounds_toArray, List.set_cons_zero, List.set_cons_succ, i64_w, i32_w]
               rfl
             refine one_ (i := 3) (N := some 50) #[true, true, true, true, true, false, false] rfl rfl (by kernel_rfl) (by decide) (fun K hK => ?_)
             refine goes_ Try.func11 (by kernel_rfl) rfl #[.int .i64 a2, .int .i64 4] (by rfl) rfl rfl (by (try simp only [List.map_toArray, List.map_cons, List.map_nil]); first | done | rfl | (simp only [List.length_drop, List.length_take]; rfl)) ?_
             with_reducible refine (chequerref01_Around.calls a2 4 t632 _ A33.out).mono ?_
             rintro e w' ⟨rfl, ⟨nd, rfl⟩⟩
             refine ⟨_, rfl, ?_⟩
             have p36 : 0 ≤ (t632 : Int) := of_decide_eq_true (by first | (with_reducible assumption) | assumption)
             have q36 : (t632 : Int) < ((x614002_1.length : Int) : Int) := of_decide_eq_true (by first | (with_reducible assumption) | assumption)
             obtain ⟨go36, co36, eo36, gb36, gl36, cl36, HG36⟩ := Kd.R_form HO_614002.out (by omega)
             (first | cases eo36 | (injection eo36 with ea_ en_ ec_; (first | subst ea_ | (injection ea_ with ea_; subst ea_)); subst ec_; clear en_))
             have GB36 := Aside0.mk gb36
             have GG36 := Aside0.mk HG36
             clear gb36 gl36 HG36
             obtain ⟨hx36_0, hf36_0⟩ := Kd.R_celln 0 HO_614002.out (t632 : Int) p36 q36
             replace p36 := eq_true p36
             replace q36 := eq_true q36
             have HP114 := Kd.R_putn HO_614002.out (t632 : Int) a3
             rw [← Ny633.out] at HP114
             have HQ114 := Aside0.mk HP114
             clear HP114
             refine hK.out _ _ ⟨(blk_cell BK613.out 0).trans rfl, (blk_cell BK613.out 1).trans rfl, (blk_cell BK613.out 2).trans rfl⟩ (fun hHeld => ?_)
             clear hK K
             refine norm_ (a' := ?_) ?_ ?_
             rotate_left
             · show Act.put _ (some 50) _ = _
               simp only [Act.put, List.setIfInBounds_toArray, List.set_cons_zero, List.set_cons_succ, i64_w, i32_w]
               rfl
             refine pure_ (i := 5) (N := some 52) (v := ?_) (a' := ?_) #[true, true, true, true, true, true, false] rfl rfl (by kernel_rfl) (fun _ _ _ h => h) (Or.inl ⟨by rfl, ?_⟩) ?_ ?_
             rotate_left
             · intro w'
               go_simp
               with_reducible rfl
             rotate_left
             · simp only [Act.put, List.setIfInBounds_toArray, List.set_cons_zero, List.set_cons_succ, i64_w, i32_w]
               rfl
             refine last_ (i := 6) (N := none) #[true, true, true, true, true, true, true] rfl rfl (by kernel_rfl) (by decide) (fun K hK => ?_)
             refine skip_ (w1 := ?_) (by rfl) rfl ?_ ?_
             rotate_left
             · go_simp
               rfl
             refine hK.out _ _ ?_
             clear hK K
             refine done_ (by kernel_rfl) ?_
             try go_wp2
             (try rw [show ∀ (w : World) (n : Nat) (a : Addr) (v : Value), (w.drewN n).setCell a v = (w.setCell a v).drewN n from fun _ _ _ _ => rfl])
             have n0_ : Aside0 (Kd.R (Kd.int .u64) 46 (w113.setCell ⟨go36, (t632 : Int).toNat, none⟩ (.int .u64 a3)) w.heap.size (fun _ => True) (.slice (some ⟨go36, 0, none⟩) x614002_1.length co104) y633) := ⟨rp_ HQ114.out⟩
             have n1_ : Aside0 ((w113.setCell ⟨go36, (t632 : Int).toNat, none⟩ (.int .u64 a3)).heap[gb613]? = some (.cells #[.int .i64 2, .int .i64 2, .slice (some ⟨go36, 0, none⟩) x614002_1.length co104] 24 (0, 0))) := ⟨by (with_reducible repeat (first | refine blk_drewN ?_ _ | refine blk_drew ?_ | refine blk_alloc ?_ _)); refine blk_far ?_ (by have h_ := Kd.R_ne HO_614002.out BK613.out (by decide); intro e_; exact h_ (by rw [e_]; rfl)) _; (with_reducible repeat (first | refine blk_drewN ?_ _ | refine blk_drew ?_ | refine blk_alloc ?_ _)); exact BK613.out⟩
             have n2_ : Aside0 (Below w.heap.size w (w113.setCell ⟨go36, (t632 : Int).toNat, none⟩ (.int .u64 a3))) := ⟨bp_⟩
             (try clear HO_614002)
             (try clear BK613)
             (try clear HB)
             generalize (w113.setCell ⟨go36, (t632 : Int).toNat, none⟩ (.int .u64 a3)) = w115 at n0_ n1_ n2_ ⊢
             have HO_614002 := n0_
             have BK613 := n1_
             have HB := n2_
             clear n0_ n1_ n2_
             (try (rw [drewN_self w115]; generalize hq_ : World.drewN w115 _ = w115; have n0_ := Aside0.mk (qrp_ hq_ HO_614002.out); have n1_ := Aside0.mk (qhp_ hq_ BK613.out); have n2_ : Aside0 (Below w.heap.size w w115) := ⟨qbp_ hq_⟩; clear HO_614002 BK613 HB hq_; have HO_614002 := n0_; have BK613 := n1_; have HB := n2_; clear n0_ n1_ n2_))
             replace HO_614002 := Aside0.mk (Kd.R_drew HO_614002.out)
             replace BK613 := Aside0.mk (blk_drew BK613.out)
             replace HB := Aside0.mk (below_drew1 HB.out)
             refine start_ (n := 24) (S := fun w' => True) (ds := []) Fl237 (by kernel_rfl) rfl rfl trivial (fun hHeld => ?_); refine with_tabW chequerlaw03_RectFits.tab10 chequerlaw03_RectFits.bits10 (fun HT_ HW_ => ?_)
             generalize w115.drew = w116 at HO_614002 BK613 HB HQ114 hHeld ⊢
             refine pur_ (i := 0) (N := some 53) Fl239 (any_of HT_.out (by kernel_rfl)) ?_
             refine pur_ (i := 1) (N := some 54) Fl243 (any_of HT_.out (by kernel_rfl)) ?_
             refine pur_ (i := 2) (N := some 55) Fl244 (any_of HT_.out (by kernel_rfl)) ?_
             refine pur_ (i := 3) (N := some 56) Fl245 (any_of HT_.out (by kernel_rfl)) ?_
             refine pur_ (i := 4) (N := some 57) Fl246 (any_of HT_.out (by kernel_rfl)) ?_
             refine pun_ (i := 5) (N := some 58) Fl247 (any_of HT_.out (by kernel_rfl)) ?_
             refine pun_ (i := 6) (N := some 59) Fl266 (any_of HT_.out (by kernel_rfl)) ?_
             refine pun_ (i := 7) (N := some 60) Fl267 (any_of HT_.out (by kernel_rfl)) ?_
             refine pun_ (i := 8) (N := some 61) Fl268 (any_of HT_.out (by kernel_rfl)) ?_
             refine pun_ (i := 9) (N := some 62) Fl269 (any_of HT_.out (by kernel_rfl)) ?_
             refine pun_ (i := 10) (N := some 63) Fl248 (any_of HT_.out (by kernel_rfl)) ?_
             refine pun_ (i := 11) (N := some 64) Fl249 (any_of HT_.out (by kernel_rfl)) ?_
             refine pun_ (i := 12) (N := some 65) Fl250 (any_of HT_.out (by kernel_rfl)) ?_
             refine pur_ (i := 13) (N := some 66) Fl251 (any_of HT_.out (by kernel_rfl)) ?_
             refine pur_ (i := 14) (N := some 67) Fl252 (any_of HT_.out (by kernel_rfl)) ?_
             refine pun_ (i := 15) (N := some 68) Fl253 (any_of HT_.out (by kernel_rfl)) ?_
             refine pun_ (i := 16) (N := some 69) Fl254 (any_of HT_.out (by kernel_rfl)) ?_
             refine pun_ (i := 17) (N := some 70) Fl255 (any_of HT_.out (by kernel_rfl)) ?_
             refine pun_ (i := 18) (N := some 71) Fl256 (any_of HT_.out (by kernel_rfl)) ?_
             refine pur_ (i := 19) (N := some 72) Fl257 (any_of HT_.out (by kernel_rfl)) ?_
             refine pur_ (i := 20) (N := some 73) Fl258 (any_of HT_.out (by kernel_rfl)) ?_
             refine pun_ (i := 21) (N := some 74) Fl259 (any_of HT_.out (by kernel_rfl)) ?_
             refine pur_ (i := 22) (N := some 75) Fl260 (any_of HT_.out (by kernel_rfl)) ?_
             refine pur_ (i := 23) (N := some 8) Fl261 (any_of HT_.out (by kernel_rfl)) ?_
             refine done_ (done_of HT_.out (by kernel_rfl)) ?_
             try go_wp2
             go_ret
             exact ⟨by first | rfl | (simp [errW_none, errW_some] <;> rfl) | (simp [*, errW_none, errW_some] <;> rfl), bp_⟩
         · replace c37 := Bool.eq_false_iff.mpr c37
           subst c37
           have H1 : (some false) = some r := by rw [if_neg (show ¬ (false = true) by decide)] at H; exact H
           clear H
           have H := H1
           clear H1
           obtain rfl := Option.some.inj H
           try go_wp2
           (try (rw [drewN_self wr]; generalize hq_ : World.drewN wr _ = wr; have n0_ := Aside0.mk (qrp_ hq_ HO_614002.out); have n1_ := Aside0.mk (qhp_ hq_ BK609.out); have n2_ := Aside0.mk (qhp_ hq_ BK612.out); have n3_ := Aside0.mk (qhp_ hq_ BK613.out); have n4_ : Aside0 (Below w.heap.size w wr) := ⟨qbp_ hq_⟩; clear HO_614002 BK609 BK612 BK613 HB hq_; have HO_614002 := n0_; have BK609 := n1_; have BK612 := n2_; have BK613 := n3_; have HB := n4_; clear n0_ n1_ n2_ n3_ n4_))
           replace HO_614002 := Aside0.mk (Kd.R_drew HO_614002.out)
           replace BK609 := Aside0.mk (blk_drew BK609.out)
           replace BK612 := Aside0.mk (blk_drew BK612.out)
           replace BK613 := Aside0.mk (blk_drew BK613.out)
           replace HB := Aside0.mk (below_drew1 HB.out)
           obtain ⟨Ao118, co118, eo118⟩ := Kd.R_slice HO_614002.out
           (first | subst eo118 | (injection eo118 with f1_ f2_ f3_; have f4_ := f1_.symm; have f5_ := f3_.symm; clear f1_ f2_ f3_; subst f4_; subst f5_))
           refine start_ (n := 5) (S := fun w' => w'.cell? ⟨gb613, 0, none⟩ = some (.int .i64 2) ∧ w'.cell? ⟨gb613, 1, none⟩ = some (.int .i64 2) ∧ w'.cell? ⟨gb613, 2, none⟩ = some (.slice Ao118 x614002_1.length co118) ∧ w'.cell? ⟨gb612, 0, none⟩ = some (.int .i64 t610) ∧ w'.cell? ⟨gb612, 1, none⟩ = some (.int .i64 t611)) (ds := []) #[false, false, false, false, false] (by kernel_rfl) rfl rfl ⟨(blk_cell BK613.out 0).trans rfl, (blk_cell BK613.out 1).trans rfl, (blk_cell BK613.out 2).trans rfl, (blk_cell BK612.out 0).trans rfl, (blk_cell BK612.out 1).trans rfl⟩ (fun hHeld => ?_)
           generalize wr.drew = w117 at HO_614002 BK609 BK612 BK613 HB hHeld ⊢
           refine take_ (i := 0) (N := some 35) (v := ?_) (a' := ?_) #[true, false, false, false, false] rfl rfl (by kernel_rfl) (fun _ _ _ h => h) (Or.inl ⟨by rfl, ?_⟩) hHeld ?_ ?_
           rotate_left
           · rintro w' ⟨s0, s1, s2, s3, s4⟩
             go_simp
             with_reducible rfl
           rotate_left
           · simp only [Act.put, List.setIfInBounds_toArray, List.set_cons_zero, List.set_cons_succ, i64_w, i32_w]
             rfl
           refine take_ (i := 2) (N := some 37) (v := ?_) (a' := ?_) #[true, false, true, false, false] rfl rfl (by kernel_rfl) (fun _ _ _ h => h) (Or.inl ⟨by rfl, ?_⟩) hHeld ?_ ?_
           rotate_left
           · rintro w' ⟨s0, s1, s2, s3, s4⟩
             go_simp
             with_reducible rfl
           rotate_left
           · simp only [Act.put, List.setIfInBounds_toArray, List.set_cons_zero, List.set_cons_succ, i64_w, i32_w]
             rfl
           refine one_ (i := 1) (N := some 36) #[true, true, true, false, false] rfl rfl (by kernel_rfl) (by decide) (fun K hK => ?_)
           refine goes_ Try.func13 (by kernel_rfl) rfl #[.agg #[.int .i64 2, .int .i64 2, .slice Ao118 x614002_1.length co118]] (by rfl) rfl rfl (by (try simp only [List.map_toArray, List.map_cons, List.map_nil]); first | done | rfl | (simp only [List.length_drop, List.length_take]; rfl)) ?_
           with_reducible refine (chequerlaw03_of.calls 2 2 (fun k_ => some k_ = (.slice Ao118 x614002_1.length co118 : Value).ownBlock) _ _ x614002_1 t619 t620 t621 _ ?side1 A28.out).mono ?_
           (case side1 => exact Kd.R_V (Kd.R_tight rfl (Kd.R_types (Kd.R_types (Kd.R_types (HO_614002.out) BK609.out (by decide)) BK612.out (by decide)) BK613.out (by decide))))
           rintro e w119 ⟨v622, rfl, ho0, hb⟩
           refine ⟨_, rfl, ?_⟩
           have HO623 := Aside0.mk (Kd.V_lower (Kd.V_mono (ok' := fun k_ => k_ ≠ gb609 ∧ k_ ≠ gb612 ∧ k_ ≠ gb613) ho0 (fun k_ hk_ => ⟨Or.elim hk_ (fun hs_ => ((Kd.R_types (Kd.R_types (Kd.R_types (HO_614002.out) BK609.out (by decide)) BK612.out (by decide)) BK613.out (by decide)).1 k_ hs_.symm).1.1.2) (fun hn_ => (Kd.freshB (g := gb609) (o := .cells #[.int .i64 a0_0, .int .i64 a0_1] 70 (0, 0)) (hp_ BK609.out) k_ hn_)), Or.elim hk_ (fun hs_ => ((Kd.R_types (Kd.R_types (Kd.R_types (HO_614002.out) BK609.out (by decide)) BK612.out (by decide)) BK613.out (by decide)).1 k_ hs_.symm).1.2) (fun hn_ => (Kd.freshB (g := gb612) (o := .cells #[.int .i64 t610, .int .i64 t611] 70 (0, 0)) (hp_ BK612.out) k_ hn_)), Or.elim hk_ (fun hs_ => ((Kd.R_types (Kd.R_types (Kd.R_types (HO_614002.out) BK609.out (by decide)) BK612.out (by decide)) BK613.out (by decide)).1 k_ hs_.symm).2) (fun hn_ => (Kd.freshB (g := gb613) (o := .cells #[.int .i64 2, .int .i64 2, .slice Ao118 x614002_1.length co118] 24 (0, 0)) (hp_ BK613.out) k_ hn_))⟩)) (below_size bp_))
           replace HO_614002 := Aside0.mk (Kd.R_below (rp_ HO_614002.out) hb)
           replace BK609 := Aside0.mk (blk_below (hp_ BK609.out) hb)
           replace BK612 := Aside0.mk (blk_below (hp_ BK612.out) hb)
           replace BK613 := Aside0.mk (blk_below (hp_ BK613.out) hb)
           replace HB := Aside0.mk (below_step bp_ hb)
           (try clear hb)
           (try clear hb2)
           (try clear hk)
           (try clear hi)
           (try clear ho0)
           obtain ⟨Ao120, co120, eo120⟩ := Kd.V_slice HO623.out
           (first | subst eo120 | (injection eo120 with f1_ f2_ f3_; have f4_ := f1_.symm; have f5_ := f3_.symm; clear f1_ f2_ f3_; subst f4_; subst f5_))
           refine hK.out _ _ ⟨(blk_cell BK613.out 0).trans rfl, (blk_cell BK613.out 1).trans rfl, (blk_cell BK613.out 2).trans rfl, (blk_cell BK612.out 0).trans rfl, (blk_cell BK612.out 1).trans rfl⟩ (fun hHeld => ?_)
           clear hK K
           refine norm_ (a' := ?_) ?_ ?_
           rotate_left
           · show Act.put _ (some 36) _ = _
             simp only [Act.put, List.setIfInBounds_toArray, List.set_cons_zero, List.set_cons_succ, i64_w, i32_w]
             rfl
           refine one_ (i := 3) (N := some 38) #[true, true, true, true, false] rfl rfl (by kernel_rfl) (by decide) (fun K hK => ?_)
           refine goes_ Try.func38 (by kernel_rfl) rfl #[.agg #[.int .i64 t619, .int .i64 t620, .slice Ao120 t621.length co120], .agg #[.int .i64 t610, .int .i64 t611]] (by rfl) rfl rfl (by (try simp only [List.map_toArray, List.map_cons, List.map_nil]); first | done | rfl | (simp only [List.length_drop, List.length_take]; rfl)) ?_
           with_reducible refine (rect_Fits.calls t619 t620 _ _ t621 t610 t611 false _ ?side1 ?side2 A29.out).mono ?_
           (case side1 => exact cp_ (Kd.V_reads' HO623.out).2.2)
           (case side2 => exact (Kd.V_reads' HO623.out).2.1)
           rintro e w121 ⟨rfl, hb⟩
           refine ⟨_, rfl, ?_⟩
           replace HO_614002 := Aside0.mk (Kd.R_below (rp_ HO_614002.out) hb)
           replace HO623 := Aside0.mk (Kd.V_below (vp_ HO623.out) hb)
           replace BK609 := Aside0.mk (blk_below (hp_ BK609.out) hb)
           replace BK612 := Aside0.mk (blk_below (hp_ BK612.out) hb)
           replace BK613 := Aside0.mk (blk_below (hp_ BK613.out) hb)
           replace HB := Aside0.mk (below_step bp_ hb)
           (try clear hb)
           (try clear hb2)
           (try clear hk)
           (try clear hi)
           refine hK.out _ _ ⟨(blk_cell BK613.out 0).trans rfl, (blk_cell BK613.out 1).trans rfl, (blk_cell BK613.out 2).trans rfl, (blk_cell BK612.out 0).trans rfl, (blk_cell BK612.out 1).trans rfl⟩ (fun hHeld => ?_)
           clear hK K
           refine norm_ (a' := ?_) ?_ ?_
           rotate_left
           · show Act.put _ (some 38) _ = _
             simp only [Act.put, List.setIfInBounds_toArray, List.set_cons_zero, List.set_cons_succ, i64_w, i32_w]
             rfl
           refine pure_ (i := 4) (N := some 12) (v := ?_) (a' := ?_) #[true, true, true, true, true] rfl rfl (by kernel_rfl) (fun _ _ _ h => h) (Or.inl ⟨by rfl, ?_⟩) ?_ ?_
           rotate_left
           · intro w'
             go_simp
             with_reducible rfl
           rotate_left
           · simp only [Act.put, List.setIfInBounds_toArray, List.set_cons_zero, List.set_cons_succ, i64_w, i32_w]
             rfl
           refine done_ (by kernel_rfl) ?_
           try go_wp2
           replace HO_614002 := Aside0.mk (Kd.R_drew HO_614002.out)
           replace BK609 := Aside0.mk (blk_drew BK609.out)
           replace BK613 := Aside0.mk (blk_drew BK613.out)
           replace HB := Aside0.mk (below_drew1 HB.out)
           refine start_ (n := 9) (S := fun w' => w'.cell? ⟨gb613, 0, none⟩ = some (.int .i64 2) ∧ w'.cell? ⟨gb613, 1, none⟩ = some (.int .i64 2) ∧ w'.cell? ⟨gb613, 2, none⟩ = some (.slice Ao118 x614002_1.length co118) ∧ w'.cell? ⟨gb609, 0, none⟩ = some (.int .i64 a0_0) ∧ w'.cell? ⟨gb609, 1, none⟩ = some (.int .i64 a0_1)) (ds := []) Fl238 (by kernel_rfl) rfl rfl ⟨(blk_cell BK613.out 0).trans rfl, (blk_cell BK613.out 1).trans rfl, (blk_cell BK613.out 2).trans rfl, (blk_cell BK609.out 0).trans rfl, (blk_cell BK609.out 1).trans rfl⟩ (fun hHeld => ?_); refine with_tabW chequerlaw03_RectFits.tab8 chequerlaw03_RectFits.bits8 (fun HT_ HW_ => ?_)
           generalize w121.drew = w122 at HO_614002 BK609 BK613 HB hHeld ⊢
           refine take_ (i := 0) (N := some 39) (v := ?_) (a' := ?_) Fl240 rfl rfl (take_ofW HT_.out HW_.out (by kernel_rfl)) (fun _ _ _ h => h) (Or.inl ⟨by rfl, ?_⟩) hHeld ?_ ?_
           rotate_left
           · rintro w' ⟨s0, s1, s2, s3, s4⟩
             go_simp
             with_reducible rfl
           rotate_left
           · simp only [Act.put, List.setIfInBounds_toArray, List.set_cons_zero, List.set_cons_succ, i64_w, i32_w]
             rfl
           refine take_ (i := 2) (N := some 41) (v := ?_) (a' := ?_) Fl241 rfl rfl (take_ofW HT_.out HW_.out (by kernel_rfl)) (fun _ _ _ h => h) (Or.inl ⟨by rfl, ?_⟩) hHeld ?_ ?_
           rotate_left
           · rintro w' ⟨s0, s1, s2, s3, s4⟩
             go_simp
             with_reducible rfl
           rotate_left
           · simp only [Act.put, List.setIfInBounds_toArray, List.set_cons_zero, List.set_cons_succ, i64_w, i32_w]
             rfl
           refine take_ (i := 4) (N := some 43) (v := ?_) (a' := ?_) Fl242 rfl rfl (take_ofW HT_.out HW_.out (by kernel_rfl)) (fun _ _ _ h => h) (Or.inl ⟨by rfl, ?_⟩) hHeld ?_ ?_
           rotate_left
           · rintro w' ⟨s0, s1, s2, s3, s4⟩
             go_simp
             with_reducible rfl
           rotate_left
           · simp only [Act.put, List.setIfInBounds_toArray, List.set_cons_zero, List.set_cons_succ, i64_w, i32_w]
             rfl
           refine take_ (i := 5) (N := some 44) (v := ?_) (a' := ?_) #[true, false, true, false, true, true, false, false, false] rfl rfl (take_ofW HT_.out HW_.out (by kernel_rfl)) (fun _ _ _ h => h) (Or.inl ⟨by rfl, ?_⟩) hHeld ?_ ?_
           rotate_left
           · rintro w' ⟨s0, s1, s2, s3, s4⟩
             go_simp
             with_reducible rfl
           rotate_left
           · simp only [Act.put, List.setIfInBounds_toArray, List.set_cons_zero, List.set_cons_succ, i64_w, i32_w]
             rfl
           refine one_ (i := 1) (N := some 40) #[true, true, true, false, true, true, false, false, false] rfl rfl (one_of HT_.out (by kernel_rfl)) (by decide) (fun K hK => ?_)
           refine goes_ Try.func13 (by kernel_rfl) rfl #[.agg #[.int .i64 2, .int .i64 2, .slice Ao118 x614002_1.length co118]] (by rfl) rfl rfl (by (try simp only [List.map_toArray, List.map_cons, List.map_nil]); first | done | rfl | (simp only [List.length_drop, List.length_take]; rfl)) ?_
           with_reducible refine (chequerlaw03_of.calls 2 2 (fun k_ => some k_ = (.slice Ao118 x614002_1.length co118 : Value).ownBlock) _ _ x614002_1 t625 t626 t627 _ ?side1 A30.out).mono ?_
           (case side1 => exact Kd.R_V (Kd.R_tight rfl (Kd.R_types (Kd.R_types (HO_614002.out) BK609.out (by decide)) BK613.out (by decide))))
           rintro e w123 ⟨v628, rfl, ho0, hb⟩
           refine ⟨_, rfl, ?_⟩
           have HO629 := Aside0.mk (Kd.V_lower (Kd.V_mono (ok' := fun k_ => k_ ≠ gb609 ∧ k_ ≠ gb613) ho0 (fun k_ hk_ => ⟨Or.elim hk_ (fun hs_ => ((Kd.R_types (Kd.R_types (HO_614002.out) BK609.out (by decide)) BK613.out (by decide)).1 k_ hs_.symm).1.2) (fun hn_ => (Kd.freshB (g := gb609) (o := .cells #[.int .i64 a0_0, .int .i64 a0_1] 70 (0, 0)) (hp_ BK609.out) k_ hn_)), Or.elim hk_ (fun hs_ => ((Kd.R_types (Kd.R_types (HO_614002.out) BK609.out (by decide)) BK613.out (by decide)).1 k_ hs_.symm).2) (fun hn_ => (Kd.freshB (g := gb613) (o := .cells #[.int .i64 2, .int .i64 2, .slice Ao118 x614002_1.length co118] 24 (0, 0)) (hp_ BK613.out) k_ hn_))⟩)) (below_size bp_))
           replace HO_614002 := Aside0.mk (Kd.R_below (rp_ HO_614002.out) hb)
           replace BK609 := Aside0.mk (blk_below (hp_ BK609.out) hb)
           replace BK613 := Aside0.mk (blk_below (hp_ BK613.out) hb)
           replace HB := Aside0.mk (below_step bp_ hb)
           (try clear hb)
           (try clear hb2)
           (try clear hk)
           (try clear hi)
           (try clear ho0)
           obtain ⟨Ao124, co124, eo124⟩ := Kd.V_slice HO629.out
           (first | subst eo124 | (injection eo124 with f1_ f2_ f3_; have f4_ := f1_.symm; have f5_ := f3_.symm; clear f1_ f2_ f3_; subst f4_; subst f5_))
           refine hK.out _ _ ⟨(blk_cell BK613.out 0).trans rfl, (blk_cell BK613.out 1).trans rfl, (blk_cell BK613.out 2).trans rfl, (blk_cell BK609.out 0).trans rfl, (blk_cell BK609.out 1).trans rfl⟩ (fun hHeld => ?_)
           clear hK K
           refine norm_ (a' := ?_) ?_ ?_
           rotate_left
           · show Act.put _ (some 40) _ = _
             simp only [Act.put, List.setIfInBounds_toArray, List.set_cons_zero, List.set_cons_succ, i64_w, i32_w]
             rfl
           refine one_ (i := 3) (N := some 42) #[true, true, true, true, true, true, false, false, false] rfl rfl (one_of HT_.out (by kernel_rfl)) (by decide) (fun K hK => ?_)
           refine goes_ Try.func38 (by kernel_rfl) rfl #[.agg #[.int .i64 t625, .int .i64 t626, .slice Ao124 t627.length co124], .agg #[.int .i64 a0_0, .int .i64 a0_1]] (by rfl) rfl rfl (by (try simp only [List.map_toArray, List.map_cons, List.map_nil]); first | done | rfl | (simp only [List.length_drop, List.length_take]; rfl)) ?_
           with_reducible refine (rect_Fits.calls t625 t626 _ _ t627 a0_0 a0_1 t630 _ ?side1 ?side2 A31.out).mono ?_
           (case side1 => exact cp_ (Kd.V_reads' HO629.out).2.2)
           (case side2 => exact (Kd.V_reads' HO629.out).2.1)
           rintro e w125 ⟨rfl, hb⟩
           refine ⟨_, rfl, ?_⟩
           replace HO_614002 := Aside0.mk (Kd.R_below (rp_ HO_614002.out) hb)
           replace HO629 := Aside0.mk (Kd.V_below (vp_ HO629.out) hb)
           replace BK609 := Aside0.mk (blk_below (hp_ BK609.out) hb)
           replace BK613 := Aside0.mk (blk_below (hp_ BK613.out) hb)
           replace HB := Aside0.mk (below_step bp_ hb)
           (try clear hb)
           (try clear hb2)
           (try clear hk)
           (try clear hi)
           refine hK.out _ _ ⟨(blk_cell BK613.out 0).trans rfl, (blk_cell BK613.out 1).trans rfl, (blk_cell BK613.out 2).trans rfl, (blk_cell BK609.out 0).trans rfl, (blk_cell BK609.out 1).trans rfl⟩ (fun hHeld => ?_)
           clear hK K
           refine norm_ (a' := ?_) ?_ ?_
           rotate_left
           · show Act.put _ (some 42) _ = _
             simp only [Act.put, List.setIfInBounds_toArray, List.set_cons_zero, List.set_cons_succ, i64_w, i32_w]
             rfl
           refine one_ (i := 6) (N := some 45) #[true, true, true, true, true, true, true, false, false] rfl rfl (one_of HT_.out (by kernel_rfl)) (by decide) (fun K hK => ?_)
           refine goes_ Try.func39 (by kernel_rfl) rfl #[.agg #[.int .i64 2, .int .i64 2, .slice Ao118 x614002_1.length co118], .agg #[.int .i64 a0_0, .int .i64 a0_1]] (by rfl) rfl rfl (by (try simp only [List.map_toArray, List.map_cons, List.map_nil]); first | done | rfl | (simp only [List.length_drop, List.length_take]; rfl)) ?_
           with_reducible refine (chequerref03_Fits.calls k1 2 2 _ _ x614002_1 a0_0 a0_1 t631 _ ?side1 ?side2 A32.out).mono ?_
           (case side1 => exact cp_ (Kd.R_reads' HO_614002.out).2.2)
           (case side2 => exact (Kd.R_reads' HO_614002.out).2.1)
           rintro e w126 ⟨rfl, hb⟩
           refine ⟨_, rfl, ?_⟩
           replace HO_614002 := Aside0.mk (Kd.R_below (rp_ HO_614002.out) hb)
           replace HO629 := Aside0.mk (Kd.V_below (vp_ HO629.out) hb)
           replace BK609 := Aside0.mk (blk_below (hp_ BK609.out) hb)
           replace BK613 := Aside0.mk (blk_below (hp_ BK613.out) hb)
           replace HB := Aside0.mk (below_step bp_ hb)
           (try clear hb)
           (try clear hb2)
           (try clear hk)
           (try clear hi)
           refine hK.out _ _ ⟨(blk_cell BK613.out 0).trans rfl, (blk_cell BK613.out 1).trans rfl, (blk_cell BK613.out 2).trans rfl, (blk_cell BK609.out 0).trans rfl, (blk_cell BK609.out 1).trans rfl⟩ (fun hHeld => ?_)
           clear hK K
           refine norm_ (a' := ?_) ?_ ?_
           rotate_left
           · show Act.put _ (some 45) _ = _
             simp only [Act.put, List.setIfInBounds_toArray, List.set_cons_zero, List.set_cons_succ, i64_w, i32_w]
             rfl
           refine pur_ (i := 7) (N := some 46) #[true, true, true, true, true, true, true, true, false] (any_of HT_.out (by kernel_rfl)) ?_
           refine pur_ (i := 8) (N := some 13) #[true, true, true, true, true, true, true, true, true] (any_of HT_.out (by kernel_rfl)) ?_
           refine done_ (done_of HT_.out (by kernel_rfl)) ?_
           try go_wp2
           replace HO_614002 := Aside0.mk (Kd.R_drew HO_614002.out)
           replace BK613 := Aside0.mk (blk_drew BK613.out)
           replace HB := Aside0.mk (below_drew1 HB.out)
           refine start_ (n := 7) (S := fun w' => w'.cell? ⟨gb613, 0, none⟩ = some (.int .i64 2) ∧ w'.cell? ⟨gb613, 1, none⟩ = some (.int .i64 2) ∧ w'.cell? ⟨gb613, 2, none⟩ = some (.slice Ao118 x614002_1.length co118)) (ds := [6]) #[false, false, false, false, false, false, false] (by kernel_rfl) rfl rfl ⟨(blk_cell BK613.out 0).trans rfl, (blk_cell BK613.out 1).trans rfl, (blk_cell BK613.out 2).trans rfl⟩ (fun hHeld => ?_)
           generalize w126.drew = w127 at HO_614002 BK613 HB hHeld ⊢
           refine pure_ (i := 0) (N := some 47) (v := ?_) (a' := ?_) #[true, false, false, false, false, false, false] rfl rfl (by kernel_rfl) (fun _ _ _ h => h) (Or.inl ⟨by rfl, ?_⟩) ?_ ?_
           rotate_left
           · intro w'
             go_simp
             with_reducible rfl
           rotate_left
           · simp only [Act.put, List.setIfInBounds_toArray, List.set_cons_zero, List.set_cons_succ, i64_w, i32_w]
             rfl
           refine pure_ (i := 2) (N := some 49) (v := ?_) (a' := ?_) #[true, false, true, false, false, false, false] rfl rfl (by kernel_rfl) (fun _ _ _ h => h) (Or.inl ⟨by rfl, ?_⟩) ?_ ?_
           rotate_left
           · intro w'
             go_simp
             with_reducible rfl
           rotate_left
           · simp only [Act.put, List.setIfInBounds_toArray, List.set_cons_zero, List.set_cons_succ, i64_w, i32_w]
             rfl
           refine pure_ (i := 4) (N := some 51) (v := ?_) (a' := ?_) #[true, false, true, false, true, false, false] rfl rfl (by kernel_rfl) (fun _ _ _ h => h) (Or.inl ⟨by rfl, ?_⟩) ?_ ?_
           rotate_left
           · intro w'
             go_simp
             with_reducible rfl
           rotate_left
           · simp only [Act.put, List.setIfInBounds_toArray, List.set_cons_zero, List.set_cons_succ, i64_w, i32_w]
             rfl
           refine take_ (i := 1) (N := some 48) (v := ?_) (a' := ?_) #[true, true, true, false, true, false, false] rfl rfl (by kernel_rfl) (fun _ _ _ h => h) (Or.inl ⟨by rfl, ?_⟩) hHeld ?_ ?_
           rotate_left
           · rintro w' ⟨s0, s1, s2⟩
             go_simp
             with_reducible rfl
           rotate_left
           · simp only [Act.put, List.setIfInBounds_toArray, List.set_cons_zero, List.set_cons_succ, i64_w, i32_w]
             rfl
           refine one_ (i := 3) (N := some 50) #[true, true, true, true, true, false, false] rfl rfl (by kernel_rfl) (by decide) (fun K hK => ?_)
           refine goes_ Try.func11 (by kernel_rfl) rfl #[.int .i64 a2, .int .i64 4] (by rfl) rfl rfl (by (try simp only [List.map_toArray, List.map_cons, List.map_nil]); first | done | rfl | (simp only [List.length_drop, List.length_take]; rfl)) ?_
           with_reducible refine (chequerref01_Around.calls a2 4 t632 _ A33.out).mono ?_
           rintro e w' ⟨rfl, ⟨nd, rfl⟩⟩
           refine ⟨_, rfl, ?_⟩
           have p36 : 0 ≤ (t632 : Int) := of_decide_eq_true (by first | (with_reducible assumption) | assumption)
           have q36 : (t632 : Int) < ((x614002_1.length : Int) : Int) := of_decide_eq_true (by first | (with_reducible assumption) | assumption)
           obtain ⟨go36, co36, eo36, gb36, gl36, cl36, HG36⟩ := Kd.R_form HO_614002.out (by omega)
           (first | cases eo36 | (injection eo36 with ea_ en_ ec_; (first | subst ea_ | (injection ea_ with ea_; subst ea_)); subst ec_; clear en_))
           have GB36 := Aside0.mk gb36
           have GG36 := Aside0.mk HG36
           clear gb36 gl36 HG36
           obtain ⟨hx36_0, hf36_0⟩ := Kd.R_celln 0 HO_614002.out (t632 : Int) p36 q36
           replace p36 := eq_true p36
           replace q36 := eq_true q36
           have HP128 := Kd.R_putn HO_614002.out (t632 : Int) a3
           rw [← Ny633.out] at HP128
           have HQ128 := Aside0.mk HP128
           clear HP128
           refine hK.out _ _ ⟨(blk_cell BK613.out 0).trans rfl, (blk_cell BK613.out 1).trans rfl, (blk_cell BK613.out 2).trans rfl⟩ (fun hHeld => ?_)
           clear hK K
           refine norm_ (a' := ?_) ?_ ?_
           rotate_left
           · show Act.put _ (some 50) _ = _
             simp only [Act.put, List.setIfInBounds_toArray, List.set_cons_zero, List.set_cons_succ, i64_w, i32_w]
             rfl
           refine pure_ (i := 5) (N := some 52) (v := ?_) (a' := ?_) #[true, true, true, true, true, true, false] rfl rfl (by kernel_rfl) (fun _ _ _ h => h) (Or.inl ⟨by rfl, ?_⟩) ?_ ?_
           rotate_left
           · intro w'
             go_simp
             with_reducible rfl
           rotate_left
           · simp only [Act.put, List.setIfInBounds_toArray, List.set_cons_zero, List.set_cons_succ, i64_w, i32_w]
             rfl
           refine last_ (i := 6) (N := none) #[true, true, true, true, true, true, true] rfl rfl (by kernel_rfl) (by decide) (fun K hK => ?_)
           refine skip_ (w1 := ?_) (by rfl) rfl ?_ ?_
           rotate_left
           · go_simp
             rfl
           refine hK.out _ _ ?_
           clear hK K
           refine done_ (by kernel_rfl) ?_
           try go_wp2
           (try rw [show ∀ (w : World) (n : Nat) (a : Addr) (v : Value), (w.drewN n).setCell a v = (w.setCell a v).drewN n from fun _ _ _ _ => rfl])
           have n0_ : Aside0 (Kd.R (Kd.int .u64) 46 (w127.setCell ⟨go36, (t632 : Int).toNat, none⟩ (.int .u64 a3)) w.heap.size (fun _ => True) (.slice (some ⟨go36, 0, none⟩) x614002_1.length co118) y633) := ⟨rp_ HQ128.out⟩
           have n1_ : Aside0 ((w127.setCell ⟨go36, (t632 : Int).toNat, none⟩ (.int .u64 a3)).heap[gb613]? = some (.cells #[.int .i64 2, .int .i64 2, .slice (some ⟨go36, 0, none⟩) x614002_1.length co118] 24 (0, 0))) := ⟨by (with_reducible repeat (first | refine blk_drewN ?_ _ | refine blk_drew ?_ | refine blk_alloc ?_ _)); refine blk_far ?_ (by have h_ := Kd.R_ne HO_614002.out BK613.out (by decide); intro e_; exact h_ (by rw [e_]; rfl)) _; (with_reducible repeat (first | refine blk_drewN ?_ _ | refine blk_drew ?_ | refine blk_alloc ?_ _)); exact BK613.out⟩
           have n2_ : Aside0 (Below w.heap.size w (w127.setCell ⟨go36, (t632 : Int).toNat, none⟩ (.int .u64 a3))) := ⟨bp_⟩
           (try clear HO_614002)
           (try clear BK613)
           (try clear HB)
           generalize (w127.setCell ⟨go36, (t632 : Int).toNat, none⟩ (.int .u64 a3)) = w129 at n0_ n1_ n2_ ⊢
           have HO_614002 := n0_
           have BK613 := n1_
           have HB := n2_
           clear n0_ n1_ n2_
           (try (rw [drewN_self w129]; generalize hq_ : World.drewN w129 _ = w129; have n0_ := Aside0.mk (qrp_ hq_ HO_614002.out); have n1_ := Aside0.mk (qhp_ hq_ BK613.out); have n2_ : Aside0 (Below w.heap.size w w129) := ⟨qbp_ hq_⟩; clear HO_614002 BK613 HB hq_; have HO_614002 := n0_; have BK613 := n1_; have HB := n2_; clear n0_ n1_ n2_))
           replace HO_614002 := Aside0.mk (Kd.R_drew HO_614002.out)
           replace BK613 := Aside0.mk (blk_drew BK613.out)
           replace HB := Aside0.mk (below_drew1 HB.out)
           refine start_ (n := 24) (S := fun w' => True) (ds := []) Fl237 (by kernel_rfl) rfl rfl trivial (fun hHeld => ?_); refine with_tabW chequerlaw03_RectFits.tab10 chequerlaw03_RectFits.bits10 (fun HT_ HW_ => ?_)
           generalize w129.drew = w130 at HO_614002 BK613 HB HQ128 hHeld ⊢
           refine pur_ (i := 0) (N := some 53) Fl239 (any_of HT_.out (by kernel_rfl)) ?_
           refine pur_ (i := 1) (N := some 54) Fl243 (any_of HT_.out (by kernel_rfl)) ?_
           refine pun_ (i := 2) (N := some 55) Fl244 (any_of HT_.out (by kernel_rfl)) ?_
           refine pur_ (i := 3) (N := some 56) Fl245 (any_of HT_.out (by kernel_rfl)) ?_
           refine pur_ (i := 4) (N := some 57) Fl246 (any_of HT_.out (by kernel_rfl)) ?_
           refine pun_ (i := 5) (N := some 58) Fl247 (any_of HT_.out (by kernel_rfl)) ?_
           refine pun_ (i := 6) (N := some 59) Fl266 (any_of HT_.out (by kernel_rfl)) ?_
           refine pun_ (i := 7) (N := some 60) Fl267 (any_of HT_.out (by kernel_rfl)) ?_
           refine pun_ (i := 8) (N := some 61) Fl268 (any_of HT_.out (by kernel_rfl)) ?_
           refine pun_ (i := 9) (N := some 62) Fl269 (any_of HT_.out (by kernel_rfl)) ?_
           refine pun_ (i := 10) (N := some 63) Fl248 (any_of HT_.out (by kernel_rfl)) ?_
           refine pun_ (i := 11) (N := some 64) Fl249 (any_of HT_.out (by kernel_rfl)) ?_
           refine pun_ (i := 12) (N := some 65) Fl250 (any_of HT_.out (by kernel_rfl)) ?_
           refine pur_ (i := 13) (N := some 66) Fl251 (any_of HT_.out (by kernel_rfl)) ?_
           refine pur_ (i := 14) (N := some 67) Fl252 (any_of HT_.out (by kernel_rfl)) ?_
           refine pun_ (i := 15) (N := some 68) Fl253 (any_of HT_.out (by kernel_rfl)) ?_
           refine pun_ (i := 16) (N := some 69) Fl254 (any_of HT_.out (by kernel_rfl)) ?_
           refine pun_ (i := 17) (N := some 70) Fl255 (any_of HT_.out (by kernel_rfl)) ?_
           refine pun_ (i := 18) (N := some 71) Fl256 (any_of HT_.out (by kernel_rfl)) ?_
           refine pur_ (i := 19) (N := some 72) Fl257 (any_of HT_.out (by kernel_rfl)) ?_
           refine pur_ (i := 20) (N := some 73) Fl258 (any_of HT_.out (by kernel_rfl)) ?_
           refine pun_ (i := 21) (N := some 74) Fl259 (any_of HT_.out (by kernel_rfl)) ?_
           refine pur_ (i := 22) (N := some 75) Fl260 (any_of HT_.out (by kernel_rfl)) ?_
           refine pur_ (i := 23) (N := some 8) Fl261 (any_of HT_.out (by kernel_rfl)) ?_
           refine done_ (done_of HT_.out (by kernel_rfl)) ?_
           try go_wp2
           go_ret
           exact ⟨by first | rfl | (simp [errW_none, errW_some] <;> rfl) | (simp [*, errW_none, errW_some] <;> rfl), bp_⟩
       · rw [if_neg c35] at H
         exact absurd H (by simp)
     · rw [if_neg c34] at H
       exact absurd H (by simp)

/-- THE ONE PURE STATEMENT of chequerlaw03_RectFits. -/
def chequerlaw03_RectFits.Pure : Prop := ∀ (a0_0 : Int) (a0_1 : Int) (l1 : List Int) (a2 : Int) (a3 : Int), (Lit.int .i64 a0_0).wf = true → (Lit.int .i64 a0_1).wf = true → l1.length ≤ maxLen → l1.length * 8 ≤ 140737488351232 → (∀ x ∈ l1, (Lit.int .i64 x).wf = true) → (Lit.int .i64 a2).wf = true → (Lit.int .u64 a3).wf = true → ∃ k, chequerlaw03_RectFits.f k a0_0 a0_1 l1 a2 a3 = some true
theorem chequerlaw03_RectFits.walk (P : chequerlaw03_RectFits.Pure) (a0_0 : Int) (a0_1 : Int) (a1 : Option Addr) (len1 cap1 : Nat) (z1 : List Int) (a2 : Int) (a3 : Int) (w : World) (w0_0 : (Lit.int .i64 a0_0).wf = true) (w0_1 : (Lit.int .i64 a0_1).wf = true) (w1 : (a1 = none ∧ len1 = 0 ∧ cap1 = 0 ∧ z1 = []) ∨ ∃ x, a1 = some x ∧ len1 ≤ cap1 ∧ cap1 ≤ maxLen ∧ z1.length = cap1 ∧ (∀ i, i < z1.length → w.cell? (x.add i) = some (.int .i64 (z1.getD i 0))) ∧ ∀ n ∈ z1, (Lit.int .i64 n).wf = true) (y1 : len1 * 8 ≤ 140737488351232) (w2 : (Lit.int .i64 a2).wf = true) (w3 : (Lit.int .u64 a3).wf = true) :
 Calls Try.prog 8 #[.agg #[.int .i64 a0_0, .int .i64 a0_1], .slice a1 len1 cap1, .int .i64 a2, .int .u64 a3] w fun e w' => e = .returned (.bool true) ∧ Below w.heap.size w w' := by
 obtain ⟨l1, rfl, hr1, hm1, hw1, hc1⟩ := ReadsInt.ofRowC w1
 obtain ⟨k, h⟩ := P a0_0 a0_1 l1 a2 a3 w0_0 w0_1 hm1 y1 hw1 w2 w3
 refine (chequerlaw03_RectFits.calls k a0_0 a0_1 _ _ l1 a2 a3 true w (Kd.C_of_reads (d := (0 : Int)) (h1 := fun _ => rfl) hr1) hc1 h).mono ?_
 rintro e w' ⟨rfl, hd⟩
 exact ⟨rfl, hd⟩

end Go.Proofs.Ytidpaaemfiopkaa.Q
