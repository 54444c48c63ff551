-- written by our own program (wip/tools/myprint.py) out of the translation, by the kit's print; Lean checks it
import Derived.Test.YtmimfljiighbaaaQ0
import Derived.Test.YtmimfljiighbaaaQ1
import Derived.Test.YtmimfljiighbaaaQ4
import Derived.Test.YtmimfljiighbaaaQ5
import Derived.Test.YtmimfljiighbaaaQ7
import Derived.Test.YtmimfljiighbaaaQ8
import Derived.Test.YtmimfljiighbaaaQ19
import Derived.Test.YtmimfljiighbaaaQ22
import Derived.Test.YtmimfljiighbaaaQ25
import Derived.Test.YtmimfljiighbaaaIhead_May
import Derived.Test.YtmimfljiighbaaaQ31
namespace Go.Proofs.Ytmimfljiighbaaa.Q
open Go.RowKit Go.Proofs.YtmimfljiighbaaaW.PrintWords Go.Proofs.YtmimfljiighbaaaW.PrintLast Go.Proofs.YtmimfljiighbaaaW.PrintMore
attribute [local go_sem] max2_int min2_int max_two min_two max_three min_three max_four min_four   -- for this text's walks alone
set_option linter.unusedVariables false
set_option linter.unusedSimpArgs false

attribute [local go_sem high] eqA25
abbrev Fl149 : Array Bool := #[false, false, false, false, false, false, false, false, false, false, false, false, false, false, false, false, false, false, false, false, false, false]
abbrev Fl150 : Array Bool := #[false, false, false, false, false, false, false, false, false, false, false, false, false, false, false, false, false, false]
abbrev Fl151 : Array Bool := #[true, false, false, false, false, false, false, false, false, false, false, false, false, false, false, false, false, false, false, false, false, false]
abbrev Fl152 : Array Bool := #[true, false, false, false, false, false, false, false, false, false, false, false, false, false, false, false, false, false]
abbrev Fl153 : Array Bool := #[true, false, true, false, false, false, false, false, false, false, false, false, false, false, false, false, false, false]
abbrev Fl154 : Array Bool := #[true, true, false, false, false, false, false, false, false, false, false, false, false, false, false, false, false, false, false, false, false, false]
abbrev Fl155 : Array Bool := #[true, true, true, false, false, false, false, false, false, false, false, false, false, false, false, false, false, false, false, false, false, false]
abbrev Fl156 : Array Bool := #[true, true, true, false, false, false, false, false, false, false, false, false, false, false, false, false, false, false]
abbrev Fl157 : Array Bool := #[true, true, true, true, false, false, false, false, false, false, false, false, false, false, false, false, false, false, false, false, false, false]
abbrev Fl158 : Array Bool := #[true, true, true, true, false, false, false, false, false, false, false, false, false, false, false, false, false, false]
abbrev Fl159 : Array Bool := #[true, true, true, true, true, false, false, false, false, false, false, false, false, false, false, false, false, false, false, false, false, false]
abbrev Fl160 : Array Bool := #[true, true, true, true, true, false, false, false, false, false, false, false, false, false, false, false, false, false]
abbrev Fl161 : Array Bool := #[true, true, true, true, true, true, false, false, false, false, false, false, false, false, false, false, false, false, false, false, false, false]
abbrev Fl162 : Array Bool := #[true, true, true, true, true, true, false, false, false, false, false, false, false, false, false, false, false, false]
abbrev Fl163 : Array Bool := #[true, true, true, true, true, true, true, false, false, false, false, false, false, false, false, false, false, false, false, false, false, false]
abbrev Fl164 : Array Bool := #[true, true, true, true, true, true, true, false, false, false, false, false, false, false, false, false, false, false]
abbrev Fl165 : Array Bool := #[true, true, true, true, true, true, true, true, false, false, false, false, false, false, false, false, false, false, false, false, false, false]
abbrev Fl166 : Array Bool := #[true, true, true, true, true, true, true, true, false, false, false, false, false, false, false, false, false, false]
abbrev Fl167 : Array Bool := #[true, true, true, true, true, true, true, true, true, false, false, false, false, false, false, false, false, false, false, false, false, false]
abbrev Fl168 : Array Bool := #[true, true, true, true, true, true, true, true, true, false, false, false, false, false, false, false, false, false]
abbrev Fl169 : Array Bool := #[true, true, true, true, true, true, true, true, true, true, false, false, false, false, false, false, false, false, false, false, false, false]
abbrev Fl170 : Array Bool := #[true, true, true, true, true, true, true, true, true, true, false, false, false, false, false, false, false, false]
abbrev Fl171 : Array Bool := #[true, true, true, true, true, true, true, true, true, true, true, false, false, false, false, false, false, false, false, false, false, false]
abbrev Fl172 : Array Bool := #[true, true, true, true, true, true, true, true, true, true, true, false, false, false, false, false, false, false]
abbrev Fl173 : Array Bool := #[true, true, true, true, true, true, true, true, true, true, true, true, false, false, false, false, false, false, false, false, false, false]
abbrev Fl174 : Array Bool := #[true, true, true, true, true, true, true, true, true, true, true, true, false, false, false, false, false, false]
abbrev Fl175 : Array Bool := #[true, true, true, true, true, true, true, true, true, true, true, true, true, false, false, false, false, false]
abbrev Fl176 : Array Bool := #[true, true, true, true, true, true, true, true, true, true, true, true, true, true, false, false, false, false]
abbrev Fl177 : Array Bool := #[true, true, true, true, true, true, true, true, true, true, true, true, true, true, true, false, false, false]
abbrev Fl178 : Array Bool := #[true, true, true, true, true, true, true, true, true, true, true, true, true, true, true, true, false, false]
abbrev Fl179 : Array Bool := #[true, true, true, true, true, true, true, true, true, true, true, true, true, true, true, true, true, false]
abbrev Fl180 : Array Bool := #[true, true, true, true, true, true, true, true, true, true, true, true, true, true, true, true, true, true, true, false, false, false]
abbrev Fl181 : Array Bool := #[true, true, true, true, true, true, true, true, true, true, true, true, true, true, true, true, true, true, true, true, false, false]
abbrev Fl182 : Array Bool := #[true, true, true, true, true, true, true, true, true, true, true, true, true, true, true, true, true, true, true, true, true, false]
abbrev Fl183 : Array Bool := #[true, true, true, true, true, true, true, true, true, true, true, true, true, true, true, true, true, true, true, true, true, true]
abbrev Fl184 : Array Bool := #[true, true, true, true, true, true, true, true, true, true, true, true, true, true, true, true, true, true]
abbrev Fl185 : Array Bool := #[true, true, true, true, true, true, true, true, true, true, true, true, false, false, false, true, false, false, false, false, false, false]
abbrev Fl186 : Array Bool := #[true, true, true, true, true, true, true, true, true, true, true, true, false, false, false, true, true, false, false, false, false, false]
abbrev Fl187 : Array Bool := #[true, true, true, true, true, true, true, true, true, true, true, true, false, false, false, true, true, true, false, false, false, false]
abbrev Fl188 : Array Bool := #[true, true, true, true, true, true, true, true, true, true, true, true, true, false, false, false, false, false, false, false, false, false]
abbrev Fl189 : Array Bool := #[true, true, true, true, true, true, true, true, true, true, true, true, true, false, false, true, true, true, false, false, false, false]
abbrev Fl190 : Array Bool := #[true, true, true, true, true, true, true, true, true, true, true, true, true, false, false, true, true, true, true, false, false, false]
abbrev Fl191 : Array Bool := #[true, true, true, true, true, true, true, true, true, true, true, true, true, true, false, false, false, false, false, false, false, false]
abbrev Fl192 : Array Bool := #[true, true, true, true, true, true, true, true, true, true, true, true, true, true, false, true, true, true, true, false, false, false]
abbrev Fl193 : Array Bool := #[true, true, true, true, true, true, true, true, true, true, true, true, true, true, true, false, false, false, false, false, false, false]
abbrev Fl194 : Array Bool := #[true, true, true, true, true, true, true, true, true, true, true, true, true, true, true, true, false, false, false, false, false, false]
abbrev Fl195 : Array Bool := #[true, true, true, true, true, true, true, true, true, true, true, true, true, true, true, true, true, false, false, false, false, false]
abbrev Fl196 : Array Bool := #[true, true, true, true, true, true, true, true, true, true, true, true, true, true, true, true, true, true, false, false, false, false]
/-! ### chequerlaw06_HeadWrites: function 7 -/
def chequerlaw06_HeadWrites.l0 : Nat → ByteArray → List (S25) → Int → Int → Int → Int → Int → Option (Bool)
 | 0, _, _, _, _, _, _, _ => none
 | k + 1, x1, x6, x7, x497000, x497001, x497002, x497003 => if x7 < 2 then (if 0 ≤ x7 then (if x7 < (x6.length : Int) then ((chequerlaw06_of.f ((rd_T25 x6 x7).f0) ((rd_T25 x6 x7).f1) ((rd_T25 x6 x7).f2) ((rd_T25 x6 x7).f3)).bind fun bt501 => ((head_Write.f bt501.1 bt501.2.1 bt501.2.2.1 bt501.2.2.2).bind fun bt505 => ((chequerref06_Write.f k ((rd_T25 x6 x7).f0) ((rd_T25 x6 x7).f1) ((rd_T25 x6 x7).f2) ((rd_T25 x6 x7).f3)).bind fun bt508 => (if bt505.1.toList = bt508.1.toList then (if bt505.2 = bt508.2 then ((chequerlaw06_of.f ((rd_T25 x6 x7).f0) ((rd_T25 x6 x7).f1) ((rd_T25 x6 x7).f2) ((rd_T25 x6 x7).f3)).bind fun bt511 => ((head_May.f bt511.1 bt511.2.1 bt511.2.2.1 bt511.2.2.2).bind fun t515 => ((chequerref06_May.f ((rd_T25 x6 x7).f0) ((rd_T25 x6 x7).f1) ((rd_T25 x6 x7).f2) ((rd_T25 x6 x7).f3)).bind fun t517 => (if (t515 != t517) = true then (some false) else (chequerlaw06_HeadWrites.l0 k x1 x6 (wrap64 (x7 + 1)) x497000 x497001 x497002 x497003))))) else (some false)) else (some false))))) else (none)) else (none)) else ((chequerlaw06_of.f x497000 x497001 x497002 x497003).bind fun bt518 => ((head_Write.f bt518.1 bt518.2.1 bt518.2.2.1 bt518.2.2.2).bind fun bt522 => ((chequerref05_Few.f x1 9).bind fun t524 => (if bt522.1.size + t524.size ≤ 9223372036854775807 then ((head_All.f).bind fun bt525 => ((head_Parse.f k (bt522.1 ++ t524) bt525.1 bt525.2.1 bt525.2.2).bind fun bt528 => ((chequerlaw06_as.f bt528.1 bt528.2.1 bt528.2.2.1 bt528.2.2.2.1).bind fun bt535 => (if (bt535.1 == x497000 && (bt535.2.1 == x497001 && (bt535.2.2.1 == x497002 && (bt535.2.2.2 == x497003)))) = true then (if bt528.2.2.2.2.1 = (bt522.1.size : Int) then (if bt528.2.2.2.2.2 = 0 then ((chequerlaw06_lives.f k).bind fun t539 => (some t539)) else (some false)) else (some false)) else (some false))))) else (none)))))
def chequerlaw06_HeadWrites.f (k : Nat) (a0_0 : Int) (a0_1 : Int) (a0_2 : Int) (a0_3 : Int) (a1 : ByteArray) : Option (Bool) := (chequerref06_Good.f a0_0 a0_1 a0_2 a0_3 4096).bind fun bt492 => (chequerlaw06_HeadWrites.l0 k a1 (([(⟨a0_0, a0_1, a0_2, a0_3⟩ : S25), (⟨bt492.1, bt492.2.1, bt492.2.2.1, bt492.2.2.2⟩ : S25)] : List (S25))) 0 bt492.1 bt492.2.1 bt492.2.2.1 bt492.2.2.2)
theorem chequerlaw06_HeadWrites.mono_l : ∀ k, (∀ y0 y1 y2 y3 y4 y5 y6, LeO (chequerlaw06_HeadWrites.l0 k y0 y1 y2 y3 y4 y5 y6) (chequerlaw06_HeadWrites.l0 (k + 1) y0 y1 y2 y3 y4 y5 y6))
 | 0 => fun _ _ _ _ _ _ _ r h => by simp [chequerlaw06_HeadWrites.l0] at h
 | k + 1 => by
  have ih0 := chequerlaw06_HeadWrites.mono_l k
  · intro y0 y1 y2 y3 y4 y5 y6
    unfold chequerlaw06_HeadWrites.l0
    repeat' first
    | (with_reducible exact ih0 _ _ _ _ _ _ _)
    | (with_reducible exact chequerlaw06_lives.mono _)
    | (with_reducible exact chequerref06_Write.mono _ _ _ _ _)
    | (with_reducible exact head_Parse.mono _ _ _ _ _)
    | (with_reducible exact LeO.refl _)
    | (with_reducible exact LeO.none _)
    | (with_reducible refine LeO.ite ?_ ?_)
    | (with_reducible refine LeO.bind ?_ (fun _ => ?_))
    | exact ih0 _ _ _ _ _ _ _
    | exact chequerlaw06_lives.mono _
    | exact chequerref06_Write.mono _ _ _ _ _
    | exact head_Parse.mono _ _ _ _ _
    | exact LeO.none _
    | refine LeO.ite ?_ ?_
    | refine LeO.bind ?_ (fun _ => ?_)
theorem chequerlaw06_HeadWrites.mono : ∀ a0 a1 a2 a3 a4 k, LeO (chequerlaw06_HeadWrites.f k a0 a1 a2 a3 a4) (chequerlaw06_HeadWrites.f (k + 1) a0 a1 a2 a3 a4) := by
 intro a0 a1 a2 a3 a4 k
 have ih0 := chequerlaw06_HeadWrites.mono_l k
 unfold chequerlaw06_HeadWrites.f
 repeat' first
  | (with_reducible exact ih0 _ _ _ _ _ _ _)
  | (with_reducible exact chequerlaw06_lives.mono _)
  | (with_reducible exact chequerref06_Write.mono _ _ _ _ _)
  | (with_reducible exact head_Parse.mono _ _ _ _ _)
  | (with_reducible exact LeO.refl _)
  | (with_reducible exact LeO.none _)
  | (with_reducible refine LeO.ite ?_ ?_)
  | (with_reducible refine LeO.bind ?_ (fun _ => ?_))
  | exact ih0 _ _ _ _ _ _ _
  | exact chequerlaw06_lives.mono _
  | exact chequerref06_Write.mono _ _ _ _ _
  | exact head_Parse.mono _ _ _ _ _
  | exact LeO.none _
  | refine LeO.ite ?_ ?_
  | refine LeO.bind ?_ (fun _ => ?_)
def chequerlaw06_HeadWrites.T8 : Bool × List (List Nat × List Nat) := (true, [([], []), ([], []), ([0, 1], [0, 1]), ([2], [2]), ([3], [3]), ([3], [3]), ([4, 5, 3], [3, 4, 5]), ([3, 6], [3, 6]), ([7, 3], [7]), ([8], [8]), ([8], [8]), ([9, 10, 8], [8, 9, 10]), ([11, 8], [8, 11]), ([12, 8, 8], [8, 12]), ([13, 13, 8], [8, 13]), ([8], [8]), ([8], [8]), ([15, 16, 8], [8, 15, 16]), ([17, 8], [8, 17]), ([18, 14, 8], [8, 18]), ([14, 19, 8], [8, 14, 19]), ([8, 20], [8, 20])])
def chequerlaw06_HeadWrites.B8 : List Nat := [0, 0, 3, 7, 15, 15, 63, 127, 255, 511, 511, 2047, 4095, 8191, 16383, 511, 511, 98815, 229887, 524287, 1048575, 2097151]
theorem chequerlaw06_HeadWrites.tab8 : rtab .any (opsOf Try.f7 8) = chequerlaw06_HeadWrites.T8 := by kernel_rfl
theorem chequerlaw06_HeadWrites.bits8 : waitsOk chequerlaw06_HeadWrites.T8.2 chequerlaw06_HeadWrites.B8 = true := by kernel_rfl
def chequerlaw06_HeadWrites.T12 : Bool × List (List Nat × List Nat) := (true, [([], []), ([0], [0]), ([], []), ([1, 2], [1, 2]), ([3, 1], [3]), ([4], [4]), ([4], [4]), ([6, 4], [4, 6]), ([5, 7, 4], [4, 5, 7]), ([4, 8], [4, 8]), ([9, 4], [9]), ([10], [10]), ([11, 10], [10, 11]), ([10, 12], [10, 12]), ([13, 10], [13]), ([14, 14], [14]), ([14, 15], [14, 15]), ([16, 15, 0, 1, 2, 3, 4, 5, 6, 7, 8, 9, 10, 11, 12, 13, 14, 15, 16], [16])])
def chequerlaw06_HeadWrites.B12 : List Nat := [0, 1, 0, 7, 15, 31, 31, 95, 255, 511, 1023, 2047, 4095, 8191, 16383, 32767, 65535, 131071]
theorem chequerlaw06_HeadWrites.tab12 : rtab .any (opsOf Try.f7 12) = chequerlaw06_HeadWrites.T12 := by kernel_rfl
theorem chequerlaw06_HeadWrites.bits12 : waitsOk chequerlaw06_HeadWrites.T12.2 chequerlaw06_HeadWrites.B12 = true := by kernel_rfl
set_option maxHeartbeats 8000000 in
set_option maxRecDepth 100000 in
theorem chequerlaw06_HeadWrites.calls (k : Nat) (a0_0 : Int) (a0_1 : Int) (a0_2 : Int) (a0_3 : Int) (a1 : ByteArray) (r : Bool) (w : World) (h : chequerlaw06_HeadWrites.f k a0_0 a0_1 a0_2 a0_3 a1 = some r) :
 Calls Try.prog 7 #[.agg #[.int .i64 a0_0, .int .i64 a0_1, .int .i64 a0_2, .int .i64 a0_3], .string a1] w fun e w' => e = .returned (.bool r) ∧ Below w.heap.size w w' := by
 have hu25 := Try.underlying25
 have hu36 := Try.underlying36
 have HB := Aside0.mk (Below.refl w.heap.size w)
 have H : ((chequerref06_Good.f a0_0 a0_1 a0_2 a0_3 4096).bind fun bt492 => (chequerlaw06_HeadWrites.l0 k a1 (([(⟨a0_0, a0_1, a0_2, a0_3⟩ : S25), (⟨bt492.1, bt492.2.1, bt492.2.2.1, bt492.2.2.2⟩ : S25)] : List (S25))) 0 bt492.1 bt492.2.1 bt492.2.2.1 bt492.2.2.2)) = some r := h
 clear h
 replace H := Option.bind_eq_some_iff.mp H
 obtain ⟨⟨t492, t493, t494, t495⟩, A30, H⟩ := H
 replace H : (chequerlaw06_HeadWrites.l0 k a1 (([(⟨a0_0, a0_1, a0_2, a0_3⟩ : S25), (⟨t492, t493, t494, t495⟩ : S25)] : List (S25))) 0 t492 t493 t494 t495) = some r := H
 have A3 := Aside0.mk A30
 clear A30
 obtain ⟨y497, hy497⟩ : ∃ y_ : List (S25), y_ = (([(⟨a0_0, a0_1, a0_2, a0_3⟩ : S25), (⟨t492, t493, t494, t495⟩ : S25)] : List (S25))) := ⟨_, rfl⟩
 replace H : (chequerlaw06_HeadWrites.l0 k a1 y497 0 t492 t493 t494 t495) = some r := by first | (rw [hy497]; with_reducible exact H) | (have H2_ := (Option.bind_some _ _).symm.trans H; rw [hy497]; with_reducible exact H2_) | (have H2_ := (Option.bind_some _ _).symm.trans H; with_reducible exact H2_) | with_reducible exact H | (rw [hy497]; exact H) | exact H
 have Ny497 := Aside0.mk hy497
 clear hy497
 have H' := Aside0.mk H
 clear H
 go_enter Try.func7, Try.ntmps7
 go_wp2_with (first | ((with_reducible refine gate_dst (N := 2) rfl ?_); (try (refine gate_guard (by rfl) ?_; dsimp only)); refine box_event ?hg (N := 2) ?hd (cs := #[.int .i64 a0_0, .int .i64 a0_1, .int .i64 a0_2, .int .i64 a0_3]) (t := 25) ?hr ?_; (case hd => rfl); (case hg => rfl); (case hr => first | (go_simp; done) | (go_simp; rfl)); intro gb491 hg w4 hbox hb; have BK491 := Aside0.mk (hbox); have GW491 := Aside0.mk ((by rw [hg]; exact (below_size bp_) : w.heap.size ≤ gb491)); have GE491 := Aside0.mk ((by rw [hg]; exact (below_size bp_) : w.heap.size ≤ gb491)); replace HB := Aside0.mk (below_step bp_ hb); clear hb hbox hg; have hcz5_0 : w4.cell? ⟨gb491, 0, none⟩ = some (.int .i64 a0_0) := (blk_cell BK491.out 0).trans rfl; have hcz5_1 : w4.cell? ⟨gb491, 1, none⟩ = some (.int .i64 a0_1) := (blk_cell BK491.out 1).trans rfl; have hcz5_2 : w4.cell? ⟨gb491, 2, none⟩ = some (.int .i64 a0_2) := (blk_cell BK491.out 2).trans rfl; have hcz5_3 : w4.cell? ⟨gb491, 3, none⟩ = some (.int .i64 a0_3) := (blk_cell BK491.out 3).trans rfl; have hfz5_0 := blk_frozen BK491.out 0; have hfz5_1 := blk_frozen BK491.out 1; have hfz5_2 := blk_frozen BK491.out 2; have hfz5_3 := blk_frozen BK491.out 3) | ((with_reducible refine gate_callee (f := 11) rfl ?_); refine goQ_ (some 18) Try.func11 #[.agg #[.int .i64 a0_0, .int .i64 a0_1, .int .i64 a0_2, .int .i64 a0_3], .int .i64 4096] ?_; (with_reducible refine (chequerref06_Good.calls a0_0 a0_1 a0_2 a0_3 4096 t492 t493 t494 t495 _ A3.out).mono ?_); rintro e w6 ⟨rfl, hb⟩; refine ⟨_, rfl, ?_⟩; replace BK491 := Aside0.mk (blk_below (hp_ BK491.out) hb); replace HB := Aside0.mk (below_step bp_ hb); (try clear hb); (try clear hb2); (try clear hk); (try clear hi)) | ((with_reducible refine gate_dst (N := 5) rfl ?_); (try (refine gate_guard (by rfl) ?_; dsimp only)); refine box_event ?hg (N := 5) ?hd (cs := #[.int .i64 0, .int .i64 0, .int .i64 0, .int .i64 0]) (t := 25) ?hr ?_; (case hd => rfl); (case hg => rfl); (case hr => first | (go_simp; done) | (go_simp; rfl)); intro gb496 hg w7 hbox hb; have BK496 := Aside0.mk (hbox); have GW496 := Aside0.mk ((by rw [hg]; exact (below_size bp_) : w.heap.size ≤ gb496)); have GE496 := Aside0.mk ((by rw [hg]; exact (below_size bp_) : w.heap.size ≤ gb496)); replace HB := Aside0.mk (below_step bp_ hb); have NB491_496 := Aside0.mk ((nlt_ hg (hp_ BK491.out))); have NB496_491 := Aside0.mk ((ngt_ hg (hp_ BK491.out))); replace BK491 := Aside0.mk (blk_below (hp_ BK491.out) hb); clear hb hbox hg; have hnb8 := NB496_491.out; have hnc8 := NB491_496.out; have hcz9_0 : w7.cell? ⟨gb496, 0, none⟩ = some (.int .i64 0) := (blk_cell BK496.out 0).trans rfl; have hcz9_1 : w7.cell? ⟨gb496, 1, none⟩ = some (.int .i64 0) := (blk_cell BK496.out 1).trans rfl; have hcz9_2 : w7.cell? ⟨gb496, 2, none⟩ = some (.int .i64 0) := (blk_cell BK496.out 2).trans rfl; have hcz9_3 : w7.cell? ⟨gb496, 3, none⟩ = some (.int .i64 0) := (blk_cell BK496.out 3).trans rfl; have hfz9_0 := blk_frozen BK496.out 0; have hfz9_1 := blk_frozen BK496.out 1; have hfz9_2 := blk_frozen BK496.out 2; have hfz9_3 := blk_frozen BK496.out 3; have hcz10_0 : w7.cell? ⟨gb491, 0, none⟩ = some (.int .i64 a0_0) := (blk_cell BK491.out 0).trans rfl; have hcz10_1 : w7.cell? ⟨gb491, 1, none⟩ = some (.int .i64 a0_1) := (blk_cell BK491.out 1).trans rfl; have hcz10_2 : w7.cell? ⟨gb491, 2, none⟩ = some (.int .i64 a0_2) := (blk_cell BK491.out 2).trans rfl; have hcz10_3 : w7.cell? ⟨gb491, 3, none⟩ = some (.int .i64 a0_3) := (blk_cell BK491.out 3).trans rfl; have hfz10_0 := blk_frozen BK491.out 0; have hfz10_1 := blk_frozen BK491.out 1; have hfz10_2 := blk_frozen BK491.out 2; have hfz10_3 := blk_frozen BK491.out 3) | ((with_reducible refine gate_dst (N := 21) rfl ?_); (try (refine gate_guard (by rfl) ?_; dsimp only)); refine Kd.R_lit k25 _ 25 ?hg (N := 21) ?hd (xs := ([(⟨a0_0, a0_1, a0_2, a0_3⟩ : S25), (⟨t492, t493, t494, t495⟩ : S25)] : List (S25))) (inner := [.int .i64 a0_0, .int .i64 a0_1, .int .i64 a0_2, .int .i64 a0_3, .int .i64 t492, .int .i64 t493, .int .i64 t494, .int .i64 t495]) (ok := fun _ => True) (okp := fun _ => True) ?hr ?hp (fun _ hk => hk) trivial (Below.refl _ _) (Nat.le_refl _) (by simp) ?_; (case hd => rfl); (case hg => rfl); (case hr => first | (go_simp; done) | (go_simp; rfl)); (case hp => exact (Reps.c4 (show Kd.M k25 _ _ _ (⟨a0_0, a0_1, a0_2, a0_3⟩ : S25) [.int .i64 a0_0, .int .i64 a0_1, .int .i64 a0_2, .int .i64 a0_3] from (k25_mkM _ _ _ (⟨a0_0, a0_1, a0_2, a0_3⟩ : S25) )) (Reps.c4 (show Kd.M k25 _ _ _ (⟨t492, t493, t494, t495⟩ : S25) [.int .i64 t492, .int .i64 t493, .int .i64 t494, .int .i64 t495] from (k25_mkM _ _ _ (⟨t492, t493, t494, t495⟩ : S25) )) (Reps.none _ _)))); intro v498 w11 ho12 hb hg_ hnew_; clear hg_ hnew_; (first | rw [← Ny497.out] at ho12 | (simp only [Int.reduceToNat] at ho12; rw [← Ny497.out] at ho12)); have HO499 := Aside0.mk (Kd.R_lower (Kd.R_newB (Kd.R_newB ho12 (g := gb491) (o := .cells #[.int .i64 a0_0, .int .i64 a0_1, .int .i64 a0_2, .int .i64 a0_3] 25 (0, 0)) (hf_ BK491.out NB491_496.out)) (g := gb496) (o := .cells #[.int .i64 t492, .int .i64 t493, .int .i64 t494, .int .i64 t495] 25 (0, 0)) (by (with_reducible repeat (first | refine blk_drewN ?_ _ | refine blk_drew ?_ | refine blk_alloc ?_ _)); refine blk_put (cs := #[.int .i64 t492, .int .i64 t493, .int .i64 t494, .int .i64 0]) ?_ 3 _ rfl; (with_reducible repeat (first | refine blk_drewN ?_ _ | refine blk_drew ?_ | refine blk_alloc ?_ _)); refine blk_put (cs := #[.int .i64 t492, .int .i64 t493, .int .i64 0, .int .i64 0]) ?_ 2 _ rfl; (with_reducible repeat (first | refine blk_drewN ?_ _ | refine blk_drew ?_ | refine blk_alloc ?_ _)); refine blk_put (cs := #[.int .i64 t492, .int .i64 0, .int .i64 0, .int .i64 0]) ?_ 1 _ rfl; (with_reducible repeat (first | refine blk_drewN ?_ _ | refine blk_drew ?_ | refine blk_alloc ?_ _)); refine blk_put (cs := #[.int .i64 0, .int .i64 0, .int .i64 0, .int .i64 0]) ?_ 0 _ rfl; (with_reducible repeat (first | refine blk_drewN ?_ _ | refine blk_drew ?_ | refine blk_alloc ?_ _)); exact BK496.out)) (below_size bp_)); replace BK491 := Aside0.mk (blk_below (hf_ BK491.out NB491_496.out) hb); replace BK496 := Aside0.mk (blk_below (g := gb496) (o := .cells #[.int .i64 t492, .int .i64 t493, .int .i64 t494, .int .i64 t495] 25 (0, 0)) (by (with_reducible repeat (first | refine blk_drewN ?_ _ | refine blk_drew ?_ | refine blk_alloc ?_ _)); refine blk_put (cs := #[.int .i64 t492, .int .i64 t493, .int .i64 t494, .int .i64 0]) ?_ 3 _ rfl; (with_reducible repeat (first | refine blk_drewN ?_ _ | refine blk_drew ?_ | refine blk_alloc ?_ _)); refine blk_put (cs := #[.int .i64 t492, .int .i64 t493, .int .i64 0, .int .i64 0]) ?_ 2 _ rfl; (with_reducible repeat (first | refine blk_drewN ?_ _ | refine blk_drew ?_ | refine blk_alloc ?_ _)); refine blk_put (cs := #[.int .i64 t492, .int .i64 0, .int .i64 0, .int .i64 0]) ?_ 1 _ rfl; (with_reducible repeat (first | refine blk_drewN ?_ _ | refine blk_drew ?_ | refine blk_alloc ?_ _)); refine blk_put (cs := #[.int .i64 0, .int .i64 0, .int .i64 0, .int .i64 0]) ?_ 0 _ rfl; (with_reducible repeat (first | refine blk_drewN ?_ _ | refine blk_drew ?_ | refine blk_alloc ?_ _)); exact BK496.out) hb); replace HB := Aside0.mk (below_step bp_ hb); clear hb ho12))
 go_loopg [7] k (fun kq v7 w' => ∃ (x7_1 : Int), v7 = .int .i64 x7_1 ∧ Aside0 (chequerlaw06_HeadWrites.l0 kq a1 y497 x7_1 t492 t493 t494 t495 = some r) ∧ Aside0 (kq ≤ k) ∧ Aside0 (Kd.R k25 25 w' w.heap.size (fun k_ => k_ ≠ gb491 ∧ k_ ≠ gb496) v498 y497) ∧ Aside0 (w'.heap[gb491]? = some (.cells #[.int .i64 a0_0, .int .i64 a0_1, .int .i64 a0_2, .int .i64 a0_3] 25 (0, 0))) ∧ Aside0 (w'.heap[gb496]? = some (.cells #[.int .i64 t492, .int .i64 t493, .int .i64 t494, .int .i64 t495] 25 (0, 0))) ∧ Aside0 (Below w.heap.size w w'))
 case atStart => exact ⟨(0), (by first | rfl | (simp; done) | (simp [*]; done)), H', ⟨Nat.le_refl _⟩, ⟨by (with_reducible repeat (first | apply Kd.R_alloc | apply Kd.R_drewN | apply Kd.R_drew)); exact Kd.R_mono HO499.out (fun _ hk => ⟨hk.1.2, hk.2⟩)⟩, ⟨hp_ BK491.out⟩, ⟨hp_ BK496.out⟩, ⟨bp_⟩⟩
 case round =>
  clear H'
  try clear c1
  try clear p2
  try clear c4
  try clear c7
  try clear c8
  try clear c11
  try clear hcz10_0
  try clear hcz10_1
  try clear hcz10_2
  try clear hcz10_3
  try clear hcz5_0
  try clear hcz5_1
  try clear hcz5_2
  try clear hcz5_3
  try clear hcz9_0
  try clear hcz9_1
  try clear hcz9_2
  try clear hcz9_3
  try clear hfz10_0
  try clear hfz10_1
  try clear hfz10_2
  try clear hfz10_3
  try clear hfz5_0
  try clear hfz5_1
  try clear hfz5_2
  try clear hfz5_3
  try clear hfz9_0
  try clear hfz9_1
  try clear hfz9_2
  try clear hfz9_3
  obtain ⟨x7_1, rfl, HA, HK1, HO_6, BK491, BK496, HB⟩ := hrel
  cases gk with
  | zero => exact absurd HA.out (by simp [chequerlaw06_HeadWrites.l0])
  | succ k1 =>
   have H := HA.out
   clear HA
   simp only [chequerlaw06_HeadWrites.l0] at H
   by_cases c13 : x7_1 < 2
   · rw [if_pos c13] at H
     have c13b0 : decide (x7_1 < 2) = true := decide_eq_true c13
     clear c13
     by_cases c14 : 0 ≤ x7_1
     · rw [if_pos c14] at H
       have c14b0 : decide (0 ≤ x7_1) = true := decide_eq_true c14
       clear c14
       by_cases c15 : x7_1 < (y497.length : Int)
       · rw [if_pos c15] at H
         have c15b0 : decide (x7_1 < (y497.length : Int)) = true := decide_eq_true c15
         clear c15
         replace H := Option.bind_eq_some_iff.mp H
         obtain ⟨⟨t501, t502, t503, t504⟩, A160, H⟩ := H
         replace H : ((head_Write.f t501 t502 t503 t504).bind fun bt505 => ((chequerref06_Write.f k1 ((rd_T25 y497 x7_1).f0) ((rd_T25 y497 x7_1).f1) ((rd_T25 y497 x7_1).f2) ((rd_T25 y497 x7_1).f3)).bind fun bt508 => (if bt505.1.toList = bt508.1.toList then (if bt505.2 = bt508.2 then ((chequerlaw06_of.f ((rd_T25 y497 x7_1).f0) ((rd_T25 y497 x7_1).f1) ((rd_T25 y497 x7_1).f2) ((rd_T25 y497 x7_1).f3)).bind fun bt511 => ((head_May.f bt511.1 bt511.2.1 bt511.2.2.1 bt511.2.2.2).bind fun t515 => ((chequerref06_May.f ((rd_T25 y497 x7_1).f0) ((rd_T25 y497 x7_1).f1) ((rd_T25 y497 x7_1).f2) ((rd_T25 y497 x7_1).f3)).bind fun t517 => (if (t515 != t517) = true then (some false) else (chequerlaw06_HeadWrites.l0 k1 a1 y497 (wrap64 (x7_1 + 1)) t492 t493 t494 t495))))) else (some false)) else (some false)))) = some r := H
         have A16 := Aside0.mk A160
         clear A160
         replace H := Option.bind_eq_some_iff.mp H
         obtain ⟨⟨t505, t506⟩, A170, H⟩ := H
         replace H : ((chequerref06_Write.f k1 ((rd_T25 y497 x7_1).f0) ((rd_T25 y497 x7_1).f1) ((rd_T25 y497 x7_1).f2) ((rd_T25 y497 x7_1).f3)).bind fun bt508 => (if t505.toList = bt508.1.toList then (if t506 = bt508.2 then ((chequerlaw06_of.f ((rd_T25 y497 x7_1).f0) ((rd_T25 y497 x7_1).f1) ((rd_T25 y497 x7_1).f2) ((rd_T25 y497 x7_1).f3)).bind fun bt511 => ((head_May.f bt511.1 bt511.2.1 bt511.2.2.1 bt511.2.2.2).bind fun t515 => ((chequerref06_May.f ((rd_T25 y497 x7_1).f0) ((rd_T25 y497 x7_1).f1) ((rd_T25 y497 x7_1).f2) ((rd_T25 y497 x7_1).f3)).bind fun t517 => (if (t515 != t517) = true then (some false) else (chequerlaw06_HeadWrites.l0 k1 a1 y497 (wrap64 (x7_1 + 1)) t492 t493 t494 t495))))) else (some false)) else (some false))) = some r := H
         have A17 := Aside0.mk A170
         clear A170
         replace H := Option.bind_eq_some_iff.mp H
         obtain ⟨⟨t508, t509⟩, A180, H⟩ := H
         replace H : (if t505.toList = t508.toList then (if t506 = t509 then ((chequerlaw06_of.f ((rd_T25 y497 x7_1).f0) ((rd_T25 y497 x7_1).f1) ((rd_T25 y497 x7_1).f2) ((rd_T25 y497 x7_1).f3)).bind fun bt511 => ((head_May.f bt511.1 bt511.2.1 bt511.2.2.1 bt511.2.2.2).bind fun t515 => ((chequerref06_May.f ((rd_T25 y497 x7_1).f0) ((rd_T25 y497 x7_1).f1) ((rd_T25 y497 x7_1).f2) ((rd_T25 y497 x7_1).f3)).bind fun t517 => (if (t515 != t517) = true then (some false) else (chequerlaw06_HeadWrites.l0 k1 a1 y497 (wrap64 (x7_1 + 1)) t492 t493 t494 t495))))) else (some false)) else (some false)) = some r := H
         have A18 := Aside0.mk A180
         clear A180
         by_cases c19 : t505.toList = t508.toList
         · rw [if_pos c19] at H
           have c19b0 : (t505.toList == t508.toList) = true := beq_iff_eq.mpr c19
           have c19b1 : (t505.toList != t508.toList) = false := bne_eq_false_iff_eq.mpr c19
           clear c19
           by_cases c20 : t506 = t509
           · rw [if_pos c20] at H
             have c20b0 : (t506 == t509) = true := beq_iff_eq.mpr c20
             have c20b1 : (t506 != t509) = false := bne_eq_false_iff_eq.mpr c20
             clear c20
             replace H := Option.bind_eq_some_iff.mp H
             obtain ⟨⟨t511, t512, t513, t514⟩, A210, H⟩ := H
             replace H : ((head_May.f t511 t512 t513 t514).bind fun t515 => ((chequerref06_May.f ((rd_T25 y497 x7_1).f0) ((rd_T25 y497 x7_1).f1) ((rd_T25 y497 x7_1).f2) ((rd_T25 y497 x7_1).f3)).bind fun t517 => (if (t515 != t517) = true then (some false) else (chequerlaw06_HeadWrites.l0 k1 a1 y497 (wrap64 (x7_1 + 1)) t492 t493 t494 t495)))) = some r := H
             have A21 := Aside0.mk A210
             clear A210
             replace H := Option.bind_eq_some_iff.mp H
             obtain ⟨t515, A220, H⟩ := H
             replace H : ((chequerref06_May.f ((rd_T25 y497 x7_1).f0) ((rd_T25 y497 x7_1).f1) ((rd_T25 y497 x7_1).f2) ((rd_T25 y497 x7_1).f3)).bind fun t517 => (if (t515 != t517) = true then (some false) else (chequerlaw06_HeadWrites.l0 k1 a1 y497 (wrap64 (x7_1 + 1)) t492 t493 t494 t495))) = some r := H
             have A22 := Aside0.mk A220
             clear A220
             replace H := Option.bind_eq_some_iff.mp H
             obtain ⟨t517, A230, H⟩ := H
             replace H : (if (t515 != t517) = true then (some false) else (chequerlaw06_HeadWrites.l0 k1 a1 y497 (wrap64 (x7_1 + 1)) t492 t493 t494 t495)) = some r := H
             have A23 := Aside0.mk A230
             clear A230
             by_cases c24 : (t515 != t517) = true
             · rw [if_pos c24] at H
               have c24b0 : (t515 != t517) = true := c24
               (try (have c24b1 : decide (t515 = t517) = false := by simpa using c24))
               (try (have c24b2 : (t515 == t517) = false := by simpa using c24))
               (try (have c24b3 : ¬ (t515 = t517) := by simpa using c24))
               clear c24
               obtain rfl := Option.some.inj H
               obtain ⟨Ao25, co25, eo25⟩ := Kd.R_slice HO_6.out
               subst eo25
               have p500 : 0 ≤ (x7_1 : Int) := of_decide_eq_true (by first | (with_reducible assumption) | assumption)
               have q500 : x7_1 < (y497.length : Int) := of_decide_eq_true (by first | (with_reducible assumption) | assumption)
               obtain ⟨ad500, e500, hx500_0, hx500_1, hx500_2, hx500_3⟩ := at_T25 (Kd.R_reads' HO_6.out).2.2 x7_1 p500 q500
               cases e500
               replace p500 := eq_true p500
               replace q500 := eq_true q500
               try go_wp2_with (first | ((with_reducible refine gate_callee (f := 23) rfl ?_); refine goQ_ (some 31) Try.func23 #[.agg #[.int .i64 ((rd_T25 y497 x7_1).f0), .int .i64 ((rd_T25 y497 x7_1).f1), .int .i64 ((rd_T25 y497 x7_1).f2), .int .i64 ((rd_T25 y497 x7_1).f3)]] ?_; (with_reducible refine (chequerlaw06_of.calls ((rd_T25 y497 x7_1).f0) ((rd_T25 y497 x7_1).f1) ((rd_T25 y497 x7_1).f2) ((rd_T25 y497 x7_1).f3) t501 t502 t503 t504 _ A16.out).mono ?_); rintro e w26 ⟨rfl, hb⟩; refine ⟨_, rfl, ?_⟩; replace HO_6 := Aside0.mk (Kd.R_below (rp_ HO_6.out) hb); replace HB := Aside0.mk (below_step bp_ hb); (try clear hb); (try clear hb2); (try clear hk); (try clear hi)) | ((with_reducible refine gate_callee (f := 29) rfl ?_); refine goQ_ (some 32) Try.func29 #[.agg #[.int .i64 t501, .int .i64 t502, .int .i64 t503, .int .i64 t504]] ?_; (with_reducible refine (head_Write.calls t501 t502 t503 t504 t505 t506 _ A17.out).mono ?_); rintro e w27 ⟨rfl, hb⟩; refine ⟨_, rfl, ?_⟩; replace HO_6 := Aside0.mk (Kd.R_below (rp_ HO_6.out) hb); replace HB := Aside0.mk (below_step bp_ hb); (try clear hb); (try clear hb2); (try clear hk); (try clear hi); have p507 : 0 ≤ (x7_1 : Int) := of_decide_eq_true (by first | (with_reducible assumption) | assumption); have q507 : x7_1 < (y497.length : Int) := of_decide_eq_true (by first | (with_reducible assumption) | assumption); obtain ⟨ad507, e507, hx507_0, hx507_1, hx507_2, hx507_3⟩ := at_T25 (Kd.R_reads' HO_6.out).2.2 x7_1 p507 q507; obtain rfl : ad500 = ad507 := (by injection e507); replace p507 := eq_true p507; replace q507 := eq_true q507) | ((with_reducible refine gate_callee (f := 10) rfl ?_); refine goQ_ (some 40) Try.func10 #[.agg #[.int .i64 ((rd_T25 y497 x7_1).f0), .int .i64 ((rd_T25 y497 x7_1).f1), .int .i64 ((rd_T25 y497 x7_1).f2), .int .i64 ((rd_T25 y497 x7_1).f3)]] ?_; (with_reducible refine (chequerref06_Write.calls k1 ((rd_T25 y497 x7_1).f0) ((rd_T25 y497 x7_1).f1) ((rd_T25 y497 x7_1).f2) ((rd_T25 y497 x7_1).f3) t508 t509 _ A18.out).mono ?_); rintro e w28 ⟨rfl, hb⟩; refine ⟨_, rfl, ?_⟩; replace HO_6 := Aside0.mk (Kd.R_below (rp_ HO_6.out) hb); replace HB := Aside0.mk (below_step bp_ hb); (try clear hb); (try clear hb2); (try clear hk); (try clear hi)))
               replace HO_6 := Aside0.mk (Kd.R_drew HO_6.out)
               replace HB := Aside0.mk (below_drew1 HB.out)
               have p510 : 0 ≤ (x7_1 : Int) := of_decide_eq_true (by first | (with_reducible assumption) | assumption)
               have q510 : x7_1 < (y497.length : Int) := of_decide_eq_true (by first | (with_reducible assumption) | assumption)
               obtain ⟨ad510, e510, hx510_0, hx510_1, hx510_2, hx510_3⟩ := at_T25 (Kd.R_reads' HO_6.out).2.2 x7_1 p510 q510
               obtain rfl : ad500 = ad510 := (by injection e510)
               replace p510 := eq_true p510
               replace q510 := eq_true q510
               have p516 : 0 ≤ (x7_1 : Int) := of_decide_eq_true (by first | (with_reducible assumption) | assumption)
               have q516 : x7_1 < (y497.length : Int) := of_decide_eq_true (by first | (with_reducible assumption) | assumption)
               obtain ⟨ad516, e516, hx516_0, hx516_1, hx516_2, hx516_3⟩ := at_T25 (Kd.R_reads' HO_6.out).2.2 x7_1 p516 q516
               obtain rfl : ad500 = ad516 := (by injection e516)
               replace p516 := eq_true p516
               replace q516 := eq_true q516
               refine start_ (n := 22) (S := fun w' => w'.cell? (ad500.add ((x7_1).toNat * 4)) = some (.int .i64 ((rd_T25 y497 x7_1).f0)) ∧ w'.cell? ⟨(ad500.add ((x7_1).toNat * 4)).block, (ad500.add ((x7_1).toNat * 4)).off + 1, none⟩ = some (.int .i64 ((rd_T25 y497 x7_1).f1)) ∧ w'.cell? ⟨(ad500.add ((x7_1).toNat * 4)).block, (ad500.add ((x7_1).toNat * 4)).off + 2, none⟩ = some (.int .i64 ((rd_T25 y497 x7_1).f2)) ∧ w'.cell? ⟨(ad500.add ((x7_1).toNat * 4)).block, (ad500.add ((x7_1).toNat * 4)).off + 3, none⟩ = some (.int .i64 ((rd_T25 y497 x7_1).f3)) ∧ w'.cell? (ad500.add ((x7_1).toNat * 4)) = some (.int .i64 ((rd_T25 y497 x7_1).f0)) ∧ w'.cell? ⟨(ad500.add ((x7_1).toNat * 4)).block, (ad500.add ((x7_1).toNat * 4)).off + 1, none⟩ = some (.int .i64 ((rd_T25 y497 x7_1).f1)) ∧ w'.cell? ⟨(ad500.add ((x7_1).toNat * 4)).block, (ad500.add ((x7_1).toNat * 4)).off + 2, none⟩ = some (.int .i64 ((rd_T25 y497 x7_1).f2)) ∧ w'.cell? ⟨(ad500.add ((x7_1).toNat * 4)).block, (ad500.add ((x7_1).toNat * 4)).off + 3, none⟩ = some (.int .i64 ((rd_T25 y497 x7_1).f3))) (ds := []) Fl149 (by kernel_rfl) rfl rfl ⟨hx510_0, hx510_1, hx510_2, hx510_3, hx516_0, hx516_1, hx516_2, hx516_3⟩ (fun hHeld => ?_); refine with_tabW chequerlaw06_HeadWrites.tab8 chequerlaw06_HeadWrites.bits8 (fun HT_ HW_ => ?_)
               generalize w28.drew = w29 at HO_6 HB hx510_0 hx510_1 hx510_2 hx510_3 hx516_0 hx516_1 hx516_2 hx516_3 hHeld ⊢
               refine pur_ (i := 0) (N := some 43) Fl151 (any_of HT_.out (by kernel_rfl)) ?_
               refine pur_ (i := 1) (N := some 44) Fl154 (any_of HT_.out (by kernel_rfl)) ?_
               refine pur_ (i := 2) (N := some 45) Fl155 (any_of HT_.out (by kernel_rfl)) ?_
               refine pur_ (i := 3) (N := some 46) Fl157 (any_of HT_.out (by kernel_rfl)) ?_
               refine pur_ (i := 4) (N := some 47) Fl159 (any_of HT_.out (by kernel_rfl)) ?_
               refine pur_ (i := 5) (N := some 48) Fl161 (any_of HT_.out (by kernel_rfl)) ?_
               refine pur_ (i := 6) (N := some 49) Fl163 (any_of HT_.out (by kernel_rfl)) ?_
               refine pur_ (i := 7) (N := some 50) Fl165 (any_of HT_.out (by kernel_rfl)) ?_
               refine pur_ (i := 8) (N := some 51) Fl167 (any_of HT_.out (by kernel_rfl)) ?_
               refine pur_ (i := 9) (N := some 52) Fl169 (any_of HT_.out (by kernel_rfl)) ?_
               refine pur_ (i := 10) (N := some 53) Fl171 (any_of HT_.out (by kernel_rfl)) ?_
               refine pur_ (i := 11) (N := some 54) Fl173 (any_of HT_.out (by kernel_rfl)) ?_
               refine pur_ (i := 15) (N := some 58) Fl185 (any_of HT_.out (by kernel_rfl)) ?_
               refine pur_ (i := 16) (N := some 59) Fl186 (any_of HT_.out (by kernel_rfl)) ?_
               refine pur_ (i := 17) (N := some 60) Fl187 (any_of HT_.out (by kernel_rfl)) ?_
               refine take_ (i := 12) (N := some 55) (v := ?_) (a' := ?_) Fl189 rfl rfl (take_ofW HT_.out HW_.out (by kernel_rfl)) (fun _ _ _ h => h) (Or.inl ⟨by rfl, ?_⟩) hHeld ?_ ?_
               rotate_left
               · rintro w' ⟨s0, s1, s2, s3, s4, s5, s6, s7⟩
                 go_simp
                 with_reducible rfl
               rotate_left
               · simp only [Act.put, List.setIfInBounds_toArray, List.set_cons_zero, List.set_cons_succ, i64_w, i32_w]
                 rfl
               refine take_ (i := 18) (N := some 61) (v := ?_) (a' := ?_) Fl190 rfl rfl (take_ofW HT_.out HW_.out (by kernel_rfl)) (fun _ _ _ h => h) (Or.inl ⟨by rfl, ?_⟩) hHeld ?_ ?_
               rotate_left
               · rintro w' ⟨s0, s1, s2, s3, s4, s5, s6, s7⟩
                 go_simp
                 with_reducible rfl
               rotate_left
               · simp only [Act.put, List.setIfInBounds_toArray, List.set_cons_zero, List.set_cons_succ, i64_w, i32_w]
                 rfl
               refine one_ (i := 13) (N := some 56) Fl192 rfl rfl (one_of HT_.out (by kernel_rfl)) (by decide) (fun K hK => ?_)
               refine goes_ Try.func23 (by kernel_rfl) rfl #[.agg #[.int .i64 ((rd_T25 y497 x7_1).f0), .int .i64 ((rd_T25 y497 x7_1).f1), .int .i64 ((rd_T25 y497 x7_1).f2), .int .i64 ((rd_T25 y497 x7_1).f3)]] (by rfl) rfl rfl (by (try simp only [List.map_toArray, List.map_cons, List.map_nil]); first | done | rfl | (simp only [List.length_drop, List.length_take]; rfl)) ?_
               with_reducible refine (chequerlaw06_of.calls ((rd_T25 y497 x7_1).f0) ((rd_T25 y497 x7_1).f1) ((rd_T25 y497 x7_1).f2) ((rd_T25 y497 x7_1).f3) t511 t512 t513 t514 _ A21.out).mono ?_
               rintro e w30 ⟨rfl, hb⟩
               have HS0_ := (hb.cell (World.block_lt_of_cell? _ _ (hHeld.1))).trans (hHeld.1)
               have HS1_ := (hb.cell (World.block_lt_of_cell? _ _ (hHeld.2.1))).trans (hHeld.2.1)
               have HS2_ := (hb.cell (World.block_lt_of_cell? _ _ (hHeld.2.2.1))).trans (hHeld.2.2.1)
               have HS3_ := (hb.cell (World.block_lt_of_cell? _ _ (hHeld.2.2.2.1))).trans (hHeld.2.2.2.1)
               have HS4_ := (hb.cell (World.block_lt_of_cell? _ _ (hHeld.2.2.2.2.1))).trans (hHeld.2.2.2.2.1)
               have HS5_ := (hb.cell (World.block_lt_of_cell? _ _ (hHeld.2.2.2.2.2.1))).trans (hHeld.2.2.2.2.2.1)
               have HS6_ := (hb.cell (World.block_lt_of_cell? _ _ (hHeld.2.2.2.2.2.2.1))).trans (hHeld.2.2.2.2.2.2.1)
               have HS7_ := (hb.cell (World.block_lt_of_cell? _ _ (hHeld.2.2.2.2.2.2.2))).trans (hHeld.2.2.2.2.2.2.2)
               refine ⟨_, rfl, ?_⟩
               replace HO_6 := Aside0.mk (Kd.R_below (rp_ HO_6.out) hb)
               replace HB := Aside0.mk (below_step bp_ hb)
               (try clear hb)
               (try clear hb2)
               (try clear hk)
               (try clear hi)
               refine hK.out _ _ ⟨HS0_, HS1_, HS2_, HS3_, HS4_, HS5_, HS6_, HS7_⟩ (fun hHeld => ?_)
               clear hK K
               refine norm_ (a' := ?_) ?_ ?_
               rotate_left
               · show Act.put _ (some 56) _ = _
                 simp only [Act.put, List.setIfInBounds_toArray, List.set_cons_zero, List.set_cons_succ, i64_w, i32_w]
                 rfl
               refine one_ (i := 14) (N := some 57) Fl180 rfl rfl (one_of HT_.out (by kernel_rfl)) (by decide) (fun K hK => ?_)
               refine goes_ Try.func30 (by kernel_rfl) rfl #[.agg #[.int .i64 t511, .int .i64 t512, .int .i64 t513, .int .i64 t514]] (by rfl) rfl rfl (by (try simp only [List.map_toArray, List.map_cons, List.map_nil]); first | done | rfl | (simp only [List.length_drop, List.length_take]; rfl)) ?_
               with_reducible refine (head_May.calls t511 t512 t513 t514 t515 _ A22.out).mono ?_
               rintro e w31 ⟨rfl, hb⟩
               have HS0_ := (hb.cell (World.block_lt_of_cell? _ _ (hHeld.1))).trans (hHeld.1)
               have HS1_ := (hb.cell (World.block_lt_of_cell? _ _ (hHeld.2.1))).trans (hHeld.2.1)
               have HS2_ := (hb.cell (World.block_lt_of_cell? _ _ (hHeld.2.2.1))).trans (hHeld.2.2.1)
               have HS3_ := (hb.cell (World.block_lt_of_cell? _ _ (hHeld.2.2.2.1))).trans (hHeld.2.2.2.1)
               have HS4_ := (hb.cell (World.block_lt_of_cell? _ _ (hHeld.2.2.2.2.1))).trans (hHeld.2.2.2.2.1)
               have HS5_ := (hb.cell (World.block_lt_of_cell? _ _ (hHeld.2.2.2.2.2.1))).trans (hHeld.2.2.2.2.2.1)
               have HS6_ := (hb.cell (World.block_lt_of_cell? _ _ (hHeld.2.2.2.2.2.2.1))).trans (hHeld.2.2.2.2.2.2.1)
               have HS7_ := (hb.cell (World.block_lt_of_cell? _ _ (hHeld.2.2.2.2.2.2.2))).trans (hHeld.2.2.2.2.2.2.2)
               refine ⟨_, rfl, ?_⟩
               replace HO_6 := Aside0.mk (Kd.R_below (rp_ HO_6.out) hb)
               replace HB := Aside0.mk (below_step bp_ hb)
               (try clear hb)
               (try clear hb2)
               (try clear hk)
               (try clear hi)
               refine hK.out _ _ ⟨HS0_, HS1_, HS2_, HS3_, HS4_, HS5_, HS6_, HS7_⟩ (fun hHeld => ?_)
               clear hK K
               refine norm_ (a' := ?_) ?_ ?_
               rotate_left
               · show Act.put _ (some 57) _ = _
                 simp only [Act.put, List.setIfInBounds_toArray, List.set_cons_zero, List.set_cons_succ, i64_w, i32_w]
                 rfl
               refine one_ (i := 19) (N := some 62) Fl181 rfl rfl (one_of HT_.out (by kernel_rfl)) (by decide) (fun K hK => ?_)
               refine goes_ Try.func31 (by kernel_rfl) rfl #[.agg #[.int .i64 ((rd_T25 y497 x7_1).f0), .int .i64 ((rd_T25 y497 x7_1).f1), .int .i64 ((rd_T25 y497 x7_1).f2), .int .i64 ((rd_T25 y497 x7_1).f3)]] (by rfl) rfl rfl (by (try simp only [List.map_toArray, List.map_cons, List.map_nil]); first | done | rfl | (simp only [List.length_drop, List.length_take]; rfl)) ?_
               with_reducible refine (chequerref06_May.calls ((rd_T25 y497 x7_1).f0) ((rd_T25 y497 x7_1).f1) ((rd_T25 y497 x7_1).f2) ((rd_T25 y497 x7_1).f3) t517 _ A23.out).mono ?_
               rintro e w32 ⟨rfl, hb⟩
               have HS0_ := (hb.cell (World.block_lt_of_cell? _ _ (hHeld.1))).trans (hHeld.1)
               have HS1_ := (hb.cell (World.block_lt_of_cell? _ _ (hHeld.2.1))).trans (hHeld.2.1)
               have HS2_ := (hb.cell (World.block_lt_of_cell? _ _ (hHeld.2.2.1))).trans (hHeld.2.2.1)
               have HS3_ := (hb.cell (World.block_lt_of_cell? _ _ (hHeld.2.2.2.1))).trans (hHeld.2.2.2.1)
               have HS4_ := (hb.cell (World.block_lt_of_cell? _ _ (hHeld.2.2.2.2.1))).trans (hHeld.2.2.2.2.1)
               have HS5_ := (hb.cell (World.block_lt_of_cell? _ _ (hHeld.2.2.2.2.2.1))).trans (hHeld.2.2.2.2.2.1)
               have HS6_ := (hb.cell (World.block_lt_of_cell? _ _ (hHeld.2.2.2.2.2.2.1))).trans (hHeld.2.2.2.2.2.2.1)
               have HS7_ := (hb.cell (World.block_lt_of_cell? _ _ (hHeld.2.2.2.2.2.2.2))).trans (hHeld.2.2.2.2.2.2.2)
               refine ⟨_, rfl, ?_⟩
               replace HO_6 := Aside0.mk (Kd.R_below (rp_ HO_6.out) hb)
               replace HB := Aside0.mk (below_step bp_ hb)
               (try clear hb)
               (try clear hb2)
               (try clear hk)
               (try clear hi)
               refine hK.out _ _ ⟨HS0_, HS1_, HS2_, HS3_, HS4_, HS5_, HS6_, HS7_⟩ (fun hHeld => ?_)
               clear hK K
               refine norm_ (a' := ?_) ?_ ?_
               rotate_left
               · show Act.put _ (some 62) _ = _
                 simp only [Act.put, List.setIfInBounds_toArray, List.set_cons_zero, List.set_cons_succ, i64_w, i32_w]
                 rfl
               refine pur_ (i := 20) (N := some 63) Fl182 (any_of HT_.out (by kernel_rfl)) ?_
               refine pur_ (i := 21) (N := some 64) Fl183 (any_of HT_.out (by kernel_rfl)) ?_
               refine done_ (done_of HT_.out (by kernel_rfl)) ?_
               try go_wp2
               go_ret
               exact ⟨by first | rfl | (simp [errW_none, errW_some] <;> rfl) | (simp [*, errW_none, errW_some] <;> rfl), bp_⟩
             · rw [if_neg c24] at H
               have c24b0 : (t515 != t517) = false := by simpa using c24
               (try (have c24b1 : decide (t515 = t517) = true := by simpa using c24))
               (try (have c24b2 : (t515 == t517) = true := by simpa using c24))
               clear c24
               have H' := Aside0.mk H
               clear H
               obtain ⟨Ao33, co33, eo33⟩ := Kd.R_slice HO_6.out
               subst eo33
               have p500 : 0 ≤ (x7_1 : Int) := of_decide_eq_true (by first | (with_reducible assumption) | assumption)
               have q500 : x7_1 < (y497.length : Int) := of_decide_eq_true (by first | (with_reducible assumption) | assumption)
               obtain ⟨ad500, e500, hx500_0, hx500_1, hx500_2, hx500_3⟩ := at_T25 (Kd.R_reads' HO_6.out).2.2 x7_1 p500 q500
               cases e500
               replace p500 := eq_true p500
               replace q500 := eq_true q500
               try go_wp2_with (first | ((with_reducible refine gate_callee (f := 23) rfl ?_); refine goQ_ (some 31) Try.func23 #[.agg #[.int .i64 ((rd_T25 y497 x7_1).f0), .int .i64 ((rd_T25 y497 x7_1).f1), .int .i64 ((rd_T25 y497 x7_1).f2), .int .i64 ((rd_T25 y497 x7_1).f3)]] ?_; (with_reducible refine (chequerlaw06_of.calls ((rd_T25 y497 x7_1).f0) ((rd_T25 y497 x7_1).f1) ((rd_T25 y497 x7_1).f2) ((rd_T25 y497 x7_1).f3) t501 t502 t503 t504 _ A16.out).mono ?_); rintro e w34 ⟨rfl, hb⟩; refine ⟨_, rfl, ?_⟩; replace HO_6 := Aside0.mk (Kd.R_below (rp_ HO_6.out) hb); replace BK491 := Aside0.mk (blk_below (hp_ BK491.out) hb); replace BK496 := Aside0.mk (blk_below (hp_ BK496.out) hb); replace HB := Aside0.mk (below_step bp_ hb); (try clear hb); (try clear hb2); (try clear hk); (try clear hi)) | ((with_reducible refine gate_callee (f := 29) rfl ?_); refine goQ_ (some 32) Try.func29 #[.agg #[.int .i64 t501, .int .i64 t502, .int .i64 t503, .int .i64 t504]] ?_; (with_reducible refine (head_Write.calls t501 t502 t503 t504 t505 t506 _ A17.out).mono ?_); rintro e w35 ⟨rfl, hb⟩; refine ⟨_, rfl, ?_⟩; replace HO_6 := Aside0.mk (Kd.R_below (rp_ HO_6.out) hb); replace BK491 := Aside0.mk (blk_below (hp_ BK491.out) hb); replace BK496 := Aside0.mk (blk_below (hp_ BK496.out) hb); replace HB := Aside0.mk (below_step bp_ hb); (try clear hb); (try clear hb2); (try clear hk); (try clear hi); have p507 : 0 ≤ (x7_1 : Int) := of_decide_eq_true (by first | (with_reducible assumption) | assumption); have q507 : x7_1 < (y497.length : Int) := of_decide_eq_true (by first | (with_reducible assumption) | assumption); obtain ⟨ad507, e507, hx507_0, hx507_1, hx507_2, hx507_3⟩ := at_T25 (Kd.R_reads' HO_6.out).2.2 x7_1 p507 q507; obtain rfl : ad500 = ad507 := (by injection e507); replace p507 := eq_true p507; replace q507 := eq_true q507) | ((with_reducible refine gate_callee (f := 10) rfl ?_); refine goQ_ (some 40) Try.func10 #[.agg #[.int .i64 ((rd_T25 y497 x7_1).f0), .int .i64 ((rd_T25 y497 x7_1).f1), .int .i64 ((rd_T25 y497 x7_1).f2), .int .i64 ((rd_T25 y497 x7_1).f3)]] ?_; (with_reducible refine (chequerref06_Write.calls k1 ((rd_T25 y497 x7_1).f0) ((rd_T25 y497 x7_1).f1) ((rd_T25 y497 x7_1).f2) ((rd_T25 y497 x7_1).f3) t508 t509 _ A18.out).mono ?_); rintro e w36 ⟨rfl, hb⟩; refine ⟨_, rfl, ?_⟩; replace HO_6 := Aside0.mk (Kd.R_below (rp_ HO_6.out) hb); replace BK491 := Aside0.mk (blk_below (hp_ BK491.out) hb); replace BK496 := Aside0.mk (blk_below (hp_ BK496.out) hb); replace HB := Aside0.mk (below_step bp_ hb); (try clear hb); (try clear hb2); (try clear hk); (try clear hi)))
               replace HO_6 := Aside0.mk (Kd.R_drew HO_6.out)
               replace BK491 := Aside0.mk (blk_drew BK491.out)
               replace BK496 := Aside0.mk (blk_drew BK496.out)
               replace HB := Aside0.mk (below_drew1 HB.out)
               have p510 : 0 ≤ (x7_1 : Int) := of_decide_eq_true (by first | (with_reducible assumption) | assumption)
               have q510 : x7_1 < (y497.length : Int) := of_decide_eq_true (by first | (with_reducible assumption) | assumption)
               obtain ⟨ad510, e510, hx510_0, hx510_1, hx510_2, hx510_3⟩ := at_T25 (Kd.R_reads' HO_6.out).2.2 x7_1 p510 q510
               obtain rfl : ad500 = ad510 := (by injection e510)
               replace p510 := eq_true p510
               replace q510 := eq_true q510
               have p516 : 0 ≤ (x7_1 : Int) := of_decide_eq_true (by first | (with_reducible assumption) | assumption)
               have q516 : x7_1 < (y497.length : Int) := of_decide_eq_true (by first | (with_reducible assumption) | assumption)
               obtain ⟨ad516, e516, hx516_0, hx516_1, hx516_2, hx516_3⟩ := at_T25 (Kd.R_reads' HO_6.out).2.2 x7_1 p516 q516
               obtain rfl : ad500 = ad516 := (by injection e516)
               replace p516 := eq_true p516
               replace q516 := eq_true q516
               refine start_ (n := 22) (S := fun w' => w'.cell? (ad500.add ((x7_1).toNat * 4)) = some (.int .i64 ((rd_T25 y497 x7_1).f0)) ∧ w'.cell? ⟨(ad500.add ((x7_1).toNat * 4)).block, (ad500.add ((x7_1).toNat * 4)).off + 1, none⟩ = some (.int .i64 ((rd_T25 y497 x7_1).f1)) ∧ w'.cell? ⟨(ad500.add ((x7_1).toNat * 4)).block, (ad500.add ((x7_1).toNat * 4)).off + 2, none⟩ = some (.int .i64 ((rd_T25 y497 x7_1).f2)) ∧ w'.cell? ⟨(ad500.add ((x7_1).toNat * 4)).block, (ad500.add ((x7_1).toNat * 4)).off + 3, none⟩ = some (.int .i64 ((rd_T25 y497 x7_1).f3)) ∧ w'.cell? (ad500.add ((x7_1).toNat * 4)) = some (.int .i64 ((rd_T25 y497 x7_1).f0)) ∧ w'.cell? ⟨(ad500.add ((x7_1).toNat * 4)).block, (ad500.add ((x7_1).toNat * 4)).off + 1, none⟩ = some (.int .i64 ((rd_T25 y497 x7_1).f1)) ∧ w'.cell? ⟨(ad500.add ((x7_1).toNat * 4)).block, (ad500.add ((x7_1).toNat * 4)).off + 2, none⟩ = some (.int .i64 ((rd_T25 y497 x7_1).f2)) ∧ w'.cell? ⟨(ad500.add ((x7_1).toNat * 4)).block, (ad500.add ((x7_1).toNat * 4)).off + 3, none⟩ = some (.int .i64 ((rd_T25 y497 x7_1).f3))) (ds := []) Fl149 (by kernel_rfl) rfl rfl ⟨hx510_0, hx510_1, hx510_2, hx510_3, hx516_0, hx516_1, hx516_2, hx516_3⟩ (fun hHeld => ?_); refine with_tabW chequerlaw06_HeadWrites.tab8 chequerlaw06_HeadWrites.bits8 (fun HT_ HW_ => ?_)
               generalize w36.drew = w37 at HO_6 BK491 BK496 HB hx510_0 hx510_1 hx510_2 hx510_3 hx516_0 hx516_1 hx516_2 hx516_3 hHeld ⊢
               refine pur_ (i := 0) (N := some 43) Fl151 (any_of HT_.out (by kernel_rfl)) ?_
               refine pur_ (i := 1) (N := some 44) Fl154 (any_of HT_.out (by kernel_rfl)) ?_
               refine pur_ (i := 2) (N := some 45) Fl155 (any_of HT_.out (by kernel_rfl)) ?_
               refine pur_ (i := 3) (N := some 46) Fl157 (any_of HT_.out (by kernel_rfl)) ?_
               refine pur_ (i := 4) (N := some 47) Fl159 (any_of HT_.out (by kernel_rfl)) ?_
               refine pur_ (i := 5) (N := some 48) Fl161 (any_of HT_.out (by kernel_rfl)) ?_
               refine pur_ (i := 6) (N := some 49) Fl163 (any_of HT_.out (by kernel_rfl)) ?_
               refine pur_ (i := 7) (N := some 50) Fl165 (any_of HT_.out (by kernel_rfl)) ?_
               refine pur_ (i := 8) (N := some 51) Fl167 (any_of HT_.out (by kernel_rfl)) ?_
               refine pur_ (i := 9) (N := some 52) Fl169 (any_of HT_.out (by kernel_rfl)) ?_
               refine pur_ (i := 10) (N := some 53) Fl171 (any_of HT_.out (by kernel_rfl)) ?_
               refine pur_ (i := 11) (N := some 54) Fl173 (any_of HT_.out (by kernel_rfl)) ?_
               refine pur_ (i := 15) (N := some 58) Fl185 (any_of HT_.out (by kernel_rfl)) ?_
               refine pur_ (i := 16) (N := some 59) Fl186 (any_of HT_.out (by kernel_rfl)) ?_
               refine pur_ (i := 17) (N := some 60) Fl187 (any_of HT_.out (by kernel_rfl)) ?_
               refine take_ (i := 12) (N := some 55) (v := ?_) (a' := ?_) Fl189 rfl rfl (take_ofW HT_.out HW_.out (by kernel_rfl)) (fun _ _ _ h => h) (Or.inl ⟨by rfl, ?_⟩) hHeld ?_ ?_
               rotate_left
               · rintro w' ⟨s0, s1, s2, s3, s4, s5, s6, s7⟩
                 go_simp
                 with_reducible rfl
               rotate_left
               · simp only [Act.put, List.setIfInBounds_toArray, List.set_cons_zero, List.set_cons_succ, i64_w, i32_w]
                 rfl
               refine take_ (i := 18) (N := some 61) (v := ?_) (a' := ?_) Fl190 rfl rfl (take_ofW HT_.out HW_.out (by kernel_rfl)) (fun _ _ _ h => h) (Or.inl ⟨by rfl, ?_⟩) hHeld ?_ ?_
               rotate_left
               · rintro w' ⟨s0, s1, s2, s3, s4, s5, s6, s7⟩
                 go_simp
                 with_reducible rfl
               rotate_left
               · simp only [Act.put, List.setIfInBounds_toArray, List.set_cons_zero, List.set_cons_succ, i64_w, i32_w]
                 rfl
               refine one_ (i := 13) (N := some 56) Fl192 rfl rfl (one_of HT_.out (by kernel_rfl)) (by decide) (fun K hK => ?_)
               refine goes_ Try.func23 (by kernel_rfl) rfl #[.agg #[.int .i64 ((rd_T25 y497 x7_1).f0), .int .i64 ((rd_T25 y497 x7_1).f1), .int .i64 ((rd_T25 y497 x7_1).f2), .int .i64 ((rd_T25 y497 x7_1).f3)]] (by rfl) rfl rfl (by (try simp only [List.map_toArray, List.map_cons, List.map_nil]); first | done | rfl | (simp only [List.length_drop, List.length_take]; rfl)) ?_
               with_reducible refine (chequerlaw06_of.calls ((rd_T25 y497 x7_1).f0) ((rd_T25 y497 x7_1).f1) ((rd_T25 y497 x7_1).f2) ((rd_T25 y497 x7_1).f3) t511 t512 t513 t514 _ A21.out).mono ?_
               rintro e w38 ⟨rfl, hb⟩
               have HS0_ := (hb.cell (World.block_lt_of_cell? _ _ (hHeld.1))).trans (hHeld.1)
               have HS1_ := (hb.cell (World.block_lt_of_cell? _ _ (hHeld.2.1))).trans (hHeld.2.1)
               have HS2_ := (hb.cell (World.block_lt_of_cell? _ _ (hHeld.2.2.1))).trans (hHeld.2.2.1)
               have HS3_ := (hb.cell (World.block_lt_of_cell? _ _ (hHeld.2.2.2.1))).trans (hHeld.2.2.2.1)
               have HS4_ := (hb.cell (World.block_lt_of_cell? _ _ (hHeld.2.2.2.2.1))).trans (hHeld.2.2.2.2.1)
               have HS5_ := (hb.cell (World.block_lt_of_cell? _ _ (hHeld.2.2.2.2.2.1))).trans (hHeld.2.2.2.2.2.1)
               have HS6_ := (hb.cell (World.block_lt_of_cell? _ _ (hHeld.2.2.2.2.2.2.1))).trans (hHeld.2.2.2.2.2.2.1)
               have HS7_ := (hb.cell (World.block_lt_of_cell? _ _ (hHeld.2.2.2.2.2.2.2))).trans (hHeld.2.2.2.2.2.2.2)
               refine ⟨_, rfl, ?_⟩
               replace HO_6 := Aside0.mk (Kd.R_below (rp_ HO_6.out) hb)
               replace BK491 := Aside0.mk (blk_below (hp_ BK491.out) hb)
               replace BK496 := Aside0.mk (blk_below (hp_ BK496.out) hb)
               replace HB := Aside0.mk (below_step bp_ hb)
               (try clear hb)
               (try clear hb2)
               (try clear hk)
               (try clear hi)
               refine hK.out _ _ ⟨HS0_, HS1_, HS2_, HS3_, HS4_, HS5_, HS6_, HS7_⟩ (fun hHeld => ?_)
               clear hK K
               refine norm_ (a' := ?_) ?_ ?_
               rotate_left
               · show Act.put _ (some 56) _ = _
                 simp only [Act.put, List.setIfInBounds_toArray, List.set_cons_zero, List.set_cons_succ, i64_w, i32_w]
                 rfl
               refine one_ (i := 14) (N := some 57) Fl180 rfl rfl (one_of HT_.out (by kernel_rfl)) (by decide) (fun K hK => ?_)
               refine goes_ Try.func30 (by kernel_rfl) rfl #[.agg #[.int .i64 t511, .int .i64 t512, .int .i64 t513, .int .i64 t514]] (by rfl) rfl rfl (by (try simp only [List.map_toArray, List.map_cons, List.map_nil]); first | done | rfl | (simp only [List.length_drop, List.length_take]; rfl)) ?_
               with_reducible refine (head_May.calls t511 t512 t513 t514 t515 _ A22.out).mono ?_
               rintro e w39 ⟨rfl, hb⟩
               have HS0_ := (hb.cell (World.block_lt_of_cell? _ _ (hHeld.1))).trans (hHeld.1)
               have HS1_ := (hb.cell (World.block_lt_of_cell? _ _ (hHeld.2.1))).trans (hHeld.2.1)
               have HS2_ := (hb.cell (World.block_lt_of_cell? _ _ (hHeld.2.2.1))).trans (hHeld.2.2.1)
               have HS3_ := (hb.cell (World.block_lt_of_cell? _ _ (hHeld.2.2.2.1))).trans (hHeld.2.2.2.1)
               have HS4_ := (hb.cell (World.block_lt_of_cell? _ _ (hHeld.2.2.2.2.1))).trans (hHeld.2.2.2.2.1)
               have HS5_ := (hb.cell (World.block_lt_of_cell? _ _ (hHeld.2.2.2.2.2.1))).trans (hHeld.2.2.2.2.2.1)
               have HS6_ := (hb.cell (World.block_lt_of_cell? _ _ (hHeld.2.2.2.2.2.2.1))).trans (hHeld.2.2.2.2.2.2.1)
               have HS7_ := (hb.cell (World.block_lt_of_cell? _ _ (hHeld.2.2.2.2.2.2.2))).trans (hHeld.2.2.2.2.2.2.2)
               refine ⟨_, rfl, ?_⟩
               replace HO_6 := Aside0.mk (Kd.R_below (rp_ HO_6.out) hb)
               replace BK491 := Aside0.mk (blk_below (hp_ BK491.out) hb)
               replace BK496 := Aside0.mk (blk_below (hp_ BK496.out) hb)
               replace HB := Aside0.mk (below_step bp_ hb)
               (try clear hb)
               (try clear hb2)
               (try clear hk)
               (try clear hi)
               refine hK.out _ _ ⟨HS0_, HS1_, HS2_, HS3_, HS4_, HS5_, HS6_, HS7_⟩ (fun hHeld => ?_)
               clear hK K
               refine norm_ (a' := ?_) ?_ ?_
               rotate_left
               · show Act.put _ (some 57) _ = _
                 simp only [Act.put, List.setIfInBounds_toArray, List.set_cons_zero, List.set_cons_succ, i64_w, i32_w]
                 rfl
               refine one_ (i := 19) (N := some 62) Fl181 rfl rfl (one_of HT_.out (by kernel_rfl)) (by decide) (fun K hK => ?_)
               refine goes_ Try.func31 (by kernel_rfl) rfl #[.agg #[.int .i64 ((rd_T25 y497 x7_1).f0), .int .i64 ((rd_T25 y497 x7_1).f1), .int .i64 ((rd_T25 y497 x7_1).f2), .int .i64 ((rd_T25 y497 x7_1).f3)]] (by rfl) rfl rfl (by (try simp only [List.map_toArray, List.map_cons, List.map_nil]); first | done | rfl | (simp only [List.length_drop, List.length_take]; rfl)) ?_
               with_reducible refine (chequerref06_May.calls ((rd_T25 y497 x7_1).f0) ((rd_T25 y497 x7_1).f1) ((rd_T25 y497 x7_1).f2) ((rd_T25 y497 x7_1).f3) t517 _ A23.out).mono ?_
               rintro e w40 ⟨rfl, hb⟩
               have HS0_ := (hb.cell (World.block_lt_of_cell? _ _ (hHeld.1))).trans (hHeld.1)
               have HS1_ := (hb.cell (World.block_lt_of_cell? _ _ (hHeld.2.1))).trans (hHeld.2.1)
               have HS2_ := (hb.cell (World.block_lt_of_cell? _ _ (hHeld.2.2.1))).trans (hHeld.2.2.1)
               have HS3_ := (hb.cell (World.block_lt_of_cell? _ _ (hHeld.2.2.2.1))).trans (hHeld.2.2.2.1)
               have HS4_ := (hb.cell (World.block_lt_of_cell? _ _ (hHeld.2.2.2.2.1))).trans (hHeld.2.2.2.2.1)
               have HS5_ := (hb.cell (World.block_lt_of_cell? _ _ (hHeld.2.2.2.2.2.1))).trans (hHeld.2.2.2.2.2.1)
               have HS6_ := (hb.cell (World.block_lt_of_cell? _ _ (hHeld.2.2.2.2.2.2.1))).trans (hHeld.2.2.2.2.2.2.1)
               have HS7_ := (hb.cell (World.block_lt_of_cell? _ _ (hHeld.2.2.2.2.2.2.2))).trans (hHeld.2.2.2.2.2.2.2)
               refine ⟨_, rfl, ?_⟩
               replace HO_6 := Aside0.mk (Kd.R_below (rp_ HO_6.out) hb)
               replace BK491 := Aside0.mk (blk_below (hp_ BK491.out) hb)
               replace BK496 := Aside0.mk (blk_below (hp_ BK496.out) hb)
               replace HB := Aside0.mk (below_step bp_ hb)
               (try clear hb)
               (try clear hb2)
               (try clear hk)
               (try clear hi)
               refine hK.out _ _ ⟨HS0_, HS1_, HS2_, HS3_, HS4_, HS5_, HS6_, HS7_⟩ (fun hHeld => ?_)
               clear hK K
               refine norm_ (a' := ?_) ?_ ?_
               rotate_left
               · show Act.put _ (some 62) _ = _
                 simp only [Act.put, List.setIfInBounds_toArray, List.set_cons_zero, List.set_cons_succ, i64_w, i32_w]
                 rfl
               refine pur_ (i := 20) (N := some 63) Fl182 (any_of HT_.out (by kernel_rfl)) ?_
               refine pur_ (i := 21) (N := some 64) Fl183 (any_of HT_.out (by kernel_rfl)) ?_
               refine done_ (done_of HT_.out (by kernel_rfl)) ?_
               try go_wp2
               go_roundg k1
               case measure => have := HK1.out; omega
               case rel => exact ⟨(wrap64 (x7_1 + 1)), (by first | rfl | (simp; done) | (simp [*]; done)), H', ⟨by have := HK1.out; omega⟩, ⟨rp_ HO_6.out⟩, ⟨hp_ BK491.out⟩, ⟨hp_ BK496.out⟩, ⟨bp_⟩⟩
           · rw [if_neg c20] at H
             have c20b0 : (t506 == t509) = false := beq_eq_false_iff_ne.mpr c20
             have c20b1 : (t506 != t509) = true := bne_iff_ne.mpr c20
             obtain rfl := Option.some.inj H
             obtain ⟨Ao41, co41, eo41⟩ := Kd.R_slice HO_6.out
             subst eo41
             have p500 : 0 ≤ (x7_1 : Int) := of_decide_eq_true (by first | (with_reducible assumption) | assumption)
             have q500 : x7_1 < (y497.length : Int) := of_decide_eq_true (by first | (with_reducible assumption) | assumption)
             obtain ⟨ad500, e500, hx500_0, hx500_1, hx500_2, hx500_3⟩ := at_T25 (Kd.R_reads' HO_6.out).2.2 x7_1 p500 q500
             cases e500
             replace p500 := eq_true p500
             replace q500 := eq_true q500
             try go_wp2_with (first | ((with_reducible refine gate_callee (f := 23) rfl ?_); refine goQ_ (some 31) Try.func23 #[.agg #[.int .i64 ((rd_T25 y497 x7_1).f0), .int .i64 ((rd_T25 y497 x7_1).f1), .int .i64 ((rd_T25 y497 x7_1).f2), .int .i64 ((rd_T25 y497 x7_1).f3)]] ?_; (with_reducible refine (chequerlaw06_of.calls ((rd_T25 y497 x7_1).f0) ((rd_T25 y497 x7_1).f1) ((rd_T25 y497 x7_1).f2) ((rd_T25 y497 x7_1).f3) t501 t502 t503 t504 _ A16.out).mono ?_); rintro e w42 ⟨rfl, hb⟩; refine ⟨_, rfl, ?_⟩; replace HO_6 := Aside0.mk (Kd.R_below (rp_ HO_6.out) hb); replace HB := Aside0.mk (below_step bp_ hb); (try clear hb); (try clear hb2); (try clear hk); (try clear hi)) | ((with_reducible refine gate_callee (f := 29) rfl ?_); refine goQ_ (some 32) Try.func29 #[.agg #[.int .i64 t501, .int .i64 t502, .int .i64 t503, .int .i64 t504]] ?_; (with_reducible refine (head_Write.calls t501 t502 t503 t504 t505 t506 _ A17.out).mono ?_); rintro e w43 ⟨rfl, hb⟩; refine ⟨_, rfl, ?_⟩; replace HO_6 := Aside0.mk (Kd.R_below (rp_ HO_6.out) hb); replace HB := Aside0.mk (below_step bp_ hb); (try clear hb); (try clear hb2); (try clear hk); (try clear hi); have p507 : 0 ≤ (x7_1 : Int) := of_decide_eq_true (by first | (with_reducible assumption) | assumption); have q507 : x7_1 < (y497.length : Int) := of_decide_eq_true (by first | (with_reducible assumption) | assumption); obtain ⟨ad507, e507, hx507_0, hx507_1, hx507_2, hx507_3⟩ := at_T25 (Kd.R_reads' HO_6.out).2.2 x7_1 p507 q507; obtain rfl : ad500 = ad507 := (by injection e507); replace p507 := eq_true p507; replace q507 := eq_true q507) | ((with_reducible refine gate_callee (f := 10) rfl ?_); refine goQ_ (some 40) Try.func10 #[.agg #[.int .i64 ((rd_T25 y497 x7_1).f0), .int .i64 ((rd_T25 y497 x7_1).f1), .int .i64 ((rd_T25 y497 x7_1).f2), .int .i64 ((rd_T25 y497 x7_1).f3)]] ?_; (with_reducible refine (chequerref06_Write.calls k1 ((rd_T25 y497 x7_1).f0) ((rd_T25 y497 x7_1).f1) ((rd_T25 y497 x7_1).f2) ((rd_T25 y497 x7_1).f3) t508 t509 _ A18.out).mono ?_); rintro e w44 ⟨rfl, hb⟩; refine ⟨_, rfl, ?_⟩; replace HO_6 := Aside0.mk (Kd.R_below (rp_ HO_6.out) hb); replace HB := Aside0.mk (below_step bp_ hb); (try clear hb); (try clear hb2); (try clear hk); (try clear hi)))
             replace HO_6 := Aside0.mk (Kd.R_drew HO_6.out)
             replace HB := Aside0.mk (below_drew1 HB.out)
             refine start_ (n := 22) (S := fun w' => True) (ds := []) Fl149 (by kernel_rfl) rfl rfl trivial (fun hHeld => ?_); refine with_tabW chequerlaw06_HeadWrites.tab8 chequerlaw06_HeadWrites.bits8 (fun HT_ HW_ => ?_)
             generalize w44.drew = w45 at HO_6 HB hHeld ⊢
             refine pur_ (i := 0) (N := some 43) Fl151 (any_of HT_.out (by kernel_rfl)) ?_
             refine pur_ (i := 1) (N := some 44) Fl154 (any_of HT_.out (by kernel_rfl)) ?_
             refine pur_ (i := 2) (N := some 45) Fl155 (any_of HT_.out (by kernel_rfl)) ?_
             refine pur_ (i := 3) (N := some 46) Fl157 (any_of HT_.out (by kernel_rfl)) ?_
             refine pur_ (i := 4) (N := some 47) Fl159 (any_of HT_.out (by kernel_rfl)) ?_
             refine pur_ (i := 5) (N := some 48) Fl161 (any_of HT_.out (by kernel_rfl)) ?_
             refine pur_ (i := 6) (N := some 49) Fl163 (any_of HT_.out (by kernel_rfl)) ?_
             refine pur_ (i := 7) (N := some 50) Fl165 (any_of HT_.out (by kernel_rfl)) ?_
             refine pur_ (i := 8) (N := some 51) Fl167 (any_of HT_.out (by kernel_rfl)) ?_
             refine pun_ (i := 9) (N := some 52) Fl169 (any_of HT_.out (by kernel_rfl)) ?_
             refine pun_ (i := 10) (N := some 53) Fl171 (any_of HT_.out (by kernel_rfl)) ?_
             refine pun_ (i := 11) (N := some 54) Fl173 (any_of HT_.out (by kernel_rfl)) ?_
             refine pun_ (i := 12) (N := some 55) Fl188 (any_of HT_.out (by kernel_rfl)) ?_
             refine pun_ (i := 13) (N := some 56) Fl191 (any_of HT_.out (by kernel_rfl)) ?_
             refine pun_ (i := 14) (N := some 57) Fl193 (any_of HT_.out (by kernel_rfl)) ?_
             refine pun_ (i := 15) (N := some 58) Fl194 (any_of HT_.out (by kernel_rfl)) ?_
             refine pun_ (i := 16) (N := some 59) Fl195 (any_of HT_.out (by kernel_rfl)) ?_
             refine pun_ (i := 17) (N := some 60) Fl196 (any_of HT_.out (by kernel_rfl)) ?_
             refine pun_ (i := 18) (N := some 61) Fl180 (any_of HT_.out (by kernel_rfl)) ?_
             refine pun_ (i := 19) (N := some 62) Fl181 (any_of HT_.out (by kernel_rfl)) ?_
             refine pun_ (i := 20) (N := some 63) Fl182 (any_of HT_.out (by kernel_rfl)) ?_
             refine pur_ (i := 21) (N := some 64) Fl183 (any_of HT_.out (by kernel_rfl)) ?_
             refine done_ (done_of HT_.out (by kernel_rfl)) ?_
             try go_wp2
             go_ret
             exact ⟨by first | rfl | (simp [errW_none, errW_some] <;> rfl) | (simp [*, errW_none, errW_some] <;> rfl), bp_⟩
         · rw [if_neg c19] at H
           have c19b0 : (t505.toList == t508.toList) = false := beq_eq_false_iff_ne.mpr c19
           have c19b1 : (t505.toList != t508.toList) = true := bne_iff_ne.mpr c19
           obtain rfl := Option.some.inj H
           obtain ⟨Ao46, co46, eo46⟩ := Kd.R_slice HO_6.out
           subst eo46
           have p500 : 0 ≤ (x7_1 : Int) := of_decide_eq_true (by first | (with_reducible assumption) | assumption)
           have q500 : x7_1 < (y497.length : Int) := of_decide_eq_true (by first | (with_reducible assumption) | assumption)
           obtain ⟨ad500, e500, hx500_0, hx500_1, hx500_2, hx500_3⟩ := at_T25 (Kd.R_reads' HO_6.out).2.2 x7_1 p500 q500
           cases e500
           replace p500 := eq_true p500
           replace q500 := eq_true q500
           try go_wp2_with (first | ((with_reducible refine gate_callee (f := 23) rfl ?_); refine goQ_ (some 31) Try.func23 #[.agg #[.int .i64 ((rd_T25 y497 x7_1).f0), .int .i64 ((rd_T25 y497 x7_1).f1), .int .i64 ((rd_T25 y497 x7_1).f2), .int .i64 ((rd_T25 y497 x7_1).f3)]] ?_; (with_reducible refine (chequerlaw06_of.calls ((rd_T25 y497 x7_1).f0) ((rd_T25 y497 x7_1).f1) ((rd_T25 y497 x7_1).f2) ((rd_T25 y497 x7_1).f3) t501 t502 t503 t504 _ A16.out).mono ?_); rintro e w47 ⟨rfl, hb⟩; refine ⟨_, rfl, ?_⟩; replace HO_6 := Aside0.mk (Kd.R_below (rp_ HO_6.out) hb); replace HB := Aside0.mk (below_step bp_ hb); (try clear hb); (try clear hb2); (try clear hk); (try clear hi)) | ((with_reducible refine gate_callee (f := 29) rfl ?_); refine goQ_ (some 32) Try.func29 #[.agg #[.int .i64 t501, .int .i64 t502, .int .i64 t503, .int .i64 t504]] ?_; (with_reducible refine (head_Write.calls t501 t502 t503 t504 t505 t506 _ A17.out).mono ?_); rintro e w48 ⟨rfl, hb⟩; refine ⟨_, rfl, ?_⟩; replace HO_6 := Aside0.mk (Kd.R_below (rp_ HO_6.out) hb); replace HB := Aside0.mk (below_step bp_ hb); (try clear hb); (try clear hb2); (try clear hk); (try clear hi); have p507 : 0 ≤ (x7_1 : Int) := of_decide_eq_true (by first | (with_reducible assumption) | assumption); have q507 : x7_1 < (y497.length : Int) := of_decide_eq_true (by first | (with_reducible assumption) | assumption); obtain ⟨ad507, e507, hx507_0, hx507_1, hx507_2, hx507_3⟩ := at_T25 (Kd.R_reads' HO_6.out).2.2 x7_1 p507 q507; obtain rfl : ad500 = ad507 := (by injection e507); replace p507 := eq_true p507; replace q507 := eq_true q507) | ((with_reducible refine gate_callee (f := 10) rfl ?_); refine goQ_ (some 40) Try.func10 #[.agg #[.int .i64 ((rd_T25 y497 x7_1).f0), .int .i64 ((rd_T25 y497 x7_1).f1), .int .i64 ((rd_T25 y497 x7_1).f2), .int .i64 ((rd_T25 y497 x7_1).f3)]] ?_; (with_reducible refine (chequerref06_Write.calls k1 ((rd_T25 y497 x7_1).f0) ((rd_T25 y497 x7_1).f1) ((rd_T25 y497 x7_1).f2) ((rd_T25 y497 x7_1).f3) t508 t509 _ A18.out).mono ?_); rintro e w49 ⟨rfl, hb⟩; refine ⟨_, rfl, ?_⟩; replace HO_6 := Aside0.mk (Kd.R_below (rp_ HO_6.out) hb); replace HB := Aside0.mk (below_step bp_ hb); (try clear hb); (try clear hb2); (try clear hk); (try clear hi)))
           replace HO_6 := Aside0.mk (Kd.R_drew HO_6.out)
           replace HB := Aside0.mk (below_drew1 HB.out)
           refine start_ (n := 22) (S := fun w' => True) (ds := []) Fl149 (by kernel_rfl) rfl rfl trivial (fun hHeld => ?_); refine with_tabW chequerlaw06_HeadWrites.tab8 chequerlaw06_HeadWrites.bits8 (fun HT_ HW_ => ?_)
           generalize w49.drew = w50 at HO_6 HB hHeld ⊢
           refine pur_ (i := 0) (N := some 43) Fl151 (any_of HT_.out (by kernel_rfl)) ?_
           refine pur_ (i := 1) (N := some 44) Fl154 (any_of HT_.out (by kernel_rfl)) ?_
           refine pur_ (i := 2) (N := some 45) Fl155 (any_of HT_.out (by kernel_rfl)) ?_
           refine pur_ (i := 3) (N := some 46) Fl157 (any_of HT_.out (by kernel_rfl)) ?_
           refine pun_ (i := 4) (N := some 47) Fl159 (any_of HT_.out (by kernel_rfl)) ?_
           refine pun_ (i := 5) (N := some 48) Fl161 (any_of HT_.out (by kernel_rfl)) ?_
           refine pun_ (i := 6) (N := some 49) Fl163 (any_of HT_.out (by kernel_rfl)) ?_
           refine pur_ (i := 7) (N := some 50) Fl165 (any_of HT_.out (by kernel_rfl)) ?_
           refine pur_ (i := 8) (N := some 51) Fl167 (any_of HT_.out (by kernel_rfl)) ?_
           refine pun_ (i := 9) (N := some 52) Fl169 (any_of HT_.out (by kernel_rfl)) ?_
           refine pun_ (i := 10) (N := some 53) Fl171 (any_of HT_.out (by kernel_rfl)) ?_
           refine pun_ (i := 11) (N := some 54) Fl173 (any_of HT_.out (by kernel_rfl)) ?_
           refine pun_ (i := 12) (N := some 55) Fl188 (any_of HT_.out (by kernel_rfl)) ?_
           refine pun_ (i := 13) (N := some 56) Fl191 (any_of HT_.out (by kernel_rfl)) ?_
           refine pun_ (i := 14) (N := some 57) Fl193 (any_of HT_.out (by kernel_rfl)) ?_
           refine pun_ (i := 15) (N := some 58) Fl194 (any_of HT_.out (by kernel_rfl)) ?_
           refine pun_ (i := 16) (N := some 59) Fl195 (any_of HT_.out (by kernel_rfl)) ?_
           refine pun_ (i := 17) (N := some 60) Fl196 (any_of HT_.out (by kernel_rfl)) ?_
           refine pun_ (i := 18) (N := some 61) Fl180 (any_of HT_.out (by kernel_rfl)) ?_
           refine pun_ (i := 19) (N := some 62) Fl181 (any_of HT_.out (by kernel_rfl)) ?_
           refine pun_ (i := 20) (N := some 63) Fl182 (any_of HT_.out (by kernel_rfl)) ?_
           refine pur_ (i := 21) (N := some 64) Fl183 (any_of HT_.out (by kernel_rfl)) ?_
           refine done_ (done_of HT_.out (by kernel_rfl)) ?_
           try go_wp2
           go_ret
           exact ⟨by first | rfl | (simp [errW_none, errW_some] <;> rfl) | (simp [*, errW_none, errW_some] <;> rfl), bp_⟩
       · rw [if_neg c15] at H
         exact absurd H (by simp)
     · rw [if_neg c14] at H
       exact absurd H (by simp)
   · rw [if_neg c13] at H
     have c13b0 : decide (x7_1 < 2) = false := decide_eq_false c13
     clear c13
     replace H := Option.bind_eq_some_iff.mp H
     obtain ⟨⟨t518, t519, t520, t521⟩, A510, H⟩ := H
     replace H : ((head_Write.f t518 t519 t520 t521).bind fun bt522 => ((chequerref05_Few.f a1 9).bind fun t524 => (if bt522.1.size + t524.size ≤ 9223372036854775807 then ((head_All.f).bind fun bt525 => ((head_Parse.f k1 (bt522.1 ++ t524) bt525.1 bt525.2.1 bt525.2.2).bind fun bt528 => ((chequerlaw06_as.f bt528.1 bt528.2.1 bt528.2.2.1 bt528.2.2.2.1).bind fun bt535 => (if (bt535.1 == t492 && (bt535.2.1 == t493 && (bt535.2.2.1 == t494 && (bt535.2.2.2 == t495)))) = true then (if bt528.2.2.2.2.1 = (bt522.1.size : Int) then (if bt528.2.2.2.2.2 = 0 then ((chequerlaw06_lives.f k1).bind fun t539 => (some t539)) else (some false)) else (some false)) else (some false))))) else (none)))) = some r := H
     have A51 := Aside0.mk A510
     clear A510
     replace H := Option.bind_eq_some_iff.mp H
     obtain ⟨⟨t522, t523⟩, A520, H⟩ := H
     replace H : ((chequerref05_Few.f a1 9).bind fun t524 => (if t522.size + t524.size ≤ 9223372036854775807 then ((head_All.f).bind fun bt525 => ((head_Parse.f k1 (t522 ++ t524) bt525.1 bt525.2.1 bt525.2.2).bind fun bt528 => ((chequerlaw06_as.f bt528.1 bt528.2.1 bt528.2.2.1 bt528.2.2.2.1).bind fun bt535 => (if (bt535.1 == t492 && (bt535.2.1 == t493 && (bt535.2.2.1 == t494 && (bt535.2.2.2 == t495)))) = true then (if bt528.2.2.2.2.1 = (t522.size : Int) then (if bt528.2.2.2.2.2 = 0 then ((chequerlaw06_lives.f k1).bind fun t539 => (some t539)) else (some false)) else (some false)) else (some false))))) else (none))) = some r := H
     have A52 := Aside0.mk A520
     clear A520
     replace H := Option.bind_eq_some_iff.mp H
     obtain ⟨t524, A530, H⟩ := H
     replace H : (if t522.size + t524.size ≤ 9223372036854775807 then ((head_All.f).bind fun bt525 => ((head_Parse.f k1 (t522 ++ t524) bt525.1 bt525.2.1 bt525.2.2).bind fun bt528 => ((chequerlaw06_as.f bt528.1 bt528.2.1 bt528.2.2.1 bt528.2.2.2.1).bind fun bt535 => (if (bt535.1 == t492 && (bt535.2.1 == t493 && (bt535.2.2.1 == t494 && (bt535.2.2.2 == t495)))) = true then (if bt528.2.2.2.2.1 = (t522.size : Int) then (if bt528.2.2.2.2.2 = 0 then ((chequerlaw06_lives.f k1).bind fun t539 => (some t539)) else (some false)) else (some false)) else (some false))))) else (none)) = some r := H
     have A53 := Aside0.mk A530
     clear A530
     by_cases c54 : t522.size + t524.size ≤ 9223372036854775807
     · rw [if_pos c54] at H
       have c54b0 := eq_true c54
       have c54b1 : decide (t522.size + t524.size ≤ 9223372036854775807) = true := decide_eq_true c54
       try have c54b2 : (9223372036854775807 < t522.size + t524.size) = False := eq_false (Nat.not_lt.2 c54)
       replace H := Option.bind_eq_some_iff.mp H
       obtain ⟨⟨t525, t526, t527⟩, A550, H⟩ := H
       replace H : ((head_Parse.f k1 (t522 ++ t524) t525 t526 t527).bind fun bt528 => ((chequerlaw06_as.f bt528.1 bt528.2.1 bt528.2.2.1 bt528.2.2.2.1).bind fun bt535 => (if (bt535.1 == t492 && (bt535.2.1 == t493 && (bt535.2.2.1 == t494 && (bt535.2.2.2 == t495)))) = true then (if bt528.2.2.2.2.1 = (t522.size : Int) then (if bt528.2.2.2.2.2 = 0 then ((chequerlaw06_lives.f k1).bind fun t539 => (some t539)) else (some false)) else (some false)) else (some false)))) = some r := H
       have A55 := Aside0.mk A550
       clear A550
       replace H := Option.bind_eq_some_iff.mp H
       obtain ⟨⟨t528, t529, t530, t531, t532, t533⟩, A560, H⟩ := H
       replace H : ((chequerlaw06_as.f t528 t529 t530 t531).bind fun bt535 => (if (bt535.1 == t492 && (bt535.2.1 == t493 && (bt535.2.2.1 == t494 && (bt535.2.2.2 == t495)))) = true then (if t532 = (t522.size : Int) then (if t533 = 0 then ((chequerlaw06_lives.f k1).bind fun t539 => (some t539)) else (some false)) else (some false)) else (some false))) = some r := H
       have A56 := Aside0.mk A560
       clear A560
       replace H := Option.bind_eq_some_iff.mp H
       obtain ⟨⟨t535, t536, t537, t538⟩, A570, H⟩ := H
       replace H : (if (t535 == t492 && (t536 == t493 && (t537 == t494 && (t538 == t495)))) = true then (if t532 = (t522.size : Int) then (if t533 = 0 then ((chequerlaw06_lives.f k1).bind fun t539 => (some t539)) else (some false)) else (some false)) else (some false)) = some r := H
       have A57 := Aside0.mk A570
       clear A570
       by_cases c58 : (t535 == t492 && (t536 == t493 && (t537 == t494 && (t538 == t495)))) = true
       · rw [if_pos c58] at H
         have c58b0 : (t535 == t492 && (t536 == t493 && (t537 == t494 && (t538 == t495)))) = true := c58
         (try (have c58b1 : decide (t535 = t492 && (t536 == t493 && (t537 == t494 && (t538 == t495)))) = true := by simpa using c58))
         (try (have c58b2 : (t535 == t492 && (t536 == t493 && (t537 == t494 && (t538 == t495)))) = true := by simpa using c58))
         clear c58
         by_cases c59 : t532 = (t522.size : Int)
         · rw [if_pos c59] at H
           have c59b0 : (t532 == (t522.size : Int)) = true := beq_iff_eq.mpr c59
           have c59b1 : (t532 != (t522.size : Int)) = false := bne_eq_false_iff_eq.mpr c59
           clear c59
           by_cases c60 : t533 = 0
           · rw [if_pos c60] at H
             have c60b0 : (t533 == 0) = true := beq_iff_eq.mpr c60
             have c60b1 : (t533 != 0) = false := bne_eq_false_iff_eq.mpr c60
             clear c60
             replace H := Option.bind_eq_some_iff.mp H
             obtain ⟨t539, A610, H⟩ := H
             replace H : (some t539) = some r := H
             have A61 := Aside0.mk A610
             clear A610
             obtain rfl := Option.some.inj H
             have hcz62_0 : wr.cell? ⟨gb496, 0, none⟩ = some (.int .i64 t492) := (blk_cell BK496.out 0).trans rfl
             have hcz62_1 : wr.cell? ⟨gb496, 1, none⟩ = some (.int .i64 t493) := (blk_cell BK496.out 1).trans rfl
             have hcz62_2 : wr.cell? ⟨gb496, 2, none⟩ = some (.int .i64 t494) := (blk_cell BK496.out 2).trans rfl
             have hcz62_3 : wr.cell? ⟨gb496, 3, none⟩ = some (.int .i64 t495) := (blk_cell BK496.out 3).trans rfl
             have hfz62_0 := blk_frozen BK496.out 0
             have hfz62_1 := blk_frozen BK496.out 1
             have hfz62_2 := blk_frozen BK496.out 2
             have hfz62_3 := blk_frozen BK496.out 3
             try go_wp2_with (first | ((with_reducible refine gate_callee (f := 23) rfl ?_); refine goQ_ (some 67) Try.func23 #[.agg #[.int .i64 t492, .int .i64 t493, .int .i64 t494, .int .i64 t495]] ?_; (with_reducible refine (chequerlaw06_of.calls t492 t493 t494 t495 t518 t519 t520 t521 _ A51.out).mono ?_); rintro e w63 ⟨rfl, hb⟩; refine ⟨_, rfl, ?_⟩; replace HO_6 := Aside0.mk (Kd.R_below (rp_ HO_6.out) hb); replace BK496 := Aside0.mk (blk_below (hp_ BK496.out) hb); replace HB := Aside0.mk (below_step bp_ hb); (try clear hb); (try clear hb2); (try clear hk); (try clear hi)) | ((with_reducible refine gate_callee (f := 29) rfl ?_); refine goQ_ (some 68) Try.func29 #[.agg #[.int .i64 t518, .int .i64 t519, .int .i64 t520, .int .i64 t521]] ?_; (with_reducible refine (head_Write.calls t518 t519 t520 t521 t522 t523 _ A52.out).mono ?_); rintro e w64 ⟨rfl, hb⟩; refine ⟨_, rfl, ?_⟩; replace HO_6 := Aside0.mk (Kd.R_below (rp_ HO_6.out) hb); replace BK496 := Aside0.mk (blk_below (hp_ BK496.out) hb); replace HB := Aside0.mk (below_step bp_ hb); (try clear hb); (try clear hb2); (try clear hk); (try clear hi)) | ((with_reducible refine gate_callee (f := 9) rfl ?_); refine goQ_ (some 74) Try.func9 #[.string a1, .int .i64 9] ?_; (with_reducible refine (chequerref05_Few.calls a1 9 t524 _ A53.out).mono ?_); rintro e w' ⟨rfl, ⟨nd, rfl⟩⟩; refine ⟨_, rfl, ?_⟩; (try (rw [drewN_self w64]; generalize hq_ : World.drewN w64 _ = w64; replace HO_6 := Aside0.mk (qrp_ hq_ HO_6.out); replace BK496 := Aside0.mk (qhp_ hq_ BK496.out); replace HB : Aside0 (Below w.heap.size w w64) := ⟨qbp_ hq_⟩; clear hq_))) | ((with_reducible refine gate_callee (f := 14) rfl ?_); refine goQ_ (some 76) Try.func14 #[] ?_; (with_reducible refine (head_All.calls  t525 t526 t527 _ A55.out).mono ?_); rintro e w65 ⟨rfl, hb⟩; refine ⟨_, rfl, ?_⟩; replace HO_6 := Aside0.mk (Kd.R_below (rp_ HO_6.out) hb); replace BK496 := Aside0.mk (blk_below (hp_ BK496.out) hb); replace HB := Aside0.mk (below_step bp_ hb); (try clear hb); (try clear hb2); (try clear hk); (try clear hi)) | ((with_reducible refine gate_callee (f := 15) rfl ?_); refine goQ_ (some 77) Try.func15 #[.string (t522 ++ t524), .agg #[.int .i64 t525, .int .i64 t526, .int .i64 t527]] ?_; (with_reducible refine (head_Parse.calls k1 (t522 ++ t524) t525 t526 t527 t528 t529 t530 t531 t532 t533 _ A56.out).mono ?_); rintro e w66 ⟨rfl, hb⟩; refine ⟨_, rfl, ?_⟩; replace HO_6 := Aside0.mk (Kd.R_below (rp_ HO_6.out) hb); replace BK496 := Aside0.mk (blk_below (hp_ BK496.out) hb); replace HB := Aside0.mk (below_step bp_ hb); (try clear hb); (try clear hb2); (try clear hk); (try clear hi)) | ((with_reducible refine gate_dst (N := 14) rfl ?_); (try (refine gate_guard (by rfl) ?_; dsimp only)); refine box_event ?hg (N := 14) ?hd (cs := #[.int .i64 0, .int .i64 0, .int .i64 0, .int .i64 0]) (t := 36) ?hr ?_; (case hd => rfl); (case hg => rfl); (case hr => first | (go_simp; done) | (go_simp; rfl)); intro gb534 hg w67 hbox hb; replace HO_6 := Aside0.mk (Kd.R_below (rp_ HO_6.out) hb); have BK534 := Aside0.mk (hbox); have GW534 := Aside0.mk ((by rw [hg]; exact (below_size bp_) : w.heap.size ≤ gb534)); have GE534 := Aside0.mk ((by rw [hg]; exact (below_size bp_) : w.heap.size ≤ gb534)); replace HB := Aside0.mk (below_step bp_ hb); have NB496_534 := Aside0.mk ((nlt_ hg (hp_ BK496.out))); have NB534_496 := Aside0.mk ((ngt_ hg (hp_ BK496.out))); replace BK496 := Aside0.mk (blk_below (hp_ BK496.out) hb); clear hb hbox hg; have hnb68 := NB534_496.out; have hnc68 := NB496_534.out; have hcz69_0 : w67.cell? ⟨gb534, 0, none⟩ = some (.int .i64 0) := (blk_cell BK534.out 0).trans rfl; have hcz69_1 : w67.cell? ⟨gb534, 1, none⟩ = some (.int .i64 0) := (blk_cell BK534.out 1).trans rfl; have hcz69_2 : w67.cell? ⟨gb534, 2, none⟩ = some (.int .i64 0) := (blk_cell BK534.out 2).trans rfl; have hcz69_3 : w67.cell? ⟨gb534, 3, none⟩ = some (.int .i64 0) := (blk_cell BK534.out 3).trans rfl; have hfz69_0 := blk_frozen BK534.out 0; have hfz69_1 := blk_frozen BK534.out 1; have hfz69_2 := blk_frozen BK534.out 2; have hfz69_3 := blk_frozen BK534.out 3))
             have n0_ : Aside0 (Kd.R k25 25 ((((w67.setCell ⟨gb534, 0, none⟩ (.int .i64 t528)).setCell ⟨gb534, 1, none⟩ (.int .i64 t529)).setCell ⟨gb534, 2, none⟩ (.int .i64 t530)).setCell ⟨gb534, 3, none⟩ (.int .i64 t531)) w.heap.size (fun k_ => k_ ≠ gb491 ∧ k_ ≠ gb496) v498 y497) := ⟨rf_ HO_6.out BK534.out (by decide) (fun _ hk => ⟨hk.1.1, hk.1.2⟩)⟩
             have n1_ : Aside0 (((((w67.setCell ⟨gb534, 0, none⟩ (.int .i64 t528)).setCell ⟨gb534, 1, none⟩ (.int .i64 t529)).setCell ⟨gb534, 2, none⟩ (.int .i64 t530)).setCell ⟨gb534, 3, none⟩ (.int .i64 t531)).heap[gb496]? = some (.cells #[.int .i64 t492, .int .i64 t493, .int .i64 t494, .int .i64 t495] 25 (0, 0))) := ⟨hf_ BK496.out NB496_534.out⟩
             have n2_ : Aside0 (((((w67.setCell ⟨gb534, 0, none⟩ (.int .i64 t528)).setCell ⟨gb534, 1, none⟩ (.int .i64 t529)).setCell ⟨gb534, 2, none⟩ (.int .i64 t530)).setCell ⟨gb534, 3, none⟩ (.int .i64 t531)).heap[gb534]? = some (.cells #[.int .i64 t528, .int .i64 t529, .int .i64 t530, .int .i64 t531] 36 (0, 0))) := ⟨by (with_reducible repeat (first | refine blk_drewN ?_ _ | refine blk_drew ?_ | refine blk_alloc ?_ _)); refine blk_put (cs := #[.int .i64 t528, .int .i64 t529, .int .i64 t530, .int .i64 0]) ?_ 3 _ rfl; (with_reducible repeat (first | refine blk_drewN ?_ _ | refine blk_drew ?_ | refine blk_alloc ?_ _)); refine blk_put (cs := #[.int .i64 t528, .int .i64 t529, .int .i64 0, .int .i64 0]) ?_ 2 _ rfl; (with_reducible repeat (first | refine blk_drewN ?_ _ | refine blk_drew ?_ | refine blk_alloc ?_ _)); refine blk_put (cs := #[.int .i64 t528, .int .i64 0, .int .i64 0, .int .i64 0]) ?_ 1 _ rfl; (with_reducible repeat (first | refine blk_drewN ?_ _ | refine blk_drew ?_ | refine blk_alloc ?_ _)); refine blk_put (cs := #[.int .i64 0, .int .i64 0, .int .i64 0, .int .i64 0]) ?_ 0 _ rfl; (with_reducible repeat (first | refine blk_drewN ?_ _ | refine blk_drew ?_ | refine blk_alloc ?_ _)); exact BK534.out⟩
             have n3_ : Aside0 (Below w.heap.size w ((((w67.setCell ⟨gb534, 0, none⟩ (.int .i64 t528)).setCell ⟨gb534, 1, none⟩ (.int .i64 t529)).setCell ⟨gb534, 2, none⟩ (.int .i64 t530)).setCell ⟨gb534, 3, none⟩ (.int .i64 t531))) := ⟨bp_⟩
             (try clear HO_6)
             (try clear BK496)
             (try clear BK534)
             (try clear HB)
             generalize ((((w67.setCell ⟨gb534, 0, none⟩ (.int .i64 t528)).setCell ⟨gb534, 1, none⟩ (.int .i64 t529)).setCell ⟨gb534, 2, none⟩ (.int .i64 t530)).setCell ⟨gb534, 3, none⟩ (.int .i64 t531)) = w70 at n0_ n1_ n2_ n3_ ⊢
             have HO_6 := n0_
             have BK496 := n1_
             have BK534 := n2_
             have HB := n3_
             clear n0_ n1_ n2_ n3_
             replace HO_6 := Aside0.mk (Kd.R_drew HO_6.out)
             replace BK496 := Aside0.mk (blk_drew BK496.out)
             replace BK534 := Aside0.mk (blk_drew BK534.out)
             replace HB := Aside0.mk (below_drew1 HB.out)
             refine start_ (n := 18) (S := fun w' => w'.cell? ⟨gb534, 0, none⟩ = some (.int .i64 t528) ∧ w'.cell? ⟨gb534, 1, none⟩ = some (.int .i64 t529) ∧ w'.cell? ⟨gb534, 2, none⟩ = some (.int .i64 t530) ∧ w'.cell? ⟨gb534, 3, none⟩ = some (.int .i64 t531) ∧ w'.cell? ⟨gb496, 0, none⟩ = some (.int .i64 t492) ∧ w'.cell? ⟨gb496, 1, none⟩ = some (.int .i64 t493) ∧ w'.cell? ⟨gb496, 2, none⟩ = some (.int .i64 t494) ∧ w'.cell? ⟨gb496, 3, none⟩ = some (.int .i64 t495)) (ds := []) Fl150 (by kernel_rfl) rfl rfl ⟨(blk_cell BK534.out 0).trans rfl, (blk_cell BK534.out 1).trans rfl, (blk_cell BK534.out 2).trans rfl, (blk_cell BK534.out 3).trans rfl, (blk_cell BK496.out 0).trans rfl, (blk_cell BK496.out 1).trans rfl, (blk_cell BK496.out 2).trans rfl, (blk_cell BK496.out 3).trans rfl⟩ (fun hHeld => ?_); refine with_tabW chequerlaw06_HeadWrites.tab12 chequerlaw06_HeadWrites.bits12 (fun HT_ HW_ => ?_)
             generalize w70.drew = w71 at HO_6 BK496 BK534 HB hHeld ⊢
             refine take_ (i := 0) (N := some 81) (v := ?_) (a' := ?_) Fl152 rfl rfl (take_ofW HT_.out HW_.out (by kernel_rfl)) (fun _ _ _ h => h) (Or.inl ⟨by rfl, ?_⟩) hHeld ?_ ?_
             rotate_left
             · rintro w' ⟨s0, s1, s2, s3, s4, s5, s6, s7⟩
               go_simp
               with_reducible rfl
             rotate_left
             · simp only [Act.put, List.setIfInBounds_toArray, List.set_cons_zero, List.set_cons_succ, i64_w, i32_w]
               rfl
             refine take_ (i := 2) (N := some 83) (v := ?_) (a' := ?_) Fl153 rfl rfl (take_ofW HT_.out HW_.out (by kernel_rfl)) (fun _ _ _ h => h) (Or.inl ⟨by rfl, ?_⟩) hHeld ?_ ?_
             rotate_left
             · rintro w' ⟨s0, s1, s2, s3, s4, s5, s6, s7⟩
               go_simp
               with_reducible rfl
             rotate_left
             · simp only [Act.put, List.setIfInBounds_toArray, List.set_cons_zero, List.set_cons_succ, i64_w, i32_w]
               rfl
             refine one_ (i := 1) (N := some 82) Fl156 rfl rfl (one_of HT_.out (by kernel_rfl)) (by decide) (fun K hK => ?_)
             refine goes_ Try.func17 (by kernel_rfl) rfl #[.agg #[.int .i64 t528, .int .i64 t529, .int .i64 t530, .int .i64 t531]] (by rfl) rfl rfl (by (try simp only [List.map_toArray, List.map_cons, List.map_nil]); first | done | rfl | (simp only [List.length_drop, List.length_take]; rfl)) ?_
             with_reducible refine (chequerlaw06_as.calls t528 t529 t530 t531 t535 t536 t537 t538 _ A57.out).mono ?_
             rintro e w72 ⟨rfl, hb⟩
             refine ⟨_, rfl, ?_⟩
             replace HO_6 := Aside0.mk (Kd.R_below (rp_ HO_6.out) hb)
             replace BK496 := Aside0.mk (blk_below (hp_ BK496.out) hb)
             replace BK534 := Aside0.mk (blk_below (hp_ BK534.out) hb)
             replace HB := Aside0.mk (below_step bp_ hb)
             (try clear hb)
             (try clear hb2)
             (try clear hk)
             (try clear hi)
             refine hK.out _ _ ⟨(blk_cell BK534.out 0).trans rfl, (blk_cell BK534.out 1).trans rfl, (blk_cell BK534.out 2).trans rfl, (blk_cell BK534.out 3).trans rfl, (blk_cell BK496.out 0).trans rfl, (blk_cell BK496.out 1).trans rfl, (blk_cell BK496.out 2).trans rfl, (blk_cell BK496.out 3).trans rfl⟩ (fun hHeld => ?_)
             clear hK K
             refine norm_ (a' := ?_) ?_ ?_
             rotate_left
             · show Act.put _ (some 82) _ = _
               simp only [Act.put, List.setIfInBounds_toArray, List.set_cons_zero, List.set_cons_succ, i64_w, i32_w]
               rfl
             refine pur_ (i := 3) (N := some 84) Fl158 (any_of HT_.out (by kernel_rfl)) ?_
             refine pur_ (i := 4) (N := some 85) Fl160 (any_of HT_.out (by kernel_rfl)) ?_
             refine pur_ (i := 5) (N := some 86) Fl162 (any_of HT_.out (by kernel_rfl)) ?_
             refine pur_ (i := 6) (N := some 87) Fl164 (any_of HT_.out (by kernel_rfl)) ?_
             refine pur_ (i := 7) (N := some 88) Fl166 (any_of HT_.out (by kernel_rfl)) ?_
             refine pur_ (i := 8) (N := some 89) Fl168 (any_of HT_.out (by kernel_rfl)) ?_
             refine pur_ (i := 9) (N := some 90) Fl170 (any_of HT_.out (by kernel_rfl)) ?_
             refine pur_ (i := 10) (N := some 91) Fl172 (any_of HT_.out (by kernel_rfl)) ?_
             refine pur_ (i := 11) (N := some 92) Fl174 (any_of HT_.out (by kernel_rfl)) ?_
             refine pur_ (i := 12) (N := some 93) Fl175 (any_of HT_.out (by kernel_rfl)) ?_
             refine pur_ (i := 13) (N := some 94) Fl176 (any_of HT_.out (by kernel_rfl)) ?_
             refine pur_ (i := 14) (N := some 95) Fl177 (any_of HT_.out (by kernel_rfl)) ?_
             refine one_ (i := 15) (N := some 96) Fl178 rfl rfl (one_of HT_.out (by kernel_rfl)) (by decide) (fun K hK => ?_)
             refine goes_ Try.func12 (by kernel_rfl) rfl #[] (by rfl) rfl rfl (by (try simp only [List.map_toArray, List.map_cons, List.map_nil]); first | done | rfl | (simp only [List.length_drop, List.length_take]; rfl)) ?_
             with_reducible refine (chequerlaw06_lives.calls k1  t539 _ A61.out).mono ?_
             rintro e w73 ⟨rfl, hb⟩
             refine ⟨_, rfl, ?_⟩
             replace HO_6 := Aside0.mk (Kd.R_below (rp_ HO_6.out) hb)
             replace BK496 := Aside0.mk (blk_below (hp_ BK496.out) hb)
             replace BK534 := Aside0.mk (blk_below (hp_ BK534.out) hb)
             replace HB := Aside0.mk (below_step bp_ hb)
             (try clear hb)
             (try clear hb2)
             (try clear hk)
             (try clear hi)
             refine hK.out _ _ ⟨(blk_cell BK534.out 0).trans rfl, (blk_cell BK534.out 1).trans rfl, (blk_cell BK534.out 2).trans rfl, (blk_cell BK534.out 3).trans rfl, (blk_cell BK496.out 0).trans rfl, (blk_cell BK496.out 1).trans rfl, (blk_cell BK496.out 2).trans rfl, (blk_cell BK496.out 3).trans rfl⟩ (fun hHeld => ?_)
             clear hK K
             refine norm_ (a' := ?_) ?_ ?_
             rotate_left
             · show Act.put _ (some 96) _ = _
               simp only [Act.put, List.setIfInBounds_toArray, List.set_cons_zero, List.set_cons_succ, i64_w, i32_w]
               rfl
             refine pur_ (i := 16) (N := some 97) Fl179 (any_of HT_.out (by kernel_rfl)) ?_
             refine pur_ (i := 17) (N := some 4) Fl184 (any_of HT_.out (by kernel_rfl)) ?_
             refine done_ (done_of HT_.out (by kernel_rfl)) ?_
             try go_wp2
             go_ret
             exact ⟨by first | rfl | (simp [errW_none, errW_some] <;> rfl) | (simp [*, errW_none, errW_some] <;> rfl), bp_⟩
           · rw [if_neg c60] at H
             have c60b0 : (t533 == 0) = false := beq_eq_false_iff_ne.mpr c60
             have c60b1 : (t533 != 0) = true := bne_iff_ne.mpr c60
             obtain rfl := Option.some.inj H
             have hcz74_0 : wr.cell? ⟨gb496, 0, none⟩ = some (.int .i64 t492) := (blk_cell BK496.out 0).trans rfl
             have hcz74_1 : wr.cell? ⟨gb496, 1, none⟩ = some (.int .i64 t493) := (blk_cell BK496.out 1).trans rfl
             have hcz74_2 : wr.cell? ⟨gb496, 2, none⟩ = some (.int .i64 t494) := (blk_cell BK496.out 2).trans rfl
             have hcz74_3 : wr.cell? ⟨gb496, 3, none⟩ = some (.int .i64 t495) := (blk_cell BK496.out 3).trans rfl
             have hfz74_0 := blk_frozen BK496.out 0
             have hfz74_1 := blk_frozen BK496.out 1
             have hfz74_2 := blk_frozen BK496.out 2
             have hfz74_3 := blk_frozen BK496.out 3
             try go_wp2_with (first | ((with_reducible refine gate_callee (f := 23) rfl ?_); refine goQ_ (some 67) Try.func23 #[.agg #[.int .i64 t492, .int .i64 t493, .int .i64 t494, .int .i64 t495]] ?_; (with_reducible refine (chequerlaw06_of.calls t492 t493 t494 t495 t518 t519 t520 t521 _ A51.out).mono ?_); rintro e w75 ⟨rfl, hb⟩; refine ⟨_, rfl, ?_⟩; replace HO_6 := Aside0.mk (Kd.R_below (rp_ HO_6.out) hb); replace BK496 := Aside0.mk (blk_below (hp_ BK496.out) hb); replace HB := Aside0.mk (below_step bp_ hb); (try clear hb); (try clear hb2); (try clear hk); (try clear hi)) | ((with_reducible refine gate_callee (f := 29) rfl ?_); refine goQ_ (some 68) Try.func29 #[.agg #[.int .i64 t518, .int .i64 t519, .int .i64 t520, .int .i64 t521]] ?_; (with_reducible refine (head_Write.calls t518 t519 t520 t521 t522 t523 _ A52.out).mono ?_); rintro e w76 ⟨rfl, hb⟩; refine ⟨_, rfl, ?_⟩; replace HO_6 := Aside0.mk (Kd.R_below (rp_ HO_6.out) hb); replace BK496 := Aside0.mk (blk_below (hp_ BK496.out) hb); replace HB := Aside0.mk (below_step bp_ hb); (try clear hb); (try clear hb2); (try clear hk); (try clear hi)) | ((with_reducible refine gate_callee (f := 9) rfl ?_); refine goQ_ (some 74) Try.func9 #[.string a1, .int .i64 9] ?_; (with_reducible refine (chequerref05_Few.calls a1 9 t524 _ A53.out).mono ?_); rintro e w' ⟨rfl, ⟨nd, rfl⟩⟩; refine ⟨_, rfl, ?_⟩; (try (rw [drewN_self w76]; generalize hq_ : World.drewN w76 _ = w76; replace HO_6 := Aside0.mk (qrp_ hq_ HO_6.out); replace BK496 := Aside0.mk (qhp_ hq_ BK496.out); replace HB : Aside0 (Below w.heap.size w w76) := ⟨qbp_ hq_⟩; clear hq_))) | ((with_reducible refine gate_callee (f := 14) rfl ?_); refine goQ_ (some 76) Try.func14 #[] ?_; (with_reducible refine (head_All.calls  t525 t526 t527 _ A55.out).mono ?_); rintro e w77 ⟨rfl, hb⟩; refine ⟨_, rfl, ?_⟩; replace HO_6 := Aside0.mk (Kd.R_below (rp_ HO_6.out) hb); replace BK496 := Aside0.mk (blk_below (hp_ BK496.out) hb); replace HB := Aside0.mk (below_step bp_ hb); (try clear hb); (try clear hb2); (try clear hk); (try clear hi)) | ((with_reducible refine gate_callee (f := 15) rfl ?_); refine goQ_ (some 77) Try.func15 #[.string (t522 ++ t524), .agg #[.int .i64 t525, .int .i64 t526, .int .i64 t527]] ?_; (with_reducible refine (head_Parse.calls k1 (t522 ++ t524) t525 t526 t527 t528 t529 t530 t531 t532 t533 _ A56.out).mono ?_); rintro e w78 ⟨rfl, hb⟩; refine ⟨_, rfl, ?_⟩; replace HO_6 := Aside0.mk (Kd.R_below (rp_ HO_6.out) hb); replace BK496 := Aside0.mk (blk_below (hp_ BK496.out) hb); replace HB := Aside0.mk (below_step bp_ hb); (try clear hb); (try clear hb2); (try clear hk); (try clear hi)) | ((with_reducible refine gate_dst (N := 14) rfl ?_); (try (refine gate_guard (by rfl) ?_; dsimp only)); refine box_event ?hg (N := 14) ?hd (cs := #[.int .i64 0, .int .i64 0, .int .i64 0, .int .i64 0]) (t := 36) ?hr ?_; (case hd => rfl); (case hg => rfl); (case hr => first | (go_simp; done) | (go_simp; rfl)); intro gb534 hg w79 hbox hb; replace HO_6 := Aside0.mk (Kd.R_below (rp_ HO_6.out) hb); have BK534 := Aside0.mk (hbox); have GW534 := Aside0.mk ((by rw [hg]; exact (below_size bp_) : w.heap.size ≤ gb534)); have GE534 := Aside0.mk ((by rw [hg]; exact (below_size bp_) : w.heap.size ≤ gb534)); replace HB := Aside0.mk (below_step bp_ hb); have NB496_534 := Aside0.mk ((nlt_ hg (hp_ BK496.out))); have NB534_496 := Aside0.mk ((ngt_ hg (hp_ BK496.out))); replace BK496 := Aside0.mk (blk_below (hp_ BK496.out) hb); clear hb hbox hg; have hnb80 := NB534_496.out; have hnc80 := NB496_534.out; have hcz81_0 : w79.cell? ⟨gb534, 0, none⟩ = some (.int .i64 0) := (blk_cell BK534.out 0).trans rfl; have hcz81_1 : w79.cell? ⟨gb534, 1, none⟩ = some (.int .i64 0) := (blk_cell BK534.out 1).trans rfl; have hcz81_2 : w79.cell? ⟨gb534, 2, none⟩ = some (.int .i64 0) := (blk_cell BK534.out 2).trans rfl; have hcz81_3 : w79.cell? ⟨gb534, 3, none⟩ = some (.int .i64 0) := (blk_cell BK534.out 3).trans rfl; have hfz81_0 := blk_frozen BK534.out 0; have hfz81_1 := blk_frozen BK534.out 1; have hfz81_2 := blk_frozen BK534.out 2; have hfz81_3 := blk_frozen BK534.out 3))
             have n0_ : Aside0 (Kd.R k25 25 ((((w79.setCell ⟨gb534, 0, none⟩ (.int .i64 t528)).setCell ⟨gb534, 1, none⟩ (.int .i64 t529)).setCell ⟨gb534, 2, none⟩ (.int .i64 t530)).setCell ⟨gb534, 3, none⟩ (.int .i64 t531)) w.heap.size (fun k_ => k_ ≠ gb491 ∧ k_ ≠ gb496) v498 y497) := ⟨rf_ HO_6.out BK534.out (by decide) (fun _ hk => ⟨hk.1.1, hk.1.2⟩)⟩
             have n1_ : Aside0 (((((w79.setCell ⟨gb534, 0, none⟩ (.int .i64 t528)).setCell ⟨gb534, 1, none⟩ (.int .i64 t529)).setCell ⟨gb534, 2, none⟩ (.int .i64 t530)).setCell ⟨gb534, 3, none⟩ (.int .i64 t531)).heap[gb496]? = some (.cells #[.int .i64 t492, .int .i64 t493, .int .i64 t494, .int .i64 t495] 25 (0, 0))) := ⟨hf_ BK496.out NB496_534.out⟩
             have n2_ : Aside0 (((((w79.setCell ⟨gb534, 0, none⟩ (.int .i64 t528)).setCell ⟨gb534, 1, none⟩ (.int .i64 t529)).setCell ⟨gb534, 2, none⟩ (.int .i64 t530)).setCell ⟨gb534, 3, none⟩ (.int .i64 t531)).heap[gb534]? = some (.cells #[.int .i64 t528, .int .i64 t529, .int .i64 t530, .int .i64 t531] 36 (0, 0))) := ⟨by (with_reducible repeat (first | refine blk_drewN ?_ _ | refine blk_drew ?_ | refine blk_alloc ?_ _)); refine blk_put (cs := #[.int .i64 t528, .int .i64 t529, .int .i64 t530, .int .i64 0]) ?_ 3 _ rfl; (with_reducible repeat (first | refine blk_drewN ?_ _ | refine blk_drew ?_ | refine blk_alloc ?_ _)); refine blk_put (cs := #[.int .i64 t528, .int .i64 t529, .int .i64 0, .int .i64 0]) ?_ 2 _ rfl; (with_reducible repeat (first | refine blk_drewN ?_ _ | refine blk_drew ?_ | refine blk_alloc ?_ _)); refine blk_put (cs := #[.int .i64 t528, .int .i64 0, .int .i64 0, .int .i64 0]) ?_ 1 _ rfl; (with_reducible repeat (first | refine blk_drewN ?_ _ | refine blk_drew ?_ | refine blk_alloc ?_ _)); refine blk_put (cs := #[.int .i64 0, .int .i64 0, .int .i64 0, .int .i64 0]) ?_ 0 _ rfl; (with_reducible repeat (first | refine blk_drewN ?_ _ | refine blk_drew ?_ | refine blk_alloc ?_ _)); exact BK534.out⟩
             have n3_ : Aside0 (Below w.heap.size w ((((w79.setCell ⟨gb534, 0, none⟩ (.int .i64 t528)).setCell ⟨gb534, 1, none⟩ (.int .i64 t529)).setCell ⟨gb534, 2, none⟩ (.int .i64 t530)).setCell ⟨gb534, 3, none⟩ (.int .i64 t531))) := ⟨bp_⟩
             (try clear HO_6)
             (try clear BK496)
             (try clear BK534)
             (try clear HB)
             generalize ((((w79.setCell ⟨gb534, 0, none⟩ (.int .i64 t528)).setCell ⟨gb534, 1, none⟩ (.int .i64 t529)).setCell ⟨gb534, 2, none⟩ (.int .i64 t530)).setCell ⟨gb534, 3, none⟩ (.int .i64 t531)) = w82 at n0_ n1_ n2_ n3_ ⊢
             have HO_6 := n0_
             have BK496 := n1_
             have BK534 := n2_
             have HB := n3_
             clear n0_ n1_ n2_ n3_
             replace HO_6 := Aside0.mk (Kd.R_drew HO_6.out)
             replace BK496 := Aside0.mk (blk_drew BK496.out)
             replace BK534 := Aside0.mk (blk_drew BK534.out)
             replace HB := Aside0.mk (below_drew1 HB.out)
             refine start_ (n := 18) (S := fun w' => w'.cell? ⟨gb534, 0, none⟩ = some (.int .i64 t528) ∧ w'.cell? ⟨gb534, 1, none⟩ = some (.int .i64 t529) ∧ w'.cell? ⟨gb534, 2, none⟩ = some (.int .i64 t530) ∧ w'.cell? ⟨gb534, 3, none⟩ = some (.int .i64 t531) ∧ w'.cell? ⟨gb496, 0, none⟩ = some (.int .i64 t492) ∧ w'.cell? ⟨gb496, 1, none⟩ = some (.int .i64 t493) ∧ w'.cell? ⟨gb496, 2, none⟩ = some (.int .i64 t494) ∧ w'.cell? ⟨gb496, 3, none⟩ = some (.int .i64 t495)) (ds := []) Fl150 (by kernel_rfl) rfl rfl ⟨(blk_cell BK534.out 0).trans rfl, (blk_cell BK534.out 1).trans rfl, (blk_cell BK534.out 2).trans rfl, (blk_cell BK534.out 3).trans rfl, (blk_cell BK496.out 0).trans rfl, (blk_cell BK496.out 1).trans rfl, (blk_cell BK496.out 2).trans rfl, (blk_cell BK496.out 3).trans rfl⟩ (fun hHeld => ?_); refine with_tabW chequerlaw06_HeadWrites.tab12 chequerlaw06_HeadWrites.bits12 (fun HT_ HW_ => ?_)
             generalize w82.drew = w83 at HO_6 BK496 BK534 HB hHeld ⊢
             refine take_ (i := 0) (N := some 81) (v := ?_) (a' := ?_) Fl152 rfl rfl (take_ofW HT_.out HW_.out (by kernel_rfl)) (fun _ _ _ h => h) (Or.inl ⟨by rfl, ?_⟩) hHeld ?_ ?_
             rotate_left
             · rintro w' ⟨s0, s1, s2, s3, s4, s5, s6, s7⟩
               go_simp
               with_reducible rfl
             rotate_left
             · simp only [Act.put, List.setIfInBounds_toArray, List.set_cons_zero, List.set_cons_succ, i64_w, i32_w]
               rfl
             refine take_ (i := 2) (N := some 83) (v := ?_) (a' := ?_) Fl153 rfl rfl (take_ofW HT_.out HW_.out (by kernel_rfl)) (fun _ _ _ h => h) (Or.inl ⟨by rfl, ?_⟩) hHeld ?_ ?_
             rotate_left
             · rintro w' ⟨s0, s1, s2, s3, s4, s5, s6, s7⟩
               go_simp
               with_reducible rfl
             rotate_left
             · simp only [Act.put, List.setIfInBounds_toArray, List.set_cons_zero, List.set_cons_succ, i64_w, i32_w]
               rfl
             refine one_ (i := 1) (N := some 82) Fl156 rfl rfl (one_of HT_.out (by kernel_rfl)) (by decide) (fun K hK => ?_)
             refine goes_ Try.func17 (by kernel_rfl) rfl #[.agg #[.int .i64 t528, .int .i64 t529, .int .i64 t530, .int .i64 t531]] (by rfl) rfl rfl (by (try simp only [List.map_toArray, List.map_cons, List.map_nil]); first | done | rfl | (simp only [List.length_drop, List.length_take]; rfl)) ?_
             with_reducible refine (chequerlaw06_as.calls t528 t529 t530 t531 t535 t536 t537 t538 _ A57.out).mono ?_
             rintro e w84 ⟨rfl, hb⟩
             refine ⟨_, rfl, ?_⟩
             replace HO_6 := Aside0.mk (Kd.R_below (rp_ HO_6.out) hb)
             replace BK496 := Aside0.mk (blk_below (hp_ BK496.out) hb)
             replace BK534 := Aside0.mk (blk_below (hp_ BK534.out) hb)
             replace HB := Aside0.mk (below_step bp_ hb)
             (try clear hb)
             (try clear hb2)
             (try clear hk)
             (try clear hi)
             refine hK.out _ _ ⟨(blk_cell BK534.out 0).trans rfl, (blk_cell BK534.out 1).trans rfl, (blk_cell BK534.out 2).trans rfl, (blk_cell BK534.out 3).trans rfl, (blk_cell BK496.out 0).trans rfl, (blk_cell BK496.out 1).trans rfl, (blk_cell BK496.out 2).trans rfl, (blk_cell BK496.out 3).trans rfl⟩ (fun hHeld => ?_)
             clear hK K
             refine norm_ (a' := ?_) ?_ ?_
             rotate_left
             · show Act.put _ (some 82) _ = _
               simp only [Act.put, List.setIfInBounds_toArray, List.set_cons_zero, List.set_cons_succ, i64_w, i32_w]
               rfl
             refine pur_ (i := 3) (N := some 84) Fl158 (any_of HT_.out (by kernel_rfl)) ?_
             refine pur_ (i := 4) (N := some 85) Fl160 (any_of HT_.out (by kernel_rfl)) ?_
             refine pur_ (i := 5) (N := some 86) Fl162 (any_of HT_.out (by kernel_rfl)) ?_
             refine pur_ (i := 6) (N := some 87) Fl164 (any_of HT_.out (by kernel_rfl)) ?_
             refine pur_ (i := 7) (N := some 88) Fl166 (any_of HT_.out (by kernel_rfl)) ?_
             refine pur_ (i := 8) (N := some 89) Fl168 (any_of HT_.out (by kernel_rfl)) ?_
             refine pur_ (i := 9) (N := some 90) Fl170 (any_of HT_.out (by kernel_rfl)) ?_
             refine pur_ (i := 10) (N := some 91) Fl172 (any_of HT_.out (by kernel_rfl)) ?_
             refine pur_ (i := 11) (N := some 92) Fl174 (any_of HT_.out (by kernel_rfl)) ?_
             refine pur_ (i := 12) (N := some 93) Fl175 (any_of HT_.out (by kernel_rfl)) ?_
             refine pur_ (i := 13) (N := some 94) Fl176 (any_of HT_.out (by kernel_rfl)) ?_
             refine pur_ (i := 14) (N := some 95) Fl177 (any_of HT_.out (by kernel_rfl)) ?_
             refine pun_ (i := 15) (N := some 96) Fl178 (any_of HT_.out (by kernel_rfl)) ?_
             refine pur_ (i := 16) (N := some 97) Fl179 (any_of HT_.out (by kernel_rfl)) ?_
             refine pur_ (i := 17) (N := some 4) Fl184 (any_of HT_.out (by kernel_rfl)) ?_
             refine done_ (done_of HT_.out (by kernel_rfl)) ?_
             try go_wp2
             go_ret
             exact ⟨by first | rfl | (simp [errW_none, errW_some] <;> rfl) | (simp [*, errW_none, errW_some] <;> rfl), bp_⟩
         · rw [if_neg c59] at H
           have c59b0 : (t532 == (t522.size : Int)) = false := beq_eq_false_iff_ne.mpr c59
           have c59b1 : (t532 != (t522.size : Int)) = true := bne_iff_ne.mpr c59
           obtain rfl := Option.some.inj H
           have hcz85_0 : wr.cell? ⟨gb496, 0, none⟩ = some (.int .i64 t492) := (blk_cell BK496.out 0).trans rfl
           have hcz85_1 : wr.cell? ⟨gb496, 1, none⟩ = some (.int .i64 t493) := (blk_cell BK496.out 1).trans rfl
           have hcz85_2 : wr.cell? ⟨gb496, 2, none⟩ = some (.int .i64 t494) := (blk_cell BK496.out 2).trans rfl
           have hcz85_3 : wr.cell? ⟨gb496, 3, none⟩ = some (.int .i64 t495) := (blk_cell BK496.out 3).trans rfl
           have hfz85_0 := blk_frozen BK496.out 0
           have hfz85_1 := blk_frozen BK496.out 1
           have hfz85_2 := blk_frozen BK496.out 2
           have hfz85_3 := blk_frozen BK496.out 3
           try go_wp2_with (first | ((with_reducible refine gate_callee (f := 23) rfl ?_); refine goQ_ (some 67) Try.func23 #[.agg #[.int .i64 t492, .int .i64 t493, .int .i64 t494, .int .i64 t495]] ?_; (with_reducible refine (chequerlaw06_of.calls t492 t493 t494 t495 t518 t519 t520 t521 _ A51.out).mono ?_); rintro e w86 ⟨rfl, hb⟩; refine ⟨_, rfl, ?_⟩; replace HO_6 := Aside0.mk (Kd.R_below (rp_ HO_6.out) hb); replace BK496 := Aside0.mk (blk_below (hp_ BK496.out) hb); replace HB := Aside0.mk (below_step bp_ hb); (try clear hb); (try clear hb2); (try clear hk); (try clear hi)) | ((with_reducible refine gate_callee (f := 29) rfl ?_); refine goQ_ (some 68) Try.func29 #[.agg #[.int .i64 t518, .int .i64 t519, .int .i64 t520, .int .i64 t521]] ?_; (with_reducible refine (head_Write.calls t518 t519 t520 t521 t522 t523 _ A52.out).mono ?_); rintro e w87 ⟨rfl, hb⟩; refine ⟨_, rfl, ?_⟩; replace HO_6 := Aside0.mk (Kd.R_below (rp_ HO_6.out) hb); replace BK496 := Aside0.mk (blk_below (hp_ BK496.out) hb); replace HB := Aside0.mk (below_step bp_ hb); (try clear hb); (try clear hb2); (try clear hk); (try clear hi)) | ((with_reducible refine gate_callee (f := 9) rfl ?_); refine goQ_ (some 74) Try.func9 #[.string a1, .int .i64 9] ?_; (with_reducible refine (chequerref05_Few.calls a1 9 t524 _ A53.out).mono ?_); rintro e w' ⟨rfl, ⟨nd, rfl⟩⟩; refine ⟨_, rfl, ?_⟩; (try (rw [drewN_self w87]; generalize hq_ : World.drewN w87 _ = w87; replace HO_6 := Aside0.mk (qrp_ hq_ HO_6.out); replace BK496 := Aside0.mk (qhp_ hq_ BK496.out); replace HB : Aside0 (Below w.heap.size w w87) := ⟨qbp_ hq_⟩; clear hq_))) | ((with_reducible refine gate_callee (f := 14) rfl ?_); refine goQ_ (some 76) Try.func14 #[] ?_; (with_reducible refine (head_All.calls  t525 t526 t527 _ A55.out).mono ?_); rintro e w88 ⟨rfl, hb⟩; refine ⟨_, rfl, ?_⟩; replace HO_6 := Aside0.mk (Kd.R_below (rp_ HO_6.out) hb); replace BK496 := Aside0.mk (blk_below (hp_ BK496.out) hb); replace HB := Aside0.mk (below_step bp_ hb); (try clear hb); (try clear hb2); (try clear hk); (try clear hi)) | ((with_reducible refine gate_callee (f := 15) rfl ?_); refine goQ_ (some 77) Try.func15 #[.string (t522 ++ t524), .agg #[.int .i64 t525, .int .i64 t526, .int .i64 t527]] ?_; (with_reducible refine (head_Parse.calls k1 (t522 ++ t524) t525 t526 t527 t528 t529 t530 t531 t532 t533 _ A56.out).mono ?_); rintro e w89 ⟨rfl, hb⟩; refine ⟨_, rfl, ?_⟩; replace HO_6 := Aside0.mk (Kd.R_below (rp_ HO_6.out) hb); replace BK496 := Aside0.mk (blk_below (hp_ BK496.out) hb); replace HB := Aside0.mk (below_step bp_ hb); (try clear hb); (try clear hb2); (try clear hk); (try clear hi)) | ((with_reducible refine gate_dst (N := 14) rfl ?_); (try (refine gate_guard (by rfl) ?_; dsimp only)); refine box_event ?hg (N := 14) ?hd (cs := #[.int .i64 0, .int .i64 0, .int .i64 0, .int .i64 0]) (t := 36) ?hr ?_; (case hd => rfl); (case hg => rfl); (case hr => first | (go_simp; done) | (go_simp; rfl)); intro gb534 hg w90 hbox hb; replace HO_6 := Aside0.mk (Kd.R_below (rp_ HO_6.out) hb); have BK534 := Aside0.mk (hbox); have GW534 := Aside0.mk ((by rw [hg]; exact (below_size bp_) : w.heap.size ≤ gb534)); have GE534 := Aside0.mk ((by rw [hg]; exact (below_size bp_) : w.heap.size ≤ gb534)); replace HB := Aside0.mk (below_step bp_ hb); have NB496_534 := Aside0.mk ((nlt_ hg (hp_ BK496.out))); have NB534_496 := Aside0.mk ((ngt_ hg (hp_ BK496.out))); replace BK496 := Aside0.mk (blk_below (hp_ BK496.out) hb); clear hb hbox hg; have hnb91 := NB534_496.out; have hnc91 := NB496_534.out; have hcz92_0 : w90.cell? ⟨gb534, 0, none⟩ = some (.int .i64 0) := (blk_cell BK534.out 0).trans rfl; have hcz92_1 : w90.cell? ⟨gb534, 1, none⟩ = some (.int .i64 0) := (blk_cell BK534.out 1).trans rfl; have hcz92_2 : w90.cell? ⟨gb534, 2, none⟩ = some (.int .i64 0) := (blk_cell BK534.out 2).trans rfl; have hcz92_3 : w90.cell? ⟨gb534, 3, none⟩ = some (.int .i64 0) := (blk_cell BK534.out 3).trans rfl; have hfz92_0 := blk_frozen BK534.out 0; have hfz92_1 := blk_frozen BK534.out 1; have hfz92_2 := blk_frozen BK534.out 2; have hfz92_3 := blk_frozen BK534.out 3))
           have n0_ : Aside0 (Kd.R k25 25 ((((w90.setCell ⟨gb534, 0, none⟩ (.int .i64 t528)).setCell ⟨gb534, 1, none⟩ (.int .i64 t529)).setCell ⟨gb534, 2, none⟩ (.int .i64 t530)).setCell ⟨gb534, 3, none⟩ (.int .i64 t531)) w.heap.size (fun k_ => k_ ≠ gb491 ∧ k_ ≠ gb496) v498 y497) := ⟨rf_ HO_6.out BK534.out (by decide) (fun _ hk => ⟨hk.1.1, hk.1.2⟩)⟩
           have n1_ : Aside0 (((((w90.setCell ⟨gb534, 0, none⟩ (.int .i64 t528)).setCell ⟨gb534, 1, none⟩ (.int .i64 t529)).setCell ⟨gb534, 2, none⟩ (.int .i64 t530)).setCell ⟨gb534, 3, none⟩ (.int .i64 t531)).heap[gb496]? = some (.cells #[.int .i64 t492, .int .i64 t493, .int .i64 t494, .int .i64 t495] 25 (0, 0))) := ⟨hf_ BK496.out NB496_534.out⟩
           have n2_ : Aside0 (((((w90.setCell ⟨gb534, 0, none⟩ (.int .i64 t528)).setCell ⟨gb534, 1, none⟩ (.int .i64 t529)).setCell ⟨gb534, 2, none⟩ (.int .i64 t530)).setCell ⟨gb534, 3, none⟩ (.int .i64 t531)).heap[gb534]? = some (.cells #[.int .i64 t528, .int .i64 t529, .int .i64 t530, .int .i64 t531] 36 (0, 0))) := ⟨by (with_reducible repeat (first | refine blk_drewN ?_ _ | refine blk_drew ?_ | refine blk_alloc ?_ _)); refine blk_put (cs := #[.int .i64 t528, .int .i64 t529, .int .i64 t530, .int .i64 0]) ?_ 3 _ rfl; (with_reducible repeat (first | refine blk_drewN ?_ _ | refine blk_drew ?_ | refine blk_alloc ?_ _)); refine blk_put (cs := #[.int .i64 t528, .int .i64 t529, .int .i64 0, .int .i64 0]) ?_ 2 _ rfl; (with_reducible repeat (first | refine blk_drewN ?_ _ | refine blk_drew ?_ | refine blk_alloc ?_ _)); refine blk_put (cs := #[.int .i64 t528, .int .i64 0, .int .i64 0, .int .i64 0]) ?_ 1 _ rfl; (with_reducible repeat (first | refine blk_drewN ?_ _ | refine blk_drew ?_ | refine blk_alloc ?_ _)); refine blk_put (cs := #[.int .i64 0, .int .i64 0, .int .i64 0, .int .i64 0]) ?_ 0 _ rfl; (with_reducible repeat (first | refine blk_drewN ?_ _ | refine blk_drew ?_ | refine blk_alloc ?_ _)); exact BK534.out⟩
           have n3_ : Aside0 (Below w.heap.size w ((((w90.setCell ⟨gb534, 0, none⟩ (.int .i64 t528)).setCell ⟨gb534, 1, none⟩ (.int .i64 t529)).setCell ⟨gb534, 2, none⟩ (.int .i64 t530)).setCell ⟨gb534, 3, none⟩ (.int .i64 t531))) := ⟨bp_⟩
           (try clear HO_6)
           (try clear BK496)
           (try clear BK534)
           (try clear HB)
           generalize ((((w90.setCell ⟨gb534, 0, none⟩ (.int .i64 t528)).setCell ⟨gb534, 1, none⟩ (.int .i64 t529)).setCell ⟨gb534, 2, none⟩ (.int .i64 t530)).setCell ⟨gb534, 3, none⟩ (.int .i64 t531)) = w93 at n0_ n1_ n2_ n3_ ⊢
           have HO_6 := n0_
           have BK496 := n1_
           have BK534 := n2_
           have HB := n3_
           clear n0_ n1_ n2_ n3_
           replace HO_6 := Aside0.mk (Kd.R_drew HO_6.out)
           replace BK496 := Aside0.mk (blk_drew BK496.out)
           replace BK534 := Aside0.mk (blk_drew BK534.out)
           replace HB := Aside0.mk (below_drew1 HB.out)
           refine start_ (n := 18) (S := fun w' => w'.cell? ⟨gb534, 0, none⟩ = some (.int .i64 t528) ∧ w'.cell? ⟨gb534, 1, none⟩ = some (.int .i64 t529) ∧ w'.cell? ⟨gb534, 2, none⟩ = some (.int .i64 t530) ∧ w'.cell? ⟨gb534, 3, none⟩ = some (.int .i64 t531) ∧ w'.cell? ⟨gb496, 0, none⟩ = some (.int .i64 t492) ∧ w'.cell? ⟨gb496, 1, none⟩ = some (.int .i64 t493) ∧ w'.cell? ⟨gb496, 2, none⟩ = some (.int .i64 t494) ∧ w'.cell? ⟨gb496, 3, none⟩ = some (.int .i64 t495)) (ds := []) Fl150 (by kernel_rfl) rfl rfl ⟨(blk_cell BK534.out 0).trans rfl, (blk_cell BK534.out 1).trans rfl, (blk_cell BK534.out 2).trans rfl, (blk_cell BK534.out 3).trans rfl, (blk_cell BK496.out 0).trans rfl, (blk_cell BK496.out 1).trans rfl, (blk_cell BK496.out 2).trans rfl, (blk_cell BK496.out 3).trans rfl⟩ (fun hHeld => ?_); refine with_tabW chequerlaw06_HeadWrites.tab12 chequerlaw06_HeadWrites.bits12 (fun HT_ HW_ => ?_)
           generalize w93.drew = w94 at HO_6 BK496 BK534 HB hHeld ⊢
           refine take_ (i := 0) (N := some 81) (v := ?_) (a' := ?_) Fl152 rfl rfl (take_ofW HT_.out HW_.out (by kernel_rfl)) (fun _ _ _ h => h) (Or.inl ⟨by rfl, ?_⟩) hHeld ?_ ?_
           rotate_left
           · rintro w' ⟨s0, s1, s2, s3, s4, s5, s6, s7⟩
             go_simp
             with_reducible rfl
           rotate_left
           · simp only [Act.put, List.setIfInBounds_toArray, List.set_cons_zero, List.set_cons_succ, i64_w, i32_w]
             rfl
           refine take_ (i := 2) (N := some 83) (v := ?_) (a' := ?_) Fl153 rfl rfl (take_ofW HT_.out HW_.out (by kernel_rfl)) (fun _ _ _ h => h) (Or.inl ⟨by rfl, ?_⟩) hHeld ?_ ?_
           rotate_left
           · rintro w' ⟨s0, s1, s2, s3, s4, s5, s6, s7⟩
             go_simp
             with_reducible rfl
           rotate_left
           · simp only [Act.put, List.setIfInBounds_toArray, List.set_cons_zero, List.set_cons_succ, i64_w, i32_w]
             rfl
           refine one_ (i := 1) (N := some 82) Fl156 rfl rfl (one_of HT_.out (by kernel_rfl)) (by decide) (fun K hK => ?_)
           refine goes_ Try.func17 (by kernel_rfl) rfl #[.agg #[.int .i64 t528, .int .i64 t529, .int .i64 t530, .int .i64 t531]] (by rfl) rfl rfl (by (try simp only [List.map_toArray, List.map_cons, List.map_nil]); first | done | rfl | (simp only [List.length_drop, List.length_take]; rfl)) ?_
           with_reducible refine (chequerlaw06_as.calls t528 t529 t530 t531 t535 t536 t537 t538 _ A57.out).mono ?_
           rintro e w95 ⟨rfl, hb⟩
           refine ⟨_, rfl, ?_⟩
           replace HO_6 := Aside0.mk (Kd.R_below (rp_ HO_6.out) hb)
           replace BK496 := Aside0.mk (blk_below (hp_ BK496.out) hb)
           replace BK534 := Aside0.mk (blk_below (hp_ BK534.out) hb)
           replace HB := Aside0.mk (below_step bp_ hb)
           (try clear hb)
           (try clear hb2)
           (try clear hk)
           (try clear hi)
           refine hK.out _ _ ⟨(blk_cell BK534.out 0).trans rfl, (blk_cell BK534.out 1).trans rfl, (blk_cell BK534.out 2).trans rfl, (blk_cell BK534.out 3).trans rfl, (blk_cell BK496.out 0).trans rfl, (blk_cell BK496.out 1).trans rfl, (blk_cell BK496.out 2).trans rfl, (blk_cell BK496.out 3).trans rfl⟩ (fun hHeld => ?_)
           clear hK K
           refine norm_ (a' := ?_) ?_ ?_
           rotate_left
           · show Act.put _ (some 82) _ = _
             simp only [Act.put, List.setIfInBounds_toArray, List.set_cons_zero, List.set_cons_succ, i64_w, i32_w]
             rfl
           refine pur_ (i := 3) (N := some 84) Fl158 (any_of HT_.out (by kernel_rfl)) ?_
           refine pur_ (i := 4) (N := some 85) Fl160 (any_of HT_.out (by kernel_rfl)) ?_
           refine pur_ (i := 5) (N := some 86) Fl162 (any_of HT_.out (by kernel_rfl)) ?_
           refine pur_ (i := 6) (N := some 87) Fl164 (any_of HT_.out (by kernel_rfl)) ?_
           refine pur_ (i := 7) (N := some 88) Fl166 (any_of HT_.out (by kernel_rfl)) ?_
           refine pur_ (i := 8) (N := some 89) Fl168 (any_of HT_.out (by kernel_rfl)) ?_
           refine pur_ (i := 9) (N := some 90) Fl170 (any_of HT_.out (by kernel_rfl)) ?_
           refine pur_ (i := 10) (N := some 91) Fl172 (any_of HT_.out (by kernel_rfl)) ?_
           refine pun_ (i := 11) (N := some 92) Fl174 (any_of HT_.out (by kernel_rfl)) ?_
           refine pun_ (i := 12) (N := some 93) Fl175 (any_of HT_.out (by kernel_rfl)) ?_
           refine pur_ (i := 13) (N := some 94) Fl176 (any_of HT_.out (by kernel_rfl)) ?_
           refine pur_ (i := 14) (N := some 95) Fl177 (any_of HT_.out (by kernel_rfl)) ?_
           refine pun_ (i := 15) (N := some 96) Fl178 (any_of HT_.out (by kernel_rfl)) ?_
           refine pur_ (i := 16) (N := some 97) Fl179 (any_of HT_.out (by kernel_rfl)) ?_
           refine pur_ (i := 17) (N := some 4) Fl184 (any_of HT_.out (by kernel_rfl)) ?_
           refine done_ (done_of HT_.out (by kernel_rfl)) ?_
           try go_wp2
           go_ret
           exact ⟨by first | rfl | (simp [errW_none, errW_some] <;> rfl) | (simp [*, errW_none, errW_some] <;> rfl), bp_⟩
       · rw [if_neg c58] at H
         have c58b0 : (t535 == t492 && (t536 == t493 && (t537 == t494 && (t538 == t495)))) = false := by simpa using c58
         (try (have c58b1 : decide (t535 = t492 && (t536 == t493 && (t537 == t494 && (t538 == t495)))) = false := by simpa using c58))
         (try (have c58b2 : (t535 == t492 && (t536 == t493 && (t537 == t494 && (t538 == t495)))) = false := by simpa using c58))
         (try (have c58b3 : ¬ (t535 = t492 && (t536 == t493 && (t537 == t494 && (t538 == t495)))) := by simpa using c58))
         clear c58
         obtain rfl := Option.some.inj H
         have hcz96_0 : wr.cell? ⟨gb496, 0, none⟩ = some (.int .i64 t492) := (blk_cell BK496.out 0).trans rfl
         have hcz96_1 : wr.cell? ⟨gb496, 1, none⟩ = some (.int .i64 t493) := (blk_cell BK496.out 1).trans rfl
         have hcz96_2 : wr.cell? ⟨gb496, 2, none⟩ = some (.int .i64 t494) := (blk_cell BK496.out 2).trans rfl
         have hcz96_3 : wr.cell? ⟨gb496, 3, none⟩ = some (.int .i64 t495) := (blk_cell BK496.out 3).trans rfl
         have hfz96_0 := blk_frozen BK496.out 0
         have hfz96_1 := blk_frozen BK496.out 1
         have hfz96_2 := blk_frozen BK496.out 2
         have hfz96_3 := blk_frozen BK496.out 3
         try go_wp2_with (first | ((with_reducible refine gate_callee (f := 23) rfl ?_); refine goQ_ (some 67) Try.func23 #[.agg #[.int .i64 t492, .int .i64 t493, .int .i64 t494, .int .i64 t495]] ?_; (with_reducible refine (chequerlaw06_of.calls t492 t493 t494 t495 t518 t519 t520 t521 _ A51.out).mono ?_); rintro e w97 ⟨rfl, hb⟩; refine ⟨_, rfl, ?_⟩; replace HO_6 := Aside0.mk (Kd.R_below (rp_ HO_6.out) hb); replace BK496 := Aside0.mk (blk_below (hp_ BK496.out) hb); replace HB := Aside0.mk (below_step bp_ hb); (try clear hb); (try clear hb2); (try clear hk); (try clear hi)) | ((with_reducible refine gate_callee (f := 29) rfl ?_); refine goQ_ (some 68) Try.func29 #[.agg #[.int .i64 t518, .int .i64 t519, .int .i64 t520, .int .i64 t521]] ?_; (with_reducible refine (head_Write.calls t518 t519 t520 t521 t522 t523 _ A52.out).mono ?_); rintro e w98 ⟨rfl, hb⟩; refine ⟨_, rfl, ?_⟩; replace HO_6 := Aside0.mk (Kd.R_below (rp_ HO_6.out) hb); replace BK496 := Aside0.mk (blk_below (hp_ BK496.out) hb); replace HB := Aside0.mk (below_step bp_ hb); (try clear hb); (try clear hb2); (try clear hk); (try clear hi)) | ((with_reducible refine gate_callee (f := 9) rfl ?_); refine goQ_ (some 74) Try.func9 #[.string a1, .int .i64 9] ?_; (with_reducible refine (chequerref05_Few.calls a1 9 t524 _ A53.out).mono ?_); rintro e w' ⟨rfl, ⟨nd, rfl⟩⟩; refine ⟨_, rfl, ?_⟩; (try (rw [drewN_self w98]; generalize hq_ : World.drewN w98 _ = w98; replace HO_6 := Aside0.mk (qrp_ hq_ HO_6.out); replace BK496 := Aside0.mk (qhp_ hq_ BK496.out); replace HB : Aside0 (Below w.heap.size w w98) := ⟨qbp_ hq_⟩; clear hq_))) | ((with_reducible refine gate_callee (f := 14) rfl ?_); refine goQ_ (some 76) Try.func14 #[] ?_; (with_reducible refine (head_All.calls  t525 t526 t527 _ A55.out).mono ?_); rintro e w99 ⟨rfl, hb⟩; refine ⟨_, rfl, ?_⟩; replace HO_6 := Aside0.mk (Kd.R_below (rp_ HO_6.out) hb); replace BK496 := Aside0.mk (blk_below (hp_ BK496.out) hb); replace HB := Aside0.mk (below_step bp_ hb); (try clear hb); (try clear hb2); (try clear hk); (try clear hi)) | ((with_reducible refine gate_callee (f := 15) rfl ?_); refine goQ_ (some 77) Try.func15 #[.string (t522 ++ t524), .agg #[.int .i64 t525, .int .i64 t526, .int .i64 t527]] ?_; (with_reducible refine (head_Parse.calls k1 (t522 ++ t524) t525 t526 t527 t528 t529 t530 t531 t532 t533 _ A56.out).mono ?_); rintro e w100 ⟨rfl, hb⟩; refine ⟨_, rfl, ?_⟩; replace HO_6 := Aside0.mk (Kd.R_below (rp_ HO_6.out) hb); replace BK496 := Aside0.mk (blk_below (hp_ BK496.out) hb); replace HB := Aside0.mk (below_step bp_ hb); (try clear hb); (try clear hb2); (try clear hk); (try clear hi)) | ((with_reducible refine gate_dst (N := 14) rfl ?_); (try (refine gate_guard (by rfl) ?_; dsimp only)); refine box_event ?hg (N := 14) ?hd (cs := #[.int .i64 0, .int .i64 0, .int .i64 0, .int .i64 0]) (t := 36) ?hr ?_; (case hd => rfl); (case hg => rfl); (case hr => first | (go_simp; done) | (go_simp; rfl)); intro gb534 hg w101 hbox hb; replace HO_6 := Aside0.mk (Kd.R_below (rp_ HO_6.out) hb); have BK534 := Aside0.mk (hbox); have GW534 := Aside0.mk ((by rw [hg]; exact (below_size bp_) : w.heap.size ≤ gb534)); have GE534 := Aside0.mk ((by rw [hg]; exact (below_size bp_) : w.heap.size ≤ gb534)); replace HB := Aside0.mk (below_step bp_ hb); have NB496_534 := Aside0.mk ((nlt_ hg (hp_ BK496.out))); have NB534_496 := Aside0.mk ((ngt_ hg (hp_ BK496.out))); replace BK496 := Aside0.mk (blk_below (hp_ BK496.out) hb); clear hb hbox hg; have hnb102 := NB534_496.out; have hnc102 := NB496_534.out; have hcz103_0 : w101.cell? ⟨gb534, 0, none⟩ = some (.int .i64 0) := (blk_cell BK534.out 0).trans rfl; have hcz103_1 : w101.cell? ⟨gb534, 1, none⟩ = some (.int .i64 0) := (blk_cell BK534.out 1).trans rfl; have hcz103_2 : w101.cell? ⟨gb534, 2, none⟩ = some (.int .i64 0) := (blk_cell BK534.out 2).trans rfl; have hcz103_3 : w101.cell? ⟨gb534, 3, none⟩ = some (.int .i64 0) := (blk_cell BK534.out 3).trans rfl; have hfz103_0 := blk_frozen BK534.out 0; have hfz103_1 := blk_frozen BK534.out 1; have hfz103_2 := blk_frozen BK534.out 2; have hfz103_3 := blk_frozen BK534.out 3))
         have n0_ : Aside0 (Kd.R k25 25 ((((w101.setCell ⟨gb534, 0, none⟩ (.int .i64 t528)).setCell ⟨gb534, 1, none⟩ (.int .i64 t529)).setCell ⟨gb534, 2, none⟩ (.int .i64 t530)).setCell ⟨gb534, 3, none⟩ (.int .i64 t531)) w.heap.size (fun k_ => k_ ≠ gb491 ∧ k_ ≠ gb496) v498 y497) := ⟨rf_ HO_6.out BK534.out (by decide) (fun _ hk => ⟨hk.1.1, hk.1.2⟩)⟩
         have n1_ : Aside0 (((((w101.setCell ⟨gb534, 0, none⟩ (.int .i64 t528)).setCell ⟨gb534, 1, none⟩ (.int .i64 t529)).setCell ⟨gb534, 2, none⟩ (.int .i64 t530)).setCell ⟨gb534, 3, none⟩ (.int .i64 t531)).heap[gb496]? = some (.cells #[.int .i64 t492, .int .i64 t493, .int .i64 t494, .int .i64 t495] 25 (0, 0))) := ⟨hf_ BK496.out NB496_534.out⟩
         have n2_ : Aside0 (((((w101.setCell ⟨gb534, 0, none⟩ (.int .i64 t528)).setCell ⟨gb534, 1, none⟩ (.int .i64 t529)).setCell ⟨gb534, 2, none⟩ (.int .i64 t530)).setCell ⟨gb534, 3, none⟩ (.int .i64 t531)).heap[gb534]? = some (.cells #[.int .i64 t528, .int .i64 t529, .int .i64 t530, .int .i64 t531] 36 (0, 0))) := ⟨by (with_reducible repeat (first | refine blk_drewN ?_ _ | refine blk_drew ?_ | refine blk_alloc ?_ _)); refine blk_put (cs := #[.int .i64 t528, .int .i64 t529, .int .i64 t530, .int .i64 0]) ?_ 3 _ rfl; (with_reducible repeat (first | refine blk_drewN ?_ _ | refine blk_drew ?_ | refine blk_alloc ?_ _)); refine blk_put (cs := #[.int .i64 t528, .int .i64 t529, .int .i64 0, .int .i64 0]) ?_ 2 _ rfl; (with_reducible repeat (first | refine blk_drewN ?_ _ | refine blk_drew ?_ | refine blk_alloc ?_ _)); refine blk_put (cs := #[.int .i64 t528, .int .i64 0, .int .i64 0, .int .i64 0]) ?_ 1 _ rfl; (with_reducible repeat (first | refine blk_drewN ?_ _ | refine blk_drew ?_ | refine blk_alloc ?_ _)); refine blk_put (cs := #[.int .i64 0, .int .i64 0, .int .i64 0, .int .i64 0]) ?_ 0 _ rfl; (with_reducible repeat (first | refine blk_drewN ?_ _ | refine blk_drew ?_ | refine blk_alloc ?_ _)); exact BK534.out⟩
         have n3_ : Aside0 (Below w.heap.size w ((((w101.setCell ⟨gb534, 0, none⟩ (.int .i64 t528)).setCell ⟨gb534, 1, none⟩ (.int .i64 t529)).setCell ⟨gb534, 2, none⟩ (.int .i64 t530)).setCell ⟨gb534, 3, none⟩ (.int .i64 t531))) := ⟨bp_⟩
         (try clear HO_6)
         (try clear BK496)
         (try clear BK534)
         (try clear HB)
         generalize ((((w101.setCell ⟨gb534, 0, none⟩ (.int .i64 t528)).setCell ⟨gb534, 1, none⟩ (.int .i64 t529)).setCell ⟨gb534, 2, none⟩ (.int .i64 t530)).setCell ⟨gb534, 3, none⟩ (.int .i64 t531)) = w104 at n0_ n1_ n2_ n3_ ⊢
         have HO_6 := n0_
         have BK496 := n1_
         have BK534 := n2_
         have HB := n3_
         clear n0_ n1_ n2_ n3_
         replace HO_6 := Aside0.mk (Kd.R_drew HO_6.out)
         replace BK496 := Aside0.mk (blk_drew BK496.out)
         replace BK534 := Aside0.mk (blk_drew BK534.out)
         replace HB := Aside0.mk (below_drew1 HB.out)
         refine start_ (n := 18) (S := fun w' => w'.cell? ⟨gb534, 0, none⟩ = some (.int .i64 t528) ∧ w'.cell? ⟨gb534, 1, none⟩ = some (.int .i64 t529) ∧ w'.cell? ⟨gb534, 2, none⟩ = some (.int .i64 t530) ∧ w'.cell? ⟨gb534, 3, none⟩ = some (.int .i64 t531) ∧ w'.cell? ⟨gb496, 0, none⟩ = some (.int .i64 t492) ∧ w'.cell? ⟨gb496, 1, none⟩ = some (.int .i64 t493) ∧ w'.cell? ⟨gb496, 2, none⟩ = some (.int .i64 t494) ∧ w'.cell? ⟨gb496, 3, none⟩ = some (.int .i64 t495)) (ds := []) Fl150 (by kernel_rfl) rfl rfl ⟨(blk_cell BK534.out 0).trans rfl, (blk_cell BK534.out 1).trans rfl, (blk_cell BK534.out 2).trans rfl, (blk_cell BK534.out 3).trans rfl, (blk_cell BK496.out 0).trans rfl, (blk_cell BK496.out 1).trans rfl, (blk_cell BK496.out 2).trans rfl, (blk_cell BK496.out 3).trans rfl⟩ (fun hHeld => ?_); refine with_tabW chequerlaw06_HeadWrites.tab12 chequerlaw06_HeadWrites.bits12 (fun HT_ HW_ => ?_)
         generalize w104.drew = w105 at HO_6 BK496 BK534 HB hHeld ⊢
         refine take_ (i := 0) (N := some 81) (v := ?_) (a' := ?_) Fl152 rfl rfl (take_ofW HT_.out HW_.out (by kernel_rfl)) (fun _ _ _ h => h) (Or.inl ⟨by rfl, ?_⟩) hHeld ?_ ?_
         rotate_left
         · rintro w' ⟨s0, s1, s2, s3, s4, s5, s6, s7⟩
           go_simp
           with_reducible rfl
         rotate_left
         · simp only [Act.put, List.setIfInBounds_toArray, List.set_cons_zero, List.set_cons_succ, i64_w, i32_w]
           rfl
         refine take_ (i := 2) (N := some 83) (v := ?_) (a' := ?_) Fl153 rfl rfl (take_ofW HT_.out HW_.out (by kernel_rfl)) (fun _ _ _ h => h) (Or.inl ⟨by rfl, ?_⟩) hHeld ?_ ?_
         rotate_left
         · rintro w' ⟨s0, s1, s2, s3, s4, s5, s6, s7⟩
           go_simp
           with_reducible rfl
         rotate_left
         · simp only [Act.put, List.setIfInBounds_toArray, List.set_cons_zero, List.set_cons_succ, i64_w, i32_w]
           rfl
         refine one_ (i := 1) (N := some 82) Fl156 rfl rfl (one_of HT_.out (by kernel_rfl)) (by decide) (fun K hK => ?_)
         refine goes_ Try.func17 (by kernel_rfl) rfl #[.agg #[.int .i64 t528, .int .i64 t529, .int .i64 t530, .int .i64 t531]] (by rfl) rfl rfl (by (try simp only [List.map_toArray, List.map_cons, List.map_nil]); first | done | rfl | (simp only [List.length_drop, List.length_take]; rfl)) ?_
         with_reducible refine (chequerlaw06_as.calls t528 t529 t530 t531 t535 t536 t537 t538 _ A57.out).mono ?_
         rintro e w106 ⟨rfl, hb⟩
         refine ⟨_, rfl, ?_⟩
         replace HO_6 := Aside0.mk (Kd.R_below (rp_ HO_6.out) hb)
         replace BK496 := Aside0.mk (blk_below (hp_ BK496.out) hb)
         replace BK534 := Aside0.mk (blk_below (hp_ BK534.out) hb)
         replace HB := Aside0.mk (below_step bp_ hb)
         (try clear hb)
         (try clear hb2)
         (try clear hk)
         (try clear hi)
         refine hK.out _ _ ⟨(blk_cell BK534.out 0).trans rfl, (blk_cell BK534.out 1).trans rfl, (blk_cell BK534.out 2).trans rfl, (blk_cell BK534.out 3).trans rfl, (blk_cell BK496.out 0).trans rfl, (blk_cell BK496.out 1).trans rfl, (blk_cell BK496.out 2).trans rfl, (blk_cell BK496.out 3).trans rfl⟩ (fun hHeld => ?_)
         clear hK K
         refine norm_ (a' := ?_) ?_ ?_
         rotate_left
         · show Act.put _ (some 82) _ = _
           simp only [Act.put, List.setIfInBounds_toArray, List.set_cons_zero, List.set_cons_succ, i64_w, i32_w]
           rfl
         refine pur_ (i := 3) (N := some 84) Fl158 (any_of HT_.out (by kernel_rfl)) ?_
         refine pur_ (i := 4) (N := some 85) Fl160 (any_of HT_.out (by kernel_rfl)) ?_
         refine pun_ (i := 5) (N := some 86) Fl162 (any_of HT_.out (by kernel_rfl)) ?_
         refine pun_ (i := 6) (N := some 87) Fl164 (any_of HT_.out (by kernel_rfl)) ?_
         refine pun_ (i := 7) (N := some 88) Fl166 (any_of HT_.out (by kernel_rfl)) ?_
         refine pun_ (i := 8) (N := some 89) Fl168 (any_of HT_.out (by kernel_rfl)) ?_
         refine pur_ (i := 9) (N := some 90) Fl170 (any_of HT_.out (by kernel_rfl)) ?_
         refine pur_ (i := 10) (N := some 91) Fl172 (any_of HT_.out (by kernel_rfl)) ?_
         refine pun_ (i := 11) (N := some 92) Fl174 (any_of HT_.out (by kernel_rfl)) ?_
         refine pun_ (i := 12) (N := some 93) Fl175 (any_of HT_.out (by kernel_rfl)) ?_
         refine pur_ (i := 13) (N := some 94) Fl176 (any_of HT_.out (by kernel_rfl)) ?_
         refine pur_ (i := 14) (N := some 95) Fl177 (any_of HT_.out (by kernel_rfl)) ?_
         refine pun_ (i := 15) (N := some 96) Fl178 (any_of HT_.out (by kernel_rfl)) ?_
         refine pur_ (i := 16) (N := some 97) Fl179 (any_of HT_.out (by kernel_rfl)) ?_
         refine pur_ (i := 17) (N := some 4) Fl184 (any_of HT_.out (by kernel_rfl)) ?_
         refine done_ (done_of HT_.out (by kernel_rfl)) ?_
         try go_wp2
         go_ret
         exact ⟨by first | rfl | (simp [errW_none, errW_some] <;> rfl) | (simp [*, errW_none, errW_some] <;> rfl), bp_⟩
     · rw [if_neg c54] at H
       exact absurd H (by simp)

/-- THE ONE PURE STATEMENT of chequerlaw06_HeadWrites. -/
def chequerlaw06_HeadWrites.Pure : Prop := ∀ (a0_0 : Int) (a0_1 : Int) (a0_2 : Int) (a0_3 : Int) (a1 : ByteArray), (Lit.int .i64 a0_0).wf = true → (Lit.int .i64 a0_1).wf = true → (Lit.int .i64 a0_2).wf = true → (Lit.int .i64 a0_3).wf = true → a1.size ≤ 140737488351232 → ∃ k, chequerlaw06_HeadWrites.f k a0_0 a0_1 a0_2 a0_3 a1 = some true
theorem chequerlaw06_HeadWrites.walk (P : chequerlaw06_HeadWrites.Pure) (a0_0 : Int) (a0_1 : Int) (a0_2 : Int) (a0_3 : Int) (a1 : ByteArray) (w : World) (w0_0 : (Lit.int .i64 a0_0).wf = true) (w0_1 : (Lit.int .i64 a0_1).wf = true) (w0_2 : (Lit.int .i64 a0_2).wf = true) (w0_3 : (Lit.int .i64 a0_3).wf = true) (w1 : a1.size ≤ 140737488351232) :
 Calls Try.prog 7 #[.agg #[.int .i64 a0_0, .int .i64 a0_1, .int .i64 a0_2, .int .i64 a0_3], .string a1] w fun e w' => e = .returned (.bool true) ∧ Below w.heap.size w w' := by
 obtain ⟨k, h⟩ := P a0_0 a0_1 a0_2 a0_3 a1 w0_0 w0_1 w0_2 w0_3 w1
 refine (chequerlaw06_HeadWrites.calls k a0_0 a0_1 a0_2 a0_3 a1 true w h).mono ?_
 rintro e w' ⟨rfl, hd⟩
 exact ⟨rfl, hd⟩

end Go.Proofs.Ytmimfljiighbaaa.Q
