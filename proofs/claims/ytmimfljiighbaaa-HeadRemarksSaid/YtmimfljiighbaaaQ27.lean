-- written by our own program (wip/tools/myprint.py) out of the translation, by the kit's print; Lean checks it
import Derived.Test.YtmimfljiighbaaaQ0
import Derived.Test.YtmimfljiighbaaaQ1
import Derived.Test.YtmimfljiighbaaaQ4
import Derived.Test.YtmimfljiighbaaaQ6
import Derived.Test.YtmimfljiighbaaaQ7
import Derived.Test.YtmimfljiighbaaaQ8
import Derived.Test.YtmimfljiighbaaaQ19
import Derived.Test.YtmimfljiighbaaaQ22
namespace Go.Proofs.Ytmimfljiighbaaa.Q
open Go.RowKit Go.Proofs.YtmimfljiighbaaaW.PrintWords Go.Proofs.YtmimfljiighbaaaW.PrintLast Go.Proofs.YtmimfljiighbaaaW.PrintMore
attribute [local go_sem] max2_int min2_int max_two min_two max_three min_three max_four min_four   -- for this text's walks alone
set_option linter.unusedVariables false
set_option linter.unusedSimpArgs false

attribute [local go_sem high] eqA25
abbrev Fl113 : Array Bool := #[false, false, false, false, false, false, false, false, false, false, false, false, false, false, false, false, false, false]
abbrev Fl114 : Array Bool := #[true, false, false, false, false, false, false, false, false, false, false, false, false, false, false, false, false, false]
abbrev Fl115 : Array Bool := #[true, false, true, false, false, false, false, false, false, false, false, false, false, false, false, false, false, false]
abbrev Fl116 : Array Bool := #[true, true, true, false, false, false, false, false, false, false, false, false, false, false, false, false, false, false]
abbrev Fl117 : Array Bool := #[true, true, true, true, false, false, false, false, false, false, false, false, false, false, false, false, false, false]
abbrev Fl118 : Array Bool := #[true, true, true, true, true, false, false, false, false, false, false, false, false, false, false, false, false, false]
abbrev Fl119 : Array Bool := #[true, true, true, true, true, true, false, false, false, false, false, false, false, false, false, false, false, false]
abbrev Fl120 : Array Bool := #[true, true, true, true, true, true, true, false, false, false, false, false, false, false, false, false, false, false]
abbrev Fl121 : Array Bool := #[true, true, true, true, true, true, true, true, false, false, false, false, false, false, false, false, false, false]
abbrev Fl122 : Array Bool := #[true, true, true, true, true, true, true, true, true, false, false, false, false, false, false, false, false, false]
abbrev Fl123 : Array Bool := #[true, true, true, true, true, true, true, true, true, true, false, false, false, false, false, false, false, false]
abbrev Fl124 : Array Bool := #[true, true, true, true, true, true, true, true, true, true, true, false, false, false, false, false, false, false]
abbrev Fl125 : Array Bool := #[true, true, true, true, true, true, true, true, true, true, true, true, false, false, false, false, false, false]
abbrev Fl126 : Array Bool := #[true, true, true, true, true, true, true, true, true, true, true, true, true, false, false, false, false, false]
abbrev Fl127 : Array Bool := #[true, true, true, true, true, true, true, true, true, true, true, true, true, true, false, false, false, false]
abbrev Fl128 : Array Bool := #[true, true, true, true, true, true, true, true, true, true, true, true, true, true, true, false, false, false]
abbrev Fl129 : Array Bool := #[true, true, true, true, true, true, true, true, true, true, true, true, true, true, true, true, false, false]
abbrev Fl130 : Array Bool := #[true, true, true, true, true, true, true, true, true, true, true, true, true, true, true, true, true, false]
abbrev Fl131 : Array Bool := #[true, true, true, true, true, true, true, true, true, true, true, true, true, true, true, true, true, true]
/-! ### chequerlaw06_HeadRemarks: function 6 -/
mutual
def chequerlaw06_HeadRemarks.l0 : Nat → Int → ByteArray → ByteArray → Int → Int → Int → Int → Int → Option (Bool)
 | 0, _, _, _, _, _, _, _, _ => none
 | k + 1, x1, x2, x8, x9, x451000, x451001, x451002, x451003 => if x9 < (x2.size : Int) then (if 0 ≤ x9 then (if (bt x2 x9) = 10 then (chequerlaw06_HeadRemarks.l0 k x1 x2 x8 (wrap64 (x9 + 1)) x451000 x451001 x451002 x451003) else (if (bt x2 x9) = 13 then (chequerlaw06_HeadRemarks.l0 k x1 x2 x8 (wrap64 (x9 + 1)) x451000 x451001 x451002 x451003) else (if x9 ≤ (wrap64 (x9 + 1)) then (if (wrap64 (x9 + 1)) ≤ (x2.size : Int) then (if x8.size + (x2.extract (x9 : Int).toNat ((wrap64 (x9 + 1)) : Int).toNat).size ≤ 9223372036854775807 then (chequerlaw06_HeadRemarks.l0 k x1 x2 (x8 ++ (x2.extract (x9 : Int).toNat ((wrap64 (x9 + 1)) : Int).toNat)) (wrap64 (x9 + 1)) x451000 x451001 x451002 x451003) else (none)) else (none)) else (none)))) else (none)) else ((some (([9, 10, 11, 12, 13, 32] : List Int) : List Int)).bind fun y452 => ((chequerref01_Around.f x1 6).bind fun t455 => (if 0 ≤ t455 then (if t455 < (y452.length : Int) then ((some (([rd y452 t455] : List Int) : List Int)).bind fun y457 => ((chequerref01_Decimal.f k x451000).bind fun t460 => (if 1 + t460.size ≤ 9223372036854775807 then (if ((⟨#[80]⟩ : ByteArray) ++ t460).size + x8.size ≤ 9223372036854775807 then (if (((⟨#[80]⟩ : ByteArray) ++ t460) ++ x8).size + 1 ≤ 9223372036854775807 then (if ((((⟨#[80]⟩ : ByteArray) ++ t460) ++ x8) ++ (⟨#[10]⟩ : ByteArray)).size + (strOfNums y457).size ≤ 9223372036854775807 then ((chequerref01_Decimal.f k x451001).bind fun t461 => (if (((((⟨#[80]⟩ : ByteArray) ++ t460) ++ x8) ++ (⟨#[10]⟩ : ByteArray)) ++ (strOfNums y457)).size + t461.size ≤ 9223372036854775807 then (if ((((((⟨#[80]⟩ : ByteArray) ++ t460) ++ x8) ++ (⟨#[10]⟩ : ByteArray)) ++ (strOfNums y457)) ++ t461).size + (strOfNums y457).size ≤ 9223372036854775807 then (if (((((((⟨#[80]⟩ : ByteArray) ++ t460) ++ x8) ++ (⟨#[10]⟩ : ByteArray)) ++ (strOfNums y457)) ++ t461) ++ (strOfNums y457)).size + x8.size ≤ 9223372036854775807 then (if ((((((((⟨#[80]⟩ : ByteArray) ++ t460) ++ x8) ++ (⟨#[10]⟩ : ByteArray)) ++ (strOfNums y457)) ++ t461) ++ (strOfNums y457)) ++ x8).size + 1 ≤ 9223372036854775807 then (if (((((((((⟨#[80]⟩ : ByteArray) ++ t460) ++ x8) ++ (⟨#[10]⟩ : ByteArray)) ++ (strOfNums y457)) ++ t461) ++ (strOfNums y457)) ++ x8) ++ (⟨#[13]⟩ : ByteArray)).size + (strOfNums y457).size ≤ 9223372036854775807 then ((chequerref01_Decimal.f k x451002).bind fun t462 => (if ((((((((((⟨#[80]⟩ : ByteArray) ++ t460) ++ x8) ++ (⟨#[10]⟩ : ByteArray)) ++ (strOfNums y457)) ++ t461) ++ (strOfNums y457)) ++ x8) ++ (⟨#[13]⟩ : ByteArray)) ++ (strOfNums y457)).size + t462.size ≤ 9223372036854775807 then (if (Int.tmod x451000 3) = 1 then (chequerlaw06_HeadRemarks.j1 k (strOfNums y457) (((((((((((⟨#[80]⟩ : ByteArray) ++ t460) ++ x8) ++ (⟨#[10]⟩ : ByteArray)) ++ (strOfNums y457)) ++ t461) ++ (strOfNums y457)) ++ x8) ++ (⟨#[13]⟩ : ByteArray)) ++ (strOfNums y457)) ++ t462) x451000 x451001 x451002 x451003) else (if (((((((((((⟨#[80]⟩ : ByteArray) ++ t460) ++ x8) ++ (⟨#[10]⟩ : ByteArray)) ++ (strOfNums y457)) ++ t461) ++ (strOfNums y457)) ++ x8) ++ (⟨#[13]⟩ : ByteArray)) ++ (strOfNums y457)) ++ t462).size + x8.size ≤ 9223372036854775807 then (if ((((((((((((⟨#[80]⟩ : ByteArray) ++ t460) ++ x8) ++ (⟨#[10]⟩ : ByteArray)) ++ (strOfNums y457)) ++ t461) ++ (strOfNums y457)) ++ x8) ++ (⟨#[13]⟩ : ByteArray)) ++ (strOfNums y457)) ++ t462) ++ x8).size + 1 ≤ 9223372036854775807 then (if (((((((((((((⟨#[80]⟩ : ByteArray) ++ t460) ++ x8) ++ (⟨#[10]⟩ : ByteArray)) ++ (strOfNums y457)) ++ t461) ++ (strOfNums y457)) ++ x8) ++ (⟨#[13]⟩ : ByteArray)) ++ (strOfNums y457)) ++ t462) ++ x8) ++ (⟨#[10]⟩ : ByteArray)).size + (strOfNums y457).size ≤ 9223372036854775807 then ((chequerref01_Decimal.f k x451003).bind fun t463 => (if ((((((((((((((⟨#[80]⟩ : ByteArray) ++ t460) ++ x8) ++ (⟨#[10]⟩ : ByteArray)) ++ (strOfNums y457)) ++ t461) ++ (strOfNums y457)) ++ x8) ++ (⟨#[13]⟩ : ByteArray)) ++ (strOfNums y457)) ++ t462) ++ x8) ++ (⟨#[10]⟩ : ByteArray)) ++ (strOfNums y457)).size + t463.size ≤ 9223372036854775807 then (chequerlaw06_HeadRemarks.j1 k (strOfNums y457) (((((((((((((((⟨#[80]⟩ : ByteArray) ++ t460) ++ x8) ++ (⟨#[10]⟩ : ByteArray)) ++ (strOfNums y457)) ++ t461) ++ (strOfNums y457)) ++ x8) ++ (⟨#[13]⟩ : ByteArray)) ++ (strOfNums y457)) ++ t462) ++ x8) ++ (⟨#[10]⟩ : ByteArray)) ++ (strOfNums y457)) ++ t463) x451000 x451001 x451002 x451003) else (none))) else (none)) else (none)) else (none))) else (none))) else (none)) else (none)) else (none)) else (none)) else (none))) else (none)) else (none)) else (none)) else (none)))) else (none)) else (none))))
def chequerlaw06_HeadRemarks.j1 : Nat → ByteArray → ByteArray → Int → Int → Int → Int → Option (Bool)
 | 0, _, _, _, _, _, _ => none
 | k + 1, x10, x11, x451000, x451001, x451002, x451003 => if x11.size + x10.size ≤ 9223372036854775807 then ((head_All.f).bind fun bt464 => ((head_Parse.f k (x11 ++ x10) bt464.1 bt464.2.1 bt464.2.2).bind fun bt467 => ((chequerlaw06_as.f bt467.1 bt467.2.1 bt467.2.2.1 bt467.2.2.2.1).bind fun bt474 => (if (bt474.1 == x451000 && (bt474.2.1 == x451001 && (bt474.2.2.1 == x451002 && (bt474.2.2.2 == x451003)))) = true then (if bt467.2.2.2.2.1 = ((x11 ++ x10).size : Int) then (if bt467.2.2.2.2.2 = 0 then ((chequerlaw06_lives.f k).bind fun t478 => (some t478)) else (some false)) else (some false)) else (some false))))) else (none)
end
def chequerlaw06_HeadRemarks.f (k : Nat) (a0_0 : Int) (a0_1 : Int) (a0_2 : Int) (a0_3 : Int) (a1 : Int) (a2 : ByteArray) : Option (Bool) := (chequerref06_Good.f a0_0 a0_1 a0_2 a0_3 4096).bind fun bt446 => ((chequerref05_Few.f a2 12).bind fun t451 => (chequerlaw06_HeadRemarks.l0 k a1 t451 (⟨#[35]⟩ : ByteArray) 0 bt446.1 bt446.2.1 bt446.2.2.1 bt446.2.2.2))
theorem chequerlaw06_HeadRemarks.mono_l : ∀ k, (∀ y0 y1 y2 y3 y4 y5 y6 y7, LeO (chequerlaw06_HeadRemarks.l0 k y0 y1 y2 y3 y4 y5 y6 y7) (chequerlaw06_HeadRemarks.l0 (k + 1) y0 y1 y2 y3 y4 y5 y6 y7)) ∧ (∀ y0 y1 y2 y3 y4 y5, LeO (chequerlaw06_HeadRemarks.j1 k y0 y1 y2 y3 y4 y5) (chequerlaw06_HeadRemarks.j1 (k + 1) y0 y1 y2 y3 y4 y5))
 | 0 => ⟨fun _ _ _ _ _ _ _ _ r h => by simp [chequerlaw06_HeadRemarks.l0] at h, fun _ _ _ _ _ _ r h => by simp [chequerlaw06_HeadRemarks.j1] at h⟩
 | k + 1 => by
  obtain ⟨ih0, ih1⟩ := chequerlaw06_HeadRemarks.mono_l k
  refine ⟨?_, ?_⟩
  · intro y0 y1 y2 y3 y4 y5 y6 y7
    unfold chequerlaw06_HeadRemarks.l0
    repeat' first
    | (with_reducible exact ih0 _ _ _ _ _ _ _ _)
    | (with_reducible exact ih1 _ _ _ _ _ _)
    | (with_reducible exact chequerlaw06_lives.mono _)
    | (with_reducible exact chequerref01_Decimal.mono _ _)
    | (with_reducible exact head_Parse.mono _ _ _ _ _)
    | (with_reducible exact LeO.refl _)
    | (with_reducible exact LeO.none _)
    | (with_reducible refine LeO.ite ?_ ?_)
    | (with_reducible refine LeO.bind ?_ (fun _ => ?_))
    | exact ih0 _ _ _ _ _ _ _ _
    | exact ih1 _ _ _ _ _ _
    | exact chequerlaw06_lives.mono _
    | exact chequerref01_Decimal.mono _ _
    | exact head_Parse.mono _ _ _ _ _
    | exact LeO.none _
    | refine LeO.ite ?_ ?_
    | refine LeO.bind ?_ (fun _ => ?_)
  · intro y0 y1 y2 y3 y4 y5
    unfold chequerlaw06_HeadRemarks.j1
    repeat' first
    | (with_reducible exact ih0 _ _ _ _ _ _ _ _)
    | (with_reducible exact ih1 _ _ _ _ _ _)
    | (with_reducible exact chequerlaw06_lives.mono _)
    | (with_reducible exact chequerref01_Decimal.mono _ _)
    | (with_reducible exact head_Parse.mono _ _ _ _ _)
    | (with_reducible exact LeO.refl _)
    | (with_reducible exact LeO.none _)
    | (with_reducible refine LeO.ite ?_ ?_)
    | (with_reducible refine LeO.bind ?_ (fun _ => ?_))
    | exact ih0 _ _ _ _ _ _ _ _
    | exact ih1 _ _ _ _ _ _
    | exact chequerlaw06_lives.mono _
    | exact chequerref01_Decimal.mono _ _
    | exact head_Parse.mono _ _ _ _ _
    | exact LeO.none _
    | refine LeO.ite ?_ ?_
    | refine LeO.bind ?_ (fun _ => ?_)
theorem chequerlaw06_HeadRemarks.mono : ∀ a0 a1 a2 a3 a4 a5 k, LeO (chequerlaw06_HeadRemarks.f k a0 a1 a2 a3 a4 a5) (chequerlaw06_HeadRemarks.f (k + 1) a0 a1 a2 a3 a4 a5) := by
 intro a0 a1 a2 a3 a4 a5 k
 obtain ⟨ih0, ih1⟩ := chequerlaw06_HeadRemarks.mono_l k
 unfold chequerlaw06_HeadRemarks.f
 repeat' first
  | (with_reducible exact ih0 _ _ _ _ _ _ _ _)
  | (with_reducible exact ih1 _ _ _ _ _ _)
  | (with_reducible exact chequerlaw06_lives.mono _)
  | (with_reducible exact chequerref01_Decimal.mono _ _)
  | (with_reducible exact head_Parse.mono _ _ _ _ _)
  | (with_reducible exact LeO.refl _)
  | (with_reducible exact LeO.none _)
  | (with_reducible refine LeO.ite ?_ ?_)
  | (with_reducible refine LeO.bind ?_ (fun _ => ?_))
  | exact ih0 _ _ _ _ _ _ _ _
  | exact ih1 _ _ _ _ _ _
  | exact chequerlaw06_lives.mono _
  | exact chequerref01_Decimal.mono _ _
  | exact head_Parse.mono _ _ _ _ _
  | exact LeO.none _
  | refine LeO.ite ?_ ?_
  | refine LeO.bind ?_ (fun _ => ?_)
def chequerlaw06_HeadRemarks.T10 : Bool × List (List Nat × List Nat) := (true, [([], []), ([0], [0]), ([1], [1]), ([2], [2]), ([], []), ([3, 4], [3, 4]), ([5], [5]), ([], []), ([6, 7], [6, 7]), ([], []), ([9], [9]), ([10, 2], [10]), ([8, 11], [8, 11]), ([], []), ([12, 13], [12, 13]), ([], []), ([14, 15], [14, 15]), ([16], [16]), ([], []), ([17, 18], [17, 18]), ([], []), ([20], [20]), ([21, 11], [21]), ([19, 22], [19, 22]), ([23, 22, 0, 1, 2, 3, 4, 5, 6, 7, 8, 9, 10, 11, 12, 13, 14, 15, 16, 17, 18, 19, 20, 21, 22, 23], [23])])
def chequerlaw06_HeadRemarks.B10 : List Nat := [0, 1, 3, 7, 0, 31, 63, 0, 255, 0, 512, 1543, 4095, 0, 16383, 0, 65535, 131071, 0, 524287, 0, 1048576, 3149319, 8388607, 16777215]
theorem chequerlaw06_HeadRemarks.tab10 : rtab .any (opsOf Try.f6 10) = chequerlaw06_HeadRemarks.T10 := by kernel_rfl
theorem chequerlaw06_HeadRemarks.bits10 : waitsOk chequerlaw06_HeadRemarks.T10.2 chequerlaw06_HeadRemarks.B10 = true := by kernel_rfl
def chequerlaw06_HeadRemarks.T15 : Bool × List (List Nat × List Nat) := (true, [([], []), ([0], [0]), ([], []), ([1, 2], [1, 2]), ([3, 1], [3]), ([4], [4]), ([4], [4]), ([6, 4], [4, 6]), ([5, 7, 4], [4, 5, 7]), ([4, 8], [4, 8]), ([9, 4], [9]), ([10], [10]), ([11, 10], [10, 11]), ([10, 12], [10, 12]), ([13, 10], [13]), ([14, 14], [14]), ([14, 15], [14, 15]), ([16, 15, 0, 1, 2, 3, 4, 5, 6, 7, 8, 9, 10, 11, 12, 13, 14, 15, 16], [16])])
def chequerlaw06_HeadRemarks.B15 : List Nat := [0, 1, 0, 7, 15, 31, 31, 95, 255, 511, 1023, 2047, 4095, 8191, 16383, 32767, 65535, 131071]
theorem chequerlaw06_HeadRemarks.tab15 : rtab .any (opsOf Try.f6 15) = chequerlaw06_HeadRemarks.T15 := by kernel_rfl
theorem chequerlaw06_HeadRemarks.bits15 : waitsOk chequerlaw06_HeadRemarks.T15.2 chequerlaw06_HeadRemarks.B15 = true := by kernel_rfl
set_option maxHeartbeats 8000000 in
set_option maxRecDepth 100000 in
theorem chequerlaw06_HeadRemarks.calls (k : Nat) (a0_0 : Int) (a0_1 : Int) (a0_2 : Int) (a0_3 : Int) (a1 : Int) (a2 : ByteArray) (r : Bool) (w : World) (h : chequerlaw06_HeadRemarks.f k a0_0 a0_1 a0_2 a0_3 a1 a2 = some r) :
 Calls Try.prog 6 #[.agg #[.int .i64 a0_0, .int .i64 a0_1, .int .i64 a0_2, .int .i64 a0_3], .int .i64 a1, .string a2] w fun e w' => e = .returned (.bool r) ∧ Below w.heap.size w w' := by
 have hu25 := Try.underlying25
 have hu36 := Try.underlying36
 have HB := Aside0.mk (Below.refl w.heap.size w)
 have H : ((chequerref06_Good.f a0_0 a0_1 a0_2 a0_3 4096).bind fun bt446 => ((chequerref05_Few.f a2 12).bind fun t451 => (chequerlaw06_HeadRemarks.l0 k a1 t451 (⟨#[35]⟩ : ByteArray) 0 bt446.1 bt446.2.1 bt446.2.2.1 bt446.2.2.2))) = some r := h
 clear h
 replace H := Option.bind_eq_some_iff.mp H
 obtain ⟨⟨t446, t447, t448, t449⟩, A40, H⟩ := H
 replace H : ((chequerref05_Few.f a2 12).bind fun t451 => (chequerlaw06_HeadRemarks.l0 k a1 t451 (⟨#[35]⟩ : ByteArray) 0 t446 t447 t448 t449)) = some r := H
 have A4 := Aside0.mk A40
 clear A40
 replace H := Option.bind_eq_some_iff.mp H
 obtain ⟨t451, A50, H⟩ := H
 replace H : (chequerlaw06_HeadRemarks.l0 k a1 t451 (⟨#[35]⟩ : ByteArray) 0 t446 t447 t448 t449) = some r := H
 have A5 := Aside0.mk A50
 clear A50
 have H' := Aside0.mk H
 clear H
 go_enter Try.func6, Try.ntmps6
 go_wp2_with (first | ((with_reducible refine gate_dst (N := 3) rfl ?_); (try (refine gate_guard (by rfl) ?_; dsimp only)); refine box_event ?hg (N := 3) ?hd (cs := #[.int .i64 a0_0, .int .i64 a0_1, .int .i64 a0_2, .int .i64 a0_3]) (t := 25) ?hr ?_; (case hd => rfl); (case hg => rfl); (case hr => first | (go_simp; done) | (go_simp; rfl)); intro gb445 hg w6 hbox hb; have BK445 := Aside0.mk (hbox); have GW445 := Aside0.mk ((by rw [hg]; exact (below_size bp_) : w.heap.size ≤ gb445)); have GE445 := Aside0.mk ((by rw [hg]; exact (below_size bp_) : w.heap.size ≤ gb445)); replace HB := Aside0.mk (below_step bp_ hb); clear hb hbox hg; have hcz7_0 : w6.cell? ⟨gb445, 0, none⟩ = some (.int .i64 a0_0) := (blk_cell BK445.out 0).trans rfl; have hcz7_1 : w6.cell? ⟨gb445, 1, none⟩ = some (.int .i64 a0_1) := (blk_cell BK445.out 1).trans rfl; have hcz7_2 : w6.cell? ⟨gb445, 2, none⟩ = some (.int .i64 a0_2) := (blk_cell BK445.out 2).trans rfl; have hcz7_3 : w6.cell? ⟨gb445, 3, none⟩ = some (.int .i64 a0_3) := (blk_cell BK445.out 3).trans rfl; have hfz7_0 := blk_frozen BK445.out 0; have hfz7_1 := blk_frozen BK445.out 1; have hfz7_2 := blk_frozen BK445.out 2; have hfz7_3 := blk_frozen BK445.out 3) | ((with_reducible refine gate_callee (f := 11) rfl ?_); refine goQ_ (some 16) Try.func11 #[.agg #[.int .i64 a0_0, .int .i64 a0_1, .int .i64 a0_2, .int .i64 a0_3], .int .i64 4096] ?_; (with_reducible refine (chequerref06_Good.calls a0_0 a0_1 a0_2 a0_3 4096 t446 t447 t448 t449 _ A4.out).mono ?_); rintro e w8 ⟨rfl, hb⟩; refine ⟨_, rfl, ?_⟩; replace HB := Aside0.mk (below_step bp_ hb); (try clear hb); (try clear hb2); (try clear hk); (try clear hi)) | ((with_reducible refine gate_dst (N := 7) rfl ?_); (try (refine gate_guard (by rfl) ?_; dsimp only)); refine box_event ?hg (N := 7) ?hd (cs := #[.int .i64 0, .int .i64 0, .int .i64 0, .int .i64 0]) (t := 25) ?hr ?_; (case hd => rfl); (case hg => rfl); (case hr => first | (go_simp; done) | (go_simp; rfl)); intro gb450 hg w9 hbox hb; have BK450 := Aside0.mk (hbox); have GW450 := Aside0.mk ((by rw [hg]; exact (below_size bp_) : w.heap.size ≤ gb450)); have GE450 := Aside0.mk ((by rw [hg]; exact (below_size bp_) : w.heap.size ≤ gb450)); replace HB := Aside0.mk (below_step bp_ hb); clear hb hbox hg; have hcz10_0 : w9.cell? ⟨gb450, 0, none⟩ = some (.int .i64 0) := (blk_cell BK450.out 0).trans rfl; have hcz10_1 : w9.cell? ⟨gb450, 1, none⟩ = some (.int .i64 0) := (blk_cell BK450.out 1).trans rfl; have hcz10_2 : w9.cell? ⟨gb450, 2, none⟩ = some (.int .i64 0) := (blk_cell BK450.out 2).trans rfl; have hcz10_3 : w9.cell? ⟨gb450, 3, none⟩ = some (.int .i64 0) := (blk_cell BK450.out 3).trans rfl; have hfz10_0 := blk_frozen BK450.out 0; have hfz10_1 := blk_frozen BK450.out 1; have hfz10_2 := blk_frozen BK450.out 2; have hfz10_3 := blk_frozen BK450.out 3) | ((with_reducible refine gate_callee (f := 9) rfl ?_); refine goQ_ (some 18) Try.func9 #[.string a2, .int .i64 12] ?_; (with_reducible refine (chequerref05_Few.calls a2 12 t451 _ A5.out).mono ?_); rintro e w' ⟨rfl, ⟨nd, rfl⟩⟩; refine ⟨_, rfl, ?_⟩))
 go_loopg [8, 9] k (fun kq v8 v9 w' => ∃ (x8_1 : ByteArray) (x9_1 : Int), v8 = .string x8_1 ∧ v9 = .int .i64 x9_1 ∧ Aside0 (chequerlaw06_HeadRemarks.l0 kq a1 t451 x8_1 x9_1 t446 t447 t448 t449 = some r) ∧ Aside0 (kq ≤ k) ∧ Aside0 (w'.heap[gb450]? = some (.cells #[.int .i64 t446, .int .i64 t447, .int .i64 t448, .int .i64 t449] 25 (0, 0))) ∧ Aside0 (Below w.heap.size w w'))
 case atStart => exact ⟨((⟨#[35]⟩ : ByteArray)), (0), (by first | rfl | (simp; done) | (simp [*]; done)), (by first | rfl | (simp; done) | (simp [*]; done)), H', ⟨Nat.le_refl _⟩, ⟨by (with_reducible repeat (first | refine blk_drewN ?_ _ | refine blk_drew ?_ | refine blk_alloc ?_ _)); refine blk_put (cs := #[.int .i64 t446, .int .i64 t447, .int .i64 t448, .int .i64 0]) ?_ 3 _ rfl; (with_reducible repeat (first | refine blk_drewN ?_ _ | refine blk_drew ?_ | refine blk_alloc ?_ _)); refine blk_put (cs := #[.int .i64 t446, .int .i64 t447, .int .i64 0, .int .i64 0]) ?_ 2 _ rfl; (with_reducible repeat (first | refine blk_drewN ?_ _ | refine blk_drew ?_ | refine blk_alloc ?_ _)); refine blk_put (cs := #[.int .i64 t446, .int .i64 0, .int .i64 0, .int .i64 0]) ?_ 1 _ rfl; (with_reducible repeat (first | refine blk_drewN ?_ _ | refine blk_drew ?_ | refine blk_alloc ?_ _)); refine blk_put (cs := #[.int .i64 0, .int .i64 0, .int .i64 0, .int .i64 0]) ?_ 0 _ rfl; (with_reducible repeat (first | refine blk_drewN ?_ _ | refine blk_drew ?_ | refine blk_alloc ?_ _)); exact BK450.out⟩, ⟨bp_⟩⟩
 case round =>
  clear H'
  try clear c1
  try clear p2
  try clear c6
  try clear c9
  try clear hcz10_0
  try clear hcz10_1
  try clear hcz10_2
  try clear hcz10_3
  try clear hcz7_0
  try clear hcz7_1
  try clear hcz7_2
  try clear hcz7_3
  try clear hfz10_0
  try clear hfz10_1
  try clear hfz10_2
  try clear hfz10_3
  try clear hfz7_0
  try clear hfz7_1
  try clear hfz7_2
  try clear hfz7_3
  obtain ⟨x8_1, x9_1, rfl, rfl, HA, HK1, BK450, HB⟩ := hrel
  cases gk with
  | zero => exact absurd HA.out (by simp [chequerlaw06_HeadRemarks.l0])
  | succ k1 =>
   have H := HA.out
   clear HA
   simp only [chequerlaw06_HeadRemarks.l0] at H
   by_cases c11 : x9_1 < (t451.size : Int)
   · rw [if_pos c11] at H
     have c11b0 : decide (x9_1 < (t451.size : Int)) = true := decide_eq_true c11
     clear c11
     by_cases c12 : 0 ≤ x9_1
     · rw [if_pos c12] at H
       have c12b0 : decide (0 ≤ x9_1) = true := decide_eq_true c12
       clear c12
       by_cases c14 : (bt t451 x9_1) = 10
       · rw [if_pos c14] at H
         have c14b0 : ((bt t451 x9_1) == 10) = true := beq_iff_eq.mpr c14
         have c14b1 : ((bt t451 x9_1) != 10) = false := bne_eq_false_iff_eq.mpr c14
         clear c14
         have H' := Aside0.mk H
         clear H
         have p13 : 0 ≤ (x9_1 : Int) := of_decide_eq_true (by first | (with_reducible assumption) | assumption)
         have q13 : x9_1 < (t451.size : Int) := of_decide_eq_true (by first | (with_reducible assumption) | assumption)
         have hx13 := bt_at t451 x9_1
         replace p13 := eq_true p13
         replace q13 := eq_true q13
         go_wp2
         go_roundg k1
         case measure => have := HK1.out; omega
         case rel => exact ⟨(x8_1), (wrap64 (x9_1 + 1)), (by first | rfl | (simp; done) | (simp [*]; done)), (by first | rfl | (simp; done) | (simp [*]; done)), H', ⟨by have := HK1.out; omega⟩, ⟨hp_ BK450.out⟩, ⟨bp_⟩⟩
       · rw [if_neg c14] at H
         have c14b0 : ((bt t451 x9_1) == 10) = false := beq_eq_false_iff_ne.mpr c14
         have c14b1 : ((bt t451 x9_1) != 10) = true := bne_iff_ne.mpr c14
         by_cases c16 : (bt t451 x9_1) = 13
         · rw [if_pos c16] at H
           have c16b0 : ((bt t451 x9_1) == 13) = true := beq_iff_eq.mpr c16
           have c16b1 : ((bt t451 x9_1) != 13) = false := bne_eq_false_iff_eq.mpr c16
           clear c16
           have H' := Aside0.mk H
           clear H
           have p13 : 0 ≤ (x9_1 : Int) := of_decide_eq_true (by first | (with_reducible assumption) | assumption)
           have q13 : x9_1 < (t451.size : Int) := of_decide_eq_true (by first | (with_reducible assumption) | assumption)
           have hx13 := bt_at t451 x9_1
           replace p13 := eq_true p13
           replace q13 := eq_true q13
           have p15 : 0 ≤ (x9_1 : Int) := of_decide_eq_true (by first | (with_reducible assumption) | assumption)
           have q15 : x9_1 < (t451.size : Int) := of_decide_eq_true (by first | (with_reducible assumption) | assumption)
           have hx15 := bt_at t451 x9_1
           replace p15 := eq_true p15
           replace q15 := eq_true q15
           go_wp2
           go_roundg k1
           case measure => have := HK1.out; omega
           case rel => exact ⟨(x8_1), (wrap64 (x9_1 + 1)), (by first | rfl | (simp; done) | (simp [*]; done)), (by first | rfl | (simp; done) | (simp [*]; done)), H', ⟨by have := HK1.out; omega⟩, ⟨hp_ BK450.out⟩, ⟨bp_⟩⟩
         · rw [if_neg c16] at H
           have c16b0 : ((bt t451 x9_1) == 13) = false := beq_eq_false_iff_ne.mpr c16
           have c16b1 : ((bt t451 x9_1) != 13) = true := bne_iff_ne.mpr c16
           have c17b0 := eq_true (of_decide_eq_true (by first | (with_reducible assumption) | assumption) : 0 ≤ x9_1)
           by_cases c18 : x9_1 ≤ (wrap64 (x9_1 + 1))
           · rw [if_pos c18] at H
             have c18b0 := eq_true c18
             have c18b1 : decide (x9_1 ≤ (wrap64 (x9_1 + 1))) = true := decide_eq_true c18
             by_cases c19 : (wrap64 (x9_1 + 1)) ≤ (t451.size : Int)
             · rw [if_pos c19] at H
               have c19b0 := eq_true c19
               have c19b1 : decide ((wrap64 (x9_1 + 1)) ≤ (t451.size : Int)) = true := decide_eq_true c19
               by_cases c20 : x8_1.size + (t451.extract (x9_1 : Int).toNat ((wrap64 (x9_1 + 1)) : Int).toNat).size ≤ 9223372036854775807
               · rw [if_pos c20] at H
                 have c20b0 := eq_true c20
                 have c20b1 : decide (x8_1.size + (t451.extract (x9_1 : Int).toNat ((wrap64 (x9_1 + 1)) : Int).toNat).size ≤ 9223372036854775807) = true := decide_eq_true c20
                 try have c20b2 : (9223372036854775807 < x8_1.size + (t451.extract (x9_1 : Int).toNat ((wrap64 (x9_1 + 1)) : Int).toNat).size) = False := eq_false (Nat.not_lt.2 c20)
                 have H' := Aside0.mk H
                 clear H
                 have p13 : 0 ≤ (x9_1 : Int) := of_decide_eq_true (by first | (with_reducible assumption) | assumption)
                 have q13 : x9_1 < (t451.size : Int) := of_decide_eq_true (by first | (with_reducible assumption) | assumption)
                 have hx13 := bt_at t451 x9_1
                 replace p13 := eq_true p13
                 replace q13 := eq_true q13
                 have p15 : 0 ≤ (x9_1 : Int) := of_decide_eq_true (by first | (with_reducible assumption) | assumption)
                 have q15 : x9_1 < (t451.size : Int) := of_decide_eq_true (by first | (with_reducible assumption) | assumption)
                 have hx15 := bt_at t451 x9_1
                 replace p15 := eq_true p15
                 replace q15 := eq_true q15
                 go_wp2
                 go_roundg k1
                 case measure => have := HK1.out; omega
                 case rel => exact ⟨(x8_1 ++ (t451.extract (x9_1 : Int).toNat ((wrap64 (x9_1 + 1)) : Int).toNat)), (wrap64 (x9_1 + 1)), (by first | rfl | (simp; done) | (simp [*]; done)), (by first | rfl | (simp; done) | (simp [*]; done)), H', ⟨by have := HK1.out; omega⟩, ⟨hp_ BK450.out⟩, ⟨bp_⟩⟩
               · rw [if_neg c20] at H
                 exact absurd H (by simp)
             · rw [if_neg c19] at H
               exact absurd H (by simp)
           · rw [if_neg c18] at H
             exact absurd H (by simp)
     · rw [if_neg c12] at H
       exact absurd H (by simp)
   · rw [if_neg c11] at H
     have c11b0 : decide (x9_1 < (t451.size : Int)) = false := decide_eq_false c11
     clear c11
     obtain ⟨y452, hy452⟩ : ∃ y_ : List Int, y_ = (([9, 10, 11, 12, 13, 32] : List Int)) := ⟨_, rfl⟩
     replace H : ((chequerref01_Around.f a1 6).bind fun t455 => (if 0 ≤ t455 then (if t455 < (y452.length : Int) then ((some (([rd y452 t455] : List Int) : List Int)).bind fun y457 => ((chequerref01_Decimal.f k1 t446).bind fun t460 => (if 1 + t460.size ≤ 9223372036854775807 then (if ((⟨#[80]⟩ : ByteArray) ++ t460).size + x8_1.size ≤ 9223372036854775807 then (if (((⟨#[80]⟩ : ByteArray) ++ t460) ++ x8_1).size + 1 ≤ 9223372036854775807 then (if ((((⟨#[80]⟩ : ByteArray) ++ t460) ++ x8_1) ++ (⟨#[10]⟩ : ByteArray)).size + (strOfNums y457).size ≤ 9223372036854775807 then ((chequerref01_Decimal.f k1 t447).bind fun t461 => (if (((((⟨#[80]⟩ : ByteArray) ++ t460) ++ x8_1) ++ (⟨#[10]⟩ : ByteArray)) ++ (strOfNums y457)).size + t461.size ≤ 9223372036854775807 then (if ((((((⟨#[80]⟩ : ByteArray) ++ t460) ++ x8_1) ++ (⟨#[10]⟩ : ByteArray)) ++ (strOfNums y457)) ++ t461).size + (strOfNums y457).size ≤ 9223372036854775807 then (if (((((((⟨#[80]⟩ : ByteArray) ++ t460) ++ x8_1) ++ (⟨#[10]⟩ : ByteArray)) ++ (strOfNums y457)) ++ t461) ++ (strOfNums y457)).size + x8_1.size ≤ 9223372036854775807 then (if ((((((((⟨#[80]⟩ : ByteArray) ++ t460) ++ x8_1) ++ (⟨#[10]⟩ : ByteArray)) ++ (strOfNums y457)) ++ t461) ++ (strOfNums y457)) ++ x8_1).size + 1 ≤ 9223372036854775807 then (if (((((((((⟨#[80]⟩ : ByteArray) ++ t460) ++ x8_1) ++ (⟨#[10]⟩ : ByteArray)) ++ (strOfNums y457)) ++ t461) ++ (strOfNums y457)) ++ x8_1) ++ (⟨#[13]⟩ : ByteArray)).size + (strOfNums y457).size ≤ 9223372036854775807 then ((chequerref01_Decimal.f k1 t448).bind fun t462 => (if ((((((((((⟨#[80]⟩ : ByteArray) ++ t460) ++ x8_1) ++ (⟨#[10]⟩ : ByteArray)) ++ (strOfNums y457)) ++ t461) ++ (strOfNums y457)) ++ x8_1) ++ (⟨#[13]⟩ : ByteArray)) ++ (strOfNums y457)).size + t462.size ≤ 9223372036854775807 then (if (Int.tmod t446 3) = 1 then (chequerlaw06_HeadRemarks.j1 k1 (strOfNums y457) (((((((((((⟨#[80]⟩ : ByteArray) ++ t460) ++ x8_1) ++ (⟨#[10]⟩ : ByteArray)) ++ (strOfNums y457)) ++ t461) ++ (strOfNums y457)) ++ x8_1) ++ (⟨#[13]⟩ : ByteArray)) ++ (strOfNums y457)) ++ t462) t446 t447 t448 t449) else (if (((((((((((⟨#[80]⟩ : ByteArray) ++ t460) ++ x8_1) ++ (⟨#[10]⟩ : ByteArray)) ++ (strOfNums y457)) ++ t461) ++ (strOfNums y457)) ++ x8_1) ++ (⟨#[13]⟩ : ByteArray)) ++ (strOfNums y457)) ++ t462).size + x8_1.size ≤ 9223372036854775807 then (if ((((((((((((⟨#[80]⟩ : ByteArray) ++ t460) ++ x8_1) ++ (⟨#[10]⟩ : ByteArray)) ++ (strOfNums y457)) ++ t461) ++ (strOfNums y457)) ++ x8_1) ++ (⟨#[13]⟩ : ByteArray)) ++ (strOfNums y457)) ++ t462) ++ x8_1).size + 1 ≤ 9223372036854775807 then (if (((((((((((((⟨#[80]⟩ : ByteArray) ++ t460) ++ x8_1) ++ (⟨#[10]⟩ : ByteArray)) ++ (strOfNums y457)) ++ t461) ++ (strOfNums y457)) ++ x8_1) ++ (⟨#[13]⟩ : ByteArray)) ++ (strOfNums y457)) ++ t462) ++ x8_1) ++ (⟨#[10]⟩ : ByteArray)).size + (strOfNums y457).size ≤ 9223372036854775807 then ((chequerref01_Decimal.f k1 t449).bind fun t463 => (if ((((((((((((((⟨#[80]⟩ : ByteArray) ++ t460) ++ x8_1) ++ (⟨#[10]⟩ : ByteArray)) ++ (strOfNums y457)) ++ t461) ++ (strOfNums y457)) ++ x8_1) ++ (⟨#[13]⟩ : ByteArray)) ++ (strOfNums y457)) ++ t462) ++ x8_1) ++ (⟨#[10]⟩ : ByteArray)) ++ (strOfNums y457)).size + t463.size ≤ 9223372036854775807 then (chequerlaw06_HeadRemarks.j1 k1 (strOfNums y457) (((((((((((((((⟨#[80]⟩ : ByteArray) ++ t460) ++ x8_1) ++ (⟨#[10]⟩ : ByteArray)) ++ (strOfNums y457)) ++ t461) ++ (strOfNums y457)) ++ x8_1) ++ (⟨#[13]⟩ : ByteArray)) ++ (strOfNums y457)) ++ t462) ++ x8_1) ++ (⟨#[10]⟩ : ByteArray)) ++ (strOfNums y457)) ++ t463) t446 t447 t448 t449) else (none))) else (none)) else (none)) else (none))) else (none))) else (none)) else (none)) else (none)) else (none)) else (none))) else (none)) else (none)) else (none)) else (none)))) else (none)) else (none))) = some r := by first | (rw [hy452]; with_reducible exact H) | (have H2_ := (Option.bind_some _ _).symm.trans H; rw [hy452]; with_reducible exact H2_) | (have H2_ := (Option.bind_some _ _).symm.trans H; with_reducible exact H2_) | with_reducible exact H | (rw [hy452]; exact H) | exact H
     have Ny452 := Aside0.mk hy452
     clear hy452
     replace H := Option.bind_eq_some_iff.mp H
     obtain ⟨t455, A210, H⟩ := H
     replace H : (if 0 ≤ t455 then (if t455 < (y452.length : Int) then ((some (([rd y452 t455] : List Int) : List Int)).bind fun y457 => ((chequerref01_Decimal.f k1 t446).bind fun t460 => (if 1 + t460.size ≤ 9223372036854775807 then (if ((⟨#[80]⟩ : ByteArray) ++ t460).size + x8_1.size ≤ 9223372036854775807 then (if (((⟨#[80]⟩ : ByteArray) ++ t460) ++ x8_1).size + 1 ≤ 9223372036854775807 then (if ((((⟨#[80]⟩ : ByteArray) ++ t460) ++ x8_1) ++ (⟨#[10]⟩ : ByteArray)).size + (strOfNums y457).size ≤ 9223372036854775807 then ((chequerref01_Decimal.f k1 t447).bind fun t461 => (if (((((⟨#[80]⟩ : ByteArray) ++ t460) ++ x8_1) ++ (⟨#[10]⟩ : ByteArray)) ++ (strOfNums y457)).size + t461.size ≤ 9223372036854775807 then (if ((((((⟨#[80]⟩ : ByteArray) ++ t460) ++ x8_1) ++ (⟨#[10]⟩ : ByteArray)) ++ (strOfNums y457)) ++ t461).size + (strOfNums y457).size ≤ 9223372036854775807 then (if (((((((⟨#[80]⟩ : ByteArray) ++ t460) ++ x8_1) ++ (⟨#[10]⟩ : ByteArray)) ++ (strOfNums y457)) ++ t461) ++ (strOfNums y457)).size + x8_1.size ≤ 9223372036854775807 then (if ((((((((⟨#[80]⟩ : ByteArray) ++ t460) ++ x8_1) ++ (⟨#[10]⟩ : ByteArray)) ++ (strOfNums y457)) ++ t461) ++ (strOfNums y457)) ++ x8_1).size + 1 ≤ 9223372036854775807 then (if (((((((((⟨#[80]⟩ : ByteArray) ++ t460) ++ x8_1) ++ (⟨#[10]⟩ : ByteArray)) ++ (strOfNums y457)) ++ t461) ++ (strOfNums y457)) ++ x8_1) ++ (⟨#[13]⟩ : ByteArray)).size + (strOfNums y457).size ≤ 9223372036854775807 then ((chequerref01_Decimal.f k1 t448).bind fun t462 => (if ((((((((((⟨#[80]⟩ : ByteArray) ++ t460) ++ x8_1) ++ (⟨#[10]⟩ : ByteArray)) ++ (strOfNums y457)) ++ t461) ++ (strOfNums y457)) ++ x8_1) ++ (⟨#[13]⟩ : ByteArray)) ++ (strOfNums y457)).size + t462.size ≤ 9223372036854775807 then (if (Int.tmod t446 3) = 1 then (chequerlaw06_HeadRemarks.j1 k1 (strOfNums y457) (((((((((((⟨#[80]⟩ : ByteArray) ++ t460) ++ x8_1) ++ (⟨#[10]⟩ : ByteArray)) ++ (strOfNums y457)) ++ t461) ++ (strOfNums y457)) ++ x8_1) ++ (⟨#[13]⟩ : ByteArray)) ++ (strOfNums y457)) ++ t462) t446 t447 t448 t449) else (if (((((((((((⟨#[80]⟩ : ByteArray) ++ t460) ++ x8_1) ++ (⟨#[10]⟩ : ByteArray)) ++ (strOfNums y457)) ++ t461) ++ (strOfNums y457)) ++ x8_1) ++ (⟨#[13]⟩ : ByteArray)) ++ (strOfNums y457)) ++ t462).size + x8_1.size ≤ 9223372036854775807 then (if ((((((((((((⟨#[80]⟩ : ByteArray) ++ t460) ++ x8_1) ++ (⟨#[10]⟩ : ByteArray)) ++ (strOfNums y457)) ++ t461) ++ (strOfNums y457)) ++ x8_1) ++ (⟨#[13]⟩ : ByteArray)) ++ (strOfNums y457)) ++ t462) ++ x8_1).size + 1 ≤ 9223372036854775807 then (if (((((((((((((⟨#[80]⟩ : ByteArray) ++ t460) ++ x8_1) ++ (⟨#[10]⟩ : ByteArray)) ++ (strOfNums y457)) ++ t461) ++ (strOfNums y457)) ++ x8_1) ++ (⟨#[13]⟩ : ByteArray)) ++ (strOfNums y457)) ++ t462) ++ x8_1) ++ (⟨#[10]⟩ : ByteArray)).size + (strOfNums y457).size ≤ 9223372036854775807 then ((chequerref01_Decimal.f k1 t449).bind fun t463 => (if ((((((((((((((⟨#[80]⟩ : ByteArray) ++ t460) ++ x8_1) ++ (⟨#[10]⟩ : ByteArray)) ++ (strOfNums y457)) ++ t461) ++ (strOfNums y457)) ++ x8_1) ++ (⟨#[13]⟩ : ByteArray)) ++ (strOfNums y457)) ++ t462) ++ x8_1) ++ (⟨#[10]⟩ : ByteArray)) ++ (strOfNums y457)).size + t463.size ≤ 9223372036854775807 then (chequerlaw06_HeadRemarks.j1 k1 (strOfNums y457) (((((((((((((((⟨#[80]⟩ : ByteArray) ++ t460) ++ x8_1) ++ (⟨#[10]⟩ : ByteArray)) ++ (strOfNums y457)) ++ t461) ++ (strOfNums y457)) ++ x8_1) ++ (⟨#[13]⟩ : ByteArray)) ++ (strOfNums y457)) ++ t462) ++ x8_1) ++ (⟨#[10]⟩ : ByteArray)) ++ (strOfNums y457)) ++ t463) t446 t447 t448 t449) else (none))) else (none)) else (none)) else (none))) else (none))) else (none)) else (none)) else (none)) else (none)) else (none))) else (none)) else (none)) else (none)) else (none)))) else (none)) else (none)) = some r := H
     have A21 := Aside0.mk A210
     clear A210
     by_cases c22 : 0 ≤ t455
     · rw [if_pos c22] at H
       have c22b0 : decide (0 ≤ t455) = true := decide_eq_true c22
       clear c22
       by_cases c23 : t455 < (y452.length : Int)
       · rw [if_pos c23] at H
         have c23b0 : decide (t455 < (y452.length : Int)) = true := decide_eq_true c23
         clear c23
         obtain ⟨y457, hy457⟩ : ∃ y_ : List Int, y_ = (([rd y452 t455] : List Int)) := ⟨_, rfl⟩
         replace H : ((chequerref01_Decimal.f k1 t446).bind fun t460 => (if 1 + t460.size ≤ 9223372036854775807 then (if ((⟨#[80]⟩ : ByteArray) ++ t460).size + x8_1.size ≤ 9223372036854775807 then (if (((⟨#[80]⟩ : ByteArray) ++ t460) ++ x8_1).size + 1 ≤ 9223372036854775807 then (if ((((⟨#[80]⟩ : ByteArray) ++ t460) ++ x8_1) ++ (⟨#[10]⟩ : ByteArray)).size + (strOfNums y457).size ≤ 9223372036854775807 then ((chequerref01_Decimal.f k1 t447).bind fun t461 => (if (((((⟨#[80]⟩ : ByteArray) ++ t460) ++ x8_1) ++ (⟨#[10]⟩ : ByteArray)) ++ (strOfNums y457)).size + t461.size ≤ 9223372036854775807 then (if ((((((⟨#[80]⟩ : ByteArray) ++ t460) ++ x8_1) ++ (⟨#[10]⟩ : ByteArray)) ++ (strOfNums y457)) ++ t461).size + (strOfNums y457).size ≤ 9223372036854775807 then (if (((((((⟨#[80]⟩ : ByteArray) ++ t460) ++ x8_1) ++ (⟨#[10]⟩ : ByteArray)) ++ (strOfNums y457)) ++ t461) ++ (strOfNums y457)).size + x8_1.size ≤ 9223372036854775807 then (if ((((((((⟨#[80]⟩ : ByteArray) ++ t460) ++ x8_1) ++ (⟨#[10]⟩ : ByteArray)) ++ (strOfNums y457)) ++ t461) ++ (strOfNums y457)) ++ x8_1).size + 1 ≤ 9223372036854775807 then (if (((((((((⟨#[80]⟩ : ByteArray) ++ t460) ++ x8_1) ++ (⟨#[10]⟩ : ByteArray)) ++ (strOfNums y457)) ++ t461) ++ (strOfNums y457)) ++ x8_1) ++ (⟨#[13]⟩ : ByteArray)).size + (strOfNums y457).size ≤ 9223372036854775807 then ((chequerref01_Decimal.f k1 t448).bind fun t462 => (if ((((((((((⟨#[80]⟩ : ByteArray) ++ t460) ++ x8_1) ++ (⟨#[10]⟩ : ByteArray)) ++ (strOfNums y457)) ++ t461) ++ (strOfNums y457)) ++ x8_1) ++ (⟨#[13]⟩ : ByteArray)) ++ (strOfNums y457)).size + t462.size ≤ 9223372036854775807 then (if (Int.tmod t446 3) = 1 then (chequerlaw06_HeadRemarks.j1 k1 (strOfNums y457) (((((((((((⟨#[80]⟩ : ByteArray) ++ t460) ++ x8_1) ++ (⟨#[10]⟩ : ByteArray)) ++ (strOfNums y457)) ++ t461) ++ (strOfNums y457)) ++ x8_1) ++ (⟨#[13]⟩ : ByteArray)) ++ (strOfNums y457)) ++ t462) t446 t447 t448 t449) else (if (((((((((((⟨#[80]⟩ : ByteArray) ++ t460) ++ x8_1) ++ (⟨#[10]⟩ : ByteArray)) ++ (strOfNums y457)) ++ t461) ++ (strOfNums y457)) ++ x8_1) ++ (⟨#[13]⟩ : ByteArray)) ++ (strOfNums y457)) ++ t462).size + x8_1.size ≤ 9223372036854775807 then (if ((((((((((((⟨#[80]⟩ : ByteArray) ++ t460) ++ x8_1) ++ (⟨#[10]⟩ : ByteArray)) ++ (strOfNums y457)) ++ t461) ++ (strOfNums y457)) ++ x8_1) ++ (⟨#[13]⟩ : ByteArray)) ++ (strOfNums y457)) ++ t462) ++ x8_1).size + 1 ≤ 9223372036854775807 then (if (((((((((((((⟨#[80]⟩ : ByteArray) ++ t460) ++ x8_1) ++ (⟨#[10]⟩ : ByteArray)) ++ (strOfNums y457)) ++ t461) ++ (strOfNums y457)) ++ x8_1) ++ (⟨#[13]⟩ : ByteArray)) ++ (strOfNums y457)) ++ t462) ++ x8_1) ++ (⟨#[10]⟩ : ByteArray)).size + (strOfNums y457).size ≤ 9223372036854775807 then ((chequerref01_Decimal.f k1 t449).bind fun t463 => (if ((((((((((((((⟨#[80]⟩ : ByteArray) ++ t460) ++ x8_1) ++ (⟨#[10]⟩ : ByteArray)) ++ (strOfNums y457)) ++ t461) ++ (strOfNums y457)) ++ x8_1) ++ (⟨#[13]⟩ : ByteArray)) ++ (strOfNums y457)) ++ t462) ++ x8_1) ++ (⟨#[10]⟩ : ByteArray)) ++ (strOfNums y457)).size + t463.size ≤ 9223372036854775807 then (chequerlaw06_HeadRemarks.j1 k1 (strOfNums y457) (((((((((((((((⟨#[80]⟩ : ByteArray) ++ t460) ++ x8_1) ++ (⟨#[10]⟩ : ByteArray)) ++ (strOfNums y457)) ++ t461) ++ (strOfNums y457)) ++ x8_1) ++ (⟨#[13]⟩ : ByteArray)) ++ (strOfNums y457)) ++ t462) ++ x8_1) ++ (⟨#[10]⟩ : ByteArray)) ++ (strOfNums y457)) ++ t463) t446 t447 t448 t449) else (none))) else (none)) else (none)) else (none))) else (none))) else (none)) else (none)) else (none)) else (none)) else (none))) else (none)) else (none)) else (none)) else (none))) = some r := by first | (rw [hy457]; with_reducible exact H) | (have H2_ := (Option.bind_some _ _).symm.trans H; rw [hy457]; with_reducible exact H2_) | (have H2_ := (Option.bind_some _ _).symm.trans H; with_reducible exact H2_) | with_reducible exact H | (rw [hy457]; exact H) | exact H
         have Ny457 := Aside0.mk hy457
         clear hy457
         replace H := Option.bind_eq_some_iff.mp H
         obtain ⟨t460, A240, H⟩ := H
         replace H : (if 1 + t460.size ≤ 9223372036854775807 then (if ((⟨#[80]⟩ : ByteArray) ++ t460).size + x8_1.size ≤ 9223372036854775807 then (if (((⟨#[80]⟩ : ByteArray) ++ t460) ++ x8_1).size + 1 ≤ 9223372036854775807 then (if ((((⟨#[80]⟩ : ByteArray) ++ t460) ++ x8_1) ++ (⟨#[10]⟩ : ByteArray)).size + (strOfNums y457).size ≤ 9223372036854775807 then ((chequerref01_Decimal.f k1 t447).bind fun t461 => (if (((((⟨#[80]⟩ : ByteArray) ++ t460) ++ x8_1) ++ (⟨#[10]⟩ : ByteArray)) ++ (strOfNums y457)).size + t461.size ≤ 9223372036854775807 then (if ((((((⟨#[80]⟩ : ByteArray) ++ t460) ++ x8_1) ++ (⟨#[10]⟩ : ByteArray)) ++ (strOfNums y457)) ++ t461).size + (strOfNums y457).size ≤ 9223372036854775807 then (if (((((((⟨#[80]⟩ : ByteArray) ++ t460) ++ x8_1) ++ (⟨#[10]⟩ : ByteArray)) ++ (strOfNums y457)) ++ t461) ++ (strOfNums y457)).size + x8_1.size ≤ 9223372036854775807 then (if ((((((((⟨#[80]⟩ : ByteArray) ++ t460) ++ x8_1) ++ (⟨#[10]⟩ : ByteArray)) ++ (strOfNums y457)) ++ t461) ++ (strOfNums y457)) ++ x8_1).size + 1 ≤ 9223372036854775807 then (if (((((((((⟨#[80]⟩ : ByteArray) ++ t460) ++ x8_1) ++ (⟨#[10]⟩ : ByteArray)) ++ (strOfNums y457)) ++ t461) ++ (strOfNums y457)) ++ x8_1) ++ (⟨#[13]⟩ : ByteArray)).size + (strOfNums y457).size ≤ 9223372036854775807 then ((chequerref01_Decimal.f k1 t448).bind fun t462 => (if ((((((((((⟨#[80]⟩ : ByteArray) ++ t460) ++ x8_1) ++ (⟨#[10]⟩ : ByteArray)) ++ (strOfNums y457)) ++ t461) ++ (strOfNums y457)) ++ x8_1) ++ (⟨#[13]⟩ : ByteArray)) ++ (strOfNums y457)).size + t462.size ≤ 9223372036854775807 then (if (Int.tmod t446 3) = 1 then (chequerlaw06_HeadRemarks.j1 k1 (strOfNums y457) (((((((((((⟨#[80]⟩ : ByteArray) ++ t460) ++ x8_1) ++ (⟨#[10]⟩ : ByteArray)) ++ (strOfNums y457)) ++ t461) ++ (strOfNums y457)) ++ x8_1) ++ (⟨#[13]⟩ : ByteArray)) ++ (strOfNums y457)) ++ t462) t446 t447 t448 t449) else (if (((((((((((⟨#[80]⟩ : ByteArray) ++ t460) ++ x8_1) ++ (⟨#[10]⟩ : ByteArray)) ++ (strOfNums y457)) ++ t461) ++ (strOfNums y457)) ++ x8_1) ++ (⟨#[13]⟩ : ByteArray)) ++ (strOfNums y457)) ++ t462).size + x8_1.size ≤ 9223372036854775807 then (if ((((((((((((⟨#[80]⟩ : ByteArray) ++ t460) ++ x8_1) ++ (⟨#[10]⟩ : ByteArray)) ++ (strOfNums y457)) ++ t461) ++ (strOfNums y457)) ++ x8_1) ++ (⟨#[13]⟩ : ByteArray)) ++ (strOfNums y457)) ++ t462) ++ x8_1).size + 1 ≤ 9223372036854775807 then (if (((((((((((((⟨#[80]⟩ : ByteArray) ++ t460) ++ x8_1) ++ (⟨#[10]⟩ : ByteArray)) ++ (strOfNums y457)) ++ t461) ++ (strOfNums y457)) ++ x8_1) ++ (⟨#[13]⟩ : ByteArray)) ++ (strOfNums y457)) ++ t462) ++ x8_1) ++ (⟨#[10]⟩ : ByteArray)).size + (strOfNums y457).size ≤ 9223372036854775807 then ((chequerref01_Decimal.f k1 t449).bind fun t463 => (if ((((((((((((((⟨#[80]⟩ : ByteArray) ++ t460) ++ x8_1) ++ (⟨#[10]⟩ : ByteArray)) ++ (strOfNums y457)) ++ t461) ++ (strOfNums y457)) ++ x8_1) ++ (⟨#[13]⟩ : ByteArray)) ++ (strOfNums y457)) ++ t462) ++ x8_1) ++ (⟨#[10]⟩ : ByteArray)) ++ (strOfNums y457)).size + t463.size ≤ 9223372036854775807 then (chequerlaw06_HeadRemarks.j1 k1 (strOfNums y457) (((((((((((((((⟨#[80]⟩ : ByteArray) ++ t460) ++ x8_1) ++ (⟨#[10]⟩ : ByteArray)) ++ (strOfNums y457)) ++ t461) ++ (strOfNums y457)) ++ x8_1) ++ (⟨#[13]⟩ : ByteArray)) ++ (strOfNums y457)) ++ t462) ++ x8_1) ++ (⟨#[10]⟩ : ByteArray)) ++ (strOfNums y457)) ++ t463) t446 t447 t448 t449) else (none))) else (none)) else (none)) else (none))) else (none))) else (none)) else (none)) else (none)) else (none)) else (none))) else (none)) else (none)) else (none)) else (none)) = some r := H
         have A24 := Aside0.mk A240
         clear A240
         by_cases c25 : 1 + t460.size ≤ 9223372036854775807
         · rw [if_pos c25] at H
           have c25b0 := eq_true c25
           have c25b1 : decide (1 + t460.size ≤ 9223372036854775807) = true := decide_eq_true c25
           try have c25b2 : (9223372036854775807 < 1 + t460.size) = False := eq_false (Nat.not_lt.2 c25)
           by_cases c26 : ((⟨#[80]⟩ : ByteArray) ++ t460).size + x8_1.size ≤ 9223372036854775807
           · rw [if_pos c26] at H
             have c26b0 := eq_true c26
             have c26b1 : decide (((⟨#[80]⟩ : ByteArray) ++ t460).size + x8_1.size ≤ 9223372036854775807) = true := decide_eq_true c26
             try have c26b2 : (9223372036854775807 < ((⟨#[80]⟩ : ByteArray) ++ t460).size + x8_1.size) = False := eq_false (Nat.not_lt.2 c26)
             (try (have c26y := c26b2; simp only [ByteArray.size_append, show (⟨#[80]⟩ : ByteArray).size = 1 from rfl] at c26y))
             by_cases c27 : (((⟨#[80]⟩ : ByteArray) ++ t460) ++ x8_1).size + 1 ≤ 9223372036854775807
             · rw [if_pos c27] at H
               have c27b0 := eq_true c27
               have c27b1 : decide ((((⟨#[80]⟩ : ByteArray) ++ t460) ++ x8_1).size + 1 ≤ 9223372036854775807) = true := decide_eq_true c27
               try have c27b2 : (9223372036854775807 < (((⟨#[80]⟩ : ByteArray) ++ t460) ++ x8_1).size + 1) = False := eq_false (Nat.not_lt.2 c27)
               (try (have c27y := c27b2; simp only [ByteArray.size_append, show (⟨#[80]⟩ : ByteArray).size = 1 from rfl] at c27y))
               by_cases c28 : ((((⟨#[80]⟩ : ByteArray) ++ t460) ++ x8_1) ++ (⟨#[10]⟩ : ByteArray)).size + (strOfNums y457).size ≤ 9223372036854775807
               · rw [if_pos c28] at H
                 have c28b0 := eq_true c28
                 have c28b1 : decide (((((⟨#[80]⟩ : ByteArray) ++ t460) ++ x8_1) ++ (⟨#[10]⟩ : ByteArray)).size + (strOfNums y457).size ≤ 9223372036854775807) = true := decide_eq_true c28
                 try have c28b2 : (9223372036854775807 < ((((⟨#[80]⟩ : ByteArray) ++ t460) ++ x8_1) ++ (⟨#[10]⟩ : ByteArray)).size + (strOfNums y457).size) = False := eq_false (Nat.not_lt.2 c28)
                 (try (have c28y := c28b2; simp only [ByteArray.size_append, show (⟨#[10]⟩ : ByteArray).size = 1 from rfl, show (⟨#[80]⟩ : ByteArray).size = 1 from rfl] at c28y))
                 replace H := Option.bind_eq_some_iff.mp H
                 obtain ⟨t461, A290, H⟩ := H
                 replace H : (if (((((⟨#[80]⟩ : ByteArray) ++ t460) ++ x8_1) ++ (⟨#[10]⟩ : ByteArray)) ++ (strOfNums y457)).size + t461.size ≤ 9223372036854775807 then (if ((((((⟨#[80]⟩ : ByteArray) ++ t460) ++ x8_1) ++ (⟨#[10]⟩ : ByteArray)) ++ (strOfNums y457)) ++ t461).size + (strOfNums y457).size ≤ 9223372036854775807 then (if (((((((⟨#[80]⟩ : ByteArray) ++ t460) ++ x8_1) ++ (⟨#[10]⟩ : ByteArray)) ++ (strOfNums y457)) ++ t461) ++ (strOfNums y457)).size + x8_1.size ≤ 9223372036854775807 then (if ((((((((⟨#[80]⟩ : ByteArray) ++ t460) ++ x8_1) ++ (⟨#[10]⟩ : ByteArray)) ++ (strOfNums y457)) ++ t461) ++ (strOfNums y457)) ++ x8_1).size + 1 ≤ 9223372036854775807 then (if (((((((((⟨#[80]⟩ : ByteArray) ++ t460) ++ x8_1) ++ (⟨#[10]⟩ : ByteArray)) ++ (strOfNums y457)) ++ t461) ++ (strOfNums y457)) ++ x8_1) ++ (⟨#[13]⟩ : ByteArray)).size + (strOfNums y457).size ≤ 9223372036854775807 then ((chequerref01_Decimal.f k1 t448).bind fun t462 => (if ((((((((((⟨#[80]⟩ : ByteArray) ++ t460) ++ x8_1) ++ (⟨#[10]⟩ : ByteArray)) ++ (strOfNums y457)) ++ t461) ++ (strOfNums y457)) ++ x8_1) ++ (⟨#[13]⟩ : ByteArray)) ++ (strOfNums y457)).size + t462.size ≤ 9223372036854775807 then (if (Int.tmod t446 3) = 1 then (chequerlaw06_HeadRemarks.j1 k1 (strOfNums y457) (((((((((((⟨#[80]⟩ : ByteArray) ++ t460) ++ x8_1) ++ (⟨#[10]⟩ : ByteArray)) ++ (strOfNums y457)) ++ t461) ++ (strOfNums y457)) ++ x8_1) ++ (⟨#[13]⟩ : ByteArray)) ++ (strOfNums y457)) ++ t462) t446 t447 t448 t449) else (if (((((((((((⟨#[80]⟩ : ByteArray) ++ t460) ++ x8_1) ++ (⟨#[10]⟩ : ByteArray)) ++ (strOfNums y457)) ++ t461) ++ (strOfNums y457)) ++ x8_1) ++ (⟨#[13]⟩ : ByteArray)) ++ (strOfNums y457)) ++ t462).size + x8_1.size ≤ 9223372036854775807 then (if ((((((((((((⟨#[80]⟩ : ByteArray) ++ t460) ++ x8_1) ++ (⟨#[10]⟩ : ByteArray)) ++ (strOfNums y457)) ++ t461) ++ (strOfNums y457)) ++ x8_1) ++ (⟨#[13]⟩ : ByteArray)) ++ (strOfNums y457)) ++ t462) ++ x8_1).size + 1 ≤ 9223372036854775807 then (if (((((((((((((⟨#[80]⟩ : ByteArray) ++ t460) ++ x8_1) ++ (⟨#[10]⟩ : ByteArray)) ++ (strOfNums y457)) ++ t461) ++ (strOfNums y457)) ++ x8_1) ++ (⟨#[13]⟩ : ByteArray)) ++ (strOfNums y457)) ++ t462) ++ x8_1) ++ (⟨#[10]⟩ : ByteArray)).size + (strOfNums y457).size ≤ 9223372036854775807 then ((chequerref01_Decimal.f k1 t449).bind fun t463 => (if ((((((((((((((⟨#[80]⟩ : ByteArray) ++ t460) ++ x8_1) ++ (⟨#[10]⟩ : ByteArray)) ++ (strOfNums y457)) ++ t461) ++ (strOfNums y457)) ++ x8_1) ++ (⟨#[13]⟩ : ByteArray)) ++ (strOfNums y457)) ++ t462) ++ x8_1) ++ (⟨#[10]⟩ : ByteArray)) ++ (strOfNums y457)).size + t463.size ≤ 9223372036854775807 then (chequerlaw06_HeadRemarks.j1 k1 (strOfNums y457) (((((((((((((((⟨#[80]⟩ : ByteArray) ++ t460) ++ x8_1) ++ (⟨#[10]⟩ : ByteArray)) ++ (strOfNums y457)) ++ t461) ++ (strOfNums y457)) ++ x8_1) ++ (⟨#[13]⟩ : ByteArray)) ++ (strOfNums y457)) ++ t462) ++ x8_1) ++ (⟨#[10]⟩ : ByteArray)) ++ (strOfNums y457)) ++ t463) t446 t447 t448 t449) else (none))) else (none)) else (none)) else (none))) else (none))) else (none)) else (none)) else (none)) else (none)) else (none)) = some r := H
                 have A29 := Aside0.mk A290
                 clear A290
                 by_cases c30 : (((((⟨#[80]⟩ : ByteArray) ++ t460) ++ x8_1) ++ (⟨#[10]⟩ : ByteArray)) ++ (strOfNums y457)).size + t461.size ≤ 9223372036854775807
                 · rw [if_pos c30] at H
                   have c30b0 := eq_true c30
                   have c30b1 : decide ((((((⟨#[80]⟩ : ByteArray) ++ t460) ++ x8_1) ++ (⟨#[10]⟩ : ByteArray)) ++ (strOfNums y457)).size + t461.size ≤ 9223372036854775807) = true := decide_eq_true c30
                   try have c30b2 : (9223372036854775807 < (((((⟨#[80]⟩ : ByteArray) ++ t460) ++ x8_1) ++ (⟨#[10]⟩ : ByteArray)) ++ (strOfNums y457)).size + t461.size) = False := eq_false (Nat.not_lt.2 c30)
                   (try (have c30y := c30b2; simp only [ByteArray.size_append, show (⟨#[10]⟩ : ByteArray).size = 1 from rfl, show (⟨#[80]⟩ : ByteArray).size = 1 from rfl] at c30y))
                   by_cases c31 : ((((((⟨#[80]⟩ : ByteArray) ++ t460) ++ x8_1) ++ (⟨#[10]⟩ : ByteArray)) ++ (strOfNums y457)) ++ t461).size + (strOfNums y457).size ≤ 9223372036854775807
                   · rw [if_pos c31] at H
                     have c31b0 := eq_true c31
                     have c31b1 : decide (((((((⟨#[80]⟩ : ByteArray) ++ t460) ++ x8_1) ++ (⟨#[10]⟩ : ByteArray)) ++ (strOfNums y457)) ++ t461).size + (strOfNums y457).size ≤ 9223372036854775807) = true := decide_eq_true c31
                     try have c31b2 : (9223372036854775807 < ((((((⟨#[80]⟩ : ByteArray) ++ t460) ++ x8_1) ++ (⟨#[10]⟩ : ByteArray)) ++ (strOfNums y457)) ++ t461).size + (strOfNums y457).size) = False := eq_false (Nat.not_lt.2 c31)
                     (try (have c31y := c31b2; simp only [ByteArray.size_append, show (⟨#[10]⟩ : ByteArray).size = 1 from rfl, show (⟨#[80]⟩ : ByteArray).size = 1 from rfl] at c31y))
                     by_cases c32 : (((((((⟨#[80]⟩ : ByteArray) ++ t460) ++ x8_1) ++ (⟨#[10]⟩ : ByteArray)) ++ (strOfNums y457)) ++ t461) ++ (strOfNums y457)).size + x8_1.size ≤ 9223372036854775807
                     · rw [if_pos c32] at H
                       have c32b0 := eq_true c32
                       have c32b1 : decide ((((((((⟨#[80]⟩ : ByteArray) ++ t460) ++ x8_1) ++ (⟨#[10]⟩ : ByteArray)) ++ (strOfNums y457)) ++ t461) ++ (strOfNums y457)).size + x8_1.size ≤ 9223372036854775807) = true := decide_eq_true c32
                       try have c32b2 : (9223372036854775807 < (((((((⟨#[80]⟩ : ByteArray) ++ t460) ++ x8_1) ++ (⟨#[10]⟩ : ByteArray)) ++ (strOfNums y457)) ++ t461) ++ (strOfNums y457)).size + x8_1.size) = False := eq_false (Nat.not_lt.2 c32)
                       (try (have c32y := c32b2; simp only [ByteArray.size_append, show (⟨#[10]⟩ : ByteArray).size = 1 from rfl, show (⟨#[80]⟩ : ByteArray).size = 1 from rfl] at c32y))
                       by_cases c33 : ((((((((⟨#[80]⟩ : ByteArray) ++ t460) ++ x8_1) ++ (⟨#[10]⟩ : ByteArray)) ++ (strOfNums y457)) ++ t461) ++ (strOfNums y457)) ++ x8_1).size + 1 ≤ 9223372036854775807
                       · rw [if_pos c33] at H
                         have c33b0 := eq_true c33
                         have c33b1 : decide (((((((((⟨#[80]⟩ : ByteArray) ++ t460) ++ x8_1) ++ (⟨#[10]⟩ : ByteArray)) ++ (strOfNums y457)) ++ t461) ++ (strOfNums y457)) ++ x8_1).size + 1 ≤ 9223372036854775807) = true := decide_eq_true c33
                         try have c33b2 : (9223372036854775807 < ((((((((⟨#[80]⟩ : ByteArray) ++ t460) ++ x8_1) ++ (⟨#[10]⟩ : ByteArray)) ++ (strOfNums y457)) ++ t461) ++ (strOfNums y457)) ++ x8_1).size + 1) = False := eq_false (Nat.not_lt.2 c33)
                         (try (have c33y := c33b2; simp only [ByteArray.size_append, show (⟨#[10]⟩ : ByteArray).size = 1 from rfl, show (⟨#[80]⟩ : ByteArray).size = 1 from rfl] at c33y))
                         by_cases c34 : (((((((((⟨#[80]⟩ : ByteArray) ++ t460) ++ x8_1) ++ (⟨#[10]⟩ : ByteArray)) ++ (strOfNums y457)) ++ t461) ++ (strOfNums y457)) ++ x8_1) ++ (⟨#[13]⟩ : ByteArray)).size + (strOfNums y457).size ≤ 9223372036854775807
                         · rw [if_pos c34] at H
                           have c34b0 := eq_true c34
                           have c34b1 : decide ((((((((((⟨#[80]⟩ : ByteArray) ++ t460) ++ x8_1) ++ (⟨#[10]⟩ : ByteArray)) ++ (strOfNums y457)) ++ t461) ++ (strOfNums y457)) ++ x8_1) ++ (⟨#[13]⟩ : ByteArray)).size + (strOfNums y457).size ≤ 9223372036854775807) = true := decide_eq_true c34
                           try have c34b2 : (9223372036854775807 < (((((((((⟨#[80]⟩ : ByteArray) ++ t460) ++ x8_1) ++ (⟨#[10]⟩ : ByteArray)) ++ (strOfNums y457)) ++ t461) ++ (strOfNums y457)) ++ x8_1) ++ (⟨#[13]⟩ : ByteArray)).size + (strOfNums y457).size) = False := eq_false (Nat.not_lt.2 c34)
                           (try (have c34y := c34b2; simp only [ByteArray.size_append, show (⟨#[10]⟩ : ByteArray).size = 1 from rfl, show (⟨#[13]⟩ : ByteArray).size = 1 from rfl, show (⟨#[80]⟩ : ByteArray).size = 1 from rfl] at c34y))
                           replace H := Option.bind_eq_some_iff.mp H
                           obtain ⟨t462, A350, H⟩ := H
                           replace H : (if ((((((((((⟨#[80]⟩ : ByteArray) ++ t460) ++ x8_1) ++ (⟨#[10]⟩ : ByteArray)) ++ (strOfNums y457)) ++ t461) ++ (strOfNums y457)) ++ x8_1) ++ (⟨#[13]⟩ : ByteArray)) ++ (strOfNums y457)).size + t462.size ≤ 9223372036854775807 then (if (Int.tmod t446 3) = 1 then (chequerlaw06_HeadRemarks.j1 k1 (strOfNums y457) (((((((((((⟨#[80]⟩ : ByteArray) ++ t460) ++ x8_1) ++ (⟨#[10]⟩ : ByteArray)) ++ (strOfNums y457)) ++ t461) ++ (strOfNums y457)) ++ x8_1) ++ (⟨#[13]⟩ : ByteArray)) ++ (strOfNums y457)) ++ t462) t446 t447 t448 t449) else (if (((((((((((⟨#[80]⟩ : ByteArray) ++ t460) ++ x8_1) ++ (⟨#[10]⟩ : ByteArray)) ++ (strOfNums y457)) ++ t461) ++ (strOfNums y457)) ++ x8_1) ++ (⟨#[13]⟩ : ByteArray)) ++ (strOfNums y457)) ++ t462).size + x8_1.size ≤ 9223372036854775807 then (if ((((((((((((⟨#[80]⟩ : ByteArray) ++ t460) ++ x8_1) ++ (⟨#[10]⟩ : ByteArray)) ++ (strOfNums y457)) ++ t461) ++ (strOfNums y457)) ++ x8_1) ++ (⟨#[13]⟩ : ByteArray)) ++ (strOfNums y457)) ++ t462) ++ x8_1).size + 1 ≤ 9223372036854775807 then (if (((((((((((((⟨#[80]⟩ : ByteArray) ++ t460) ++ x8_1) ++ (⟨#[10]⟩ : ByteArray)) ++ (strOfNums y457)) ++ t461) ++ (strOfNums y457)) ++ x8_1) ++ (⟨#[13]⟩ : ByteArray)) ++ (strOfNums y457)) ++ t462) ++ x8_1) ++ (⟨#[10]⟩ : ByteArray)).size + (strOfNums y457).size ≤ 9223372036854775807 then ((chequerref01_Decimal.f k1 t449).bind fun t463 => (if ((((((((((((((⟨#[80]⟩ : ByteArray) ++ t460) ++ x8_1) ++ (⟨#[10]⟩ : ByteArray)) ++ (strOfNums y457)) ++ t461) ++ (strOfNums y457)) ++ x8_1) ++ (⟨#[13]⟩ : ByteArray)) ++ (strOfNums y457)) ++ t462) ++ x8_1) ++ (⟨#[10]⟩ : ByteArray)) ++ (strOfNums y457)).size + t463.size ≤ 9223372036854775807 then (chequerlaw06_HeadRemarks.j1 k1 (strOfNums y457) (((((((((((((((⟨#[80]⟩ : ByteArray) ++ t460) ++ x8_1) ++ (⟨#[10]⟩ : ByteArray)) ++ (strOfNums y457)) ++ t461) ++ (strOfNums y457)) ++ x8_1) ++ (⟨#[13]⟩ : ByteArray)) ++ (strOfNums y457)) ++ t462) ++ x8_1) ++ (⟨#[10]⟩ : ByteArray)) ++ (strOfNums y457)) ++ t463) t446 t447 t448 t449) else (none))) else (none)) else (none)) else (none))) else (none)) = some r := H
                           have A35 := Aside0.mk A350
                           clear A350
                           by_cases c36 : ((((((((((⟨#[80]⟩ : ByteArray) ++ t460) ++ x8_1) ++ (⟨#[10]⟩ : ByteArray)) ++ (strOfNums y457)) ++ t461) ++ (strOfNums y457)) ++ x8_1) ++ (⟨#[13]⟩ : ByteArray)) ++ (strOfNums y457)).size + t462.size ≤ 9223372036854775807
                           · rw [if_pos c36] at H
                             have c36b0 := eq_true c36
                             have c36b1 : decide (((((((((((⟨#[80]⟩ : ByteArray) ++ t460) ++ x8_1) ++ (⟨#[10]⟩ : ByteArray)) ++ (strOfNums y457)) ++ t461) ++ (strOfNums y457)) ++ x8_1) ++ (⟨#[13]⟩ : ByteArray)) ++ (strOfNums y457)).size + t462.size ≤ 9223372036854775807) = true := decide_eq_true c36
                             try have c36b2 : (9223372036854775807 < ((((((((((⟨#[80]⟩ : ByteArray) ++ t460) ++ x8_1) ++ (⟨#[10]⟩ : ByteArray)) ++ (strOfNums y457)) ++ t461) ++ (strOfNums y457)) ++ x8_1) ++ (⟨#[13]⟩ : ByteArray)) ++ (strOfNums y457)).size + t462.size) = False := eq_false (Nat.not_lt.2 c36)
                             (try (have c36y := c36b2; simp only [ByteArray.size_append, show (⟨#[10]⟩ : ByteArray).size = 1 from rfl, show (⟨#[13]⟩ : ByteArray).size = 1 from rfl, show (⟨#[80]⟩ : ByteArray).size = 1 from rfl] at c36y))
                             have HC37 := Aside0.mk H
                             clear H
                             try go_wp2_with (first | ((with_reducible refine gate_dst (N := 42) rfl ?_); (try (refine gate_guard (by rfl) ?_; dsimp only)); refine Kd.R_lit (Kd.int .u8) _ 5 ?hg (N := 42) ?hd (xs := ([9, 10, 11, 12, 13, 32] : List Int)) (inner := [.int .u8 9, .int .u8 10, .int .u8 11, .int .u8 12, .int .u8 13, .int .u8 32]) (ok := fun _ => True) (okp := fun _ => True) ?hr ?hp (fun _ hk => hk) trivial (Below.refl _ _) (Nat.le_refl _) (by simp) ?_; (case hd => rfl); (case hg => rfl); (case hr => first | (go_simp; done) | (go_simp; rfl)); (case hp => exact (Reps.one (show Kd.M (Kd.int .u8) _ _ _ 9 [.int .u8 9] from rfl) (Reps.one (show Kd.M (Kd.int .u8) _ _ _ 10 [.int .u8 10] from rfl) (Reps.one (show Kd.M (Kd.int .u8) _ _ _ 11 [.int .u8 11] from rfl) (Reps.one (show Kd.M (Kd.int .u8) _ _ _ 12 [.int .u8 12] from rfl) (Reps.one (show Kd.M (Kd.int .u8) _ _ _ 13 [.int .u8 13] from rfl) (Reps.one (show Kd.M (Kd.int .u8) _ _ _ 32 [.int .u8 32] from rfl) (Reps.none _ _)))))))); intro v453 w38 ho39 hb hg_ hnew_; clear hg_ hnew_; (first | rw [← Ny452.out] at ho39 | (simp only [Int.reduceToNat] at ho39; rw [← Ny452.out] at ho39)); have HO454 := Aside0.mk (Kd.R_lower ho39 (below_size bp_)); replace BK450 := Aside0.mk (blk_below (hp_ BK450.out) hb); replace HB := Aside0.mk (below_step bp_ hb); clear hb ho39) | ((with_reducible refine gate_callee (f := 13) rfl ?_); refine goQ_ (some 44) Try.func13 #[.int .i64 a1, .int .i64 6] ?_; (with_reducible refine (chequerref01_Around.calls a1 6 t455 _ A21.out).mono ?_); rintro e w' ⟨rfl, ⟨nd, rfl⟩⟩; refine ⟨_, rfl, ?_⟩; obtain ⟨Ao40, co40, eo40⟩ := Kd.R_slice HO454.out; subst eo40; have p456 : 0 ≤ (t455 : Int) := of_decide_eq_true (by first | (with_reducible assumption) | assumption); have q456 : t455 < (y452.length : Int) := of_decide_eq_true (by first | (with_reducible assumption) | assumption); obtain ⟨ad456, e456, hx456_0⟩ := Kd.at_int (Kd.R_reads' HO454.out).2.2 t455 p456 q456; cases e456; replace p456 := eq_true p456; replace q456 := eq_true q456) | ((with_reducible refine gate_dst (N := 47) rfl ?_); (try (refine gate_guard (by rfl) ?_; dsimp only)); refine Kd.R_lit (Kd.int .u8) _ 5 ?hg (N := 47) ?hd (xs := ([rd y452 t455] : List Int)) (inner := [.int .u8 (rd y452 t455)]) (ok := fun _ => True) (okp := fun _ => True) ?hr ?hp (fun _ hk => hk) trivial (Below.refl _ _) (Nat.le_refl _) (by simp) ?_; (case hd => rfl); (case hg => rfl); (case hr => first | (go_simp; done) | (go_simp; rfl)); (case hp => exact (Reps.one (show Kd.M (Kd.int .u8) _ _ _ (rd y452 t455) [.int .u8 (rd y452 t455)] from rfl) (Reps.none _ _))); intro v458 w41 ho42 hb hg_ hnew_; clear hg_ hnew_; (first | rw [← Ny457.out] at ho42 | (simp only [Int.reduceToNat] at ho42; rw [← Ny457.out] at ho42)); have HO459 := Aside0.mk (Kd.R_lower (Kd.R_new' ho42 (Kd.R_lt (rp_ HO454.out))) (below_size bp_)); replace HO454 := Aside0.mk (Kd.R_elder' (rp_ HO454.out) (Kd.R_base ho42) hb); replace BK450 := Aside0.mk (blk_below (hp_ BK450.out) hb); replace HB := Aside0.mk (below_step bp_ hb); clear hb ho42; have hcv43 := own_string (P := Try.prog) Try.underlying33 Try.underlying5 Try.underlying9 (Kd.own_of_R HO459.out)))
                             replace HO454 := Aside0.mk (Kd.R_drew HO454.out)
                             replace HO459 := Aside0.mk (Kd.R_drew HO459.out)
                             replace BK450 := Aside0.mk (blk_drew BK450.out)
                             replace HB := Aside0.mk (below_drew1 HB.out)
                             refine start_ (n := 25) (S := fun w' => w'.cell? ⟨gb450, 0, none⟩ = some (.int .i64 t446) ∧ w'.cell? ⟨gb450, 1, none⟩ = some (.int .i64 t447) ∧ w'.cell? ⟨gb450, 2, none⟩ = some (.int .i64 t448) ∧ w'.cell? ⟨gb450, 3, none⟩ = some (.int .i64 t449)) (ds := []) #[false, false, false, false, false, false, false, false, false, false, false, false, false, false, false, false, false, false, false, false, false, false, false, false, false] (by kernel_rfl) rfl rfl ⟨(blk_cell BK450.out 0).trans rfl, (blk_cell BK450.out 1).trans rfl, (blk_cell BK450.out 2).trans rfl, (blk_cell BK450.out 3).trans rfl⟩ (fun hHeld => ?_); refine with_tabW chequerlaw06_HeadRemarks.tab10 chequerlaw06_HeadRemarks.bits10 (fun HT_ HW_ => ?_)
                             generalize w41.drew = w44 at HO454 HO459 BK450 HB hHeld ⊢
                             refine pur_ (i := 0) (N := some 49) #[true, false, false, false, false, false, false, false, false, false, false, false, false, false, false, false, false, false, false, false, false, false, false, false, false] (any_of HT_.out (by kernel_rfl)) ?_
                             refine pur_ (i := 4) (N := some 53) #[true, false, false, false, true, false, false, false, false, false, false, false, false, false, false, false, false, false, false, false, false, false, false, false, false] (any_of HT_.out (by kernel_rfl)) ?_
                             refine pur_ (i := 7) (N := some 56) #[true, false, false, false, true, false, false, true, false, false, false, false, false, false, false, false, false, false, false, false, false, false, false, false, false] (any_of HT_.out (by kernel_rfl)) ?_
                             refine pur_ (i := 9) (N := some 58) #[true, false, false, false, true, false, false, true, false, true, false, false, false, false, false, false, false, false, false, false, false, false, false, false, false] (any_of HT_.out (by kernel_rfl)) ?_
                             refine pur_ (i := 13) (N := some 62) #[true, false, false, false, true, false, false, true, false, true, false, false, false, true, false, false, false, false, false, false, false, false, false, false, false] (any_of HT_.out (by kernel_rfl)) ?_
                             refine pur_ (i := 15) (N := some 64) #[true, false, false, false, true, false, false, true, false, true, false, false, false, true, false, true, false, false, false, false, false, false, false, false, false] (any_of HT_.out (by kernel_rfl)) ?_
                             refine pur_ (i := 18) (N := some 67) #[true, false, false, false, true, false, false, true, false, true, false, false, false, true, false, true, false, false, true, false, false, false, false, false, false] (any_of HT_.out (by kernel_rfl)) ?_
                             refine pur_ (i := 20) (N := some 69) #[true, false, false, false, true, false, false, true, false, true, false, false, false, true, false, true, false, false, true, false, true, false, false, false, false] (any_of HT_.out (by kernel_rfl)) ?_
                             refine take_ (i := 1) (N := some 50) (v := ?_) (a' := ?_) #[true, true, false, false, true, false, false, true, false, true, false, false, false, true, false, true, false, false, true, false, true, false, false, false, false] rfl rfl (take_ofW HT_.out HW_.out (by kernel_rfl)) (fun _ _ _ h => h) (Or.inl ⟨by rfl, ?_⟩) hHeld ?_ ?_
                             rotate_left
                             · rintro w' ⟨s0, s1, s2, s3⟩
                               go_simp
                               with_reducible rfl
                             rotate_left
                             · simp only [Act.put, List.setIfInBounds_toArray, List.set_cons_zero, List.set_cons_succ, i64_w, i32_w]
                               rfl
                             refine take_ (i := 10) (N := some 59) (v := ?_) (a' := ?_) #[true, true, false, false, true, false, false, true, false, true, true, false, false, true, false, true, false, false, true, false, true, false, false, false, false] rfl rfl (take_ofW HT_.out HW_.out (by kernel_rfl)) (fun _ _ _ h => h) (Or.inl ⟨by rfl, ?_⟩) hHeld ?_ ?_
                             rotate_left
                             · rintro w' ⟨s0, s1, s2, s3⟩
                               go_simp
                               with_reducible rfl
                             rotate_left
                             · simp only [Act.put, List.setIfInBounds_toArray, List.set_cons_zero, List.set_cons_succ, i64_w, i32_w]
                               rfl
                             refine take_ (i := 21) (N := some 70) (v := ?_) (a' := ?_) #[true, true, false, false, true, false, false, true, false, true, true, false, false, true, false, true, false, false, true, false, true, true, false, false, false] rfl rfl (take_ofW HT_.out HW_.out (by kernel_rfl)) (fun _ _ _ h => h) (Or.inl ⟨by rfl, ?_⟩) hHeld ?_ ?_
                             rotate_left
                             · rintro w' ⟨s0, s1, s2, s3⟩
                               go_simp
                               with_reducible rfl
                             rotate_left
                             · simp only [Act.put, List.setIfInBounds_toArray, List.set_cons_zero, List.set_cons_succ, i64_w, i32_w]
                               rfl
                             refine one_ (i := 2) (N := some 51) #[true, true, true, false, true, false, false, true, false, true, true, false, false, true, false, true, false, false, true, false, true, true, false, false, false] rfl rfl (one_of HT_.out (by kernel_rfl)) (by decide) (fun K hK => ?_)
                             refine goes_ Try.func18 (by kernel_rfl) rfl #[.int .i64 t446] (by rfl) rfl rfl (by (try simp only [List.map_toArray, List.map_cons, List.map_nil]); first | done | rfl | (simp only [List.length_drop, List.length_take]; rfl)) ?_
                             with_reducible refine (chequerref01_Decimal.calls k1 t446 t460 _ A24.out).mono ?_
                             rintro e w45 ⟨rfl, hb⟩
                             refine ⟨_, rfl, ?_⟩
                             replace HO454 := Aside0.mk (Kd.R_below (rp_ HO454.out) hb)
                             replace HO459 := Aside0.mk (Kd.R_below (rp_ HO459.out) hb)
                             replace BK450 := Aside0.mk (blk_below (hp_ BK450.out) hb)
                             replace HB := Aside0.mk (below_step bp_ hb)
                             (try clear hb)
                             (try clear hb2)
                             (try clear hk)
                             (try clear hi)
                             refine hK.out _ _ ⟨(blk_cell BK450.out 0).trans rfl, (blk_cell BK450.out 1).trans rfl, (blk_cell BK450.out 2).trans rfl, (blk_cell BK450.out 3).trans rfl⟩ (fun hHeld => ?_)
                             clear hK K
                             refine norm_ (a' := ?_) ?_ ?_
                             rotate_left
                             · show Act.put _ (some 51) _ = _
                               simp only [Act.put, List.setIfInBounds_toArray, List.set_cons_zero, List.set_cons_succ, i64_w, i32_w]
                               rfl
                             refine pur_ (i := 3) (N := some 52) #[true, true, true, true, true, false, false, true, false, true, true, false, false, true, false, true, false, false, true, false, true, true, false, false, false] (any_of HT_.out (by kernel_rfl)) ?_
                             refine pur_ (i := 5) (N := some 54) #[true, true, true, true, true, true, false, true, false, true, true, false, false, true, false, true, false, false, true, false, true, true, false, false, false] (any_of HT_.out (by kernel_rfl)) ?_
                             refine pur_ (i := 6) (N := some 55) #[true, true, true, true, true, true, true, true, false, true, true, false, false, true, false, true, false, false, true, false, true, true, false, false, false] (any_of HT_.out (by kernel_rfl)) ?_
                             refine pur_ (i := 8) (N := some 57) #[true, true, true, true, true, true, true, true, true, true, true, false, false, true, false, true, false, false, true, false, true, true, false, false, false] (any_of HT_.out (by kernel_rfl)) ?_
                             refine one_ (i := 11) (N := some 60) #[true, true, true, true, true, true, true, true, true, true, true, true, false, true, false, true, false, false, true, false, true, true, false, false, false] rfl rfl (one_of HT_.out (by kernel_rfl)) (by decide) (fun K hK => ?_)
                             refine goes_ Try.func18 (by kernel_rfl) rfl #[.int .i64 t447] (by rfl) rfl rfl (by (try simp only [List.map_toArray, List.map_cons, List.map_nil]); first | done | rfl | (simp only [List.length_drop, List.length_take]; rfl)) ?_
                             with_reducible refine (chequerref01_Decimal.calls k1 t447 t461 _ A29.out).mono ?_
                             rintro e w46 ⟨rfl, hb⟩
                             refine ⟨_, rfl, ?_⟩
                             replace HO454 := Aside0.mk (Kd.R_below (rp_ HO454.out) hb)
                             replace HO459 := Aside0.mk (Kd.R_below (rp_ HO459.out) hb)
                             replace BK450 := Aside0.mk (blk_below (hp_ BK450.out) hb)
                             replace HB := Aside0.mk (below_step bp_ hb)
                             (try clear hb)
                             (try clear hb2)
                             (try clear hk)
                             (try clear hi)
                             refine hK.out _ _ ⟨(blk_cell BK450.out 0).trans rfl, (blk_cell BK450.out 1).trans rfl, (blk_cell BK450.out 2).trans rfl, (blk_cell BK450.out 3).trans rfl⟩ (fun hHeld => ?_)
                             clear hK K
                             refine norm_ (a' := ?_) ?_ ?_
                             rotate_left
                             · show Act.put _ (some 60) _ = _
                               simp only [Act.put, List.setIfInBounds_toArray, List.set_cons_zero, List.set_cons_succ, i64_w, i32_w]
                               rfl
                             refine pur_ (i := 12) (N := some 61) #[true, true, true, true, true, true, true, true, true, true, true, true, true, true, false, true, false, false, true, false, true, true, false, false, false] (any_of HT_.out (by kernel_rfl)) ?_
                             refine pur_ (i := 14) (N := some 63) #[true, true, true, true, true, true, true, true, true, true, true, true, true, true, true, true, false, false, true, false, true, true, false, false, false] (any_of HT_.out (by kernel_rfl)) ?_
                             refine pur_ (i := 16) (N := some 65) #[true, true, true, true, true, true, true, true, true, true, true, true, true, true, true, true, true, false, true, false, true, true, false, false, false] (any_of HT_.out (by kernel_rfl)) ?_
                             refine pur_ (i := 17) (N := some 66) #[true, true, true, true, true, true, true, true, true, true, true, true, true, true, true, true, true, true, true, false, true, true, false, false, false] (any_of HT_.out (by kernel_rfl)) ?_
                             refine pur_ (i := 19) (N := some 68) #[true, true, true, true, true, true, true, true, true, true, true, true, true, true, true, true, true, true, true, true, true, true, false, false, false] (any_of HT_.out (by kernel_rfl)) ?_
                             refine one_ (i := 22) (N := some 71) #[true, true, true, true, true, true, true, true, true, true, true, true, true, true, true, true, true, true, true, true, true, true, true, false, false] rfl rfl (one_of HT_.out (by kernel_rfl)) (by decide) (fun K hK => ?_)
                             refine goes_ Try.func18 (by kernel_rfl) rfl #[.int .i64 t448] (by rfl) rfl rfl (by (try simp only [List.map_toArray, List.map_cons, List.map_nil]); first | done | rfl | (simp only [List.length_drop, List.length_take]; rfl)) ?_
                             with_reducible refine (chequerref01_Decimal.calls k1 t448 t462 _ A35.out).mono ?_
                             rintro e w47 ⟨rfl, hb⟩
                             refine ⟨_, rfl, ?_⟩
                             replace HO454 := Aside0.mk (Kd.R_below (rp_ HO454.out) hb)
                             replace HO459 := Aside0.mk (Kd.R_below (rp_ HO459.out) hb)
                             replace BK450 := Aside0.mk (blk_below (hp_ BK450.out) hb)
                             replace HB := Aside0.mk (below_step bp_ hb)
                             (try clear hb)
                             (try clear hb2)
                             (try clear hk)
                             (try clear hi)
                             refine hK.out _ _ ⟨(blk_cell BK450.out 0).trans rfl, (blk_cell BK450.out 1).trans rfl, (blk_cell BK450.out 2).trans rfl, (blk_cell BK450.out 3).trans rfl⟩ (fun hHeld => ?_)
                             clear hK K
                             refine norm_ (a' := ?_) ?_ ?_
                             rotate_left
                             · show Act.put _ (some 71) _ = _
                               simp only [Act.put, List.setIfInBounds_toArray, List.set_cons_zero, List.set_cons_succ, i64_w, i32_w]
                               rfl
                             refine pur_ (i := 23) (N := some 72) #[true, true, true, true, true, true, true, true, true, true, true, true, true, true, true, true, true, true, true, true, true, true, true, true, false] (any_of HT_.out (by kernel_rfl)) ?_
                             refine pur_ (i := 24) (N := some 11) #[true, true, true, true, true, true, true, true, true, true, true, true, true, true, true, true, true, true, true, true, true, true, true, true, true] (any_of HT_.out (by kernel_rfl)) ?_
                             refine done_ (done_of HT_.out (by kernel_rfl)) ?_
                             have hcz48_0 : w47.cell? ⟨gb450, 0, none⟩ = some (.int .i64 t446) := (blk_cell BK450.out 0).trans rfl
                             have hcz48_1 : w47.cell? ⟨gb450, 1, none⟩ = some (.int .i64 t447) := (blk_cell BK450.out 1).trans rfl
                             have hcz48_2 : w47.cell? ⟨gb450, 2, none⟩ = some (.int .i64 t448) := (blk_cell BK450.out 2).trans rfl
                             have hcz48_3 : w47.cell? ⟨gb450, 3, none⟩ = some (.int .i64 t449) := (blk_cell BK450.out 3).trans rfl
                             have hfz48_0 := blk_frozen BK450.out 0
                             have hfz48_1 := blk_frozen BK450.out 1
                             have hfz48_2 := blk_frozen BK450.out 2
                             have hfz48_3 := blk_frozen BK450.out 3
                             go_upto_if 76 with (fail)
                             go_cut [11] (fun v11 wc => ∃ (kq : Nat) (x11_36 : ByteArray), v11 = .string x11_36 ∧ Aside0 (chequerlaw06_HeadRemarks.j1 kq (strOfNums y457) x11_36 t446 t447 t448 t449 = some r) ∧ Aside0 (kq ≤ k1) ∧ Aside0 (wc.heap[gb450]? = some (.cells #[.int .i64 t446, .int .i64 t447, .int .i64 t448, .int .i64 t449] 25 (0, 0))) ∧ Aside0 (Below w.heap.size w wc))
                             case first =>
                              have H := HC37.out
                              clear HC37
                              by_cases c49 : (Int.tmod t446 3) = 1
                              · rw [if_pos c49] at H
                                have c49b0 : ((Int.tmod t446 3) == 1) = true := beq_iff_eq.mpr c49
                                have c49b1 : ((Int.tmod t446 3) != 1) = false := bne_eq_false_iff_eq.mpr c49
                                clear c49
                                (first | rw [c49b0] | (simp only [i64_w, i32_w]; rw [c49b0]) | skip)
                                have H' := Aside0.mk H
                                clear H
                                go_wp2
                                go_meet
                                case rel => exact ⟨_, (((((((((((⟨#[80]⟩ : ByteArray) ++ t460) ++ x8_1) ++ (⟨#[10]⟩ : ByteArray)) ++ (strOfNums y457)) ++ t461) ++ (strOfNums y457)) ++ x8_1) ++ (⟨#[13]⟩ : ByteArray)) ++ (strOfNums y457)) ++ t462), (by first | rfl | (simp; done) | (simp [*]; done)), H', ⟨by have := HK1.out; first | omega | exact Nat.le_refl _⟩, ⟨hp_ BK450.out⟩, ⟨bp_⟩⟩
                              · rw [if_neg c49] at H
                                have c49b0 : ((Int.tmod t446 3) == 1) = false := beq_eq_false_iff_ne.mpr c49
                                have c49b1 : ((Int.tmod t446 3) != 1) = true := bne_iff_ne.mpr c49
                                (first | rw [c49b0] | (simp only [i64_w, i32_w]; rw [c49b0]) | skip)
                                by_cases c50 : (((((((((((⟨#[80]⟩ : ByteArray) ++ t460) ++ x8_1) ++ (⟨#[10]⟩ : ByteArray)) ++ (strOfNums y457)) ++ t461) ++ (strOfNums y457)) ++ x8_1) ++ (⟨#[13]⟩ : ByteArray)) ++ (strOfNums y457)) ++ t462).size + x8_1.size ≤ 9223372036854775807
                                · rw [if_pos c50] at H
                                  have c50b0 := eq_true c50
                                  have c50b1 : decide ((((((((((((⟨#[80]⟩ : ByteArray) ++ t460) ++ x8_1) ++ (⟨#[10]⟩ : ByteArray)) ++ (strOfNums y457)) ++ t461) ++ (strOfNums y457)) ++ x8_1) ++ (⟨#[13]⟩ : ByteArray)) ++ (strOfNums y457)) ++ t462).size + x8_1.size ≤ 9223372036854775807) = true := decide_eq_true c50
                                  try have c50b2 : (9223372036854775807 < (((((((((((⟨#[80]⟩ : ByteArray) ++ t460) ++ x8_1) ++ (⟨#[10]⟩ : ByteArray)) ++ (strOfNums y457)) ++ t461) ++ (strOfNums y457)) ++ x8_1) ++ (⟨#[13]⟩ : ByteArray)) ++ (strOfNums y457)) ++ t462).size + x8_1.size) = False := eq_false (Nat.not_lt.2 c50)
                                  (try (have c50y := c50b2; simp only [ByteArray.size_append, show (⟨#[10]⟩ : ByteArray).size = 1 from rfl, show (⟨#[13]⟩ : ByteArray).size = 1 from rfl, show (⟨#[80]⟩ : ByteArray).size = 1 from rfl] at c50y))
                                  by_cases c51 : ((((((((((((⟨#[80]⟩ : ByteArray) ++ t460) ++ x8_1) ++ (⟨#[10]⟩ : ByteArray)) ++ (strOfNums y457)) ++ t461) ++ (strOfNums y457)) ++ x8_1) ++ (⟨#[13]⟩ : ByteArray)) ++ (strOfNums y457)) ++ t462) ++ x8_1).size + 1 ≤ 9223372036854775807
                                  · rw [if_pos c51] at H
                                    have c51b0 := eq_true c51
                                    have c51b1 : decide (((((((((((((⟨#[80]⟩ : ByteArray) ++ t460) ++ x8_1) ++ (⟨#[10]⟩ : ByteArray)) ++ (strOfNums y457)) ++ t461) ++ (strOfNums y457)) ++ x8_1) ++ (⟨#[13]⟩ : ByteArray)) ++ (strOfNums y457)) ++ t462) ++ x8_1).size + 1 ≤ 9223372036854775807) = true := decide_eq_true c51
                                    try have c51b2 : (9223372036854775807 < ((((((((((((⟨#[80]⟩ : ByteArray) ++ t460) ++ x8_1) ++ (⟨#[10]⟩ : ByteArray)) ++ (strOfNums y457)) ++ t461) ++ (strOfNums y457)) ++ x8_1) ++ (⟨#[13]⟩ : ByteArray)) ++ (strOfNums y457)) ++ t462) ++ x8_1).size + 1) = False := eq_false (Nat.not_lt.2 c51)
                                    (try (have c51y := c51b2; simp only [ByteArray.size_append, show (⟨#[10]⟩ : ByteArray).size = 1 from rfl, show (⟨#[13]⟩ : ByteArray).size = 1 from rfl, show (⟨#[80]⟩ : ByteArray).size = 1 from rfl] at c51y))
                                    by_cases c52 : (((((((((((((⟨#[80]⟩ : ByteArray) ++ t460) ++ x8_1) ++ (⟨#[10]⟩ : ByteArray)) ++ (strOfNums y457)) ++ t461) ++ (strOfNums y457)) ++ x8_1) ++ (⟨#[13]⟩ : ByteArray)) ++ (strOfNums y457)) ++ t462) ++ x8_1) ++ (⟨#[10]⟩ : ByteArray)).size + (strOfNums y457).size ≤ 9223372036854775807
                                    · rw [if_pos c52] at H
                                      have c52b0 := eq_true c52
                                      have c52b1 : decide ((((((((((((((⟨#[80]⟩ : ByteArray) ++ t460) ++ x8_1) ++ (⟨#[10]⟩ : ByteArray)) ++ (strOfNums y457)) ++ t461) ++ (strOfNums y457)) ++ x8_1) ++ (⟨#[13]⟩ : ByteArray)) ++ (strOfNums y457)) ++ t462) ++ x8_1) ++ (⟨#[10]⟩ : ByteArray)).size + (strOfNums y457).size ≤ 9223372036854775807) = true := decide_eq_true c52
                                      try have c52b2 : (9223372036854775807 < (((((((((((((⟨#[80]⟩ : ByteArray) ++ t460) ++ x8_1) ++ (⟨#[10]⟩ : ByteArray)) ++ (strOfNums y457)) ++ t461) ++ (strOfNums y457)) ++ x8_1) ++ (⟨#[13]⟩ : ByteArray)) ++ (strOfNums y457)) ++ t462) ++ x8_1) ++ (⟨#[10]⟩ : ByteArray)).size + (strOfNums y457).size) = False := eq_false (Nat.not_lt.2 c52)
                                      (try (have c52y := c52b2; simp only [ByteArray.size_append, show (⟨#[10]⟩ : ByteArray).size = 1 from rfl, show (⟨#[13]⟩ : ByteArray).size = 1 from rfl, show (⟨#[80]⟩ : ByteArray).size = 1 from rfl] at c52y))
                                      replace H := Option.bind_eq_some_iff.mp H
                                      obtain ⟨t463, A530, H⟩ := H
                                      replace H : (if ((((((((((((((⟨#[80]⟩ : ByteArray) ++ t460) ++ x8_1) ++ (⟨#[10]⟩ : ByteArray)) ++ (strOfNums y457)) ++ t461) ++ (strOfNums y457)) ++ x8_1) ++ (⟨#[13]⟩ : ByteArray)) ++ (strOfNums y457)) ++ t462) ++ x8_1) ++ (⟨#[10]⟩ : ByteArray)) ++ (strOfNums y457)).size + t463.size ≤ 9223372036854775807 then (chequerlaw06_HeadRemarks.j1 k1 (strOfNums y457) (((((((((((((((⟨#[80]⟩ : ByteArray) ++ t460) ++ x8_1) ++ (⟨#[10]⟩ : ByteArray)) ++ (strOfNums y457)) ++ t461) ++ (strOfNums y457)) ++ x8_1) ++ (⟨#[13]⟩ : ByteArray)) ++ (strOfNums y457)) ++ t462) ++ x8_1) ++ (⟨#[10]⟩ : ByteArray)) ++ (strOfNums y457)) ++ t463) t446 t447 t448 t449) else (none)) = some r := H
                                      have A53 := Aside0.mk A530
                                      clear A530
                                      by_cases c54 : ((((((((((((((⟨#[80]⟩ : ByteArray) ++ t460) ++ x8_1) ++ (⟨#[10]⟩ : ByteArray)) ++ (strOfNums y457)) ++ t461) ++ (strOfNums y457)) ++ x8_1) ++ (⟨#[13]⟩ : ByteArray)) ++ (strOfNums y457)) ++ t462) ++ x8_1) ++ (⟨#[10]⟩ : ByteArray)) ++ (strOfNums y457)).size + t463.size ≤ 9223372036854775807
                                      · rw [if_pos c54] at H
                                        have c54b0 := eq_true c54
                                        have c54b1 : decide (((((((((((((((⟨#[80]⟩ : ByteArray) ++ t460) ++ x8_1) ++ (⟨#[10]⟩ : ByteArray)) ++ (strOfNums y457)) ++ t461) ++ (strOfNums y457)) ++ x8_1) ++ (⟨#[13]⟩ : ByteArray)) ++ (strOfNums y457)) ++ t462) ++ x8_1) ++ (⟨#[10]⟩ : ByteArray)) ++ (strOfNums y457)).size + t463.size ≤ 9223372036854775807) = true := decide_eq_true c54
                                        try have c54b2 : (9223372036854775807 < ((((((((((((((⟨#[80]⟩ : ByteArray) ++ t460) ++ x8_1) ++ (⟨#[10]⟩ : ByteArray)) ++ (strOfNums y457)) ++ t461) ++ (strOfNums y457)) ++ x8_1) ++ (⟨#[13]⟩ : ByteArray)) ++ (strOfNums y457)) ++ t462) ++ x8_1) ++ (⟨#[10]⟩ : ByteArray)) ++ (strOfNums y457)).size + t463.size) = False := eq_false (Nat.not_lt.2 c54)
                                        (try (have c54y := c54b2; simp only [ByteArray.size_append, show (⟨#[10]⟩ : ByteArray).size = 1 from rfl, show (⟨#[13]⟩ : ByteArray).size = 1 from rfl, show (⟨#[80]⟩ : ByteArray).size = 1 from rfl] at c54y))
                                        have H' := Aside0.mk H
                                        clear H
                                        have hcz55_0 : w47.cell? ⟨gb450, 0, none⟩ = some (.int .i64 t446) := (blk_cell BK450.out 0).trans rfl
                                        have hcz55_1 : w47.cell? ⟨gb450, 1, none⟩ = some (.int .i64 t447) := (blk_cell BK450.out 1).trans rfl
                                        have hcz55_2 : w47.cell? ⟨gb450, 2, none⟩ = some (.int .i64 t448) := (blk_cell BK450.out 2).trans rfl
                                        have hcz55_3 : w47.cell? ⟨gb450, 3, none⟩ = some (.int .i64 t449) := (blk_cell BK450.out 3).trans rfl
                                        have hfz55_0 := blk_frozen BK450.out 0
                                        have hfz55_1 := blk_frozen BK450.out 1
                                        have hfz55_2 := blk_frozen BK450.out 2
                                        have hfz55_3 := blk_frozen BK450.out 3
                                        go_wp2_with (first | ((with_reducible refine gate_callee (f := 18) rfl ?_); refine goQ_ (some 85) Try.func18 #[.int .i64 t449] ?_; (with_reducible refine (chequerref01_Decimal.calls k1 t449 t463 _ A53.out).mono ?_); rintro e w56 ⟨rfl, hb⟩; refine ⟨_, rfl, ?_⟩; replace HO454 := Aside0.mk (Kd.R_below (rp_ HO454.out) hb); replace HO459 := Aside0.mk (Kd.R_below (rp_ HO459.out) hb); replace BK450 := Aside0.mk (blk_below (hp_ BK450.out) hb); replace HB := Aside0.mk (below_step bp_ hb); (try clear hb); (try clear hb2); (try clear hk); (try clear hi)))
                                        go_meet
                                        case rel => exact ⟨_, (((((((((((((((⟨#[80]⟩ : ByteArray) ++ t460) ++ x8_1) ++ (⟨#[10]⟩ : ByteArray)) ++ (strOfNums y457)) ++ t461) ++ (strOfNums y457)) ++ x8_1) ++ (⟨#[13]⟩ : ByteArray)) ++ (strOfNums y457)) ++ t462) ++ x8_1) ++ (⟨#[10]⟩ : ByteArray)) ++ (strOfNums y457)) ++ t463), (by first | rfl | (simp; done) | (simp [*]; done)), H', ⟨by have := HK1.out; first | omega | exact Nat.le_refl _⟩, ⟨hp_ BK450.out⟩, ⟨bp_⟩⟩
                                      · rw [if_neg c54] at H
                                        exact absurd H (by simp)
                                    · rw [if_neg c52] at H
                                      exact absurd H (by simp)
                                  · rw [if_neg c51] at H
                                    exact absurd H (by simp)
                                · rw [if_neg c50] at H
                                  exact absurd H (by simp)
                             case rest =>
                              clear HC37
                              try clear c1
                              try clear p1
                              try clear q1
                              try clear hx1
                              try clear c2
                              try clear p2
                              try clear c3
                              try clear c4
                              try clear p4
                              try clear q4
                              try clear hx4
                              try clear hcv4
                              try clear c5
                              try clear c6
                              try clear p6
                              try clear c9
                              try clear c11
                              try clear c11b0
                              try clear c12
                              try clear c12b0
                              try clear c13
                              try clear p13
                              try clear q13
                              try clear hx13
                              try clear c14
                              try clear c14b0
                              try clear c14b1
                              try clear p15
                              try clear q15
                              try clear hx15
                              try clear c16
                              try clear c16b0
                              try clear c16b1
                              try clear c17
                              try clear c17b0
                              try clear c18
                              try clear c18b0
                              try clear c18b1
                              try clear c19
                              try clear c19b0
                              try clear c19b1
                              try clear c20
                              try clear c20b0
                              try clear c20b1
                              try clear c20b2
                              try clear c22
                              try clear c22b0
                              try clear c23
                              try clear c23b0
                              try clear c25
                              try clear c25b0
                              try clear c25b1
                              try clear c25b2
                              try clear c26
                              try clear c26b0
                              try clear c26b1
                              try clear c26b2
                              try clear c27
                              try clear c27b0
                              try clear c27b1
                              try clear c27b2
                              try clear c28
                              try clear c28b0
                              try clear c28b1
                              try clear c28b2
                              try clear c30
                              try clear c30b0
                              try clear c30b1
                              try clear c30b2
                              try clear c31
                              try clear c31b0
                              try clear c31b1
                              try clear c31b2
                              try clear c32
                              try clear c32b0
                              try clear c32b1
                              try clear c32b2
                              try clear c33
                              try clear c33b0
                              try clear c33b1
                              try clear c33b2
                              try clear c34
                              try clear c34b0
                              try clear c34b1
                              try clear c34b2
                              try clear c36
                              try clear c36b0
                              try clear c36b1
                              try clear c36b2
                              try clear hcv43
                              try clear p45
                              try clear q45
                              try clear hx45
                              try clear c49
                              try clear c49b0
                              try clear c49b1
                              try clear c50
                              try clear c50b0
                              try clear c50b1
                              try clear c50b2
                              try clear c51
                              try clear c51b0
                              try clear c51b1
                              try clear c51b2
                              try clear c52
                              try clear c52b0
                              try clear c52b1
                              try clear c52b2
                              try clear c54
                              try clear c54b0
                              try clear c54b1
                              try clear c54b2
                              try clear hcz10_0
                              try clear hcz10_1
                              try clear hcz10_2
                              try clear hcz10_3
                              try clear hcz48_0
                              try clear hcz48_1
                              try clear hcz48_2
                              try clear hcz48_3
                              try clear hcz55_0
                              try clear hcz55_1
                              try clear hcz55_2
                              try clear hcz55_3
                              try clear hcz7_0
                              try clear hcz7_1
                              try clear hcz7_2
                              try clear hcz7_3
                              try clear hfz10_0
                              try clear hfz10_1
                              try clear hfz10_2
                              try clear hfz10_3
                              try clear hfz48_0
                              try clear hfz48_1
                              try clear hfz48_2
                              try clear hfz48_3
                              try clear hfz55_0
                              try clear hfz55_1
                              try clear hfz55_2
                              try clear hfz55_3
                              try clear hfz7_0
                              try clear hfz7_1
                              try clear hfz7_2
                              try clear hfz7_3
                              try clear hx456_0
                              try clear p13
                              try clear p15
                              try clear p2
                              try clear p456
                              try clear q13
                              try clear q15
                              try clear q456
                              obtain ⟨kq, x11_36, rfl, HA, HJ36, BK450, HB⟩ := hcut
                              cases kq with
                              | zero => exact absurd HA.out (by simp [chequerlaw06_HeadRemarks.j1])
                              | succ kj36 =>
                               have H := HA.out
                               clear HA
                               simp only [chequerlaw06_HeadRemarks.j1] at H
                               by_cases c57 : x11_36.size + (strOfNums y457).size ≤ 9223372036854775807
                               · rw [if_pos c57] at H
                                 have c57b0 := eq_true c57
                                 have c57b1 : decide (x11_36.size + (strOfNums y457).size ≤ 9223372036854775807) = true := decide_eq_true c57
                                 try have c57b2 : (9223372036854775807 < x11_36.size + (strOfNums y457).size) = False := eq_false (Nat.not_lt.2 c57)
                                 replace H := Option.bind_eq_some_iff.mp H
                                 obtain ⟨⟨t464, t465, t466⟩, A580, H⟩ := H
                                 replace H : ((head_Parse.f kj36 (x11_36 ++ (strOfNums y457)) t464 t465 t466).bind fun bt467 => ((chequerlaw06_as.f bt467.1 bt467.2.1 bt467.2.2.1 bt467.2.2.2.1).bind fun bt474 => (if (bt474.1 == t446 && (bt474.2.1 == t447 && (bt474.2.2.1 == t448 && (bt474.2.2.2 == t449)))) = true then (if bt467.2.2.2.2.1 = ((x11_36 ++ (strOfNums y457)).size : Int) then (if bt467.2.2.2.2.2 = 0 then ((chequerlaw06_lives.f kj36).bind fun t478 => (some t478)) else (some false)) else (some false)) else (some false)))) = some r := H
                                 have A58 := Aside0.mk A580
                                 clear A580
                                 replace H := Option.bind_eq_some_iff.mp H
                                 obtain ⟨⟨t467, t468, t469, t470, t471, t472⟩, A590, H⟩ := H
                                 replace H : ((chequerlaw06_as.f t467 t468 t469 t470).bind fun bt474 => (if (bt474.1 == t446 && (bt474.2.1 == t447 && (bt474.2.2.1 == t448 && (bt474.2.2.2 == t449)))) = true then (if t471 = ((x11_36 ++ (strOfNums y457)).size : Int) then (if t472 = 0 then ((chequerlaw06_lives.f kj36).bind fun t478 => (some t478)) else (some false)) else (some false)) else (some false))) = some r := H
                                 have A59 := Aside0.mk A590
                                 clear A590
                                 replace H := Option.bind_eq_some_iff.mp H
                                 obtain ⟨⟨t474, t475, t476, t477⟩, A600, H⟩ := H
                                 replace H : (if (t474 == t446 && (t475 == t447 && (t476 == t448 && (t477 == t449)))) = true then (if t471 = ((x11_36 ++ (strOfNums y457)).size : Int) then (if t472 = 0 then ((chequerlaw06_lives.f kj36).bind fun t478 => (some t478)) else (some false)) else (some false)) else (some false)) = some r := H
                                 have A60 := Aside0.mk A600
                                 clear A600
                                 by_cases c61 : (t474 == t446 && (t475 == t447 && (t476 == t448 && (t477 == t449)))) = true
                                 · rw [if_pos c61] at H
                                   have c61b0 : (t474 == t446 && (t475 == t447 && (t476 == t448 && (t477 == t449)))) = true := c61
                                   (try (have c61b1 : decide (t474 = t446 && (t475 == t447 && (t476 == t448 && (t477 == t449)))) = true := by simpa using c61))
                                   (try (have c61b2 : (t474 == t446 && (t475 == t447 && (t476 == t448 && (t477 == t449)))) = true := by simpa using c61))
                                   clear c61
                                   by_cases c62 : t471 = ((x11_36 ++ (strOfNums y457)).size : Int)
                                   · rw [if_pos c62] at H
                                     have c62b0 : (t471 == ((x11_36 ++ (strOfNums y457)).size : Int)) = true := beq_iff_eq.mpr c62
                                     (try (have c62b0y := c62b0; simp only [ByteArray.size_append, Int.natCast_add] at c62b0y))
                                     have c62b1 : (t471 != ((x11_36 ++ (strOfNums y457)).size : Int)) = false := bne_eq_false_iff_eq.mpr c62
                                     clear c62
                                     by_cases c63 : t472 = 0
                                     · rw [if_pos c63] at H
                                       have c63b0 : (t472 == 0) = true := beq_iff_eq.mpr c63
                                       have c63b1 : (t472 != 0) = false := bne_eq_false_iff_eq.mpr c63
                                       clear c63
                                       replace H := Option.bind_eq_some_iff.mp H
                                       obtain ⟨t478, A640, H⟩ := H
                                       replace H : (some t478) = some r := H
                                       have A64 := Aside0.mk A640
                                       clear A640
                                       obtain rfl := Option.some.inj H
                                       try go_wp2_with (first | ((with_reducible refine gate_callee (f := 14) rfl ?_); refine goQ_ (some 92) Try.func14 #[] ?_; (with_reducible refine (head_All.calls  t464 t465 t466 _ A58.out).mono ?_); rintro e w65 ⟨rfl, hb⟩; refine ⟨_, rfl, ?_⟩; replace BK450 := Aside0.mk (blk_below (hp_ BK450.out) hb); replace HB := Aside0.mk (below_step bp_ hb); (try clear hb); (try clear hb2); (try clear hk); (try clear hi)) | ((with_reducible refine gate_callee (f := 15) rfl ?_); refine goQ_ (some 93) Try.func15 #[.string (x11_36 ++ (strOfNums y457)), .agg #[.int .i64 t464, .int .i64 t465, .int .i64 t466]] ?_; (with_reducible refine (head_Parse.calls kj36 (x11_36 ++ (strOfNums y457)) t464 t465 t466 t467 t468 t469 t470 t471 t472 _ A59.out).mono ?_); rintro e w66 ⟨rfl, hb⟩; refine ⟨_, rfl, ?_⟩; replace BK450 := Aside0.mk (blk_below (hp_ BK450.out) hb); replace HB := Aside0.mk (below_step bp_ hb); (try clear hb); (try clear hb2); (try clear hk); (try clear hi)) | ((with_reducible refine gate_dst (N := 12) rfl ?_); (try (refine gate_guard (by rfl) ?_; dsimp only)); refine box_event ?hg (N := 12) ?hd (cs := #[.int .i64 0, .int .i64 0, .int .i64 0, .int .i64 0]) (t := 36) ?hr ?_; (case hd => rfl); (case hg => rfl); (case hr => first | (go_simp; done) | (go_simp; rfl)); intro gb473 hg w67 hbox hb; have BK473 := Aside0.mk (hbox); have GW473 := Aside0.mk ((by rw [hg]; exact (below_size bp_) : w.heap.size ≤ gb473)); have GE473 := Aside0.mk ((by rw [hg]; exact (below_size bp_) : w.heap.size ≤ gb473)); replace HB := Aside0.mk (below_step bp_ hb); have NB450_473 := Aside0.mk ((nlt_ hg (hp_ BK450.out))); have NB473_450 := Aside0.mk ((ngt_ hg (hp_ BK450.out))); replace BK450 := Aside0.mk (blk_below (hp_ BK450.out) hb); clear hb hbox hg; have hnb68 := NB473_450.out; have hnc68 := NB450_473.out; have hcz69_0 : w67.cell? ⟨gb473, 0, none⟩ = some (.int .i64 0) := (blk_cell BK473.out 0).trans rfl; have hcz69_1 : w67.cell? ⟨gb473, 1, none⟩ = some (.int .i64 0) := (blk_cell BK473.out 1).trans rfl; have hcz69_2 : w67.cell? ⟨gb473, 2, none⟩ = some (.int .i64 0) := (blk_cell BK473.out 2).trans rfl; have hcz69_3 : w67.cell? ⟨gb473, 3, none⟩ = some (.int .i64 0) := (blk_cell BK473.out 3).trans rfl; have hfz69_0 := blk_frozen BK473.out 0; have hfz69_1 := blk_frozen BK473.out 1; have hfz69_2 := blk_frozen BK473.out 2; have hfz69_3 := blk_frozen BK473.out 3))
                                       have n0_ : Aside0 (((((w67.setCell ⟨gb473, 0, none⟩ (.int .i64 t467)).setCell ⟨gb473, 1, none⟩ (.int .i64 t468)).setCell ⟨gb473, 2, none⟩ (.int .i64 t469)).setCell ⟨gb473, 3, none⟩ (.int .i64 t470)).heap[gb450]? = some (.cells #[.int .i64 t446, .int .i64 t447, .int .i64 t448, .int .i64 t449] 25 (0, 0))) := ⟨hf_ BK450.out NB450_473.out⟩
                                       have n1_ : Aside0 (((((w67.setCell ⟨gb473, 0, none⟩ (.int .i64 t467)).setCell ⟨gb473, 1, none⟩ (.int .i64 t468)).setCell ⟨gb473, 2, none⟩ (.int .i64 t469)).setCell ⟨gb473, 3, none⟩ (.int .i64 t470)).heap[gb473]? = some (.cells #[.int .i64 t467, .int .i64 t468, .int .i64 t469, .int .i64 t470] 36 (0, 0))) := ⟨by (with_reducible repeat (first | refine blk_drewN ?_ _ | refine blk_drew ?_ | refine blk_alloc ?_ _)); refine blk_put (cs := #[.int .i64 t467, .int .i64 t468, .int .i64 t469, .int .i64 0]) ?_ 3 _ rfl; (with_reducible repeat (first | refine blk_drewN ?_ _ | refine blk_drew ?_ | refine blk_alloc ?_ _)); refine blk_put (cs := #[.int .i64 t467, .int .i64 t468, .int .i64 0, .int .i64 0]) ?_ 2 _ rfl; (with_reducible repeat (first | refine blk_drewN ?_ _ | refine blk_drew ?_ | refine blk_alloc ?_ _)); refine blk_put (cs := #[.int .i64 t467, .int .i64 0, .int .i64 0, .int .i64 0]) ?_ 1 _ rfl; (with_reducible repeat (first | refine blk_drewN ?_ _ | refine blk_drew ?_ | refine blk_alloc ?_ _)); refine blk_put (cs := #[.int .i64 0, .int .i64 0, .int .i64 0, .int .i64 0]) ?_ 0 _ rfl; (with_reducible repeat (first | refine blk_drewN ?_ _ | refine blk_drew ?_ | refine blk_alloc ?_ _)); exact BK473.out⟩
                                       have n2_ : Aside0 (Below w.heap.size w ((((w67.setCell ⟨gb473, 0, none⟩ (.int .i64 t467)).setCell ⟨gb473, 1, none⟩ (.int .i64 t468)).setCell ⟨gb473, 2, none⟩ (.int .i64 t469)).setCell ⟨gb473, 3, none⟩ (.int .i64 t470))) := ⟨bp_⟩
                                       (try clear BK450)
                                       (try clear BK473)
                                       (try clear HB)
                                       generalize ((((w67.setCell ⟨gb473, 0, none⟩ (.int .i64 t467)).setCell ⟨gb473, 1, none⟩ (.int .i64 t468)).setCell ⟨gb473, 2, none⟩ (.int .i64 t469)).setCell ⟨gb473, 3, none⟩ (.int .i64 t470)) = w70 at n0_ n1_ n2_ ⊢
                                       have BK450 := n0_
                                       have BK473 := n1_
                                       have HB := n2_
                                       clear n0_ n1_ n2_
                                       replace BK450 := Aside0.mk (blk_drew BK450.out)
                                       replace BK473 := Aside0.mk (blk_drew BK473.out)
                                       replace HB := Aside0.mk (below_drew1 HB.out)
                                       refine start_ (n := 18) (S := fun w' => w'.cell? ⟨gb473, 0, none⟩ = some (.int .i64 t467) ∧ w'.cell? ⟨gb473, 1, none⟩ = some (.int .i64 t468) ∧ w'.cell? ⟨gb473, 2, none⟩ = some (.int .i64 t469) ∧ w'.cell? ⟨gb473, 3, none⟩ = some (.int .i64 t470) ∧ w'.cell? ⟨gb450, 0, none⟩ = some (.int .i64 t446) ∧ w'.cell? ⟨gb450, 1, none⟩ = some (.int .i64 t447) ∧ w'.cell? ⟨gb450, 2, none⟩ = some (.int .i64 t448) ∧ w'.cell? ⟨gb450, 3, none⟩ = some (.int .i64 t449)) (ds := []) Fl113 (by kernel_rfl) rfl rfl ⟨(blk_cell BK473.out 0).trans rfl, (blk_cell BK473.out 1).trans rfl, (blk_cell BK473.out 2).trans rfl, (blk_cell BK473.out 3).trans rfl, (blk_cell BK450.out 0).trans rfl, (blk_cell BK450.out 1).trans rfl, (blk_cell BK450.out 2).trans rfl, (blk_cell BK450.out 3).trans rfl⟩ (fun hHeld => ?_); refine with_tabW chequerlaw06_HeadRemarks.tab15 chequerlaw06_HeadRemarks.bits15 (fun HT_ HW_ => ?_)
                                       generalize w70.drew = w71 at BK450 BK473 HB hHeld ⊢
                                       refine take_ (i := 0) (N := some 97) (v := ?_) (a' := ?_) Fl114 rfl rfl (take_ofW HT_.out HW_.out (by kernel_rfl)) (fun _ _ _ h => h) (Or.inl ⟨by rfl, ?_⟩) hHeld ?_ ?_
                                       rotate_left
                                       · rintro w' ⟨s0, s1, s2, s3, s4, s5, s6, s7⟩
                                         go_simp
                                         with_reducible rfl
                                       rotate_left
                                       · simp only [Act.put, List.setIfInBounds_toArray, List.set_cons_zero, List.set_cons_succ, i64_w, i32_w]
                                         rfl
                                       refine take_ (i := 2) (N := some 99) (v := ?_) (a' := ?_) Fl115 rfl rfl (take_ofW HT_.out HW_.out (by kernel_rfl)) (fun _ _ _ h => h) (Or.inl ⟨by rfl, ?_⟩) hHeld ?_ ?_
                                       rotate_left
                                       · rintro w' ⟨s0, s1, s2, s3, s4, s5, s6, s7⟩
                                         go_simp
                                         with_reducible rfl
                                       rotate_left
                                       · simp only [Act.put, List.setIfInBounds_toArray, List.set_cons_zero, List.set_cons_succ, i64_w, i32_w]
                                         rfl
                                       refine one_ (i := 1) (N := some 98) Fl116 rfl rfl (one_of HT_.out (by kernel_rfl)) (by decide) (fun K hK => ?_)
                                       refine goes_ Try.func17 (by kernel_rfl) rfl #[.agg #[.int .i64 t467, .int .i64 t468, .int .i64 t469, .int .i64 t470]] (by rfl) rfl rfl (by (try simp only [List.map_toArray, List.map_cons, List.map_nil]); first | done | rfl | (simp only [List.length_drop, List.length_take]; rfl)) ?_
                                       with_reducible refine (chequerlaw06_as.calls t467 t468 t469 t470 t474 t475 t476 t477 _ A60.out).mono ?_
                                       rintro e w72 ⟨rfl, hb⟩
                                       refine ⟨_, rfl, ?_⟩
                                       replace BK450 := Aside0.mk (blk_below (hp_ BK450.out) hb)
                                       replace BK473 := Aside0.mk (blk_below (hp_ BK473.out) hb)
                                       replace HB := Aside0.mk (below_step bp_ hb)
                                       (try clear hb)
                                       (try clear hb2)
                                       (try clear hk)
                                       (try clear hi)
                                       refine hK.out _ _ ⟨(blk_cell BK473.out 0).trans rfl, (blk_cell BK473.out 1).trans rfl, (blk_cell BK473.out 2).trans rfl, (blk_cell BK473.out 3).trans rfl, (blk_cell BK450.out 0).trans rfl, (blk_cell BK450.out 1).trans rfl, (blk_cell BK450.out 2).trans rfl, (blk_cell BK450.out 3).trans rfl⟩ (fun hHeld => ?_)
                                       clear hK K
                                       refine norm_ (a' := ?_) ?_ ?_
                                       rotate_left
                                       · show Act.put _ (some 98) _ = _
                                         simp only [Act.put, List.setIfInBounds_toArray, List.set_cons_zero, List.set_cons_succ, i64_w, i32_w]
                                         rfl
                                       refine pur_ (i := 3) (N := some 100) Fl117 (any_of HT_.out (by kernel_rfl)) ?_
                                       refine pur_ (i := 4) (N := some 101) Fl118 (any_of HT_.out (by kernel_rfl)) ?_
                                       refine pur_ (i := 5) (N := some 102) Fl119 (any_of HT_.out (by kernel_rfl)) ?_
                                       refine pur_ (i := 6) (N := some 103) Fl120 (any_of HT_.out (by kernel_rfl)) ?_
                                       refine pur_ (i := 7) (N := some 104) Fl121 (any_of HT_.out (by kernel_rfl)) ?_
                                       refine pur_ (i := 8) (N := some 105) Fl122 (any_of HT_.out (by kernel_rfl)) ?_
                                       refine pur_ (i := 9) (N := some 106) Fl123 (any_of HT_.out (by kernel_rfl)) ?_
                                       refine pur_ (i := 10) (N := some 107) Fl124 (any_of HT_.out (by kernel_rfl)) ?_
                                       refine pur_ (i := 11) (N := some 108) Fl125 (any_of HT_.out (by kernel_rfl)) ?_
                                       refine pur_ (i := 12) (N := some 109) Fl126 (any_of HT_.out (by kernel_rfl)) ?_
                                       refine pur_ (i := 13) (N := some 110) Fl127 (any_of HT_.out (by kernel_rfl)) ?_
                                       refine pur_ (i := 14) (N := some 111) Fl128 (any_of HT_.out (by kernel_rfl)) ?_
                                       refine one_ (i := 15) (N := some 112) Fl129 rfl rfl (one_of HT_.out (by kernel_rfl)) (by decide) (fun K hK => ?_)
                                       refine goes_ Try.func12 (by kernel_rfl) rfl #[] (by rfl) rfl rfl (by (try simp only [List.map_toArray, List.map_cons, List.map_nil]); first | done | rfl | (simp only [List.length_drop, List.length_take]; rfl)) ?_
                                       with_reducible refine (chequerlaw06_lives.calls kj36  t478 _ A64.out).mono ?_
                                       rintro e w73 ⟨rfl, hb⟩
                                       refine ⟨_, rfl, ?_⟩
                                       replace BK450 := Aside0.mk (blk_below (hp_ BK450.out) hb)
                                       replace BK473 := Aside0.mk (blk_below (hp_ BK473.out) hb)
                                       replace HB := Aside0.mk (below_step bp_ hb)
                                       (try clear hb)
                                       (try clear hb2)
                                       (try clear hk)
                                       (try clear hi)
                                       refine hK.out _ _ ⟨(blk_cell BK473.out 0).trans rfl, (blk_cell BK473.out 1).trans rfl, (blk_cell BK473.out 2).trans rfl, (blk_cell BK473.out 3).trans rfl, (blk_cell BK450.out 0).trans rfl, (blk_cell BK450.out 1).trans rfl, (blk_cell BK450.out 2).trans rfl, (blk_cell BK450.out 3).trans rfl⟩ (fun hHeld => ?_)
                                       clear hK K
                                       refine norm_ (a' := ?_) ?_ ?_
                                       rotate_left
                                       · show Act.put _ (some 112) _ = _
                                         simp only [Act.put, List.setIfInBounds_toArray, List.set_cons_zero, List.set_cons_succ, i64_w, i32_w]
                                         rfl
                                       refine pur_ (i := 16) (N := some 113) Fl130 (any_of HT_.out (by kernel_rfl)) ?_
                                       refine pur_ (i := 17) (N := some 6) Fl131 (any_of HT_.out (by kernel_rfl)) ?_
                                       refine done_ (done_of HT_.out (by kernel_rfl)) ?_
                                       try go_wp2
                                       go_ret
                                       exact ⟨by first | rfl | (simp [errW_none, errW_some] <;> rfl) | (simp [*, errW_none, errW_some] <;> rfl), bp_⟩
                                     · rw [if_neg c63] at H
                                       have c63b0 : (t472 == 0) = false := beq_eq_false_iff_ne.mpr c63
                                       have c63b1 : (t472 != 0) = true := bne_iff_ne.mpr c63
                                       obtain rfl := Option.some.inj H
                                       try go_wp2_with (first | ((with_reducible refine gate_callee (f := 14) rfl ?_); refine goQ_ (some 92) Try.func14 #[] ?_; (with_reducible refine (head_All.calls  t464 t465 t466 _ A58.out).mono ?_); rintro e w74 ⟨rfl, hb⟩; refine ⟨_, rfl, ?_⟩; replace BK450 := Aside0.mk (blk_below (hp_ BK450.out) hb); replace HB := Aside0.mk (below_step bp_ hb); (try clear hb); (try clear hb2); (try clear hk); (try clear hi)) | ((with_reducible refine gate_callee (f := 15) rfl ?_); refine goQ_ (some 93) Try.func15 #[.string (x11_36 ++ (strOfNums y457)), .agg #[.int .i64 t464, .int .i64 t465, .int .i64 t466]] ?_; (with_reducible refine (head_Parse.calls kj36 (x11_36 ++ (strOfNums y457)) t464 t465 t466 t467 t468 t469 t470 t471 t472 _ A59.out).mono ?_); rintro e w75 ⟨rfl, hb⟩; refine ⟨_, rfl, ?_⟩; replace BK450 := Aside0.mk (blk_below (hp_ BK450.out) hb); replace HB := Aside0.mk (below_step bp_ hb); (try clear hb); (try clear hb2); (try clear hk); (try clear hi)) | ((with_reducible refine gate_dst (N := 12) rfl ?_); (try (refine gate_guard (by rfl) ?_; dsimp only)); refine box_event ?hg (N := 12) ?hd (cs := #[.int .i64 0, .int .i64 0, .int .i64 0, .int .i64 0]) (t := 36) ?hr ?_; (case hd => rfl); (case hg => rfl); (case hr => first | (go_simp; done) | (go_simp; rfl)); intro gb473 hg w76 hbox hb; have BK473 := Aside0.mk (hbox); have GW473 := Aside0.mk ((by rw [hg]; exact (below_size bp_) : w.heap.size ≤ gb473)); have GE473 := Aside0.mk ((by rw [hg]; exact (below_size bp_) : w.heap.size ≤ gb473)); replace HB := Aside0.mk (below_step bp_ hb); have NB450_473 := Aside0.mk ((nlt_ hg (hp_ BK450.out))); have NB473_450 := Aside0.mk ((ngt_ hg (hp_ BK450.out))); replace BK450 := Aside0.mk (blk_below (hp_ BK450.out) hb); clear hb hbox hg; have hnb77 := NB473_450.out; have hnc77 := NB450_473.out; have hcz78_0 : w76.cell? ⟨gb473, 0, none⟩ = some (.int .i64 0) := (blk_cell BK473.out 0).trans rfl; have hcz78_1 : w76.cell? ⟨gb473, 1, none⟩ = some (.int .i64 0) := (blk_cell BK473.out 1).trans rfl; have hcz78_2 : w76.cell? ⟨gb473, 2, none⟩ = some (.int .i64 0) := (blk_cell BK473.out 2).trans rfl; have hcz78_3 : w76.cell? ⟨gb473, 3, none⟩ = some (.int .i64 0) := (blk_cell BK473.out 3).trans rfl; have hfz78_0 := blk_frozen BK473.out 0; have hfz78_1 := blk_frozen BK473.out 1; have hfz78_2 := blk_frozen BK473.out 2; have hfz78_3 := blk_frozen BK473.out 3))
                                       have n0_ : Aside0 (((((w76.setCell ⟨gb473, 0, none⟩ (.int .i64 t467)).setCell ⟨gb473, 1, none⟩ (.int .i64 t468)).setCell ⟨gb473, 2, none⟩ (.int .i64 t469)).setCell ⟨gb473, 3, none⟩ (.int .i64 t470)).heap[gb450]? = some (.cells #[.int .i64 t446, .int .i64 t447, .int .i64 t448, .int .i64 t449] 25 (0, 0))) := ⟨hf_ BK450.out NB450_473.out⟩
                                       have n1_ : Aside0 (((((w76.setCell ⟨gb473, 0, none⟩ (.int .i64 t467)).setCell ⟨gb473, 1, none⟩ (.int .i64 t468)).setCell ⟨gb473, 2, none⟩ (.int .i64 t469)).setCell ⟨gb473, 3, none⟩ (.int .i64 t470)).heap[gb473]? = some (.cells #[.int .i64 t467, .int .i64 t468, .int .i64 t469, .int .i64 t470] 36 (0, 0))) := ⟨by (with_reducible repeat (first | refine blk_drewN ?_ _ | refine blk_drew ?_ | refine blk_alloc ?_ _)); refine blk_put (cs := #[.int .i64 t467, .int .i64 t468, .int .i64 t469, .int .i64 0]) ?_ 3 _ rfl; (with_reducible repeat (first | refine blk_drewN ?_ _ | refine blk_drew ?_ | refine blk_alloc ?_ _)); refine blk_put (cs := #[.int .i64 t467, .int .i64 t468, .int .i64 0, .int .i64 0]) ?_ 2 _ rfl; (with_reducible repeat (first | refine blk_drewN ?_ _ | refine blk_drew ?_ | refine blk_alloc ?_ _)); refine blk_put (cs := #[.int .i64 t467, .int .i64 0, .int .i64 0, .int .i64 0]) ?_ 1 _ rfl; (with_reducible repeat (first | refine blk_drewN ?_ _ | refine blk_drew ?_ | refine blk_alloc ?_ _)); refine blk_put (cs := #[.int .i64 0, .int .i64 0, .int .i64 0, .int .i64 0]) ?_ 0 _ rfl; (with_reducible repeat (first | refine blk_drewN ?_ _ | refine blk_drew ?_ | refine blk_alloc ?_ _)); exact BK473.out⟩
                                       have n2_ : Aside0 (Below w.heap.size w ((((w76.setCell ⟨gb473, 0, none⟩ (.int .i64 t467)).setCell ⟨gb473, 1, none⟩ (.int .i64 t468)).setCell ⟨gb473, 2, none⟩ (.int .i64 t469)).setCell ⟨gb473, 3, none⟩ (.int .i64 t470))) := ⟨bp_⟩
                                       (try clear BK450)
                                       (try clear BK473)
                                       (try clear HB)
                                       generalize ((((w76.setCell ⟨gb473, 0, none⟩ (.int .i64 t467)).setCell ⟨gb473, 1, none⟩ (.int .i64 t468)).setCell ⟨gb473, 2, none⟩ (.int .i64 t469)).setCell ⟨gb473, 3, none⟩ (.int .i64 t470)) = w79 at n0_ n1_ n2_ ⊢
                                       have BK450 := n0_
                                       have BK473 := n1_
                                       have HB := n2_
                                       clear n0_ n1_ n2_
                                       replace BK450 := Aside0.mk (blk_drew BK450.out)
                                       replace BK473 := Aside0.mk (blk_drew BK473.out)
                                       replace HB := Aside0.mk (below_drew1 HB.out)
                                       refine start_ (n := 18) (S := fun w' => w'.cell? ⟨gb473, 0, none⟩ = some (.int .i64 t467) ∧ w'.cell? ⟨gb473, 1, none⟩ = some (.int .i64 t468) ∧ w'.cell? ⟨gb473, 2, none⟩ = some (.int .i64 t469) ∧ w'.cell? ⟨gb473, 3, none⟩ = some (.int .i64 t470) ∧ w'.cell? ⟨gb450, 0, none⟩ = some (.int .i64 t446) ∧ w'.cell? ⟨gb450, 1, none⟩ = some (.int .i64 t447) ∧ w'.cell? ⟨gb450, 2, none⟩ = some (.int .i64 t448) ∧ w'.cell? ⟨gb450, 3, none⟩ = some (.int .i64 t449)) (ds := []) Fl113 (by kernel_rfl) rfl rfl ⟨(blk_cell BK473.out 0).trans rfl, (blk_cell BK473.out 1).trans rfl, (blk_cell BK473.out 2).trans rfl, (blk_cell BK473.out 3).trans rfl, (blk_cell BK450.out 0).trans rfl, (blk_cell BK450.out 1).trans rfl, (blk_cell BK450.out 2).trans rfl, (blk_cell BK450.out 3).trans rfl⟩ (fun hHeld => ?_); refine with_tabW chequerlaw06_HeadRemarks.tab15 chequerlaw06_HeadRemarks.bits15 (fun HT_ HW_ => ?_)
                                       generalize w79.drew = w80 at BK450 BK473 HB hHeld ⊢
                                       refine take_ (i := 0) (N := some 97) (v := ?_) (a' := ?_) Fl114 rfl rfl (take_ofW HT_.out HW_.out (by kernel_rfl)) (fun _ _ _ h => h) (Or.inl ⟨by rfl, ?_⟩) hHeld ?_ ?_
                                       rotate_left
                                       · rintro w' ⟨s0, s1, s2, s3, s4, s5, s6, s7⟩
                                         go_simp
                                         with_reducible rfl
                                       rotate_left
                                       · simp only [Act.put, List.setIfInBounds_toArray, List.set_cons_zero, List.set_cons_succ, i64_w, i32_w]
                                         rfl
                                       refine take_ (i := 2) (N := some 99) (v := ?_) (a' := ?_) Fl115 rfl rfl (take_ofW HT_.out HW_.out (by kernel_rfl)) (fun _ _ _ h => h) (Or.inl ⟨by rfl, ?_⟩) hHeld ?_ ?_
                                       rotate_left
                                       · rintro w' ⟨s0, s1, s2, s3, s4, s5, s6, s7⟩
                                         go_simp
                                         with_reducible rfl
                                       rotate_left
                                       · simp only [Act.put, List.setIfInBounds_toArray, List.set_cons_zero, List.set_cons_succ, i64_w, i32_w]
                                         rfl
                                       refine one_ (i := 1) (N := some 98) Fl116 rfl rfl (one_of HT_.out (by kernel_rfl)) (by decide) (fun K hK => ?_)
                                       refine goes_ Try.func17 (by kernel_rfl) rfl #[.agg #[.int .i64 t467, .int .i64 t468, .int .i64 t469, .int .i64 t470]] (by rfl) rfl rfl (by (try simp only [List.map_toArray, List.map_cons, List.map_nil]); first | done | rfl | (simp only [List.length_drop, List.length_take]; rfl)) ?_
                                       with_reducible refine (chequerlaw06_as.calls t467 t468 t469 t470 t474 t475 t476 t477 _ A60.out).mono ?_
                                       rintro e w81 ⟨rfl, hb⟩
                                       refine ⟨_, rfl, ?_⟩
                                       replace BK450 := Aside0.mk (blk_below (hp_ BK450.out) hb)
                                       replace BK473 := Aside0.mk (blk_below (hp_ BK473.out) hb)
                                       replace HB := Aside0.mk (below_step bp_ hb)
                                       (try clear hb)
                                       (try clear hb2)
                                       (try clear hk)
                                       (try clear hi)
                                       refine hK.out _ _ ⟨(blk_cell BK473.out 0).trans rfl, (blk_cell BK473.out 1).trans rfl, (blk_cell BK473.out 2).trans rfl, (blk_cell BK473.out 3).trans rfl, (blk_cell BK450.out 0).trans rfl, (blk_cell BK450.out 1).trans rfl, (blk_cell BK450.out 2).trans rfl, (blk_cell BK450.out 3).trans rfl⟩ (fun hHeld => ?_)
                                       clear hK K
                                       refine norm_ (a' := ?_) ?_ ?_
                                       rotate_left
                                       · show Act.put _ (some 98) _ = _
                                         simp only [Act.put, List.setIfInBounds_toArray, List.set_cons_zero, List.set_cons_succ, i64_w, i32_w]
                                         rfl
                                       refine pur_ (i := 3) (N := some 100) Fl117 (any_of HT_.out (by kernel_rfl)) ?_
                                       refine pur_ (i := 4) (N := some 101) Fl118 (any_of HT_.out (by kernel_rfl)) ?_
                                       refine pur_ (i := 5) (N := some 102) Fl119 (any_of HT_.out (by kernel_rfl)) ?_
                                       refine pur_ (i := 6) (N := some 103) Fl120 (any_of HT_.out (by kernel_rfl)) ?_
                                       refine pur_ (i := 7) (N := some 104) Fl121 (any_of HT_.out (by kernel_rfl)) ?_
                                       refine pur_ (i := 8) (N := some 105) Fl122 (any_of HT_.out (by kernel_rfl)) ?_
                                       refine pur_ (i := 9) (N := some 106) Fl123 (any_of HT_.out (by kernel_rfl)) ?_
                                       refine pur_ (i := 10) (N := some 107) Fl124 (any_of HT_.out (by kernel_rfl)) ?_
                                       refine pur_ (i := 11) (N := some 108) Fl125 (any_of HT_.out (by kernel_rfl)) ?_
                                       refine pur_ (i := 12) (N := some 109) Fl126 (any_of HT_.out (by kernel_rfl)) ?_
                                       refine pur_ (i := 13) (N := some 110) Fl127 (any_of HT_.out (by kernel_rfl)) ?_
                                       refine pur_ (i := 14) (N := some 111) Fl128 (any_of HT_.out (by kernel_rfl)) ?_
                                       refine pun_ (i := 15) (N := some 112) Fl129 (any_of HT_.out (by kernel_rfl)) ?_
                                       refine pur_ (i := 16) (N := some 113) Fl130 (any_of HT_.out (by kernel_rfl)) ?_
                                       refine pur_ (i := 17) (N := some 6) Fl131 (any_of HT_.out (by kernel_rfl)) ?_
                                       refine done_ (done_of HT_.out (by kernel_rfl)) ?_
                                       try go_wp2
                                       go_ret
                                       exact ⟨by first | rfl | (simp [errW_none, errW_some] <;> rfl) | (simp [*, errW_none, errW_some] <;> rfl), bp_⟩
                                   · rw [if_neg c62] at H
                                     have c62b0 : (t471 == ((x11_36 ++ (strOfNums y457)).size : Int)) = false := beq_eq_false_iff_ne.mpr c62
                                     (try (have c62b0y := c62b0; simp only [ByteArray.size_append, Int.natCast_add] at c62b0y))
                                     have c62b1 : (t471 != ((x11_36 ++ (strOfNums y457)).size : Int)) = true := bne_iff_ne.mpr c62
                                     obtain rfl := Option.some.inj H
                                     try go_wp2_with (first | ((with_reducible refine gate_callee (f := 14) rfl ?_); refine goQ_ (some 92) Try.func14 #[] ?_; (with_reducible refine (head_All.calls  t464 t465 t466 _ A58.out).mono ?_); rintro e w82 ⟨rfl, hb⟩; refine ⟨_, rfl, ?_⟩; replace BK450 := Aside0.mk (blk_below (hp_ BK450.out) hb); replace HB := Aside0.mk (below_step bp_ hb); (try clear hb); (try clear hb2); (try clear hk); (try clear hi)) | ((with_reducible refine gate_callee (f := 15) rfl ?_); refine goQ_ (some 93) Try.func15 #[.string (x11_36 ++ (strOfNums y457)), .agg #[.int .i64 t464, .int .i64 t465, .int .i64 t466]] ?_; (with_reducible refine (head_Parse.calls kj36 (x11_36 ++ (strOfNums y457)) t464 t465 t466 t467 t468 t469 t470 t471 t472 _ A59.out).mono ?_); rintro e w83 ⟨rfl, hb⟩; refine ⟨_, rfl, ?_⟩; replace BK450 := Aside0.mk (blk_below (hp_ BK450.out) hb); replace HB := Aside0.mk (below_step bp_ hb); (try clear hb); (try clear hb2); (try clear hk); (try clear hi)) | ((with_reducible refine gate_dst (N := 12) rfl ?_); (try (refine gate_guard (by rfl) ?_; dsimp only)); refine box_event ?hg (N := 12) ?hd (cs := #[.int .i64 0, .int .i64 0, .int .i64 0, .int .i64 0]) (t := 36) ?hr ?_; (case hd => rfl); (case hg => rfl); (case hr => first | (go_simp; done) | (go_simp; rfl)); intro gb473 hg w84 hbox hb; have BK473 := Aside0.mk (hbox); have GW473 := Aside0.mk ((by rw [hg]; exact (below_size bp_) : w.heap.size ≤ gb473)); have GE473 := Aside0.mk ((by rw [hg]; exact (below_size bp_) : w.heap.size ≤ gb473)); replace HB := Aside0.mk (below_step bp_ hb); have NB450_473 := Aside0.mk ((nlt_ hg (hp_ BK450.out))); have NB473_450 := Aside0.mk ((ngt_ hg (hp_ BK450.out))); replace BK450 := Aside0.mk (blk_below (hp_ BK450.out) hb); clear hb hbox hg; have hnb85 := NB473_450.out; have hnc85 := NB450_473.out; have hcz86_0 : w84.cell? ⟨gb473, 0, none⟩ = some (.int .i64 0) := (blk_cell BK473.out 0).trans rfl; have hcz86_1 : w84.cell? ⟨gb473, 1, none⟩ = some (.int .i64 0) := (blk_cell BK473.out 1).trans rfl; have hcz86_2 : w84.cell? ⟨gb473, 2, none⟩ = some (.int .i64 0) := (blk_cell BK473.out 2).trans rfl; have hcz86_3 : w84.cell? ⟨gb473, 3, none⟩ = some (.int .i64 0) := (blk_cell BK473.out 3).trans rfl; have hfz86_0 := blk_frozen BK473.out 0; have hfz86_1 := blk_frozen BK473.out 1; have hfz86_2 := blk_frozen BK473.out 2; have hfz86_3 := blk_frozen BK473.out 3))
                                     have n0_ : Aside0 (((((w84.setCell ⟨gb473, 0, none⟩ (.int .i64 t467)).setCell ⟨gb473, 1, none⟩ (.int .i64 t468)).setCell ⟨gb473, 2, none⟩ (.int .i64 t469)).setCell ⟨gb473, 3, none⟩ (.int .i64 t470)).heap[gb450]? = some (.cells #[.int .i64 t446, .int .i64 t447, .int .i64 t448, .int .i64 t449] 25 (0, 0))) := ⟨hf_ BK450.out NB450_473.out⟩
                                     have n1_ : Aside0 (((((w84.setCell ⟨gb473, 0, none⟩ (.int .i64 t467)).setCell ⟨gb473, 1, none⟩ (.int .i64 t468)).setCell ⟨gb473, 2, none⟩ (.int .i64 t469)).setCell ⟨gb473, 3, none⟩ (.int .i64 t470)).heap[gb473]? = some (.cells #[.int .i64 t467, .int .i64 t468, .int .i64 t469, .int .i64 t470] 36 (0, 0))) := ⟨by (with_reducible repeat (first | refine blk_drewN ?_ _ | refine blk_drew ?_ | refine blk_alloc ?_ _)); refine blk_put (cs := #[.int .i64 t467, .int .i64 t468, .int .i64 t469, .int .i64 0]) ?_ 3 _ rfl; (with_reducible repeat (first | refine blk_drewN ?_ _ | refine blk_drew ?_ | refine blk_alloc ?_ _)); refine blk_put (cs := #[.int .i64 t467, .int .i64 t468, .int .i64 0, .int .i64 0]) ?_ 2 _ rfl; (with_reducible repeat (first | refine blk_drewN ?_ _ | refine blk_drew ?_ | refine blk_alloc ?_ _)); refine blk_put (cs := #[.int .i64 t467, .int .i64 0, .int .i64 0, .int .i64 0]) ?_ 1 _ rfl; (with_reducible repeat (first | refine blk_drewN ?_ _ | refine blk_drew ?_ | refine blk_alloc ?_ _)); refine blk_put (cs := #[.int .i64 0, .int .i64 0, .int .i64 0, .int .i64 0]) ?_ 0 _ rfl; (with_reducible repeat (first | refine blk_drewN ?_ _ | refine blk_drew ?_ | refine blk_alloc ?_ _)); exact BK473.out⟩
                                     have n2_ : Aside0 (Below w.heap.size w ((((w84.setCell ⟨gb473, 0, none⟩ (.int .i64 t467)).setCell ⟨gb473, 1, none⟩ (.int .i64 t468)).setCell ⟨gb473, 2, none⟩ (.int .i64 t469)).setCell ⟨gb473, 3, none⟩ (.int .i64 t470))) := ⟨bp_⟩
                                     (try clear BK450)
                                     (try clear BK473)
                                     (try clear HB)
                                     generalize ((((w84.setCell ⟨gb473, 0, none⟩ (.int .i64 t467)).setCell ⟨gb473, 1, none⟩ (.int .i64 t468)).setCell ⟨gb473, 2, none⟩ (.int .i64 t469)).setCell ⟨gb473, 3, none⟩ (.int .i64 t470)) = w87 at n0_ n1_ n2_ ⊢
                                     have BK450 := n0_
                                     have BK473 := n1_
                                     have HB := n2_
                                     clear n0_ n1_ n2_
                                     replace BK450 := Aside0.mk (blk_drew BK450.out)
                                     replace BK473 := Aside0.mk (blk_drew BK473.out)
                                     replace HB := Aside0.mk (below_drew1 HB.out)
                                     refine start_ (n := 18) (S := fun w' => w'.cell? ⟨gb473, 0, none⟩ = some (.int .i64 t467) ∧ w'.cell? ⟨gb473, 1, none⟩ = some (.int .i64 t468) ∧ w'.cell? ⟨gb473, 2, none⟩ = some (.int .i64 t469) ∧ w'.cell? ⟨gb473, 3, none⟩ = some (.int .i64 t470) ∧ w'.cell? ⟨gb450, 0, none⟩ = some (.int .i64 t446) ∧ w'.cell? ⟨gb450, 1, none⟩ = some (.int .i64 t447) ∧ w'.cell? ⟨gb450, 2, none⟩ = some (.int .i64 t448) ∧ w'.cell? ⟨gb450, 3, none⟩ = some (.int .i64 t449)) (ds := []) Fl113 (by kernel_rfl) rfl rfl ⟨(blk_cell BK473.out 0).trans rfl, (blk_cell BK473.out 1).trans rfl, (blk_cell BK473.out 2).trans rfl, (blk_cell BK473.out 3).trans rfl, (blk_cell BK450.out 0).trans rfl, (blk_cell BK450.out 1).trans rfl, (blk_cell BK450.out 2).trans rfl, (blk_cell BK450.out 3).trans rfl⟩ (fun hHeld => ?_); refine with_tabW chequerlaw06_HeadRemarks.tab15 chequerlaw06_HeadRemarks.bits15 (fun HT_ HW_ => ?_)
                                     generalize w87.drew = w88 at BK450 BK473 HB hHeld ⊢
                                     refine take_ (i := 0) (N := some 97) (v := ?_) (a' := ?_) Fl114 rfl rfl (take_ofW HT_.out HW_.out (by kernel_rfl)) (fun _ _ _ h => h) (Or.inl ⟨by rfl, ?_⟩) hHeld ?_ ?_
                                     rotate_left
                                     · rintro w' ⟨s0, s1, s2, s3, s4, s5, s6, s7⟩
                                       go_simp
                                       with_reducible rfl
                                     rotate_left
                                     · simp only [Act.put, List.setIfInBounds_toArray, List.set_cons_zero, List.set_cons_succ, i64_w, i32_w]
                                       rfl
                                     refine take_ (i := 2) (N := some 99) (v := ?_) (a' := ?_) Fl115 rfl rfl (take_ofW HT_.out HW_.out (by kernel_rfl)) (fun _ _ _ h => h) (Or.inl ⟨by rfl, ?_⟩) hHeld ?_ ?_
                                     rotate_left
                                     · rintro w' ⟨s0, s1, s2, s3, s4, s5, s6, s7⟩
                                       go_simp
                                       with_reducible rfl
                                     rotate_left
                                     · simp only [Act.put, List.setIfInBounds_toArray, List.set_cons_zero, List.set_cons_succ, i64_w, i32_w]
                                       rfl
                                     refine one_ (i := 1) (N := some 98) Fl116 rfl rfl (one_of HT_.out (by kernel_rfl)) (by decide) (fun K hK => ?_)
                                     refine goes_ Try.func17 (by kernel_rfl) rfl #[.agg #[.int .i64 t467, .int .i64 t468, .int .i64 t469, .int .i64 t470]] (by rfl) rfl rfl (by (try simp only [List.map_toArray, List.map_cons, List.map_nil]); first | done | rfl | (simp only [List.length_drop, List.length_take]; rfl)) ?_
                                     with_reducible refine (chequerlaw06_as.calls t467 t468 t469 t470 t474 t475 t476 t477 _ A60.out).mono ?_
                                     rintro e w89 ⟨rfl, hb⟩
                                     refine ⟨_, rfl, ?_⟩
                                     replace BK450 := Aside0.mk (blk_below (hp_ BK450.out) hb)
                                     replace BK473 := Aside0.mk (blk_below (hp_ BK473.out) hb)
                                     replace HB := Aside0.mk (below_step bp_ hb)
                                     (try clear hb)
                                     (try clear hb2)
                                     (try clear hk)
                                     (try clear hi)
                                     refine hK.out _ _ ⟨(blk_cell BK473.out 0).trans rfl, (blk_cell BK473.out 1).trans rfl, (blk_cell BK473.out 2).trans rfl, (blk_cell BK473.out 3).trans rfl, (blk_cell BK450.out 0).trans rfl, (blk_cell BK450.out 1).trans rfl, (blk_cell BK450.out 2).trans rfl, (blk_cell BK450.out 3).trans rfl⟩ (fun hHeld => ?_)
                                     clear hK K
                                     refine norm_ (a' := ?_) ?_ ?_
                                     rotate_left
                                     · show Act.put _ (some 98) _ = _
                                       simp only [Act.put, List.setIfInBounds_toArray, List.set_cons_zero, List.set_cons_succ, i64_w, i32_w]
                                       rfl
                                     refine pur_ (i := 3) (N := some 100) Fl117 (any_of HT_.out (by kernel_rfl)) ?_
                                     refine pur_ (i := 4) (N := some 101) Fl118 (any_of HT_.out (by kernel_rfl)) ?_
                                     refine pur_ (i := 5) (N := some 102) Fl119 (any_of HT_.out (by kernel_rfl)) ?_
                                     refine pur_ (i := 6) (N := some 103) Fl120 (any_of HT_.out (by kernel_rfl)) ?_
                                     refine pur_ (i := 7) (N := some 104) Fl121 (any_of HT_.out (by kernel_rfl)) ?_
                                     refine pur_ (i := 8) (N := some 105) Fl122 (any_of HT_.out (by kernel_rfl)) ?_
                                     refine pur_ (i := 9) (N := some 106) Fl123 (any_of HT_.out (by kernel_rfl)) ?_
                                     refine pur_ (i := 10) (N := some 107) Fl124 (any_of HT_.out (by kernel_rfl)) ?_
                                     refine pun_ (i := 11) (N := some 108) Fl125 (any_of HT_.out (by kernel_rfl)) ?_
                                     refine pun_ (i := 12) (N := some 109) Fl126 (any_of HT_.out (by kernel_rfl)) ?_
                                     refine pur_ (i := 13) (N := some 110) Fl127 (any_of HT_.out (by kernel_rfl)) ?_
                                     refine pur_ (i := 14) (N := some 111) Fl128 (any_of HT_.out (by kernel_rfl)) ?_
                                     refine pun_ (i := 15) (N := some 112) Fl129 (any_of HT_.out (by kernel_rfl)) ?_
                                     refine pur_ (i := 16) (N := some 113) Fl130 (any_of HT_.out (by kernel_rfl)) ?_
                                     refine pur_ (i := 17) (N := some 6) Fl131 (any_of HT_.out (by kernel_rfl)) ?_
                                     refine done_ (done_of HT_.out (by kernel_rfl)) ?_
                                     try go_wp2
                                     go_ret
                                     exact ⟨by first | rfl | (simp [errW_none, errW_some] <;> rfl) | (simp [*, errW_none, errW_some] <;> rfl), bp_⟩
                                 · rw [if_neg c61] at H
                                   have c61b0 : (t474 == t446 && (t475 == t447 && (t476 == t448 && (t477 == t449)))) = false := by simpa using c61
                                   (try (have c61b1 : decide (t474 = t446 && (t475 == t447 && (t476 == t448 && (t477 == t449)))) = false := by simpa using c61))
                                   (try (have c61b2 : (t474 == t446 && (t475 == t447 && (t476 == t448 && (t477 == t449)))) = false := by simpa using c61))
                                   (try (have c61b3 : ¬ (t474 = t446 && (t475 == t447 && (t476 == t448 && (t477 == t449)))) := by simpa using c61))
                                   clear c61
                                   obtain rfl := Option.some.inj H
                                   try go_wp2_with (first | ((with_reducible refine gate_callee (f := 14) rfl ?_); refine goQ_ (some 92) Try.func14 #[] ?_; (with_reducible refine (head_All.calls  t464 t465 t466 _ A58.out).mono ?_); rintro e w90 ⟨rfl, hb⟩; refine ⟨_, rfl, ?_⟩; replace BK450 := Aside0.mk (blk_below (hp_ BK450.out) hb); replace HB := Aside0.mk (below_step bp_ hb); (try clear hb); (try clear hb2); (try clear hk); (try clear hi)) | ((with_reducible refine gate_callee (f := 15) rfl ?_); refine goQ_ (some 93) Try.func15 #[.string (x11_36 ++ (strOfNums y457)), .agg #[.int .i64 t464, .int .i64 t465, .int .i64 t466]] ?_; (with_reducible refine (head_Parse.calls kj36 (x11_36 ++ (strOfNums y457)) t464 t465 t466 t467 t468 t469 t470 t471 t472 _ A59.out).mono ?_); rintro e w91 ⟨rfl, hb⟩; refine ⟨_, rfl, ?_⟩; replace BK450 := Aside0.mk (blk_below (hp_ BK450.out) hb); replace HB := Aside0.mk (below_step bp_ hb); (try clear hb); (try clear hb2); (try clear hk); (try clear hi)) | ((with_reducible refine gate_dst (N := 12) rfl ?_); (try (refine gate_guard (by rfl) ?_; dsimp only)); refine box_event ?hg (N := 12) ?hd (cs := #[.int .i64 0, .int .i64 0, .int .i64 0, .int .i64 0]) (t := 36) ?hr ?_; (case hd => rfl); (case hg => rfl); (case hr => first | (go_simp; done) | (go_simp; rfl)); intro gb473 hg w92 hbox hb; have BK473 := Aside0.mk (hbox); have GW473 := Aside0.mk ((by rw [hg]; exact (below_size bp_) : w.heap.size ≤ gb473)); have GE473 := Aside0.mk ((by rw [hg]; exact (below_size bp_) : w.heap.size ≤ gb473)); replace HB := Aside0.mk (below_step bp_ hb); have NB450_473 := Aside0.mk ((nlt_ hg (hp_ BK450.out))); have NB473_450 := Aside0.mk ((ngt_ hg (hp_ BK450.out))); replace BK450 := Aside0.mk (blk_below (hp_ BK450.out) hb); clear hb hbox hg; have hnb93 := NB473_450.out; have hnc93 := NB450_473.out; have hcz94_0 : w92.cell? ⟨gb473, 0, none⟩ = some (.int .i64 0) := (blk_cell BK473.out 0).trans rfl; have hcz94_1 : w92.cell? ⟨gb473, 1, none⟩ = some (.int .i64 0) := (blk_cell BK473.out 1).trans rfl; have hcz94_2 : w92.cell? ⟨gb473, 2, none⟩ = some (.int .i64 0) := (blk_cell BK473.out 2).trans rfl; have hcz94_3 : w92.cell? ⟨gb473, 3, none⟩ = some (.int .i64 0) := (blk_cell BK473.out 3).trans rfl; have hfz94_0 := blk_frozen BK473.out 0; have hfz94_1 := blk_frozen BK473.out 1; have hfz94_2 := blk_frozen BK473.out 2; have hfz94_3 := blk_frozen BK473.out 3))
                                   have n0_ : Aside0 (((((w92.setCell ⟨gb473, 0, none⟩ (.int .i64 t467)).setCell ⟨gb473, 1, none⟩ (.int .i64 t468)).setCell ⟨gb473, 2, none⟩ (.int .i64 t469)).setCell ⟨gb473, 3, none⟩ (.int .i64 t470)).heap[gb450]? = some (.cells #[.int .i64 t446, .int .i64 t447, .int .i64 t448, .int .i64 t449] 25 (0, 0))) := ⟨hf_ BK450.out NB450_473.out⟩
                                   have n1_ : Aside0 (((((w92.setCell ⟨gb473, 0, none⟩ (.int .i64 t467)).setCell ⟨gb473, 1, none⟩ (.int .i64 t468)).setCell ⟨gb473, 2, none⟩ (.int .i64 t469)).setCell ⟨gb473, 3, none⟩ (.int .i64 t470)).heap[gb473]? = some (.cells #[.int .i64 t467, .int .i64 t468, .int .i64 t469, .int .i64 t470] 36 (0, 0))) := ⟨by (with_reducible repeat (first | refine blk_drewN ?_ _ | refine blk_drew ?_ | refine blk_alloc ?_ _)); refine blk_put (cs := #[.int .i64 t467, .int .i64 t468, .int .i64 t469, .int .i64 0]) ?_ 3 _ rfl; (with_reducible repeat (first | refine blk_drewN ?_ _ | refine blk_drew ?_ | refine blk_alloc ?_ _)); refine blk_put (cs := #[.int .i64 t467, .int .i64 t468, .int .i64 0, .int .i64 0]) ?_ 2 _ rfl; (with_reducible repeat (first | refine blk_drewN ?_ _ | refine blk_drew ?_ | refine blk_alloc ?_ _)); refine blk_put (cs := #[.int .i64 t467, .int .i64 0, .int .i64 0, .int .i64 0]) ?_ 1 _ rfl; (with_reducible repeat (first | refine blk_drewN ?_ _ | refine blk_drew ?_ | refine blk_alloc ?_ _)); refine blk_put (cs := #[.int .i64 0, .int .i64 0, .int .i64 0, .int .i64 0]) ?_ 0 _ rfl; (with_reducible repeat (first | refine blk_drewN ?_ _ | refine blk_drew ?_ | refine blk_alloc ?_ _)); exact BK473.out⟩
                                   have n2_ : Aside0 (Below w.heap.size w ((((w92.setCell ⟨gb473, 0, none⟩ (.int .i64 t467)).setCell ⟨gb473, 1, none⟩ (.int .i64 t468)).setCell ⟨gb473, 2, none⟩ (.int .i64 t469)).setCell ⟨gb473, 3, none⟩ (.int .i64 t470))) := ⟨bp_⟩
                                   (try clear BK450)
                                   (try clear BK473)
                                   (try clear HB)
                                   generalize ((((w92.setCell ⟨gb473, 0, none⟩ (.int .i64 t467)).setCell ⟨gb473, 1, none⟩ (.int .i64 t468)).setCell ⟨gb473, 2, none⟩ (.int .i64 t469)).setCell ⟨gb473, 3, none⟩ (.int .i64 t470)) = w95 at n0_ n1_ n2_ ⊢
                                   have BK450 := n0_
                                   have BK473 := n1_
                                   have HB := n2_
                                   clear n0_ n1_ n2_
                                   replace BK450 := Aside0.mk (blk_drew BK450.out)
                                   replace BK473 := Aside0.mk (blk_drew BK473.out)
                                   replace HB := Aside0.mk (below_drew1 HB.out)
                                   refine start_ (n := 18) (S := fun w' => w'.cell? ⟨gb473, 0, none⟩ = some (.int .i64 t467) ∧ w'.cell? ⟨gb473, 1, none⟩ = some (.int .i64 t468) ∧ w'.cell? ⟨gb473, 2, none⟩ = some (.int .i64 t469) ∧ w'.cell? ⟨gb473, 3, none⟩ = some (.int .i64 t470) ∧ w'.cell? ⟨gb450, 0, none⟩ = some (.int .i64 t446) ∧ w'.cell? ⟨gb450, 1, none⟩ = some (.int .i64 t447) ∧ w'.cell? ⟨gb450, 2, none⟩ = some (.int .i64 t448) ∧ w'.cell? ⟨gb450, 3, none⟩ = some (.int .i64 t449)) (ds := []) Fl113 (by kernel_rfl) rfl rfl ⟨(blk_cell BK473.out 0).trans rfl, (blk_cell BK473.out 1).trans rfl, (blk_cell BK473.out 2).trans rfl, (blk_cell BK473.out 3).trans rfl, (blk_cell BK450.out 0).trans rfl, (blk_cell BK450.out 1).trans rfl, (blk_cell BK450.out 2).trans rfl, (blk_cell BK450.out 3).trans rfl⟩ (fun hHeld => ?_); refine with_tabW chequerlaw06_HeadRemarks.tab15 chequerlaw06_HeadRemarks.bits15 (fun HT_ HW_ => ?_)
                                   generalize w95.drew = w96 at BK450 BK473 HB hHeld ⊢
                                   refine take_ (i := 0) (N := some 97) (v := ?_) (a' := ?_) Fl114 rfl rfl (take_ofW HT_.out HW_.out (by kernel_rfl)) (fun _ _ _ h => h) (Or.inl ⟨by rfl, ?_⟩) hHeld ?_ ?_
                                   rotate_left
                                   · rintro w' ⟨s0, s1, s2, s3, s4, s5, s6, s7⟩
                                     go_simp
                                     with_reducible rfl
                                   rotate_left
                                   · simp only [Act.put, List.setIfInBounds_toArray, List.set_cons_zero, List.set_cons_succ, i64_w, i32_w]
                                     rfl
                                   refine take_ (i := 2) (N := some 99) (v := ?_) (a' := ?_) Fl115 rfl rfl (take_ofW HT_.out HW_.out (by kernel_rfl)) (fun _ _ _ h => h) (Or.inl ⟨by rfl, ?_⟩) hHeld ?_ ?_
                                   rotate_left
                                   · rintro w' ⟨s0, s1, s2, s3, s4, s5, s6, s7⟩
                                     go_simp
                                     with_reducible rfl
                                   rotate_left
                                   · simp only [Act.put, List.setIfInBounds_toArray, List.set_cons_zero, List.set_cons_succ, i64_w, i32_w]
                                     rfl
                                   refine one_ (i := 1) (N := some 98) Fl116 rfl rfl (one_of HT_.out (by kernel_rfl)) (by decide) (fun K hK => ?_)
                                   refine goes_ Try.func17 (by kernel_rfl) rfl #[.agg #[.int .i64 t467, .int .i64 t468, .int .i64 t469, .int .i64 t470]] (by rfl) rfl rfl (by (try simp only [List.map_toArray, List.map_cons, List.map_nil]); first | done | rfl | (simp only [List.length_drop, List.length_take]; rfl)) ?_
                                   with_reducible refine (chequerlaw06_as.calls t467 t468 t469 t470 t474 t475 t476 t477 _ A60.out).mono ?_
                                   rintro e w97 ⟨rfl, hb⟩
                                   refine ⟨_, rfl, ?_⟩
                                   replace BK450 := Aside0.mk (blk_below (hp_ BK450.out) hb)
                                   replace BK473 := Aside0.mk (blk_below (hp_ BK473.out) hb)
                                   replace HB := Aside0.mk (below_step bp_ hb)
                                   (try clear hb)
                                   (try clear hb2)
                                   (try clear hk)
                                   (try clear hi)
                                   refine hK.out _ _ ⟨(blk_cell BK473.out 0).trans rfl, (blk_cell BK473.out 1).trans rfl, (blk_cell BK473.out 2).trans rfl, (blk_cell BK473.out 3).trans rfl, (blk_cell BK450.out 0).trans rfl, (blk_cell BK450.out 1).trans rfl, (blk_cell BK450.out 2).trans rfl, (blk_cell BK450.out 3).trans rfl⟩ (fun hHeld => ?_)
                                   clear hK K
                                   refine norm_ (a' := ?_) ?_ ?_
                                   rotate_left
                                   · show Act.put _ (some 98) _ = _
                                     simp only [Act.put, List.setIfInBounds_toArray, List.set_cons_zero, List.set_cons_succ, i64_w, i32_w]
                                     rfl
                                   refine pur_ (i := 3) (N := some 100) Fl117 (any_of HT_.out (by kernel_rfl)) ?_
                                   refine pur_ (i := 4) (N := some 101) Fl118 (any_of HT_.out (by kernel_rfl)) ?_
                                   refine pun_ (i := 5) (N := some 102) Fl119 (any_of HT_.out (by kernel_rfl)) ?_
                                   refine pun_ (i := 6) (N := some 103) Fl120 (any_of HT_.out (by kernel_rfl)) ?_
                                   refine pun_ (i := 7) (N := some 104) Fl121 (any_of HT_.out (by kernel_rfl)) ?_
                                   refine pun_ (i := 8) (N := some 105) Fl122 (any_of HT_.out (by kernel_rfl)) ?_
                                   refine pur_ (i := 9) (N := some 106) Fl123 (any_of HT_.out (by kernel_rfl)) ?_
                                   refine pur_ (i := 10) (N := some 107) Fl124 (any_of HT_.out (by kernel_rfl)) ?_
                                   refine pun_ (i := 11) (N := some 108) Fl125 (any_of HT_.out (by kernel_rfl)) ?_
                                   refine pun_ (i := 12) (N := some 109) Fl126 (any_of HT_.out (by kernel_rfl)) ?_
                                   refine pur_ (i := 13) (N := some 110) Fl127 (any_of HT_.out (by kernel_rfl)) ?_
                                   refine pur_ (i := 14) (N := some 111) Fl128 (any_of HT_.out (by kernel_rfl)) ?_
                                   refine pun_ (i := 15) (N := some 112) Fl129 (any_of HT_.out (by kernel_rfl)) ?_
                                   refine pur_ (i := 16) (N := some 113) Fl130 (any_of HT_.out (by kernel_rfl)) ?_
                                   refine pur_ (i := 17) (N := some 6) Fl131 (any_of HT_.out (by kernel_rfl)) ?_
                                   refine done_ (done_of HT_.out (by kernel_rfl)) ?_
                                   try go_wp2
                                   go_ret
                                   exact ⟨by first | rfl | (simp [errW_none, errW_some] <;> rfl) | (simp [*, errW_none, errW_some] <;> rfl), bp_⟩
                               · rw [if_neg c57] at H
                                 exact absurd H (by simp)
                           · rw [if_neg c36] at H
                             exact absurd H (by simp)
                         · rw [if_neg c34] at H
                           exact absurd H (by simp)
                       · rw [if_neg c33] at H
                         exact absurd H (by simp)
                     · rw [if_neg c32] at H
                       exact absurd H (by simp)
                   · rw [if_neg c31] at H
                     exact absurd H (by simp)
                 · rw [if_neg c30] at H
                   exact absurd H (by simp)
               · rw [if_neg c28] at H
                 exact absurd H (by simp)
             · rw [if_neg c27] at H
               exact absurd H (by simp)
           · rw [if_neg c26] at H
             exact absurd H (by simp)
         · rw [if_neg c25] at H
           exact absurd H (by simp)
       · rw [if_neg c23] at H
         exact absurd H (by simp)
     · rw [if_neg c22] at H
       exact absurd H (by simp)

/-- THE ONE PURE STATEMENT of chequerlaw06_HeadRemarks. -/
def chequerlaw06_HeadRemarks.Pure : Prop := ∀ (a0_0 : Int) (a0_1 : Int) (a0_2 : Int) (a0_3 : Int) (a1 : Int) (a2 : ByteArray), (Lit.int .i64 a0_0).wf = true → (Lit.int .i64 a0_1).wf = true → (Lit.int .i64 a0_2).wf = true → (Lit.int .i64 a0_3).wf = true → (Lit.int .i64 a1).wf = true → a2.size ≤ 140737488351232 → ∃ k, chequerlaw06_HeadRemarks.f k a0_0 a0_1 a0_2 a0_3 a1 a2 = some true
theorem chequerlaw06_HeadRemarks.walk (P : chequerlaw06_HeadRemarks.Pure) (a0_0 : Int) (a0_1 : Int) (a0_2 : Int) (a0_3 : Int) (a1 : Int) (a2 : ByteArray) (w : World) (w0_0 : (Lit.int .i64 a0_0).wf = true) (w0_1 : (Lit.int .i64 a0_1).wf = true) (w0_2 : (Lit.int .i64 a0_2).wf = true) (w0_3 : (Lit.int .i64 a0_3).wf = true) (w1 : (Lit.int .i64 a1).wf = true) (w2 : a2.size ≤ 140737488351232) :
 Calls Try.prog 6 #[.agg #[.int .i64 a0_0, .int .i64 a0_1, .int .i64 a0_2, .int .i64 a0_3], .int .i64 a1, .string a2] w fun e w' => e = .returned (.bool true) ∧ Below w.heap.size w w' := by
 obtain ⟨k, h⟩ := P a0_0 a0_1 a0_2 a0_3 a1 a2 w0_0 w0_1 w0_2 w0_3 w1 w2
 refine (chequerlaw06_HeadRemarks.calls k a0_0 a0_1 a0_2 a0_3 a1 a2 true w h).mono ?_
 rintro e w' ⟨rfl, hd⟩
 exact ⟨rfl, hd⟩

end Go.Proofs.Ytmimfljiighbaaa.Q
