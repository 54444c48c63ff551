-- written by our own program (wip/tools/myprint.py) out of the translation, by the kit's print; Lean checks it
import Derived.Test.YtmimfljiighbaaaQ0
import Derived.Test.YtmimfljiighbaaaQ4
namespace Go.Proofs.Ytmimfljiighbaaa.Q
open Go.RowKit Go.Proofs.YtmimfljiighbaaaW.PrintWords Go.Proofs.YtmimfljiighbaaaW.PrintLast Go.Proofs.YtmimfljiighbaaaW.PrintMore
attribute [local go_sem] max2_int min2_int max_two min_two max_three min_three max_four min_four   -- for this text's walks alone
set_option linter.unusedVariables false
set_option linter.unusedSimpArgs false

abbrev Fl1 : Array Bool := #[false, false, false, false, false, false, false, false, false, false, false, false, false, false, false, false]
abbrev Fl2 : Array Bool := #[true, false, false, false, false, false, false, false, false, false, false, false, false, false, false, false]
abbrev Fl3 : Array Bool := #[true, false, false, false, false, true, false, false, false, false, false, false, false, false, false, false]
abbrev Fl4 : Array Bool := #[true, false, false, false, false, true, false, false, false, false, true, false, false, false, false, false]
abbrev Fl5 : Array Bool := #[true, true, false, false, false, true, false, false, false, false, true, false, false, false, false, false]
abbrev Fl6 : Array Bool := #[true, true, false, false, false, true, true, false, false, false, true, false, false, false, false, false]
abbrev Fl7 : Array Bool := #[true, true, false, false, false, true, true, false, false, false, true, true, false, false, false, false]
abbrev Fl8 : Array Bool := #[true, true, true, false, false, true, true, false, false, false, true, true, false, false, false, false]
abbrev Fl9 : Array Bool := #[true, true, true, true, false, true, true, false, false, false, true, true, false, false, false, false]
abbrev Fl10 : Array Bool := #[true, true, true, true, true, true, true, false, false, false, true, true, false, false, false, false]
abbrev Fl11 : Array Bool := #[true, true, true, true, true, true, true, true, false, false, true, true, false, false, false, false]
abbrev Fl12 : Array Bool := #[true, true, true, true, true, true, true, true, true, false, true, true, false, false, false, false]
abbrev Fl13 : Array Bool := #[true, true, true, true, true, true, true, true, true, true, true, true, false, false, false, false]
abbrev Fl14 : Array Bool := #[true, true, true, true, true, true, true, true, true, true, true, true, true, false, false, false]
abbrev Fl15 : Array Bool := #[true, true, true, true, true, true, true, true, true, true, true, true, true, true, false, false]
abbrev Fl16 : Array Bool := #[true, true, true, true, true, true, true, true, true, true, true, true, true, true, true, false]
abbrev Fl17 : Array Bool := #[true, true, true, true, true, true, true, true, true, true, true, true, true, true, true, true]
/-! ### chequerref06_Write: function 10 -/
def chequerref06_Write.f (k : Nat) (a0_0 : Int) (a0_1 : Int) (a0_2 : Int) (a0_3 : Int) : Option (ByteArray × Int) := (chequerref06_May.f a0_0 a0_1 a0_2 a0_3).bind fun t108 => (if t108 = true then ((chequerref01_Decimal.f k a0_0).bind fun t109 => (if 1 + t109.size ≤ 9223372036854775807 then (if ((⟨#[80]⟩ : ByteArray) ++ t109).size + 1 ≤ 9223372036854775807 then ((chequerref01_Decimal.f k a0_1).bind fun t110 => (if (((⟨#[80]⟩ : ByteArray) ++ t109) ++ (⟨#[10]⟩ : ByteArray)).size + t110.size ≤ 9223372036854775807 then (if ((((⟨#[80]⟩ : ByteArray) ++ t109) ++ (⟨#[10]⟩ : ByteArray)) ++ t110).size + 1 ≤ 9223372036854775807 then ((chequerref01_Decimal.f k a0_2).bind fun t111 => (if (((((⟨#[80]⟩ : ByteArray) ++ t109) ++ (⟨#[10]⟩ : ByteArray)) ++ t110) ++ (⟨#[32]⟩ : ByteArray)).size + t111.size ≤ 9223372036854775807 then (if ((((((⟨#[80]⟩ : ByteArray) ++ t109) ++ (⟨#[10]⟩ : ByteArray)) ++ t110) ++ (⟨#[32]⟩ : ByteArray)) ++ t111).size + 1 ≤ 9223372036854775807 then ((chequerref06_bits.f a0_0).bind fun t112 => (if t112 = true then (some (((((((⟨#[80]⟩ : ByteArray) ++ t109) ++ (⟨#[10]⟩ : ByteArray)) ++ t110) ++ (⟨#[32]⟩ : ByteArray)) ++ t111) ++ (⟨#[10]⟩ : ByteArray), 0)) else ((chequerref01_Decimal.f k a0_3).bind fun t113 => (if (((((((⟨#[80]⟩ : ByteArray) ++ t109) ++ (⟨#[10]⟩ : ByteArray)) ++ t110) ++ (⟨#[32]⟩ : ByteArray)) ++ t111) ++ (⟨#[10]⟩ : ByteArray)).size + t113.size ≤ 9223372036854775807 then (if ((((((((⟨#[80]⟩ : ByteArray) ++ t109) ++ (⟨#[10]⟩ : ByteArray)) ++ t110) ++ (⟨#[32]⟩ : ByteArray)) ++ t111) ++ (⟨#[10]⟩ : ByteArray)) ++ t113).size + 1 ≤ 9223372036854775807 then (some (((((((((⟨#[80]⟩ : ByteArray) ++ t109) ++ (⟨#[10]⟩ : ByteArray)) ++ t110) ++ (⟨#[32]⟩ : ByteArray)) ++ t111) ++ (⟨#[10]⟩ : ByteArray)) ++ t113) ++ (⟨#[10]⟩ : ByteArray), 0)) else (none)) else (none))))) else (none)) else (none))) else (none)) else (none))) else (none)) else (none))) else (some ((⟨#[]⟩ : ByteArray), 1)))
theorem chequerref06_Write.mono : ∀ a0 a1 a2 a3 k, LeO (chequerref06_Write.f k a0 a1 a2 a3) (chequerref06_Write.f (k + 1) a0 a1 a2 a3) := by
 intro a0 a1 a2 a3 k
 unfold chequerref06_Write.f
 repeat' first
  | (with_reducible exact chequerref01_Decimal.mono _ _)
  | (with_reducible exact LeO.refl _)
  | (with_reducible exact LeO.none _)
  | (with_reducible refine LeO.ite ?_ ?_)
  | (with_reducible refine LeO.bind ?_ (fun _ => ?_))
  | exact chequerref01_Decimal.mono _ _
  | exact LeO.none _
  | refine LeO.ite ?_ ?_
  | refine LeO.bind ?_ (fun _ => ?_)
def chequerref06_Write.T4 : Bool × List (List Nat × List Nat) := (true, [([], []), ([0], [0]), ([1], [1]), ([2], [2]), ([3], [3]), ([], []), ([5], [5]), ([6, 2], [6]), ([4, 7], [4, 7]), ([8], [8]), ([], []), ([10], [10]), ([11, 7], [11]), ([9, 12], [9, 12]), ([13], [13]), ([14, 12, 0, 1, 2, 3, 4, 5, 6, 7, 8, 9, 10, 11, 12, 13, 14], [14])])
def chequerref06_Write.B4 : List Nat := [0, 1, 3, 7, 15, 0, 32, 103, 255, 511, 0, 1024, 3303, 8191, 16383, 32767]
theorem chequerref06_Write.tab4 : rtab .any (opsOf Try.f10 4) = chequerref06_Write.T4 := by kernel_rfl
theorem chequerref06_Write.bits4 : waitsOk chequerref06_Write.T4.2 chequerref06_Write.B4 = true := by kernel_rfl
set_option maxHeartbeats 8000000 in
set_option maxRecDepth 100000 in
theorem chequerref06_Write.calls (k : Nat) (a0_0 : Int) (a0_1 : Int) (a0_2 : Int) (a0_3 : Int) (r1 : ByteArray) (r2 : Int) (w : World) (h : chequerref06_Write.f k a0_0 a0_1 a0_2 a0_3 = some (r1, r2)) :
 Calls Try.prog 10 #[.agg #[.int .i64 a0_0, .int .i64 a0_1, .int .i64 a0_2, .int .i64 a0_3]] w fun e w' => e = .returned (.tuple #[.string r1, .int .i64 r2]) ∧ Below w.heap.size w w' := by
 have hu25 := Try.underlying25
 have HB := Aside0.mk (Below.refl w.heap.size w)
 have H : ((chequerref06_May.f a0_0 a0_1 a0_2 a0_3).bind fun t108 => (if t108 = true then ((chequerref01_Decimal.f k a0_0).bind fun t109 => (if 1 + t109.size ≤ 9223372036854775807 then (if ((⟨#[80]⟩ : ByteArray) ++ t109).size + 1 ≤ 9223372036854775807 then ((chequerref01_Decimal.f k a0_1).bind fun t110 => (if (((⟨#[80]⟩ : ByteArray) ++ t109) ++ (⟨#[10]⟩ : ByteArray)).size + t110.size ≤ 9223372036854775807 then (if ((((⟨#[80]⟩ : ByteArray) ++ t109) ++ (⟨#[10]⟩ : ByteArray)) ++ t110).size + 1 ≤ 9223372036854775807 then ((chequerref01_Decimal.f k a0_2).bind fun t111 => (if (((((⟨#[80]⟩ : ByteArray) ++ t109) ++ (⟨#[10]⟩ : ByteArray)) ++ t110) ++ (⟨#[32]⟩ : ByteArray)).size + t111.size ≤ 9223372036854775807 then (if ((((((⟨#[80]⟩ : ByteArray) ++ t109) ++ (⟨#[10]⟩ : ByteArray)) ++ t110) ++ (⟨#[32]⟩ : ByteArray)) ++ t111).size + 1 ≤ 9223372036854775807 then ((chequerref06_bits.f a0_0).bind fun t112 => (if t112 = true then (some (((((((⟨#[80]⟩ : ByteArray) ++ t109) ++ (⟨#[10]⟩ : ByteArray)) ++ t110) ++ (⟨#[32]⟩ : ByteArray)) ++ t111) ++ (⟨#[10]⟩ : ByteArray), 0)) else ((chequerref01_Decimal.f k a0_3).bind fun t113 => (if (((((((⟨#[80]⟩ : ByteArray) ++ t109) ++ (⟨#[10]⟩ : ByteArray)) ++ t110) ++ (⟨#[32]⟩ : ByteArray)) ++ t111) ++ (⟨#[10]⟩ : ByteArray)).size + t113.size ≤ 9223372036854775807 then (if ((((((((⟨#[80]⟩ : ByteArray) ++ t109) ++ (⟨#[10]⟩ : ByteArray)) ++ t110) ++ (⟨#[32]⟩ : ByteArray)) ++ t111) ++ (⟨#[10]⟩ : ByteArray)) ++ t113).size + 1 ≤ 9223372036854775807 then (some (((((((((⟨#[80]⟩ : ByteArray) ++ t109) ++ (⟨#[10]⟩ : ByteArray)) ++ t110) ++ (⟨#[32]⟩ : ByteArray)) ++ t111) ++ (⟨#[10]⟩ : ByteArray)) ++ t113) ++ (⟨#[10]⟩ : ByteArray), 0)) else (none)) else (none))))) else (none)) else (none))) else (none)) else (none))) else (none)) else (none))) else (some ((⟨#[]⟩ : ByteArray), 1)))) = some (r1, r2) := h
 clear h
 replace H := Option.bind_eq_some_iff.mp H
 obtain ⟨t108, A20, H⟩ := H
 replace H : (if t108 = true then ((chequerref01_Decimal.f k a0_0).bind fun t109 => (if 1 + t109.size ≤ 9223372036854775807 then (if ((⟨#[80]⟩ : ByteArray) ++ t109).size + 1 ≤ 9223372036854775807 then ((chequerref01_Decimal.f k a0_1).bind fun t110 => (if (((⟨#[80]⟩ : ByteArray) ++ t109) ++ (⟨#[10]⟩ : ByteArray)).size + t110.size ≤ 9223372036854775807 then (if ((((⟨#[80]⟩ : ByteArray) ++ t109) ++ (⟨#[10]⟩ : ByteArray)) ++ t110).size + 1 ≤ 9223372036854775807 then ((chequerref01_Decimal.f k a0_2).bind fun t111 => (if (((((⟨#[80]⟩ : ByteArray) ++ t109) ++ (⟨#[10]⟩ : ByteArray)) ++ t110) ++ (⟨#[32]⟩ : ByteArray)).size + t111.size ≤ 9223372036854775807 then (if ((((((⟨#[80]⟩ : ByteArray) ++ t109) ++ (⟨#[10]⟩ : ByteArray)) ++ t110) ++ (⟨#[32]⟩ : ByteArray)) ++ t111).size + 1 ≤ 9223372036854775807 then ((chequerref06_bits.f a0_0).bind fun t112 => (if t112 = true then (some (((((((⟨#[80]⟩ : ByteArray) ++ t109) ++ (⟨#[10]⟩ : ByteArray)) ++ t110) ++ (⟨#[32]⟩ : ByteArray)) ++ t111) ++ (⟨#[10]⟩ : ByteArray), 0)) else ((chequerref01_Decimal.f k a0_3).bind fun t113 => (if (((((((⟨#[80]⟩ : ByteArray) ++ t109) ++ (⟨#[10]⟩ : ByteArray)) ++ t110) ++ (⟨#[32]⟩ : ByteArray)) ++ t111) ++ (⟨#[10]⟩ : ByteArray)).size + t113.size ≤ 9223372036854775807 then (if ((((((((⟨#[80]⟩ : ByteArray) ++ t109) ++ (⟨#[10]⟩ : ByteArray)) ++ t110) ++ (⟨#[32]⟩ : ByteArray)) ++ t111) ++ (⟨#[10]⟩ : ByteArray)) ++ t113).size + 1 ≤ 9223372036854775807 then (some (((((((((⟨#[80]⟩ : ByteArray) ++ t109) ++ (⟨#[10]⟩ : ByteArray)) ++ t110) ++ (⟨#[32]⟩ : ByteArray)) ++ t111) ++ (⟨#[10]⟩ : ByteArray)) ++ t113) ++ (⟨#[10]⟩ : ByteArray), 0)) else (none)) else (none))))) else (none)) else (none))) else (none)) else (none))) else (none)) else (none))) else (some ((⟨#[]⟩ : ByteArray), 1))) = some (r1, r2) := H
 have A2 := Aside0.mk A20
 clear A20
 by_cases c3 : t108 = true
 · subst c3
   have H1 : ((chequerref01_Decimal.f k a0_0).bind fun t109 => (if 1 + t109.size ≤ 9223372036854775807 then (if ((⟨#[80]⟩ : ByteArray) ++ t109).size + 1 ≤ 9223372036854775807 then ((chequerref01_Decimal.f k a0_1).bind fun t110 => (if (((⟨#[80]⟩ : ByteArray) ++ t109) ++ (⟨#[10]⟩ : ByteArray)).size + t110.size ≤ 9223372036854775807 then (if ((((⟨#[80]⟩ : ByteArray) ++ t109) ++ (⟨#[10]⟩ : ByteArray)) ++ t110).size + 1 ≤ 9223372036854775807 then ((chequerref01_Decimal.f k a0_2).bind fun t111 => (if (((((⟨#[80]⟩ : ByteArray) ++ t109) ++ (⟨#[10]⟩ : ByteArray)) ++ t110) ++ (⟨#[32]⟩ : ByteArray)).size + t111.size ≤ 9223372036854775807 then (if ((((((⟨#[80]⟩ : ByteArray) ++ t109) ++ (⟨#[10]⟩ : ByteArray)) ++ t110) ++ (⟨#[32]⟩ : ByteArray)) ++ t111).size + 1 ≤ 9223372036854775807 then ((chequerref06_bits.f a0_0).bind fun t112 => (if t112 = true then (some (((((((⟨#[80]⟩ : ByteArray) ++ t109) ++ (⟨#[10]⟩ : ByteArray)) ++ t110) ++ (⟨#[32]⟩ : ByteArray)) ++ t111) ++ (⟨#[10]⟩ : ByteArray), 0)) else ((chequerref01_Decimal.f k a0_3).bind fun t113 => (if (((((((⟨#[80]⟩ : ByteArray) ++ t109) ++ (⟨#[10]⟩ : ByteArray)) ++ t110) ++ (⟨#[32]⟩ : ByteArray)) ++ t111) ++ (⟨#[10]⟩ : ByteArray)).size + t113.size ≤ 9223372036854775807 then (if ((((((((⟨#[80]⟩ : ByteArray) ++ t109) ++ (⟨#[10]⟩ : ByteArray)) ++ t110) ++ (⟨#[32]⟩ : ByteArray)) ++ t111) ++ (⟨#[10]⟩ : ByteArray)) ++ t113).size + 1 ≤ 9223372036854775807 then (some (((((((((⟨#[80]⟩ : ByteArray) ++ t109) ++ (⟨#[10]⟩ : ByteArray)) ++ t110) ++ (⟨#[32]⟩ : ByteArray)) ++ t111) ++ (⟨#[10]⟩ : ByteArray)) ++ t113) ++ (⟨#[10]⟩ : ByteArray), 0)) else (none)) else (none))))) else (none)) else (none))) else (none)) else (none))) else (none)) else (none))) = some (r1, r2) := by rw [if_pos rfl] at H; exact H
   clear H; have H := H1; clear H1; replace H := Option.bind_eq_some_iff.mp H; obtain ⟨t109, A40, H⟩ := H
   replace H : (if 1 + t109.size ≤ 9223372036854775807 then (if ((⟨#[80]⟩ : ByteArray) ++ t109).size + 1 ≤ 9223372036854775807 then ((chequerref01_Decimal.f k a0_1).bind fun t110 => (if (((⟨#[80]⟩ : ByteArray) ++ t109) ++ (⟨#[10]⟩ : ByteArray)).size + t110.size ≤ 9223372036854775807 then (if ((((⟨#[80]⟩ : ByteArray) ++ t109) ++ (⟨#[10]⟩ : ByteArray)) ++ t110).size + 1 ≤ 9223372036854775807 then ((chequerref01_Decimal.f k a0_2).bind fun t111 => (if (((((⟨#[80]⟩ : ByteArray) ++ t109) ++ (⟨#[10]⟩ : ByteArray)) ++ t110) ++ (⟨#[32]⟩ : ByteArray)).size + t111.size ≤ 9223372036854775807 then (if ((((((⟨#[80]⟩ : ByteArray) ++ t109) ++ (⟨#[10]⟩ : ByteArray)) ++ t110) ++ (⟨#[32]⟩ : ByteArray)) ++ t111).size + 1 ≤ 9223372036854775807 then ((chequerref06_bits.f a0_0).bind fun t112 => (if t112 = true then (some (((((((⟨#[80]⟩ : ByteArray) ++ t109) ++ (⟨#[10]⟩ : ByteArray)) ++ t110) ++ (⟨#[32]⟩ : ByteArray)) ++ t111) ++ (⟨#[10]⟩ : ByteArray), 0)) else ((chequerref01_Decimal.f k a0_3).bind fun t113 => (if (((((((⟨#[80]⟩ : ByteArray) ++ t109) ++ (⟨#[10]⟩ : ByteArray)) ++ t110) ++ (⟨#[32]⟩ : ByteArray)) ++ t111) ++ (⟨#[10]⟩ : ByteArray)).size + t113.size ≤ 9223372036854775807 then (if ((((((((⟨#[80]⟩ : ByteArray) ++ t109) ++ (⟨#[10]⟩ : ByteArray)) ++ t110) ++ (⟨#[32]⟩ : ByteArray)) ++ t111) ++ (⟨#[10]⟩ : ByteArray)) ++ t113).size + 1 ≤ 9223372036854775807 then (some (((((((((⟨#[80]⟩ : ByteArray) ++ t109) ++ (⟨#[10]⟩ : ByteArray)) ++ t110) ++ (⟨#[32]⟩ : ByteArray)) ++ t111) ++ (⟨#[10]⟩ : ByteArray)) ++ t113) ++ (⟨#[10]⟩ : ByteArray), 0)) else (none)) else (none))))) else (none)) else (none))) else (none)) else (none))) else (none)) else (none)) = some (r1, r2) := H
   have A4 := Aside0.mk A40; clear A40
   by_cases c5 : 1 + t109.size ≤ 9223372036854775807
   · rw [if_pos c5] at H; have c5b0 := eq_true c5
     have c5b1 : decide (1 + t109.size ≤ 9223372036854775807) = true := decide_eq_true c5
     try have c5b2 : (9223372036854775807 < 1 + t109.size) = False := eq_false (Nat.not_lt.2 c5)
     by_cases c6 : ((⟨#[80]⟩ : ByteArray) ++ t109).size + 1 ≤ 9223372036854775807
     · rw [if_pos c6] at H; have c6b0 := eq_true c6
       have c6b1 : decide (((⟨#[80]⟩ : ByteArray) ++ t109).size + 1 ≤ 9223372036854775807) = true := decide_eq_true c6
       try have c6b2 : (9223372036854775807 < ((⟨#[80]⟩ : ByteArray) ++ t109).size + 1) = False := eq_false (Nat.not_lt.2 c6)
       (try (have c6y := c6b2; simp only [ByteArray.size_append, show (⟨#[80]⟩ : ByteArray).size = 1 from rfl] at c6y))
       replace H := Option.bind_eq_some_iff.mp H; obtain ⟨t110, A70, H⟩ := H
       replace H : (if (((⟨#[80]⟩ : ByteArray) ++ t109) ++ (⟨#[10]⟩ : ByteArray)).size + t110.size ≤ 9223372036854775807 then (if ((((⟨#[80]⟩ : ByteArray) ++ t109) ++ (⟨#[10]⟩ : ByteArray)) ++ t110).size + 1 ≤ 9223372036854775807 then ((chequerref01_Decimal.f k a0_2).bind fun t111 => (if (((((⟨#[80]⟩ : ByteArray) ++ t109) ++ (⟨#[10]⟩ : ByteArray)) ++ t110) ++ (⟨#[32]⟩ : ByteArray)).size + t111.size ≤ 9223372036854775807 then (if ((((((⟨#[80]⟩ : ByteArray) ++ t109) ++ (⟨#[10]⟩ : ByteArray)) ++ t110) ++ (⟨#[32]⟩ : ByteArray)) ++ t111).size + 1 ≤ 9223372036854775807 then ((chequerref06_bits.f a0_0).bind fun t112 => (if t112 = true then (some (((((((⟨#[80]⟩ : ByteArray) ++ t109) ++ (⟨#[10]⟩ : ByteArray)) ++ t110) ++ (⟨#[32]⟩ : ByteArray)) ++ t111) ++ (⟨#[10]⟩ : ByteArray), 0)) else ((chequerref01_Decimal.f k a0_3).bind fun t113 => (if (((((((⟨#[80]⟩ : ByteArray) ++ t109) ++ (⟨#[10]⟩ : ByteArray)) ++ t110) ++ (⟨#[32]⟩ : ByteArray)) ++ t111) ++ (⟨#[10]⟩ : ByteArray)).size + t113.size ≤ 9223372036854775807 then (if ((((((((⟨#[80]⟩ : ByteArray) ++ t109) ++ (⟨#[10]⟩ : ByteArray)) ++ t110) ++ (⟨#[32]⟩ : ByteArray)) ++ t111) ++ (⟨#[10]⟩ : ByteArray)) ++ t113).size + 1 ≤ 9223372036854775807 then (some (((((((((⟨#[80]⟩ : ByteArray) ++ t109) ++ (⟨#[10]⟩ : ByteArray)) ++ t110) ++ (⟨#[32]⟩ : ByteArray)) ++ t111) ++ (⟨#[10]⟩ : ByteArray)) ++ t113) ++ (⟨#[10]⟩ : ByteArray), 0)) else (none)) else (none))))) else (none)) else (none))) else (none)) else (none)) = some (r1, r2) := H
       have A7 := Aside0.mk A70; clear A70
       by_cases c8 : (((⟨#[80]⟩ : ByteArray) ++ t109) ++ (⟨#[10]⟩ : ByteArray)).size + t110.size ≤ 9223372036854775807
       · rw [if_pos c8] at H; have c8b0 := eq_true c8
         have c8b1 : decide ((((⟨#[80]⟩ : ByteArray) ++ t109) ++ (⟨#[10]⟩ : ByteArray)).size + t110.size ≤ 9223372036854775807) = true := decide_eq_true c8
         try have c8b2 : (9223372036854775807 < (((⟨#[80]⟩ : ByteArray) ++ t109) ++ (⟨#[10]⟩ : ByteArray)).size + t110.size) = False := eq_false (Nat.not_lt.2 c8)
         (try (have c8y := c8b2; simp only [ByteArray.size_append, show (⟨#[10]⟩ : ByteArray).size = 1 from rfl, show (⟨#[80]⟩ : ByteArray).size = 1 from rfl] at c8y))
         by_cases c9 : ((((⟨#[80]⟩ : ByteArray) ++ t109) ++ (⟨#[10]⟩ : ByteArray)) ++ t110).size + 1 ≤ 9223372036854775807
         · rw [if_pos c9] at H; have c9b0 := eq_true c9
           have c9b1 : decide (((((⟨#[80]⟩ : ByteArray) ++ t109) ++ (⟨#[10]⟩ : ByteArray)) ++ t110).size + 1 ≤ 9223372036854775807) = true := decide_eq_true c9
           try have c9b2 : (9223372036854775807 < ((((⟨#[80]⟩ : ByteArray) ++ t109) ++ (⟨#[10]⟩ : ByteArray)) ++ t110).size + 1) = False := eq_false (Nat.not_lt.2 c9)
           (try (have c9y := c9b2; simp only [ByteArray.size_append, show (⟨#[10]⟩ : ByteArray).size = 1 from rfl, show (⟨#[80]⟩ : ByteArray).size = 1 from rfl] at c9y))
           replace H := Option.bind_eq_some_iff.mp H; obtain ⟨t111, A100, H⟩ := H
           replace H : (if (((((⟨#[80]⟩ : ByteArray) ++ t109) ++ (⟨#[10]⟩ : ByteArray)) ++ t110) ++ (⟨#[32]⟩ : ByteArray)).size + t111.size ≤ 9223372036854775807 then (if ((((((⟨#[80]⟩ : ByteArray) ++ t109) ++ (⟨#[10]⟩ : ByteArray)) ++ t110) ++ (⟨#[32]⟩ : ByteArray)) ++ t111).size + 1 ≤ 9223372036854775807 then ((chequerref06_bits.f a0_0).bind fun t112 => (if t112 = true then (some (((((((⟨#[80]⟩ : ByteArray) ++ t109) ++ (⟨#[10]⟩ : ByteArray)) ++ t110) ++ (⟨#[32]⟩ : ByteArray)) ++ t111) ++ (⟨#[10]⟩ : ByteArray), 0)) else ((chequerref01_Decimal.f k a0_3).bind fun t113 => (if (((((((⟨#[80]⟩ : ByteArray) ++ t109) ++ (⟨#[10]⟩ : ByteArray)) ++ t110) ++ (⟨#[32]⟩ : ByteArray)) ++ t111) ++ (⟨#[10]⟩ : ByteArray)).size + t113.size ≤ 9223372036854775807 then (if ((((((((⟨#[80]⟩ : ByteArray) ++ t109) ++ (⟨#[10]⟩ : ByteArray)) ++ t110) ++ (⟨#[32]⟩ : ByteArray)) ++ t111) ++ (⟨#[10]⟩ : ByteArray)) ++ t113).size + 1 ≤ 9223372036854775807 then (some (((((((((⟨#[80]⟩ : ByteArray) ++ t109) ++ (⟨#[10]⟩ : ByteArray)) ++ t110) ++ (⟨#[32]⟩ : ByteArray)) ++ t111) ++ (⟨#[10]⟩ : ByteArray)) ++ t113) ++ (⟨#[10]⟩ : ByteArray), 0)) else (none)) else (none))))) else (none)) else (none)) = some (r1, r2) := H
           have A10 := Aside0.mk A100; clear A100
           by_cases c11 : (((((⟨#[80]⟩ : ByteArray) ++ t109) ++ (⟨#[10]⟩ : ByteArray)) ++ t110) ++ (⟨#[32]⟩ : ByteArray)).size + t111.size ≤ 9223372036854775807
           · rw [if_pos c11] at H; have c11b0 := eq_true c11
             have c11b1 : decide ((((((⟨#[80]⟩ : ByteArray) ++ t109) ++ (⟨#[10]⟩ : ByteArray)) ++ t110) ++ (⟨#[32]⟩ : ByteArray)).size + t111.size ≤ 9223372036854775807) = true := decide_eq_true c11
             try have c11b2 : (9223372036854775807 < (((((⟨#[80]⟩ : ByteArray) ++ t109) ++ (⟨#[10]⟩ : ByteArray)) ++ t110) ++ (⟨#[32]⟩ : ByteArray)).size + t111.size) = False := eq_false (Nat.not_lt.2 c11)
             (try (have c11y := c11b2; simp only [ByteArray.size_append, show (⟨#[10]⟩ : ByteArray).size = 1 from rfl, show (⟨#[32]⟩ : ByteArray).size = 1 from rfl, show (⟨#[80]⟩ : ByteArray).size = 1 from rfl] at c11y))
             by_cases c12 : ((((((⟨#[80]⟩ : ByteArray) ++ t109) ++ (⟨#[10]⟩ : ByteArray)) ++ t110) ++ (⟨#[32]⟩ : ByteArray)) ++ t111).size + 1 ≤ 9223372036854775807
             · rw [if_pos c12] at H; have c12b0 := eq_true c12
               have c12b1 : decide (((((((⟨#[80]⟩ : ByteArray) ++ t109) ++ (⟨#[10]⟩ : ByteArray)) ++ t110) ++ (⟨#[32]⟩ : ByteArray)) ++ t111).size + 1 ≤ 9223372036854775807) = true := decide_eq_true c12
               try have c12b2 : (9223372036854775807 < ((((((⟨#[80]⟩ : ByteArray) ++ t109) ++ (⟨#[10]⟩ : ByteArray)) ++ t110) ++ (⟨#[32]⟩ : ByteArray)) ++ t111).size + 1) = False := eq_false (Nat.not_lt.2 c12)
               (try (have c12y := c12b2; simp only [ByteArray.size_append, show (⟨#[10]⟩ : ByteArray).size = 1 from rfl, show (⟨#[32]⟩ : ByteArray).size = 1 from rfl, show (⟨#[80]⟩ : ByteArray).size = 1 from rfl] at c12y))
               replace H := Option.bind_eq_some_iff.mp H; obtain ⟨t112, A130, H⟩ := H
               replace H : (if t112 = true then (some (((((((⟨#[80]⟩ : ByteArray) ++ t109) ++ (⟨#[10]⟩ : ByteArray)) ++ t110) ++ (⟨#[32]⟩ : ByteArray)) ++ t111) ++ (⟨#[10]⟩ : ByteArray), 0)) else ((chequerref01_Decimal.f k a0_3).bind fun t113 => (if (((((((⟨#[80]⟩ : ByteArray) ++ t109) ++ (⟨#[10]⟩ : ByteArray)) ++ t110) ++ (⟨#[32]⟩ : ByteArray)) ++ t111) ++ (⟨#[10]⟩ : ByteArray)).size + t113.size ≤ 9223372036854775807 then (if ((((((((⟨#[80]⟩ : ByteArray) ++ t109) ++ (⟨#[10]⟩ : ByteArray)) ++ t110) ++ (⟨#[32]⟩ : ByteArray)) ++ t111) ++ (⟨#[10]⟩ : ByteArray)) ++ t113).size + 1 ≤ 9223372036854775807 then (some (((((((((⟨#[80]⟩ : ByteArray) ++ t109) ++ (⟨#[10]⟩ : ByteArray)) ++ t110) ++ (⟨#[32]⟩ : ByteArray)) ++ t111) ++ (⟨#[10]⟩ : ByteArray)) ++ t113) ++ (⟨#[10]⟩ : ByteArray), 0)) else (none)) else (none)))) = some (r1, r2) := H
               have A13 := Aside0.mk A130; clear A130
               by_cases c14 : t112 = true
               · subst c14
                 have H1 : (some (((((((⟨#[80]⟩ : ByteArray) ++ t109) ++ (⟨#[10]⟩ : ByteArray)) ++ t110) ++ (⟨#[32]⟩ : ByteArray)) ++ t111) ++ (⟨#[10]⟩ : ByteArray), 0)) = some (r1, r2) := by rw [if_pos rfl] at H; exact H
                 clear H; have H := H1; clear H1; simp only [Option.some.injEq, Prod.mk.injEq] at H; obtain ⟨rfl, rfl⟩ := H
                 go_enter Try.func10, Try.ntmps10
                 try go_wp2_with (first | ((with_reducible refine gate_dst (N := 1) rfl ?_); refine box_event ?hg (N := 1) ?hd (cs := #[.int .i64 a0_0, .int .i64 a0_1, .int .i64 a0_2, .int .i64 a0_3]) (t := 25) ?hr ?_; (case hd => rfl); (case hg => rfl); (case hr => first | (go_simp; done) | (go_simp; rfl)); intro gb107 hg w15 hbox hb; have BK107 := Aside0.mk (hbox); have GW107 := Aside0.mk ((by rw [hg]; exact (below_size bp_) : w.heap.size ≤ gb107)); have GE107 := Aside0.mk ((by rw [hg]; exact (below_size bp_) : w.heap.size ≤ gb107)); replace HB := Aside0.mk (below_step bp_ hb); clear hb hbox hg; have hcz16_0 : w15.cell? ⟨gb107, 0, none⟩ = some (.int .i64 a0_0) := (blk_cell BK107.out 0).trans rfl; have hcz16_1 : w15.cell? ⟨gb107, 1, none⟩ = some (.int .i64 a0_1) := (blk_cell BK107.out 1).trans rfl; have hcz16_2 : w15.cell? ⟨gb107, 2, none⟩ = some (.int .i64 a0_2) := (blk_cell BK107.out 2).trans rfl; have hcz16_3 : w15.cell? ⟨gb107, 3, none⟩ = some (.int .i64 a0_3) := (blk_cell BK107.out 3).trans rfl; have hfz16_0 := blk_frozen BK107.out 0; have hfz16_1 := blk_frozen BK107.out 1; have hfz16_2 := blk_frozen BK107.out 2; have hfz16_3 := blk_frozen BK107.out 3) | ((with_reducible refine gate_callee (f := 31) rfl ?_); refine goQ_ (some 7) Try.func31 #[.agg #[.int .i64 a0_0, .int .i64 a0_1, .int .i64 a0_2, .int .i64 a0_3]] ?_; (with_reducible refine (chequerref06_May.calls a0_0 a0_1 a0_2 a0_3 true _ A2.out).mono ?_); rintro e w17 ⟨rfl, hb⟩; refine ⟨_, rfl, ?_⟩; replace BK107 := Aside0.mk (blk_below (hp_ BK107.out) hb); replace HB := Aside0.mk (below_step bp_ hb); (try clear hb); (try clear hb2); (try clear hk); (try clear hi)))
                 replace BK107 := Aside0.mk (blk_drew BK107.out); replace HB := Aside0.mk (below_drew1 HB.out); refine start_ (n := 16) (S := fun w' => w'.cell? ⟨gb107, 0, none⟩ = some (.int .i64 a0_0) ∧ w'.cell? ⟨gb107, 1, none⟩ = some (.int .i64 a0_1) ∧ w'.cell? ⟨gb107, 2, none⟩ = some (.int .i64 a0_2) ∧ w'.cell? ⟨gb107, 3, none⟩ = some (.int .i64 a0_3)) (ds := []) Fl1 (by kernel_rfl) rfl rfl ⟨(blk_cell BK107.out 0).trans rfl, (blk_cell BK107.out 1).trans rfl, (blk_cell BK107.out 2).trans rfl, (blk_cell BK107.out 3).trans rfl⟩ (fun hHeld => ?_); refine with_tabW chequerref06_Write.tab4 chequerref06_Write.bits4 (fun HT_ HW_ => ?_)
                 generalize w17.drew = w18 at BK107 HB hHeld ⊢
                 refine pur_ (i := 0) (N := some 10) Fl2 (any_of HT_.out (by kernel_rfl)) ?_; refine pur_ (i := 5) (N := some 15) Fl3 (any_of HT_.out (by kernel_rfl)) ?_; refine pur_ (i := 10) (N := some 20) Fl4 (any_of HT_.out (by kernel_rfl)) ?_; refine take_ (i := 1) (N := some 11) (v := ?_) (a' := ?_) Fl5 rfl rfl (take_ofW HT_.out HW_.out (by kernel_rfl)) (fun _ _ _ h => h) (Or.inl ⟨by rfl, ?_⟩) hHeld ?_ ?_; rotate_left
                 · rintro w' ⟨s0, s1, s2, s3⟩
                   go_simp; with_reducible rfl
                 rotate_left
                 · simp only [Act.put, List.setIfInBounds_toArray, List.set_cons_zero, List.set_cons_succ, i64_w, i32_w]; rfl
                 refine take_ (i := 6) (N := some 16) (v := ?_) (a' := ?_) Fl6 rfl rfl (take_ofW HT_.out HW_.out (by kernel_rfl)) (fun _ _ _ h => h) (Or.inl ⟨by rfl, ?_⟩) hHeld ?_ ?_; rotate_left
                 · rintro w' ⟨s0, s1, s2, s3⟩
                   go_simp; with_reducible rfl
                 rotate_left
                 · simp only [Act.put, List.setIfInBounds_toArray, List.set_cons_zero, List.set_cons_succ, i64_w, i32_w]; rfl
                 refine take_ (i := 11) (N := some 21) (v := ?_) (a' := ?_) Fl7 rfl rfl (take_ofW HT_.out HW_.out (by kernel_rfl)) (fun _ _ _ h => h) (Or.inl ⟨by rfl, ?_⟩) hHeld ?_ ?_; rotate_left
                 · rintro w' ⟨s0, s1, s2, s3⟩
                   go_simp; with_reducible rfl
                 rotate_left
                 · simp only [Act.put, List.setIfInBounds_toArray, List.set_cons_zero, List.set_cons_succ, i64_w, i32_w]; rfl
                 refine one_ (i := 2) (N := some 12) Fl8 rfl rfl (one_of HT_.out (by kernel_rfl)) (by decide) (fun K hK => ?_); refine goes_ Try.func18 (by kernel_rfl) rfl #[.int .i64 a0_0] (by rfl) rfl rfl (by (try simp only [List.map_toArray, List.map_cons, List.map_nil]); first | done | rfl | (simp only [List.length_drop, List.length_take]; rfl)) ?_
                 with_reducible refine (chequerref01_Decimal.calls k a0_0 t109 _ A4.out).mono ?_
                 rintro e w19 ⟨rfl, hb⟩
                 refine ⟨_, rfl, ?_⟩; replace BK107 := Aside0.mk (blk_below (hp_ BK107.out) hb); replace HB := Aside0.mk (below_step bp_ hb)
                 (try clear hb)
                 (try clear hb2)
                 (try clear hk)
                 (try clear hi)
                 refine hK.out _ _ ⟨(blk_cell BK107.out 0).trans rfl, (blk_cell BK107.out 1).trans rfl, (blk_cell BK107.out 2).trans rfl, (blk_cell BK107.out 3).trans rfl⟩ (fun hHeld => ?_); clear hK K; refine norm_ (a' := ?_) ?_ ?_; rotate_left
                 · show Act.put _ (some 12) _ = _
                   simp only [Act.put, List.setIfInBounds_toArray, List.set_cons_zero, List.set_cons_succ, i64_w, i32_w]; rfl
                 refine pur_ (i := 3) (N := some 13) Fl9 (any_of HT_.out (by kernel_rfl)) ?_; refine pur_ (i := 4) (N := some 14) Fl10 (any_of HT_.out (by kernel_rfl)) ?_; refine one_ (i := 7) (N := some 17) Fl11 rfl rfl (one_of HT_.out (by kernel_rfl)) (by decide) (fun K hK => ?_); refine goes_ Try.func18 (by kernel_rfl) rfl #[.int .i64 a0_1] (by rfl) rfl rfl (by (try simp only [List.map_toArray, List.map_cons, List.map_nil]); first | done | rfl | (simp only [List.length_drop, List.length_take]; rfl)) ?_
                 with_reducible refine (chequerref01_Decimal.calls k a0_1 t110 _ A7.out).mono ?_
                 rintro e w20 ⟨rfl, hb⟩
                 refine ⟨_, rfl, ?_⟩; replace BK107 := Aside0.mk (blk_below (hp_ BK107.out) hb); replace HB := Aside0.mk (below_step bp_ hb)
                 (try clear hb)
                 (try clear hb2)
                 (try clear hk)
                 (try clear hi)
                 refine hK.out _ _ ⟨(blk_cell BK107.out 0).trans rfl, (blk_cell BK107.out 1).trans rfl, (blk_cell BK107.out 2).trans rfl, (blk_cell BK107.out 3).trans rfl⟩ (fun hHeld => ?_); clear hK K; refine norm_ (a' := ?_) ?_ ?_; rotate_left
                 · show Act.put _ (some 17) _ = _
                   simp only [Act.put, List.setIfInBounds_toArray, List.set_cons_zero, List.set_cons_succ, i64_w, i32_w]; rfl
                 refine pur_ (i := 8) (N := some 18) Fl12 (any_of HT_.out (by kernel_rfl)) ?_; refine pur_ (i := 9) (N := some 19) Fl13 (any_of HT_.out (by kernel_rfl)) ?_; refine one_ (i := 12) (N := some 22) Fl14 rfl rfl (one_of HT_.out (by kernel_rfl)) (by decide) (fun K hK => ?_); refine goes_ Try.func18 (by kernel_rfl) rfl #[.int .i64 a0_2] (by rfl) rfl rfl (by (try simp only [List.map_toArray, List.map_cons, List.map_nil]); first | done | rfl | (simp only [List.length_drop, List.length_take]; rfl)) ?_
                 with_reducible refine (chequerref01_Decimal.calls k a0_2 t111 _ A10.out).mono ?_
                 rintro e w21 ⟨rfl, hb⟩
                 refine ⟨_, rfl, ?_⟩; replace BK107 := Aside0.mk (blk_below (hp_ BK107.out) hb); replace HB := Aside0.mk (below_step bp_ hb)
                 (try clear hb)
                 (try clear hb2)
                 (try clear hk)
                 (try clear hi)
                 refine hK.out _ _ ⟨(blk_cell BK107.out 0).trans rfl, (blk_cell BK107.out 1).trans rfl, (blk_cell BK107.out 2).trans rfl, (blk_cell BK107.out 3).trans rfl⟩ (fun hHeld => ?_); clear hK K; refine norm_ (a' := ?_) ?_ ?_; rotate_left
                 · show Act.put _ (some 22) _ = _
                   simp only [Act.put, List.setIfInBounds_toArray, List.set_cons_zero, List.set_cons_succ, i64_w, i32_w]; rfl
                 refine pur_ (i := 13) (N := some 23) Fl15 (any_of HT_.out (by kernel_rfl)) ?_; refine pur_ (i := 14) (N := some 24) Fl16 (any_of HT_.out (by kernel_rfl)) ?_; refine pur_ (i := 15) (N := some 5) Fl17 (any_of HT_.out (by kernel_rfl)) ?_; refine done_ (done_of HT_.out (by kernel_rfl)) ?_
                 have hcz22_0 : w21.cell? ⟨gb107, 0, none⟩ = some (.int .i64 a0_0) := (blk_cell BK107.out 0).trans rfl
                 have hcz22_1 : w21.cell? ⟨gb107, 1, none⟩ = some (.int .i64 a0_1) := (blk_cell BK107.out 1).trans rfl
                 have hcz22_2 : w21.cell? ⟨gb107, 2, none⟩ = some (.int .i64 a0_2) := (blk_cell BK107.out 2).trans rfl
                 have hcz22_3 : w21.cell? ⟨gb107, 3, none⟩ = some (.int .i64 a0_3) := (blk_cell BK107.out 3).trans rfl
                 have hfz22_0 := blk_frozen BK107.out 0; have hfz22_1 := blk_frozen BK107.out 1; have hfz22_2 := blk_frozen BK107.out 2; have hfz22_3 := blk_frozen BK107.out 3
                 try go_wp2_with (first | ((with_reducible refine gate_callee (f := 32) rfl ?_); refine goQ_ (some 27) Try.func32 #[.int .i64 a0_0] ?_; (with_reducible refine (chequerref06_bits.calls a0_0 true _ A13.out).mono ?_); rintro e w' ⟨rfl, ⟨nd, rfl⟩⟩; refine ⟨_, rfl, ?_⟩))
                 go_ret2
                 exact ⟨by first | rfl | (simp [errW_none, errW_some] <;> rfl) | (simp [*, errW_none, errW_some] <;> rfl), bp_⟩
               replace c14 := Bool.eq_false_iff.mpr c14; subst c14
               have H1 : ((chequerref01_Decimal.f k a0_3).bind fun t113 => (if (((((((⟨#[80]⟩ : ByteArray) ++ t109) ++ (⟨#[10]⟩ : ByteArray)) ++ t110) ++ (⟨#[32]⟩ : ByteArray)) ++ t111) ++ (⟨#[10]⟩ : ByteArray)).size + t113.size ≤ 9223372036854775807 then (if ((((((((⟨#[80]⟩ : ByteArray) ++ t109) ++ (⟨#[10]⟩ : ByteArray)) ++ t110) ++ (⟨#[32]⟩ : ByteArray)) ++ t111) ++ (⟨#[10]⟩ : ByteArray)) ++ t113).size + 1 ≤ 9223372036854775807 then (some (((((((((⟨#[80]⟩ : ByteArray) ++ t109) ++ (⟨#[10]⟩ : ByteArray)) ++ t110) ++ (⟨#[32]⟩ : ByteArray)) ++ t111) ++ (⟨#[10]⟩ : ByteArray)) ++ t113) ++ (⟨#[10]⟩ : ByteArray), 0)) else (none)) else (none))) = some (r1, r2) := by rw [if_neg (show ¬ (false = true) by decide)] at H; exact H
               clear H; have H := H1; clear H1; replace H := Option.bind_eq_some_iff.mp H; obtain ⟨t113, A230, H⟩ := H
               replace H : (if (((((((⟨#[80]⟩ : ByteArray) ++ t109) ++ (⟨#[10]⟩ : ByteArray)) ++ t110) ++ (⟨#[32]⟩ : ByteArray)) ++ t111) ++ (⟨#[10]⟩ : ByteArray)).size + t113.size ≤ 9223372036854775807 then (if ((((((((⟨#[80]⟩ : ByteArray) ++ t109) ++ (⟨#[10]⟩ : ByteArray)) ++ t110) ++ (⟨#[32]⟩ : ByteArray)) ++ t111) ++ (⟨#[10]⟩ : ByteArray)) ++ t113).size + 1 ≤ 9223372036854775807 then (some (((((((((⟨#[80]⟩ : ByteArray) ++ t109) ++ (⟨#[10]⟩ : ByteArray)) ++ t110) ++ (⟨#[32]⟩ : ByteArray)) ++ t111) ++ (⟨#[10]⟩ : ByteArray)) ++ t113) ++ (⟨#[10]⟩ : ByteArray), 0)) else (none)) else (none)) = some (r1, r2) := H
               have A23 := Aside0.mk A230; clear A230
               by_cases c24 : (((((((⟨#[80]⟩ : ByteArray) ++ t109) ++ (⟨#[10]⟩ : ByteArray)) ++ t110) ++ (⟨#[32]⟩ : ByteArray)) ++ t111) ++ (⟨#[10]⟩ : ByteArray)).size + t113.size ≤ 9223372036854775807
               · rw [if_pos c24] at H; have c24b0 := eq_true c24
                 have c24b1 : decide ((((((((⟨#[80]⟩ : ByteArray) ++ t109) ++ (⟨#[10]⟩ : ByteArray)) ++ t110) ++ (⟨#[32]⟩ : ByteArray)) ++ t111) ++ (⟨#[10]⟩ : ByteArray)).size + t113.size ≤ 9223372036854775807) = true := decide_eq_true c24
                 try have c24b2 : (9223372036854775807 < (((((((⟨#[80]⟩ : ByteArray) ++ t109) ++ (⟨#[10]⟩ : ByteArray)) ++ t110) ++ (⟨#[32]⟩ : ByteArray)) ++ t111) ++ (⟨#[10]⟩ : ByteArray)).size + t113.size) = False := eq_false (Nat.not_lt.2 c24)
                 (try (have c24y := c24b2; simp only [ByteArray.size_append, show (⟨#[10]⟩ : ByteArray).size = 1 from rfl, show (⟨#[32]⟩ : ByteArray).size = 1 from rfl, show (⟨#[80]⟩ : ByteArray).size = 1 from rfl] at c24y))
                 by_cases c25 : ((((((((⟨#[80]⟩ : ByteArray) ++ t109) ++ (⟨#[10]⟩ : ByteArray)) ++ t110) ++ (⟨#[32]⟩ : ByteArray)) ++ t111) ++ (⟨#[10]⟩ : ByteArray)) ++ t113).size + 1 ≤ 9223372036854775807
                 · rw [if_pos c25] at H; have c25b0 := eq_true c25
                   have c25b1 : decide (((((((((⟨#[80]⟩ : ByteArray) ++ t109) ++ (⟨#[10]⟩ : ByteArray)) ++ t110) ++ (⟨#[32]⟩ : ByteArray)) ++ t111) ++ (⟨#[10]⟩ : ByteArray)) ++ t113).size + 1 ≤ 9223372036854775807) = true := decide_eq_true c25
                   try have c25b2 : (9223372036854775807 < ((((((((⟨#[80]⟩ : ByteArray) ++ t109) ++ (⟨#[10]⟩ : ByteArray)) ++ t110) ++ (⟨#[32]⟩ : ByteArray)) ++ t111) ++ (⟨#[10]⟩ : ByteArray)) ++ t113).size + 1) = False := eq_false (Nat.not_lt.2 c25)
                   (try (have c25y := c25b2; simp only [ByteArray.size_append, show (⟨#[10]⟩ : ByteArray).size = 1 from rfl, show (⟨#[32]⟩ : ByteArray).size = 1 from rfl, show (⟨#[80]⟩ : ByteArray).size = 1 from rfl] at c25y))
                   simp only [Option.some.injEq, Prod.mk.injEq] at H; obtain ⟨rfl, rfl⟩ := H
                   go_enter Try.func10, Try.ntmps10
                   try go_wp2_with (first | ((with_reducible refine gate_dst (N := 1) rfl ?_); refine box_event ?hg (N := 1) ?hd (cs := #[.int .i64 a0_0, .int .i64 a0_1, .int .i64 a0_2, .int .i64 a0_3]) (t := 25) ?hr ?_; (case hd => rfl); (case hg => rfl); (case hr => first | (go_simp; done) | (go_simp; rfl)); intro gb107 hg w26 hbox hb; have BK107 := Aside0.mk (hbox); have GW107 := Aside0.mk ((by rw [hg]; exact (below_size bp_) : w.heap.size ≤ gb107)); have GE107 := Aside0.mk ((by rw [hg]; exact (below_size bp_) : w.heap.size ≤ gb107)); replace HB := Aside0.mk (below_step bp_ hb); clear hb hbox hg; have hcz27_0 : w26.cell? ⟨gb107, 0, none⟩ = some (.int .i64 a0_0) := (blk_cell BK107.out 0).trans rfl; have hcz27_1 : w26.cell? ⟨gb107, 1, none⟩ = some (.int .i64 a0_1) := (blk_cell BK107.out 1).trans rfl; have hcz27_2 : w26.cell? ⟨gb107, 2, none⟩ = some (.int .i64 a0_2) := (blk_cell BK107.out 2).trans rfl; have hcz27_3 : w26.cell? ⟨gb107, 3, none⟩ = some (.int .i64 a0_3) := (blk_cell BK107.out 3).trans rfl; have hfz27_0 := blk_frozen BK107.out 0; have hfz27_1 := blk_frozen BK107.out 1; have hfz27_2 := blk_frozen BK107.out 2; have hfz27_3 := blk_frozen BK107.out 3) | ((with_reducible refine gate_callee (f := 31) rfl ?_); refine goQ_ (some 7) Try.func31 #[.agg #[.int .i64 a0_0, .int .i64 a0_1, .int .i64 a0_2, .int .i64 a0_3]] ?_; (with_reducible refine (chequerref06_May.calls a0_0 a0_1 a0_2 a0_3 true _ A2.out).mono ?_); rintro e w28 ⟨rfl, hb⟩; refine ⟨_, rfl, ?_⟩; replace BK107 := Aside0.mk (blk_below (hp_ BK107.out) hb); replace HB := Aside0.mk (below_step bp_ hb); (try clear hb); (try clear hb2); (try clear hk); (try clear hi)))
                   replace BK107 := Aside0.mk (blk_drew BK107.out); replace HB := Aside0.mk (below_drew1 HB.out); refine start_ (n := 16) (S := fun w' => w'.cell? ⟨gb107, 0, none⟩ = some (.int .i64 a0_0) ∧ w'.cell? ⟨gb107, 1, none⟩ = some (.int .i64 a0_1) ∧ w'.cell? ⟨gb107, 2, none⟩ = some (.int .i64 a0_2) ∧ w'.cell? ⟨gb107, 3, none⟩ = some (.int .i64 a0_3)) (ds := []) Fl1 (by kernel_rfl) rfl rfl ⟨(blk_cell BK107.out 0).trans rfl, (blk_cell BK107.out 1).trans rfl, (blk_cell BK107.out 2).trans rfl, (blk_cell BK107.out 3).trans rfl⟩ (fun hHeld => ?_); refine with_tabW chequerref06_Write.tab4 chequerref06_Write.bits4 (fun HT_ HW_ => ?_)
                   generalize w28.drew = w29 at BK107 HB hHeld ⊢
                   refine pur_ (i := 0) (N := some 10) Fl2 (any_of HT_.out (by kernel_rfl)) ?_; refine pur_ (i := 5) (N := some 15) Fl3 (any_of HT_.out (by kernel_rfl)) ?_; refine pur_ (i := 10) (N := some 20) Fl4 (any_of HT_.out (by kernel_rfl)) ?_; refine take_ (i := 1) (N := some 11) (v := ?_) (a' := ?_) Fl5 rfl rfl (take_ofW HT_.out HW_.out (by kernel_rfl)) (fun _ _ _ h => h) (Or.inl ⟨by rfl, ?_⟩) hHeld ?_ ?_; rotate_left
                   · rintro w' ⟨s0, s1, s2, s3⟩
                     go_simp; with_reducible rfl
                   rotate_left
                   · simp only [Act.put, List.setIfInBounds_toArray, List.set_cons_zero, List.set_cons_succ, i64_w, i32_w]; rfl
                   refine take_ (i := 6) (N := some 16) (v := ?_) (a' := ?_) Fl6 rfl rfl (take_ofW HT_.out HW_.out (by kernel_rfl)) (fun _ _ _ h => h) (Or.inl ⟨by rfl, ?_⟩) hHeld ?_ ?_; rotate_left
                   · rintro w' ⟨s0, s1, s2, s3⟩
                     go_simp; with_reducible rfl
                   rotate_left
                   · simp only [Act.put, List.setIfInBounds_toArray, List.set_cons_zero, List.set_cons_succ, i64_w, i32_w]; rfl
                   refine take_ (i := 11) (N := some 21) (v := ?_) (a' := ?_) Fl7 rfl rfl (take_ofW HT_.out HW_.out (by kernel_rfl)) (fun _ _ _ h => h) (Or.inl ⟨by rfl, ?_⟩) hHeld ?_ ?_; rotate_left
                   · rintro w' ⟨s0, s1, s2, s3⟩
                     go_simp; with_reducible rfl
                   rotate_left
                   · simp only [Act.put, List.setIfInBounds_toArray, List.set_cons_zero, List.set_cons_succ, i64_w, i32_w]; rfl
                   refine one_ (i := 2) (N := some 12) Fl8 rfl rfl (one_of HT_.out (by kernel_rfl)) (by decide) (fun K hK => ?_); refine goes_ Try.func18 (by kernel_rfl) rfl #[.int .i64 a0_0] (by rfl) rfl rfl (by (try simp only [List.map_toArray, List.map_cons, List.map_nil]); first | done | rfl | (simp only [List.length_drop, List.length_take]; rfl)) ?_
                   with_reducible refine (chequerref01_Decimal.calls k a0_0 t109 _ A4.out).mono ?_
                   rintro e w30 ⟨rfl, hb⟩
                   refine ⟨_, rfl, ?_⟩; replace BK107 := Aside0.mk (blk_below (hp_ BK107.out) hb); replace HB := Aside0.mk (below_step bp_ hb)
                   (try clear hb)
                   (try clear hb2)
                   (try clear hk)
                   (try clear hi)
                   refine hK.out _ _ ⟨(blk_cell BK107.out 0).trans rfl, (blk_cell BK107.out 1).trans rfl, (blk_cell BK107.out 2).trans rfl, (blk_cell BK107.out 3).trans rfl⟩ (fun hHeld => ?_); clear hK K; refine norm_ (a' := ?_) ?_ ?_; rotate_left
                   · show Act.put _ (some 12) _ = _
                     simp only [Act.put, List.setIfInBounds_toArray, List.set_cons_zero, List.set_cons_succ, i64_w, i32_w]; rfl
                   refine pur_ (i := 3) (N := some 13) Fl9 (any_of HT_.out (by kernel_rfl)) ?_; refine pur_ (i := 4) (N := some 14) Fl10 (any_of HT_.out (by kernel_rfl)) ?_; refine one_ (i := 7) (N := some 17) Fl11 rfl rfl (one_of HT_.out (by kernel_rfl)) (by decide) (fun K hK => ?_); refine goes_ Try.func18 (by kernel_rfl) rfl #[.int .i64 a0_1] (by rfl) rfl rfl (by (try simp only [List.map_toArray, List.map_cons, List.map_nil]); first | done | rfl | (simp only [List.length_drop, List.length_take]; rfl)) ?_
                   with_reducible refine (chequerref01_Decimal.calls k a0_1 t110 _ A7.out).mono ?_
                   rintro e w31 ⟨rfl, hb⟩
                   refine ⟨_, rfl, ?_⟩; replace BK107 := Aside0.mk (blk_below (hp_ BK107.out) hb); replace HB := Aside0.mk (below_step bp_ hb)
                   (try clear hb)
                   (try clear hb2)
                   (try clear hk)
                   (try clear hi)
                   refine hK.out _ _ ⟨(blk_cell BK107.out 0).trans rfl, (blk_cell BK107.out 1).trans rfl, (blk_cell BK107.out 2).trans rfl, (blk_cell BK107.out 3).trans rfl⟩ (fun hHeld => ?_); clear hK K; refine norm_ (a' := ?_) ?_ ?_; rotate_left
                   · show Act.put _ (some 17) _ = _
                     simp only [Act.put, List.setIfInBounds_toArray, List.set_cons_zero, List.set_cons_succ, i64_w, i32_w]; rfl
                   refine pur_ (i := 8) (N := some 18) Fl12 (any_of HT_.out (by kernel_rfl)) ?_; refine pur_ (i := 9) (N := some 19) Fl13 (any_of HT_.out (by kernel_rfl)) ?_; refine one_ (i := 12) (N := some 22) Fl14 rfl rfl (one_of HT_.out (by kernel_rfl)) (by decide) (fun K hK => ?_); refine goes_ Try.func18 (by kernel_rfl) rfl #[.int .i64 a0_2] (by rfl) rfl rfl (by (try simp only [List.map_toArray, List.map_cons, List.map_nil]); first | done | rfl | (simp only [List.length_drop, List.length_take]; rfl)) ?_
                   with_reducible refine (chequerref01_Decimal.calls k a0_2 t111 _ A10.out).mono ?_
                   rintro e w32 ⟨rfl, hb⟩
                   refine ⟨_, rfl, ?_⟩; replace BK107 := Aside0.mk (blk_below (hp_ BK107.out) hb); replace HB := Aside0.mk (below_step bp_ hb)
                   (try clear hb)
                   (try clear hb2)
                   (try clear hk)
                   (try clear hi)
                   refine hK.out _ _ ⟨(blk_cell BK107.out 0).trans rfl, (blk_cell BK107.out 1).trans rfl, (blk_cell BK107.out 2).trans rfl, (blk_cell BK107.out 3).trans rfl⟩ (fun hHeld => ?_); clear hK K; refine norm_ (a' := ?_) ?_ ?_; rotate_left
                   · show Act.put _ (some 22) _ = _
                     simp only [Act.put, List.setIfInBounds_toArray, List.set_cons_zero, List.set_cons_succ, i64_w, i32_w]; rfl
                   refine pur_ (i := 13) (N := some 23) Fl15 (any_of HT_.out (by kernel_rfl)) ?_; refine pur_ (i := 14) (N := some 24) Fl16 (any_of HT_.out (by kernel_rfl)) ?_; refine pur_ (i := 15) (N := some 5) Fl17 (any_of HT_.out (by kernel_rfl)) ?_; refine done_ (done_of HT_.out (by kernel_rfl)) ?_
                   have hcz33_0 : w32.cell? ⟨gb107, 0, none⟩ = some (.int .i64 a0_0) := (blk_cell BK107.out 0).trans rfl
                   have hcz33_1 : w32.cell? ⟨gb107, 1, none⟩ = some (.int .i64 a0_1) := (blk_cell BK107.out 1).trans rfl
                   have hcz33_2 : w32.cell? ⟨gb107, 2, none⟩ = some (.int .i64 a0_2) := (blk_cell BK107.out 2).trans rfl
                   have hcz33_3 : w32.cell? ⟨gb107, 3, none⟩ = some (.int .i64 a0_3) := (blk_cell BK107.out 3).trans rfl
                   have hfz33_0 := blk_frozen BK107.out 0; have hfz33_1 := blk_frozen BK107.out 1; have hfz33_2 := blk_frozen BK107.out 2; have hfz33_3 := blk_frozen BK107.out 3
                   try go_wp2_with (first | ((with_reducible refine gate_callee (f := 32) rfl ?_); refine goQ_ (some 27) Try.func32 #[.int .i64 a0_0] ?_; (with_reducible refine (chequerref06_bits.calls a0_0 false _ A13.out).mono ?_); rintro e w' ⟨rfl, ⟨nd, rfl⟩⟩; refine ⟨_, rfl, ?_⟩) | ((with_reducible refine gate_callee (f := 18) rfl ?_); refine goQ_ (some 32) Try.func18 #[.int .i64 a0_3] ?_; (with_reducible refine (chequerref01_Decimal.calls k a0_3 t113 _ A23.out).mono ?_); rintro e w34 ⟨rfl, hb⟩; refine ⟨_, rfl, ?_⟩; replace HB := Aside0.mk (below_step bp_ hb); (try clear hb); (try clear hb2); (try clear hk); (try clear hi)))
                   go_ret2
                   exact ⟨by first | rfl | (simp [errW_none, errW_some] <;> rfl) | (simp [*, errW_none, errW_some] <;> rfl), bp_⟩
                 rw [if_neg c25] at H
                 exact absurd H (by simp)
               rw [if_neg c24] at H
               exact absurd H (by simp)
             rw [if_neg c12] at H
             exact absurd H (by simp)
           rw [if_neg c11] at H
           exact absurd H (by simp)
         rw [if_neg c9] at H
         exact absurd H (by simp)
       rw [if_neg c8] at H
       exact absurd H (by simp)
     rw [if_neg c6] at H
     exact absurd H (by simp)
   rw [if_neg c5] at H
   exact absurd H (by simp)
 replace c3 := Bool.eq_false_iff.mpr c3
 subst c3
 have H1 : (some ((⟨#[]⟩ : ByteArray), 1)) = some (r1, r2) := by rw [if_neg (show ¬ (false = true) by decide)] at H; exact H
 clear H
 have H := H1
 clear H1
 simp only [Option.some.injEq, Prod.mk.injEq] at H
 obtain ⟨rfl, rfl⟩ := H
 go_enter Try.func10, Try.ntmps10
 go_wp2_with (first | ((with_reducible refine gate_dst (N := 1) rfl ?_); refine box_event ?hg (N := 1) ?hd (cs := #[.int .i64 a0_0, .int .i64 a0_1, .int .i64 a0_2, .int .i64 a0_3]) (t := 25) ?hr ?_; (case hd => rfl); (case hg => rfl); (case hr => first | (go_simp; done) | (go_simp; rfl)); intro gb107 hg w35 hbox hb; have BK107 := Aside0.mk (hbox); have GW107 := Aside0.mk ((by rw [hg]; exact (below_size bp_) : w.heap.size ≤ gb107)); have GE107 := Aside0.mk ((by rw [hg]; exact (below_size bp_) : w.heap.size ≤ gb107)); replace HB := Aside0.mk (below_step bp_ hb); clear hb hbox hg; have hcz36_0 : w35.cell? ⟨gb107, 0, none⟩ = some (.int .i64 a0_0) := (blk_cell BK107.out 0).trans rfl; have hcz36_1 : w35.cell? ⟨gb107, 1, none⟩ = some (.int .i64 a0_1) := (blk_cell BK107.out 1).trans rfl; have hcz36_2 : w35.cell? ⟨gb107, 2, none⟩ = some (.int .i64 a0_2) := (blk_cell BK107.out 2).trans rfl; have hcz36_3 : w35.cell? ⟨gb107, 3, none⟩ = some (.int .i64 a0_3) := (blk_cell BK107.out 3).trans rfl; have hfz36_0 := blk_frozen BK107.out 0; have hfz36_1 := blk_frozen BK107.out 1; have hfz36_2 := blk_frozen BK107.out 2; have hfz36_3 := blk_frozen BK107.out 3) | ((with_reducible refine gate_callee (f := 31) rfl ?_); refine goQ_ (some 7) Try.func31 #[.agg #[.int .i64 a0_0, .int .i64 a0_1, .int .i64 a0_2, .int .i64 a0_3]] ?_; (with_reducible refine (chequerref06_May.calls a0_0 a0_1 a0_2 a0_3 false _ A2.out).mono ?_); rintro e w37 ⟨rfl, hb⟩; refine ⟨_, rfl, ?_⟩; replace HB := Aside0.mk (below_step bp_ hb); (try clear hb); (try clear hb2); (try clear hk); (try clear hi)))
 go_ret2
 exact ⟨by first | rfl | (simp [errW_none, errW_some] <;> rfl) | (simp [*, errW_none, errW_some] <;> rfl), bp_⟩

end Go.Proofs.Ytmimfljiighbaaa.Q
