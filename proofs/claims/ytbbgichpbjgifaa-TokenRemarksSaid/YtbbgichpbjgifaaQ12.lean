-- written by our own program (wip/tools/myprint.py) out of the translation, by the kit's print; Lean checks it
import Derived.Test.YtbbgichpbjgifaaQ0
import Derived.Test.YtbbgichpbjgifaaQ1
import Derived.Test.YtbbgichpbjgifaaItoken_All
import Derived.Test.YtbbgichpbjgifaaQ8
import Derived.Test.YtbbgichpbjgifaaItoken_Skip
import Derived.Test.YtbbgichpbjgifaaQ11
namespace Go.Proofs.Ytbbgichpbjgifaa.Q
open Go.RowKit Go.Proofs.YtbbgichpbjgifaaW.PrintWords Go.Proofs.YtbbgichpbjgifaaW.PrintLast Go.Proofs.YtbbgichpbjgifaaW.PrintMore
attribute [local go_sem] max2_int min2_int max_two min_two max_three min_three max_four min_four   -- for this text's walks alone
set_option linter.unusedVariables false
set_option linter.unusedSimpArgs false

abbrev Fl1 : Array Bool := #[true, true, true, true, true, true, true, true, true, false, false]
abbrev Fl2 : Array Bool := #[true, true, true, true, true, true, true, true, false, false, false]
abbrev Fl3 : Array Bool := #[false, false, false, false, false, false, false, false, false, false, false]
abbrev Fl4 : Array Bool := #[true, false, false, false, false, false, false, false, false, false, false]
abbrev Fl5 : Array Bool := #[true, true, false, false, false, false, false, false, false, false, false]
abbrev Fl6 : Array Bool := #[true, true, true, false, false, false, false, false, false, false, false]
abbrev Fl7 : Array Bool := #[true, true, true, true, false, false, false, false, false, false, false]
abbrev Fl8 : Array Bool := #[true, true, true, true, false, false, true, false, false, false, false]
abbrev Fl9 : Array Bool := #[true, true, true, true, false, false, true, true, false, false, false]
abbrev Fl10 : Array Bool := #[true, true, true, true, false, false, true, true, true, false, false]
abbrev Fl11 : Array Bool := #[true, true, true, true, true, false, true, false, false, false, false]
abbrev Fl12 : Array Bool := #[true, true, true, true, true, false, true, true, false, false, false]
abbrev Fl13 : Array Bool := #[true, true, true, true, true, false, true, true, true, false, false]
abbrev Fl14 : Array Bool := #[true, true, true, true, true, true, true, false, false, false, false]
abbrev Fl15 : Array Bool := #[true, true, true, true, true, true, true, true, true, true, false]
abbrev Fl16 : Array Bool := #[true, true, true, true, true, true, true, true, true, true, true]
/-! ### chequerlaw05_TokenRemarks: function 3 -/
def chequerlaw05_TokenRemarks.l0 : Nat → ByteArray → Int → Int → ByteArray → Int → Option (Bool)
 | 0, _, _, _, _, _ => none
 | k + 1, x1, x2, x7, x8, x9 => if x9 < (x1.size : Int) then (if 0 ≤ x9 then (if (bt x1 x9) = 10 then (chequerlaw05_TokenRemarks.l0 k x1 x2 x7 x8 (wrap64 (x9 + 1))) else (if (bt x1 x9) = 13 then (chequerlaw05_TokenRemarks.l0 k x1 x2 x7 x8 (wrap64 (x9 + 1))) else (if x9 ≤ (wrap64 (x9 + 1)) then (if (wrap64 (x9 + 1)) ≤ (x1.size : Int) then (if x8.size + (x1.extract (x9 : Int).toNat ((wrap64 (x9 + 1)) : Int).toNat).size ≤ 9223372036854775807 then (chequerlaw05_TokenRemarks.l0 k x1 x2 x7 (x8 ++ (x1.extract (x9 : Int).toNat ((wrap64 (x9 + 1)) : Int).toNat)) (wrap64 (x9 + 1))) else (none)) else (none)) else (none)))) else (none)) else ((some (([9, 10, 11, 12, 13, 32] : List Int) : List Int)).bind fun y173 => ((chequerref01_Around.f x2 6).bind fun t176 => (if 0 ≤ t176 then (if t176 < (y173.length : Int) then (if 1 + x8.size ≤ 9223372036854775807 then (if ((⟨#[32]⟩ : ByteArray) ++ x8).size + 2 ≤ 9223372036854775807 then ((chequerref01_Decimal.f k x7).bind fun t178 => (if (((⟨#[32]⟩ : ByteArray) ++ x8) ++ (⟨#[10, 9]⟩ : ByteArray)).size + t178.size ≤ 9223372036854775807 then ((some (([rd y173 t176] : List Int) : List Int)).bind fun y179 => (if ((((⟨#[32]⟩ : ByteArray) ++ x8) ++ (⟨#[10, 9]⟩ : ByteArray)) ++ t178).size + (strOfNums y179).size ≤ 9223372036854775807 then ((token_All.f (((((⟨#[32]⟩ : ByteArray) ++ x8) ++ (⟨#[10, 9]⟩ : ByteArray)) ++ t178) ++ (strOfNums y179)) x7).bind fun bt182 => ((chequerref01_Decimal.f k x7).bind fun t187 => (if t187.size + x8.size ≤ 9223372036854775807 then (if (t187 ++ x8).size + 1 ≤ 9223372036854775807 then ((token_All.f ((t187 ++ x8) ++ (⟨#[13]⟩ : ByteArray)) x7).bind fun bt188 => ((chequerref01_Same.f k bt182.1 (([x7] : List Int))).bind fun t196 => (if t196 = true then (if bt182.2.1 = ((((((⟨#[32]⟩ : ByteArray) ++ x8) ++ (⟨#[10, 9]⟩ : ByteArray)) ++ t178) ++ (strOfNums y179)).size : Int) then (if bt182.2.2 = 0 then ((chequerref01_Same.f k bt188.1 (([x7] : List Int))).bind fun t200 => (if t200 = true then ((chequerref01_Decimal.f k x7).bind fun t201 => (if bt188.2.1 = (wrap64 ((wrap64 ((t201.size : Int) + (x8.size : Int))) + 1)) then (if bt188.2.2 = 0 then ((token_Skip.f x8).bind fun t202 => (if t202 = (x8.size : Int) then ((chequerlaw05_lives.f).bind fun t203 => (some t203)) else (some false))) else (some false)) else (some false))) else (some false))) else (some false)) else (some false)) else (some false)))) else (none)) else (none)))) else (none))) else (none))) else (none)) else (none)) else (none)) else (none))))
def chequerlaw05_TokenRemarks.f (k : Nat) (a0 : Int) (a1 : ByteArray) (a2 : Int) : Option (Bool) := (chequerref02_Limit.f a0).bind fun t171 => ((chequerref05_Few.f a1 30).bind fun t172 => (chequerlaw05_TokenRemarks.l0 k t172 a2 t171 (⟨#[35]⟩ : ByteArray) 0))
theorem chequerlaw05_TokenRemarks.mono_l : ∀ k, (∀ y0 y1 y2 y3 y4, LeO (chequerlaw05_TokenRemarks.l0 k y0 y1 y2 y3 y4) (chequerlaw05_TokenRemarks.l0 (k + 1) y0 y1 y2 y3 y4))
 | 0 => fun _ _ _ _ _ r h => by simp [chequerlaw05_TokenRemarks.l0] at h
 | k + 1 => by
  have ih0 := chequerlaw05_TokenRemarks.mono_l k
  · intro y0 y1 y2 y3 y4
    unfold chequerlaw05_TokenRemarks.l0
    repeat' first
    | (with_reducible exact ih0 _ _ _ _ _)
    | (with_reducible exact chequerref01_Decimal.mono _ _)
    | (with_reducible exact chequerref01_Same.mono _ _ _)
    | (with_reducible exact LeO.refl _)
    | (with_reducible exact LeO.none _)
    | (with_reducible refine LeO.ite ?_ ?_)
    | (with_reducible refine LeO.bind ?_ (fun _ => ?_))
    | exact ih0 _ _ _ _ _
    | exact chequerref01_Decimal.mono _ _
    | exact chequerref01_Same.mono _ _ _
    | exact LeO.none _
    | refine LeO.ite ?_ ?_
    | refine LeO.bind ?_ (fun _ => ?_)
theorem chequerlaw05_TokenRemarks.mono : ∀ a0 a1 a2 k, LeO (chequerlaw05_TokenRemarks.f k a0 a1 a2) (chequerlaw05_TokenRemarks.f (k + 1) a0 a1 a2) := by
 intro a0 a1 a2 k
 have ih0 := chequerlaw05_TokenRemarks.mono_l k
 unfold chequerlaw05_TokenRemarks.f
 repeat' first
  | (with_reducible exact ih0 _ _ _ _ _)
  | (with_reducible exact chequerref01_Decimal.mono _ _)
  | (with_reducible exact chequerref01_Same.mono _ _ _)
  | (with_reducible exact LeO.refl _)
  | (with_reducible exact LeO.none _)
  | (with_reducible refine LeO.ite ?_ ?_)
  | (with_reducible refine LeO.bind ?_ (fun _ => ?_))
  | exact ih0 _ _ _ _ _
  | exact chequerref01_Decimal.mono _ _
  | exact chequerref01_Same.mono _ _ _
  | exact LeO.none _
  | refine LeO.ite ?_ ?_
  | refine LeO.bind ?_ (fun _ => ?_)
def chequerlaw05_TokenRemarks.T10 : Bool × List (List Nat × List Nat) := (true, [([], []), ([0], [0]), ([1], [1]), ([], []), ([3], [3]), ([2, 4], [2, 4]), ([], []), ([6], [6]), ([7], [7]), ([5, 8], [5, 8]), ([9, 4, 0, 1, 2, 3, 4, 5, 6, 7, 8, 9], [9])])
def chequerlaw05_TokenRemarks.B10 : List Nat := [0, 1, 3, 0, 8, 31, 0, 64, 192, 511, 1023]
theorem chequerlaw05_TokenRemarks.tab10 : rtab .any (opsOf Try.f3 10) = chequerlaw05_TokenRemarks.T10 := by kernel_rfl
theorem chequerlaw05_TokenRemarks.bits10 : waitsOk chequerlaw05_TokenRemarks.T10.2 chequerlaw05_TokenRemarks.B10 = true := by kernel_rfl
set_option maxHeartbeats 8000000 in
set_option maxRecDepth 100000 in
theorem chequerlaw05_TokenRemarks.calls (k : Nat) (a0 : Int) (a1 : ByteArray) (a2 : Int) (r : Bool) (w : World) (h : chequerlaw05_TokenRemarks.f k a0 a1 a2 = some r) :
 Calls Try.prog 3 #[.int .i64 a0, .string a1, .int .i64 a2] w fun e w' => e = .returned (.bool r) ∧ Below w.heap.size w w' := by
 have HB := Aside0.mk (Below.refl w.heap.size w)
 have H : ((chequerref02_Limit.f a0).bind fun t171 => ((chequerref05_Few.f a1 30).bind fun t172 => (chequerlaw05_TokenRemarks.l0 k t172 a2 t171 (⟨#[35]⟩ : ByteArray) 0))) = some r := h
 clear h
 replace H := Option.bind_eq_some_iff.mp H
 obtain ⟨t171, A40, H⟩ := H
 replace H : ((chequerref05_Few.f a1 30).bind fun t172 => (chequerlaw05_TokenRemarks.l0 k t172 a2 t171 (⟨#[35]⟩ : ByteArray) 0)) = some r := H
 have A4 := Aside0.mk A40
 clear A40
 replace H := Option.bind_eq_some_iff.mp H
 obtain ⟨t172, A50, H⟩ := H
 replace H : (chequerlaw05_TokenRemarks.l0 k t172 a2 t171 (⟨#[35]⟩ : ByteArray) 0) = some r := H
 have A5 := Aside0.mk A50
 clear A50
 have H' := Aside0.mk H
 clear H
 go_enter Try.func3, Try.ntmps3
 go_wp2_with (first | ((with_reducible refine gate_callee (f := 8) rfl ?_); refine goQ_ (some 19) Try.func8 #[.int .i64 a0] ?_; (with_reducible refine (chequerref02_Limit.calls a0 t171 _ A4.out).mono ?_); rintro e w' ⟨rfl, ⟨nd, rfl⟩⟩; refine ⟨_, rfl, ?_⟩) | ((with_reducible refine gate_callee (f := 9) rfl ?_); refine goQ_ (some 21) Try.func9 #[.string a1, .int .i64 30] ?_; (with_reducible refine (chequerref05_Few.calls a1 30 t172 _ A5.out).mono ?_); rintro e w' ⟨rfl, ⟨nd, rfl⟩⟩; refine ⟨_, rfl, ?_⟩))
 go_loopg [8, 9] k (fun kq v8 v9 w' => ∃ (x8_1 : ByteArray) (x9_1 : Int), v8 = .string x8_1 ∧ v9 = .int .i64 x9_1 ∧ Aside0 (chequerlaw05_TokenRemarks.l0 kq t172 a2 t171 x8_1 x9_1 = some r) ∧ Aside0 (kq ≤ k) ∧ Aside0 (Below w.heap.size w w'))
 case atStart => exact ⟨((⟨#[35]⟩ : ByteArray)), (0), (by first | rfl | (simp; done) | (simp [*]; done)), (by first | rfl | (simp; done) | (simp [*]; done)), H', ⟨Nat.le_refl _⟩, ⟨bp_⟩⟩
 case round =>
  clear H'
  try clear p2
  try clear c3
  obtain ⟨x8_1, x9_1, rfl, rfl, HA, HK1, HB⟩ := hrel
  cases gk with
  | zero => exact absurd HA.out (by simp [chequerlaw05_TokenRemarks.l0])
  | succ k1 =>
   have H := HA.out
   clear HA
   simp only [chequerlaw05_TokenRemarks.l0] at H
   by_cases c6 : x9_1 < (t172.size : Int)
   · rw [if_pos c6] at H
     have c6b0 : decide (x9_1 < (t172.size : Int)) = true := decide_eq_true c6
     clear c6
     by_cases c7 : 0 ≤ x9_1
     · rw [if_pos c7] at H
       have c7b0 : decide (0 ≤ x9_1) = true := decide_eq_true c7
       clear c7
       by_cases c9 : (bt t172 x9_1) = 10
       · rw [if_pos c9] at H
         have c9b0 : ((bt t172 x9_1) == 10) = true := beq_iff_eq.mpr c9
         have c9b1 : ((bt t172 x9_1) != 10) = false := bne_eq_false_iff_eq.mpr c9
         clear c9
         have H' := Aside0.mk H
         clear H
         have p8 : 0 ≤ (x9_1 : Int) := of_decide_eq_true (by first | (with_reducible assumption) | assumption)
         have q8 : x9_1 < (t172.size : Int) := of_decide_eq_true (by first | (with_reducible assumption) | assumption)
         have hx8 := bt_at t172 x9_1
         replace p8 := eq_true p8
         replace q8 := eq_true q8
         go_wp2
         go_roundg k1
         case measure => have := HK1.out; omega
         case rel => exact ⟨(x8_1), (wrap64 (x9_1 + 1)), (by first | rfl | (simp; done) | (simp [*]; done)), (by first | rfl | (simp; done) | (simp [*]; done)), H', ⟨by have := HK1.out; omega⟩, ⟨bp_⟩⟩
       · rw [if_neg c9] at H
         have c9b0 : ((bt t172 x9_1) == 10) = false := beq_eq_false_iff_ne.mpr c9
         have c9b1 : ((bt t172 x9_1) != 10) = true := bne_iff_ne.mpr c9
         by_cases c11 : (bt t172 x9_1) = 13
         · rw [if_pos c11] at H
           have c11b0 : ((bt t172 x9_1) == 13) = true := beq_iff_eq.mpr c11
           have c11b1 : ((bt t172 x9_1) != 13) = false := bne_eq_false_iff_eq.mpr c11
           clear c11
           have H' := Aside0.mk H
           clear H
           have p8 : 0 ≤ (x9_1 : Int) := of_decide_eq_true (by first | (with_reducible assumption) | assumption)
           have q8 : x9_1 < (t172.size : Int) := of_decide_eq_true (by first | (with_reducible assumption) | assumption)
           have hx8 := bt_at t172 x9_1
           replace p8 := eq_true p8
           replace q8 := eq_true q8
           have p10 : 0 ≤ (x9_1 : Int) := of_decide_eq_true (by first | (with_reducible assumption) | assumption)
           have q10 : x9_1 < (t172.size : Int) := of_decide_eq_true (by first | (with_reducible assumption) | assumption)
           have hx10 := bt_at t172 x9_1
           replace p10 := eq_true p10
           replace q10 := eq_true q10
           go_wp2
           go_roundg k1
           case measure => have := HK1.out; omega
           case rel => exact ⟨(x8_1), (wrap64 (x9_1 + 1)), (by first | rfl | (simp; done) | (simp [*]; done)), (by first | rfl | (simp; done) | (simp [*]; done)), H', ⟨by have := HK1.out; omega⟩, ⟨bp_⟩⟩
         · rw [if_neg c11] at H
           have c11b0 : ((bt t172 x9_1) == 13) = false := beq_eq_false_iff_ne.mpr c11
           have c11b1 : ((bt t172 x9_1) != 13) = true := bne_iff_ne.mpr c11
           have c12b0 := eq_true (of_decide_eq_true (by first | (with_reducible assumption) | assumption) : 0 ≤ x9_1)
           by_cases c13 : x9_1 ≤ (wrap64 (x9_1 + 1))
           · rw [if_pos c13] at H
             have c13b0 := eq_true c13
             have c13b1 : decide (x9_1 ≤ (wrap64 (x9_1 + 1))) = true := decide_eq_true c13
             by_cases c14 : (wrap64 (x9_1 + 1)) ≤ (t172.size : Int)
             · rw [if_pos c14] at H
               have c14b0 := eq_true c14
               have c14b1 : decide ((wrap64 (x9_1 + 1)) ≤ (t172.size : Int)) = true := decide_eq_true c14
               by_cases c15 : x8_1.size + (t172.extract (x9_1 : Int).toNat ((wrap64 (x9_1 + 1)) : Int).toNat).size ≤ 9223372036854775807
               · rw [if_pos c15] at H
                 have c15b0 := eq_true c15
                 have c15b1 : decide (x8_1.size + (t172.extract (x9_1 : Int).toNat ((wrap64 (x9_1 + 1)) : Int).toNat).size ≤ 9223372036854775807) = true := decide_eq_true c15
                 try have c15b2 : (9223372036854775807 < x8_1.size + (t172.extract (x9_1 : Int).toNat ((wrap64 (x9_1 + 1)) : Int).toNat).size) = False := eq_false (Nat.not_lt.2 c15)
                 have H' := Aside0.mk H
                 clear H
                 have p8 : 0 ≤ (x9_1 : Int) := of_decide_eq_true (by first | (with_reducible assumption) | assumption)
                 have q8 : x9_1 < (t172.size : Int) := of_decide_eq_true (by first | (with_reducible assumption) | assumption)
                 have hx8 := bt_at t172 x9_1
                 replace p8 := eq_true p8
                 replace q8 := eq_true q8
                 have p10 : 0 ≤ (x9_1 : Int) := of_decide_eq_true (by first | (with_reducible assumption) | assumption)
                 have q10 : x9_1 < (t172.size : Int) := of_decide_eq_true (by first | (with_reducible assumption) | assumption)
                 have hx10 := bt_at t172 x9_1
                 replace p10 := eq_true p10
                 replace q10 := eq_true q10
                 go_wp2
                 go_roundg k1
                 case measure => have := HK1.out; omega
                 case rel => exact ⟨(x8_1 ++ (t172.extract (x9_1 : Int).toNat ((wrap64 (x9_1 + 1)) : Int).toNat)), (wrap64 (x9_1 + 1)), (by first | rfl | (simp; done) | (simp [*]; done)), (by first | rfl | (simp; done) | (simp [*]; done)), H', ⟨by have := HK1.out; omega⟩, ⟨bp_⟩⟩
               · rw [if_neg c15] at H
                 exact absurd H (by simp)
             · rw [if_neg c14] at H
               exact absurd H (by simp)
           · rw [if_neg c13] at H
             exact absurd H (by simp)
     · rw [if_neg c7] at H
       exact absurd H (by simp)
   · rw [if_neg c6] at H
     have c6b0 : decide (x9_1 < (t172.size : Int)) = false := decide_eq_false c6
     clear c6
     obtain ⟨y173, hy173⟩ : ∃ y_ : List Int, y_ = (([9, 10, 11, 12, 13, 32] : List Int)) := ⟨_, rfl⟩
     replace H : ((chequerref01_Around.f a2 6).bind fun t176 => (if 0 ≤ t176 then (if t176 < (y173.length : Int) then (if 1 + x8_1.size ≤ 9223372036854775807 then (if ((⟨#[32]⟩ : ByteArray) ++ x8_1).size + 2 ≤ 9223372036854775807 then ((chequerref01_Decimal.f k1 t171).bind fun t178 => (if (((⟨#[32]⟩ : ByteArray) ++ x8_1) ++ (⟨#[10, 9]⟩ : ByteArray)).size + t178.size ≤ 9223372036854775807 then ((some (([rd y173 t176] : List Int) : List Int)).bind fun y179 => (if ((((⟨#[32]⟩ : ByteArray) ++ x8_1) ++ (⟨#[10, 9]⟩ : ByteArray)) ++ t178).size + (strOfNums y179).size ≤ 9223372036854775807 then ((token_All.f (((((⟨#[32]⟩ : ByteArray) ++ x8_1) ++ (⟨#[10, 9]⟩ : ByteArray)) ++ t178) ++ (strOfNums y179)) t171).bind fun bt182 => ((chequerref01_Decimal.f k1 t171).bind fun t187 => (if t187.size + x8_1.size ≤ 9223372036854775807 then (if (t187 ++ x8_1).size + 1 ≤ 9223372036854775807 then ((token_All.f ((t187 ++ x8_1) ++ (⟨#[13]⟩ : ByteArray)) t171).bind fun bt188 => ((chequerref01_Same.f k1 bt182.1 (([t171] : List Int))).bind fun t196 => (if t196 = true then (if bt182.2.1 = ((((((⟨#[32]⟩ : ByteArray) ++ x8_1) ++ (⟨#[10, 9]⟩ : ByteArray)) ++ t178) ++ (strOfNums y179)).size : Int) then (if bt182.2.2 = 0 then ((chequerref01_Same.f k1 bt188.1 (([t171] : List Int))).bind fun t200 => (if t200 = true then ((chequerref01_Decimal.f k1 t171).bind fun t201 => (if bt188.2.1 = (wrap64 ((wrap64 ((t201.size : Int) + (x8_1.size : Int))) + 1)) then (if bt188.2.2 = 0 then ((token_Skip.f x8_1).bind fun t202 => (if t202 = (x8_1.size : Int) then ((chequerlaw05_lives.f).bind fun t203 => (some t203)) else (some false))) else (some false)) else (some false))) else (some false))) else (some false)) else (some false)) else (some false)))) else (none)) else (none)))) else (none))) else (none))) else (none)) else (none)) else (none)) else (none))) = some r := by first | (rw [hy173]; with_reducible exact H) | (have H2_ := (Option.bind_some _ _).symm.trans H; rw [hy173]; with_reducible exact H2_) | (have H2_ := (Option.bind_some _ _).symm.trans H; with_reducible exact H2_) | with_reducible exact H | (rw [hy173]; exact H) | exact H
     have Ny173 := Aside0.mk hy173
     clear hy173
     replace H := Option.bind_eq_some_iff.mp H
     obtain ⟨t176, A160, H⟩ := H
     replace H : (if 0 ≤ t176 then (if t176 < (y173.length : Int) then (if 1 + x8_1.size ≤ 9223372036854775807 then (if ((⟨#[32]⟩ : ByteArray) ++ x8_1).size + 2 ≤ 9223372036854775807 then ((chequerref01_Decimal.f k1 t171).bind fun t178 => (if (((⟨#[32]⟩ : ByteArray) ++ x8_1) ++ (⟨#[10, 9]⟩ : ByteArray)).size + t178.size ≤ 9223372036854775807 then ((some (([rd y173 t176] : List Int) : List Int)).bind fun y179 => (if ((((⟨#[32]⟩ : ByteArray) ++ x8_1) ++ (⟨#[10, 9]⟩ : ByteArray)) ++ t178).size + (strOfNums y179).size ≤ 9223372036854775807 then ((token_All.f (((((⟨#[32]⟩ : ByteArray) ++ x8_1) ++ (⟨#[10, 9]⟩ : ByteArray)) ++ t178) ++ (strOfNums y179)) t171).bind fun bt182 => ((chequerref01_Decimal.f k1 t171).bind fun t187 => (if t187.size + x8_1.size ≤ 9223372036854775807 then (if (t187 ++ x8_1).size + 1 ≤ 9223372036854775807 then ((token_All.f ((t187 ++ x8_1) ++ (⟨#[13]⟩ : ByteArray)) t171).bind fun bt188 => ((chequerref01_Same.f k1 bt182.1 (([t171] : List Int))).bind fun t196 => (if t196 = true then (if bt182.2.1 = ((((((⟨#[32]⟩ : ByteArray) ++ x8_1) ++ (⟨#[10, 9]⟩ : ByteArray)) ++ t178) ++ (strOfNums y179)).size : Int) then (if bt182.2.2 = 0 then ((chequerref01_Same.f k1 bt188.1 (([t171] : List Int))).bind fun t200 => (if t200 = true then ((chequerref01_Decimal.f k1 t171).bind fun t201 => (if bt188.2.1 = (wrap64 ((wrap64 ((t201.size : Int) + (x8_1.size : Int))) + 1)) then (if bt188.2.2 = 0 then ((token_Skip.f x8_1).bind fun t202 => (if t202 = (x8_1.size : Int) then ((chequerlaw05_lives.f).bind fun t203 => (some t203)) else (some false))) else (some false)) else (some false))) else (some false))) else (some false)) else (some false)) else (some false)))) else (none)) else (none)))) else (none))) else (none))) else (none)) else (none)) else (none)) else (none)) = some r := H
     have A16 := Aside0.mk A160
     clear A160
     by_cases c17 : 0 ≤ t176
     · rw [if_pos c17] at H
       have c17b0 : decide (0 ≤ t176) = true := decide_eq_true c17
       clear c17
       by_cases c18 : t176 < (y173.length : Int)
       · rw [if_pos c18] at H
         have c18b0 : decide (t176 < (y173.length : Int)) = true := decide_eq_true c18
         clear c18
         by_cases c19 : 1 + x8_1.size ≤ 9223372036854775807
         · rw [if_pos c19] at H
           have c19b0 := eq_true c19
           have c19b1 : decide (1 + x8_1.size ≤ 9223372036854775807) = true := decide_eq_true c19
           try have c19b2 : (9223372036854775807 < 1 + x8_1.size) = False := eq_false (Nat.not_lt.2 c19)
           by_cases c20 : ((⟨#[32]⟩ : ByteArray) ++ x8_1).size + 2 ≤ 9223372036854775807
           · rw [if_pos c20] at H
             have c20b0 := eq_true c20
             have c20b1 : decide (((⟨#[32]⟩ : ByteArray) ++ x8_1).size + 2 ≤ 9223372036854775807) = true := decide_eq_true c20
             try have c20b2 : (9223372036854775807 < ((⟨#[32]⟩ : ByteArray) ++ x8_1).size + 2) = False := eq_false (Nat.not_lt.2 c20)
             (try (have c20y := c20b2; simp only [ByteArray.size_append, show (⟨#[32]⟩ : ByteArray).size = 1 from rfl] at c20y))
             replace H := Option.bind_eq_some_iff.mp H
             obtain ⟨t178, A210, H⟩ := H
             replace H : (if (((⟨#[32]⟩ : ByteArray) ++ x8_1) ++ (⟨#[10, 9]⟩ : ByteArray)).size + t178.size ≤ 9223372036854775807 then ((some (([rd y173 t176] : List Int) : List Int)).bind fun y179 => (if ((((⟨#[32]⟩ : ByteArray) ++ x8_1) ++ (⟨#[10, 9]⟩ : ByteArray)) ++ t178).size + (strOfNums y179).size ≤ 9223372036854775807 then ((token_All.f (((((⟨#[32]⟩ : ByteArray) ++ x8_1) ++ (⟨#[10, 9]⟩ : ByteArray)) ++ t178) ++ (strOfNums y179)) t171).bind fun bt182 => ((chequerref01_Decimal.f k1 t171).bind fun t187 => (if t187.size + x8_1.size ≤ 9223372036854775807 then (if (t187 ++ x8_1).size + 1 ≤ 9223372036854775807 then ((token_All.f ((t187 ++ x8_1) ++ (⟨#[13]⟩ : ByteArray)) t171).bind fun bt188 => ((chequerref01_Same.f k1 bt182.1 (([t171] : List Int))).bind fun t196 => (if t196 = true then (if bt182.2.1 = ((((((⟨#[32]⟩ : ByteArray) ++ x8_1) ++ (⟨#[10, 9]⟩ : ByteArray)) ++ t178) ++ (strOfNums y179)).size : Int) then (if bt182.2.2 = 0 then ((chequerref01_Same.f k1 bt188.1 (([t171] : List Int))).bind fun t200 => (if t200 = true then ((chequerref01_Decimal.f k1 t171).bind fun t201 => (if bt188.2.1 = (wrap64 ((wrap64 ((t201.size : Int) + (x8_1.size : Int))) + 1)) then (if bt188.2.2 = 0 then ((token_Skip.f x8_1).bind fun t202 => (if t202 = (x8_1.size : Int) then ((chequerlaw05_lives.f).bind fun t203 => (some t203)) else (some false))) else (some false)) else (some false))) else (some false))) else (some false)) else (some false)) else (some false)))) else (none)) else (none)))) else (none))) else (none)) = some r := H
             have A21 := Aside0.mk A210
             clear A210
             by_cases c22 : (((⟨#[32]⟩ : ByteArray) ++ x8_1) ++ (⟨#[10, 9]⟩ : ByteArray)).size + t178.size ≤ 9223372036854775807
             · rw [if_pos c22] at H
               have c22b0 := eq_true c22
               have c22b1 : decide ((((⟨#[32]⟩ : ByteArray) ++ x8_1) ++ (⟨#[10, 9]⟩ : ByteArray)).size + t178.size ≤ 9223372036854775807) = true := decide_eq_true c22
               try have c22b2 : (9223372036854775807 < (((⟨#[32]⟩ : ByteArray) ++ x8_1) ++ (⟨#[10, 9]⟩ : ByteArray)).size + t178.size) = False := eq_false (Nat.not_lt.2 c22)
               (try (have c22y := c22b2; simp only [ByteArray.size_append, show (⟨#[10, 9]⟩ : ByteArray).size = 2 from rfl, show (⟨#[32]⟩ : ByteArray).size = 1 from rfl] at c22y))
               obtain ⟨y179, hy179⟩ : ∃ y_ : List Int, y_ = (([rd y173 t176] : List Int)) := ⟨_, rfl⟩
               replace H : (if ((((⟨#[32]⟩ : ByteArray) ++ x8_1) ++ (⟨#[10, 9]⟩ : ByteArray)) ++ t178).size + (strOfNums y179).size ≤ 9223372036854775807 then ((token_All.f (((((⟨#[32]⟩ : ByteArray) ++ x8_1) ++ (⟨#[10, 9]⟩ : ByteArray)) ++ t178) ++ (strOfNums y179)) t171).bind fun bt182 => ((chequerref01_Decimal.f k1 t171).bind fun t187 => (if t187.size + x8_1.size ≤ 9223372036854775807 then (if (t187 ++ x8_1).size + 1 ≤ 9223372036854775807 then ((token_All.f ((t187 ++ x8_1) ++ (⟨#[13]⟩ : ByteArray)) t171).bind fun bt188 => ((chequerref01_Same.f k1 bt182.1 (([t171] : List Int))).bind fun t196 => (if t196 = true then (if bt182.2.1 = ((((((⟨#[32]⟩ : ByteArray) ++ x8_1) ++ (⟨#[10, 9]⟩ : ByteArray)) ++ t178) ++ (strOfNums y179)).size : Int) then (if bt182.2.2 = 0 then ((chequerref01_Same.f k1 bt188.1 (([t171] : List Int))).bind fun t200 => (if t200 = true then ((chequerref01_Decimal.f k1 t171).bind fun t201 => (if bt188.2.1 = (wrap64 ((wrap64 ((t201.size : Int) + (x8_1.size : Int))) + 1)) then (if bt188.2.2 = 0 then ((token_Skip.f x8_1).bind fun t202 => (if t202 = (x8_1.size : Int) then ((chequerlaw05_lives.f).bind fun t203 => (some t203)) else (some false))) else (some false)) else (some false))) else (some false))) else (some false)) else (some false)) else (some false)))) else (none)) else (none)))) else (none)) = some r := by first | (rw [hy179]; with_reducible exact H) | (have H2_ := (Option.bind_some _ _).symm.trans H; rw [hy179]; with_reducible exact H2_) | (have H2_ := (Option.bind_some _ _).symm.trans H; with_reducible exact H2_) | with_reducible exact H | (rw [hy179]; exact H) | exact H
               have Ny179 := Aside0.mk hy179
               clear hy179
               by_cases c23 : ((((⟨#[32]⟩ : ByteArray) ++ x8_1) ++ (⟨#[10, 9]⟩ : ByteArray)) ++ t178).size + (strOfNums y179).size ≤ 9223372036854775807
               · rw [if_pos c23] at H
                 have c23b0 := eq_true c23
                 have c23b1 : decide (((((⟨#[32]⟩ : ByteArray) ++ x8_1) ++ (⟨#[10, 9]⟩ : ByteArray)) ++ t178).size + (strOfNums y179).size ≤ 9223372036854775807) = true := decide_eq_true c23
                 try have c23b2 : (9223372036854775807 < ((((⟨#[32]⟩ : ByteArray) ++ x8_1) ++ (⟨#[10, 9]⟩ : ByteArray)) ++ t178).size + (strOfNums y179).size) = False := eq_false (Nat.not_lt.2 c23)
                 (try (have c23y := c23b2; simp only [ByteArray.size_append, show (⟨#[10, 9]⟩ : ByteArray).size = 2 from rfl, show (⟨#[32]⟩ : ByteArray).size = 1 from rfl] at c23y))
                 replace H := Option.bind_eq_some_iff.mp H
                 obtain ⟨⟨t182, t183, t184⟩, A240, H⟩ := H
                 replace H : ((chequerref01_Decimal.f k1 t171).bind fun t187 => (if t187.size + x8_1.size ≤ 9223372036854775807 then (if (t187 ++ x8_1).size + 1 ≤ 9223372036854775807 then ((token_All.f ((t187 ++ x8_1) ++ (⟨#[13]⟩ : ByteArray)) t171).bind fun bt188 => ((chequerref01_Same.f k1 t182 (([t171] : List Int))).bind fun t196 => (if t196 = true then (if t183 = ((((((⟨#[32]⟩ : ByteArray) ++ x8_1) ++ (⟨#[10, 9]⟩ : ByteArray)) ++ t178) ++ (strOfNums y179)).size : Int) then (if t184 = 0 then ((chequerref01_Same.f k1 bt188.1 (([t171] : List Int))).bind fun t200 => (if t200 = true then ((chequerref01_Decimal.f k1 t171).bind fun t201 => (if bt188.2.1 = (wrap64 ((wrap64 ((t201.size : Int) + (x8_1.size : Int))) + 1)) then (if bt188.2.2 = 0 then ((token_Skip.f x8_1).bind fun t202 => (if t202 = (x8_1.size : Int) then ((chequerlaw05_lives.f).bind fun t203 => (some t203)) else (some false))) else (some false)) else (some false))) else (some false))) else (some false)) else (some false)) else (some false)))) else (none)) else (none))) = some r := H
                 have A24 := Aside0.mk A240
                 clear A240
                 replace H := Option.bind_eq_some_iff.mp H
                 obtain ⟨t187, A250, H⟩ := H
                 replace H : (if t187.size + x8_1.size ≤ 9223372036854775807 then (if (t187 ++ x8_1).size + 1 ≤ 9223372036854775807 then ((token_All.f ((t187 ++ x8_1) ++ (⟨#[13]⟩ : ByteArray)) t171).bind fun bt188 => ((chequerref01_Same.f k1 t182 (([t171] : List Int))).bind fun t196 => (if t196 = true then (if t183 = ((((((⟨#[32]⟩ : ByteArray) ++ x8_1) ++ (⟨#[10, 9]⟩ : ByteArray)) ++ t178) ++ (strOfNums y179)).size : Int) then (if t184 = 0 then ((chequerref01_Same.f k1 bt188.1 (([t171] : List Int))).bind fun t200 => (if t200 = true then ((chequerref01_Decimal.f k1 t171).bind fun t201 => (if bt188.2.1 = (wrap64 ((wrap64 ((t201.size : Int) + (x8_1.size : Int))) + 1)) then (if bt188.2.2 = 0 then ((token_Skip.f x8_1).bind fun t202 => (if t202 = (x8_1.size : Int) then ((chequerlaw05_lives.f).bind fun t203 => (some t203)) else (some false))) else (some false)) else (some false))) else (some false))) else (some false)) else (some false)) else (some false)))) else (none)) else (none)) = some r := H
                 have A25 := Aside0.mk A250
                 clear A250
                 by_cases c26 : t187.size + x8_1.size ≤ 9223372036854775807
                 · rw [if_pos c26] at H
                   have c26b0 := eq_true c26
                   have c26b1 : decide (t187.size + x8_1.size ≤ 9223372036854775807) = true := decide_eq_true c26
                   try have c26b2 : (9223372036854775807 < t187.size + x8_1.size) = False := eq_false (Nat.not_lt.2 c26)
                   by_cases c27 : (t187 ++ x8_1).size + 1 ≤ 9223372036854775807
                   · rw [if_pos c27] at H
                     have c27b0 := eq_true c27
                     have c27b1 : decide ((t187 ++ x8_1).size + 1 ≤ 9223372036854775807) = true := decide_eq_true c27
                     try have c27b2 : (9223372036854775807 < (t187 ++ x8_1).size + 1) = False := eq_false (Nat.not_lt.2 c27)
                     (try (have c27y := c27b2; simp only [ByteArray.size_append] at c27y))
                     replace H := Option.bind_eq_some_iff.mp H
                     obtain ⟨⟨t188, t189, t190⟩, A280, H⟩ := H
                     replace H : ((chequerref01_Same.f k1 t182 (([t171] : List Int))).bind fun t196 => (if t196 = true then (if t183 = ((((((⟨#[32]⟩ : ByteArray) ++ x8_1) ++ (⟨#[10, 9]⟩ : ByteArray)) ++ t178) ++ (strOfNums y179)).size : Int) then (if t184 = 0 then ((chequerref01_Same.f k1 t188 (([t171] : List Int))).bind fun t200 => (if t200 = true then ((chequerref01_Decimal.f k1 t171).bind fun t201 => (if t189 = (wrap64 ((wrap64 ((t201.size : Int) + (x8_1.size : Int))) + 1)) then (if t190 = 0 then ((token_Skip.f x8_1).bind fun t202 => (if t202 = (x8_1.size : Int) then ((chequerlaw05_lives.f).bind fun t203 => (some t203)) else (some false))) else (some false)) else (some false))) else (some false))) else (some false)) else (some false)) else (some false))) = some r := H
                     have A28 := Aside0.mk A280
                     clear A280
                     obtain ⟨y193, hy193⟩ : ∃ y_ : List Int, y_ = (([t171] : List Int)) := ⟨_, rfl⟩
                     replace H : ((chequerref01_Same.f k1 t182 y193).bind fun t196 => (if t196 = true then (if t183 = ((((((⟨#[32]⟩ : ByteArray) ++ x8_1) ++ (⟨#[10, 9]⟩ : ByteArray)) ++ t178) ++ (strOfNums y179)).size : Int) then (if t184 = 0 then ((chequerref01_Same.f k1 t188 (([t171] : List Int))).bind fun t200 => (if t200 = true then ((chequerref01_Decimal.f k1 t171).bind fun t201 => (if t189 = (wrap64 ((wrap64 ((t201.size : Int) + (x8_1.size : Int))) + 1)) then (if t190 = 0 then ((token_Skip.f x8_1).bind fun t202 => (if t202 = (x8_1.size : Int) then ((chequerlaw05_lives.f).bind fun t203 => (some t203)) else (some false))) else (some false)) else (some false))) else (some false))) else (some false)) else (some false)) else (some false))) = some r := by first | (rw [hy193]; with_reducible exact H) | (have H2_ := (Option.bind_some _ _).symm.trans H; rw [hy193]; with_reducible exact H2_) | (have H2_ := (Option.bind_some _ _).symm.trans H; with_reducible exact H2_) | with_reducible exact H | (rw [hy193]; exact H) | exact H
                     have Ny193 := Aside0.mk hy193
                     clear hy193
                     replace H := Option.bind_eq_some_iff.mp H
                     obtain ⟨t196, A290, H⟩ := H
                     replace H : (if t196 = true then (if t183 = ((((((⟨#[32]⟩ : ByteArray) ++ x8_1) ++ (⟨#[10, 9]⟩ : ByteArray)) ++ t178) ++ (strOfNums y179)).size : Int) then (if t184 = 0 then ((chequerref01_Same.f k1 t188 (([t171] : List Int))).bind fun t200 => (if t200 = true then ((chequerref01_Decimal.f k1 t171).bind fun t201 => (if t189 = (wrap64 ((wrap64 ((t201.size : Int) + (x8_1.size : Int))) + 1)) then (if t190 = 0 then ((token_Skip.f x8_1).bind fun t202 => (if t202 = (x8_1.size : Int) then ((chequerlaw05_lives.f).bind fun t203 => (some t203)) else (some false))) else (some false)) else (some false))) else (some false))) else (some false)) else (some false)) else (some false)) = some r := H
                     have A29 := Aside0.mk A290
                     clear A290
                     by_cases c30 : t196 = true
                     · subst c30
                       have H1 : (if t183 = ((((((⟨#[32]⟩ : ByteArray) ++ x8_1) ++ (⟨#[10, 9]⟩ : ByteArray)) ++ t178) ++ (strOfNums y179)).size : Int) then (if t184 = 0 then ((chequerref01_Same.f k1 t188 (([t171] : List Int))).bind fun t200 => (if t200 = true then ((chequerref01_Decimal.f k1 t171).bind fun t201 => (if t189 = (wrap64 ((wrap64 ((t201.size : Int) + (x8_1.size : Int))) + 1)) then (if t190 = 0 then ((token_Skip.f x8_1).bind fun t202 => (if t202 = (x8_1.size : Int) then ((chequerlaw05_lives.f).bind fun t203 => (some t203)) else (some false))) else (some false)) else (some false))) else (some false))) else (some false)) else (some false)) = some r := by rw [if_pos rfl] at H; exact H
                       clear H
                       have H := H1
                       clear H1
                       by_cases c31 : t183 = ((((((⟨#[32]⟩ : ByteArray) ++ x8_1) ++ (⟨#[10, 9]⟩ : ByteArray)) ++ t178) ++ (strOfNums y179)).size : Int)
                       · rw [if_pos c31] at H
                         have c31b0 : (t183 == ((((((⟨#[32]⟩ : ByteArray) ++ x8_1) ++ (⟨#[10, 9]⟩ : ByteArray)) ++ t178) ++ (strOfNums y179)).size : Int)) = true := beq_iff_eq.mpr c31
                         (try (have c31b0y := c31b0; simp only [ByteArray.size_append, Int.natCast_add, show ((⟨#[10, 9]⟩ : ByteArray).size : Int) = 2 from rfl, show ((⟨#[32]⟩ : ByteArray).size : Int) = 1 from rfl] at c31b0y))
                         have c31b1 : (t183 != ((((((⟨#[32]⟩ : ByteArray) ++ x8_1) ++ (⟨#[10, 9]⟩ : ByteArray)) ++ t178) ++ (strOfNums y179)).size : Int)) = false := bne_eq_false_iff_eq.mpr c31
                         (try (have c31b1y := c31b1; simp only [ByteArray.size_append, Int.natCast_add, show ((⟨#[10, 9]⟩ : ByteArray).size : Int) = 2 from rfl, show ((⟨#[32]⟩ : ByteArray).size : Int) = 1 from rfl] at c31b1y))
                         clear c31
                         by_cases c32 : t184 = 0
                         · rw [if_pos c32] at H
                           have c32b0 : (t184 == 0) = true := beq_iff_eq.mpr c32
                           have c32b1 : (t184 != 0) = false := bne_eq_false_iff_eq.mpr c32
                           clear c32
                           obtain ⟨y197, hy197⟩ : ∃ y_ : List Int, y_ = (([t171] : List Int)) := ⟨_, rfl⟩
                           replace H : ((chequerref01_Same.f k1 t188 y197).bind fun t200 => (if t200 = true then ((chequerref01_Decimal.f k1 t171).bind fun t201 => (if t189 = (wrap64 ((wrap64 ((t201.size : Int) + (x8_1.size : Int))) + 1)) then (if t190 = 0 then ((token_Skip.f x8_1).bind fun t202 => (if t202 = (x8_1.size : Int) then ((chequerlaw05_lives.f).bind fun t203 => (some t203)) else (some false))) else (some false)) else (some false))) else (some false))) = some r := by first | (rw [hy197]; with_reducible exact H) | (have H2_ := (Option.bind_some _ _).symm.trans H; rw [hy197]; with_reducible exact H2_) | (have H2_ := (Option.bind_some _ _).symm.trans H; with_reducible exact H2_) | with_reducible exact H | (rw [hy197]; exact H) | exact H
                           have Ny197 := Aside0.mk hy197
                           clear hy197
                           replace H := Option.bind_eq_some_iff.mp H
                           obtain ⟨t200, A330, H⟩ := H
                           replace H : (if t200 = true then ((chequerref01_Decimal.f k1 t171).bind fun t201 => (if t189 = (wrap64 ((wrap64 ((t201.size : Int) + (x8_1.size : Int))) + 1)) then (if t190 = 0 then ((token_Skip.f x8_1).bind fun t202 => (if t202 = (x8_1.size : Int) then ((chequerlaw05_lives.f).bind fun t203 => (some t203)) else (some false))) else (some false)) else (some false))) else (some false)) = some r := H
                           have A33 := Aside0.mk A330
                           clear A330
                           by_cases c34 : t200 = true
                           · subst c34
                             have H1 : ((chequerref01_Decimal.f k1 t171).bind fun t201 => (if t189 = (wrap64 ((wrap64 ((t201.size : Int) + (x8_1.size : Int))) + 1)) then (if t190 = 0 then ((token_Skip.f x8_1).bind fun t202 => (if t202 = (x8_1.size : Int) then ((chequerlaw05_lives.f).bind fun t203 => (some t203)) else (some false))) else (some false)) else (some false))) = some r := by rw [if_pos rfl] at H; exact H
                             clear H
                             have H := H1
                             clear H1
                             replace H := Option.bind_eq_some_iff.mp H
                             obtain ⟨t201, A350, H⟩ := H
                             replace H : (if t189 = (wrap64 ((wrap64 ((t201.size : Int) + (x8_1.size : Int))) + 1)) then (if t190 = 0 then ((token_Skip.f x8_1).bind fun t202 => (if t202 = (x8_1.size : Int) then ((chequerlaw05_lives.f).bind fun t203 => (some t203)) else (some false))) else (some false)) else (some false)) = some r := H
                             have A35 := Aside0.mk A350
                             clear A350
                             by_cases c36 : t189 = (wrap64 ((wrap64 ((t201.size : Int) + (x8_1.size : Int))) + 1))
                             · rw [if_pos c36] at H
                               have c36b0 : (t189 == (wrap64 ((wrap64 ((t201.size : Int) + (x8_1.size : Int))) + 1))) = true := beq_iff_eq.mpr c36
                               have c36b1 : (t189 != (wrap64 ((wrap64 ((t201.size : Int) + (x8_1.size : Int))) + 1))) = false := bne_eq_false_iff_eq.mpr c36
                               clear c36
                               by_cases c37 : t190 = 0
                               · rw [if_pos c37] at H
                                 have c37b0 : (t190 == 0) = true := beq_iff_eq.mpr c37
                                 have c37b1 : (t190 != 0) = false := bne_eq_false_iff_eq.mpr c37
                                 clear c37
                                 replace H := Option.bind_eq_some_iff.mp H
                                 obtain ⟨t202, A380, H⟩ := H
                                 replace H : (if t202 = (x8_1.size : Int) then ((chequerlaw05_lives.f).bind fun t203 => (some t203)) else (some false)) = some r := H
                                 have A38 := Aside0.mk A380
                                 clear A380
                                 by_cases c39 : t202 = (x8_1.size : Int)
                                 · rw [if_pos c39] at H
                                   have c39b0 : (t202 == (x8_1.size : Int)) = true := beq_iff_eq.mpr c39
                                   have c39b1 : (t202 != (x8_1.size : Int)) = false := bne_eq_false_iff_eq.mpr c39
                                   clear c39
                                   replace H := Option.bind_eq_some_iff.mp H
                                   obtain ⟨t203, A400, H⟩ := H
                                   replace H : (some t203) = some r := H
                                   have A40 := Aside0.mk A400
                                   clear A400
                                   obtain rfl := Option.some.inj H
                                   try go_wp2_with (first | ((with_reducible refine gate_dst (N := 45) rfl ?_); (try (refine gate_guard (by rfl) ?_; dsimp only)); refine Kd.R_lit (Kd.int .u8) _ 5 ?hg (N := 45) ?hd (xs := ([9, 10, 11, 12, 13, 32] : List Int)) (inner := [.int .u8 9, .int .u8 10, .int .u8 11, .int .u8 12, .int .u8 13, .int .u8 32]) (ok := fun _ => True) (okp := fun _ => True) ?hr ?hp (fun _ hk => hk) trivial (Below.refl _ _) (Nat.le_refl _) (by simp) ?_; (case hd => rfl); (case hg => rfl); (case hr => first | (go_simp; done) | (go_simp; rfl)); (case hp => exact (Reps.one (show Kd.M (Kd.int .u8) _ _ _ 9 [.int .u8 9] from rfl) (Reps.one (show Kd.M (Kd.int .u8) _ _ _ 10 [.int .u8 10] from rfl) (Reps.one (show Kd.M (Kd.int .u8) _ _ _ 11 [.int .u8 11] from rfl) (Reps.one (show Kd.M (Kd.int .u8) _ _ _ 12 [.int .u8 12] from rfl) (Reps.one (show Kd.M (Kd.int .u8) _ _ _ 13 [.int .u8 13] from rfl) (Reps.one (show Kd.M (Kd.int .u8) _ _ _ 32 [.int .u8 32] from rfl) (Reps.none _ _)))))))); intro v174 w41 ho42 hb hg_ hnew_; clear hg_ hnew_; (first | rw [← Ny173.out] at ho42 | (simp only [Int.reduceToNat] at ho42; rw [← Ny173.out] at ho42)); have HO175 := Aside0.mk (Kd.R_lower ho42 (below_size bp_)); replace HB := Aside0.mk (below_step bp_ hb); clear hb ho42) | ((with_reducible refine gate_callee (f := 10) rfl ?_); refine goQ_ (some 47) Try.func10 #[.int .i64 a2, .int .i64 6] ?_; (with_reducible refine (chequerref01_Around.calls a2 6 t176 _ A16.out).mono ?_); rintro e w' ⟨rfl, ⟨nd, rfl⟩⟩; refine ⟨_, rfl, ?_⟩; obtain ⟨Ao43, co43, eo43⟩ := Kd.R_slice HO175.out; subst eo43; have p177 : 0 ≤ (t176 : Int) := of_decide_eq_true (by first | (with_reducible assumption) | assumption); have q177 : t176 < (y173.length : Int) := of_decide_eq_true (by first | (with_reducible assumption) | assumption); obtain ⟨ad177, e177, hx177_0⟩ := Kd.at_int (Kd.R_reads' HO175.out).2.2 t176 p177 q177; cases e177; replace p177 := eq_true p177; replace q177 := eq_true q177))
                                   (try (rw [drewN_self w41]; generalize hq_ : World.drewN w41 _ = w41; have n0_ := Aside0.mk (qrp_ hq_ HO175.out); have n1_ : Aside0 (Below w.heap.size w w41) := ⟨qbp_ hq_⟩; clear HO175 HB hq_; have HO175 := n0_; have HB := n1_; clear n0_ n1_))
                                   replace HO175 := Aside0.mk (Kd.R_drew HO175.out)
                                   replace HB := Aside0.mk (below_drew1 HB.out)
                                   refine start_ (n := 11) (S := fun w' => True) (ds := []) Fl3 (by kernel_rfl) rfl rfl trivial (fun hHeld => ?_); refine with_tabW chequerlaw05_TokenRemarks.tab10 chequerlaw05_TokenRemarks.bits10 (fun HT_ HW_ => ?_)
                                   generalize w41.drew = w44 at HO175 HB hHeld ⊢
                                   refine pur_ (i := 0) (N := some 50) Fl4 (any_of HT_.out (by kernel_rfl)) ?_
                                   refine pur_ (i := 1) (N := some 51) Fl5 (any_of HT_.out (by kernel_rfl)) ?_
                                   refine pur_ (i := 2) (N := some 52) Fl6 (any_of HT_.out (by kernel_rfl)) ?_
                                   refine pur_ (i := 3) (N := some 53) Fl7 (any_of HT_.out (by kernel_rfl)) ?_
                                   refine pur_ (i := 6) (N := some 56) Fl8 (any_of HT_.out (by kernel_rfl)) ?_
                                   refine join_ (σ := Value) 2 Fl1 (fun s_ => [(54, .string t178), (57, s_), (58, .string (strOfNums y179)), (55, .string ((((⟨#[32]⟩ : ByteArray) ++ x8_1) ++ (⟨#[10, 9]⟩ : ByteArray)) ++ t178))]) (fun s_ w' => (Kd.R (Kd.int .u8) 5 w' w.heap.size (fun k_ => some k_ ≠ (s_ : Value).ownBlock) (.slice (some ad177) y173.length co43) y173) ∧ (Kd.R (Kd.int .u8) 5 w' w.heap.size (fun k_ => some k_ ≠ (.slice (some ad177) y173.length co43 : Value).ownBlock) s_ y179) ∧ (Below w.heap.size w w')) ?_ ?_
                                   rotate_left
                                   · intro hCont
                                     refine two_ (i := 4) (j := 7) (Ni := some 54) (Nj := some 57) Fl11 Fl9 rfl rfl rfl rfl (two_of HT_.out (by kernel_rfl)) (by decide) (by decide) (fun K hK => ?_) (fun K hK => ?_)
                                     · skip
                                       refine goes_ Try.func11 (by kernel_rfl) rfl #[.int .i64 t171] (by rfl) rfl rfl (by (try simp only [List.map_toArray, List.map_cons, List.map_nil]); first | done | rfl | (simp only [List.length_drop, List.length_take]; rfl)) ?_
                                       with_reducible refine (chequerref01_Decimal.calls k1 t171 t178 _ A21.out).mono ?_
                                       rintro e w45 ⟨rfl, hb⟩
                                       refine ⟨_, rfl, ?_⟩
                                       replace HO175 := Aside0.mk (Kd.R_below (rp_ HO175.out) hb)
                                       replace HB := Aside0.mk (below_step bp_ hb)
                                       (try clear hb)
                                       (try clear hb2)
                                       (try clear hk)
                                       (try clear hi)
                                       refine hK.out _ _ trivial (fun hHeld => ?_)
                                       clear hK K
                                       refine norm_ (a' := ?_) ?_ ?_
                                       rotate_left
                                       · show Act.put _ (some 54) _ = _
                                         simp only [Act.put, List.setIfInBounds_toArray, List.set_cons_zero, List.set_cons_succ, i64_w, i32_w]
                                         rfl
                                       refine pur_ (i := 5) (N := some 55) Fl14 (any_of HT_.out (by kernel_rfl)) ?_
                                       refine one_ (i := 7) (N := some 57) Fl2 rfl rfl (one_of HT_.out (by kernel_rfl)) (by decide) (fun K hK => ?_)
                                       refine Kd.R_lit_step (Kd.int .u8) _ 5 ?hg (N := 57) ?hd (xs := ([rd y173 t176] : List Int)) (inner := [.int .u8 (rd y173 t176)]) (ok := fun _ => True) (okp := fun _ => True) ?hr ?hp (fun _ hk => hk) trivial (Below.refl _ _) (Nat.le_refl _) (by simp) ?_; (case hd => rfl); (case hg => rfl); (case hr => first | (go_simp; done) | (go_simp; rfl)); (case hp => exact (Reps.one (show Kd.M (Kd.int .u8) _ _ _ (rd y173 t176) [.int .u8 (rd y173 t176)] from rfl) (Reps.none _ _)))
                                       intro v180 w46 ho47 hb hg_ hnew_
                                       clear hg_ hnew_
                                       (first | rw [← Ny179.out] at ho47 | (simp only [Int.reduceToNat] at ho47; rw [← Ny179.out] at ho47))
                                       have HO181 := Aside0.mk (Kd.R_lower (Kd.R_new' ho47 (Kd.R_lt (rp_ HO175.out))) (below_size bp_))
                                       replace HO175 := Aside0.mk (Kd.R_elder' (rp_ HO175.out) (Kd.R_base ho47) hb)
                                       replace HB := Aside0.mk (below_step bp_ hb)
                                       clear hb ho47
                                       refine hK.out _ _ trivial (fun hHeld => ?_)
                                       clear hK K
                                       refine norm_ (a' := ?_) ?_ ?_
                                       rotate_left
                                       · show Act.put _ (some 57) _ = _
                                         simp only [Act.put, List.setIfInBounds_toArray, List.set_cons_zero, List.set_cons_succ, i64_w, i32_w]
                                         rfl
                                       refine one_ (i := 8) (N := some 58) Fl1 rfl rfl (one_of HT_.out (by kernel_rfl)) (by decide) (fun K hK => ?_)
                                       have hcv48 := own_string (P := Try.prog) Try.underlying24 Try.underlying5 Try.underlying9 (Kd.own_of_R HO181.out)
                                       refine value_ (w1 := ?_) (v := ?_) (by rfl) rfl ?_ ?_
                                       rotate_left 2
                                       · go_simp
                                         constructor
                                         · rfl
                                         · rfl
                                       clear hcv48
                                       refine hK.out _ _ trivial (fun hHeld => ?_)
                                       clear hK K
                                       refine norm_ (a' := ?_) ?_ ?_
                                       rotate_left
                                       · show Act.put _ (some 58) _ = _
                                         simp only [Act.put, List.setIfInBounds_toArray, List.set_cons_zero, List.set_cons_succ, i64_w, i32_w]
                                         rfl
                                       exact norm_ (by simp only [putAll, Act.put, List.setIfInBounds_toArray, List.set_cons_zero, List.set_cons_succ]) (hCont (v180) _ ⟨(by (with_reducible repeat (first | apply Kd.R_alloc | apply Kd.R_drewN | apply Kd.R_drew)); exact Kd.R_mono HO175.out (fun _ hk => hk.2)), (by (with_reducible repeat (first | apply Kd.R_alloc | apply Kd.R_drewN | apply Kd.R_drew)); exact Kd.R_mono HO181.out (fun _ hk => hk.2)), bp_⟩)
                                     · skip
                                       refine Kd.R_lit_step (Kd.int .u8) _ 5 ?hg (N := 57) ?hd (xs := ([rd y173 t176] : List Int)) (inner := [.int .u8 (rd y173 t176)]) (ok := fun _ => True) (okp := fun _ => True) ?hr ?hp (fun _ hk => hk) trivial (Below.refl _ _) (Nat.le_refl _) (by simp) ?_; (case hd => rfl); (case hg => rfl); (case hr => first | (go_simp; done) | (go_simp; rfl)); (case hp => exact (Reps.one (show Kd.M (Kd.int .u8) _ _ _ (rd y173 t176) [.int .u8 (rd y173 t176)] from rfl) (Reps.none _ _)))
                                       intro v180 w45 ho46 hb hg_ hnew_
                                       clear hg_ hnew_
                                       (first | rw [← Ny179.out] at ho46 | (simp only [Int.reduceToNat] at ho46; rw [← Ny179.out] at ho46))
                                       have HO181 := Aside0.mk (Kd.R_lower (Kd.R_new' ho46 (Kd.R_lt (rp_ HO175.out))) (below_size bp_))
                                       replace HO175 := Aside0.mk (Kd.R_elder' (rp_ HO175.out) (Kd.R_base ho46) hb)
                                       replace HB := Aside0.mk (below_step bp_ hb)
                                       clear hb ho46
                                       refine hK.out _ _ trivial (fun hHeld => ?_)
                                       clear hK K
                                       refine norm_ (a' := ?_) ?_ ?_
                                       rotate_left
                                       · show Act.put _ (some 57) _ = _
                                         simp only [Act.put, List.setIfInBounds_toArray, List.set_cons_zero, List.set_cons_succ, i64_w, i32_w]
                                         rfl
                                       refine two_ (i := 4) (j := 8) (Ni := some 54) (Nj := some 58) Fl12 Fl10 rfl rfl rfl rfl (two_of HT_.out (by kernel_rfl)) (by decide) (by decide) (fun K hK => ?_) (fun K hK => ?_)
                                       · skip
                                         refine goes_ Try.func11 (by kernel_rfl) rfl #[.int .i64 t171] (by rfl) rfl rfl (by (try simp only [List.map_toArray, List.map_cons, List.map_nil]); first | done | rfl | (simp only [List.length_drop, List.length_take]; rfl)) ?_
                                         with_reducible refine (chequerref01_Decimal.calls k1 t171 t178 _ A21.out).mono ?_
                                         rintro e w47 ⟨rfl, hb⟩
                                         refine ⟨_, rfl, ?_⟩
                                         replace HO175 := Aside0.mk (Kd.R_below (rp_ HO175.out) hb)
                                         replace HO181 := Aside0.mk (Kd.R_below (rp_ HO181.out) hb)
                                         replace HB := Aside0.mk (below_step bp_ hb)
                                         (try clear hb)
                                         (try clear hb2)
                                         (try clear hk)
                                         (try clear hi)
                                         refine hK.out _ _ trivial (fun hHeld => ?_)
                                         clear hK K
                                         refine norm_ (a' := ?_) ?_ ?_
                                         rotate_left
                                         · show Act.put _ (some 54) _ = _
                                           simp only [Act.put, List.setIfInBounds_toArray, List.set_cons_zero, List.set_cons_succ, i64_w, i32_w]
                                           rfl
                                         refine pur_ (i := 5) (N := some 55) Fl2 (any_of HT_.out (by kernel_rfl)) ?_
                                         refine one_ (i := 8) (N := some 58) Fl1 rfl rfl (one_of HT_.out (by kernel_rfl)) (by decide) (fun K hK => ?_)
                                         have hcv48 := own_string (P := Try.prog) Try.underlying24 Try.underlying5 Try.underlying9 (Kd.own_of_R HO181.out)
                                         refine value_ (w1 := ?_) (v := ?_) (by rfl) rfl ?_ ?_
                                         rotate_left 2
                                         · go_simp
                                           constructor
                                           · rfl
                                           · rfl
                                         clear hcv48
                                         refine hK.out _ _ trivial (fun hHeld => ?_)
                                         clear hK K
                                         refine norm_ (a' := ?_) ?_ ?_
                                         rotate_left
                                         · show Act.put _ (some 58) _ = _
                                           simp only [Act.put, List.setIfInBounds_toArray, List.set_cons_zero, List.set_cons_succ, i64_w, i32_w]
                                           rfl
                                         exact norm_ (by simp only [putAll, Act.put, List.setIfInBounds_toArray, List.set_cons_zero, List.set_cons_succ]) (hCont (v180) _ ⟨(by (with_reducible repeat (first | apply Kd.R_alloc | apply Kd.R_drewN | apply Kd.R_drew)); exact Kd.R_mono HO175.out (fun _ hk => hk.2)), (by (with_reducible repeat (first | apply Kd.R_alloc | apply Kd.R_drewN | apply Kd.R_drew)); exact Kd.R_mono HO181.out (fun _ hk => hk.2)), bp_⟩)
                                       · skip
                                         have hcv47 := own_string (P := Try.prog) Try.underlying24 Try.underlying5 Try.underlying9 (Kd.own_of_R HO181.out)
                                         refine value_ (w1 := ?_) (v := ?_) (by rfl) rfl ?_ ?_
                                         rotate_left 2
                                         · go_simp
                                           constructor
                                           · rfl
                                           · rfl
                                         clear hcv47
                                         refine hK.out _ _ trivial (fun hHeld => ?_)
                                         clear hK K
                                         refine norm_ (a' := ?_) ?_ ?_
                                         rotate_left
                                         · show Act.put _ (some 58) _ = _
                                           simp only [Act.put, List.setIfInBounds_toArray, List.set_cons_zero, List.set_cons_succ, i64_w, i32_w]
                                           rfl
                                         refine one_ (i := 4) (N := some 54) Fl13 rfl rfl (one_of HT_.out (by kernel_rfl)) (by decide) (fun K hK => ?_)
                                         refine goes_ Try.func11 (by kernel_rfl) rfl #[.int .i64 t171] (by rfl) rfl rfl (by (try simp only [List.map_toArray, List.map_cons, List.map_nil]); first | done | rfl | (simp only [List.length_drop, List.length_take]; rfl)) ?_
                                         with_reducible refine (chequerref01_Decimal.calls k1 t171 t178 _ A21.out).mono ?_
                                         rintro e w48 ⟨rfl, hb⟩
                                         refine ⟨_, rfl, ?_⟩
                                         replace HO175 := Aside0.mk (Kd.R_below (rp_ HO175.out) hb)
                                         replace HO181 := Aside0.mk (Kd.R_below (rp_ HO181.out) hb)
                                         replace HB := Aside0.mk (below_step bp_ hb)
                                         (try clear hb)
                                         (try clear hb2)
                                         (try clear hk)
                                         (try clear hi)
                                         refine hK.out _ _ trivial (fun hHeld => ?_)
                                         clear hK K
                                         refine norm_ (a' := ?_) ?_ ?_
                                         rotate_left
                                         · show Act.put _ (some 54) _ = _
                                           simp only [Act.put, List.setIfInBounds_toArray, List.set_cons_zero, List.set_cons_succ, i64_w, i32_w]
                                           rfl
                                         refine pur_ (i := 5) (N := some 55) Fl1 (any_of HT_.out (by kernel_rfl)) ?_
                                         exact norm_ (by simp only [putAll, Act.put, List.setIfInBounds_toArray, List.set_cons_zero, List.set_cons_succ]) (hCont (v180) _ ⟨(by (with_reducible repeat (first | apply Kd.R_alloc | apply Kd.R_drewN | apply Kd.R_drew)); exact Kd.R_mono HO175.out (fun _ hk => hk.2)), (by (with_reducible repeat (first | apply Kd.R_alloc | apply Kd.R_drewN | apply Kd.R_drew)); exact Kd.R_mono HO181.out (fun _ hk => hk.2)), bp_⟩)
                                   rintro v180 w49 ⟨h0_, h1_, h2_⟩
                                   replace HO175 : Aside0 (Kd.R (Kd.int .u8) 5 w49 w.heap.size (fun k_ => some k_ ≠ (v180 : Value).ownBlock) (.slice (some ad177) y173.length co43) y173) := ⟨h0_⟩
                                   have HO181 : Aside0 (Kd.R (Kd.int .u8) 5 w49 w.heap.size (fun k_ => some k_ ≠ (.slice (some ad177) y173.length co43 : Value).ownBlock) v180 y179) := ⟨h1_⟩
                                   replace HB : Aside0 (Below w.heap.size w w49) := ⟨h2_⟩
                                   clear h0_ h1_ h2_
                                   have hHeld := trivial
                                   refine norm_ (a' := ?_) ?_ ?_
                                   rotate_left
                                   · simp only [putAll, Act.put, List.setIfInBounds_toArray, List.set_cons_zero, List.set_cons_succ]
                                     rfl
                                   refine pur_ (i := 9) (N := some 59) Fl15 (any_of HT_.out (by kernel_rfl)) ?_
                                   refine pur_ (i := 10) (N := some 11) Fl16 (any_of HT_.out (by kernel_rfl)) ?_
                                   refine done_ (done_of HT_.out (by kernel_rfl)) ?_
                                   try go_wp2_with (first | ((with_reducible refine gate_callee (f := 12) rfl ?_); refine goQ_ (some 63) Try.func12 #[.string (((((⟨#[32]⟩ : ByteArray) ++ x8_1) ++ (⟨#[10, 9]⟩ : ByteArray)) ++ t178) ++ (strOfNums y179)), .int .i64 t171] ?_; (with_reducible refine (token_All.calls (((((⟨#[32]⟩ : ByteArray) ++ x8_1) ++ (⟨#[10, 9]⟩ : ByteArray)) ++ t178) ++ (strOfNums y179)) t171 t182 t183 t184 _ A24.out).mono ?_); rintro e w50 ⟨v185, rfl, ho0, hb⟩; refine ⟨_, rfl, ?_⟩; replace HO175 := Aside0.mk (Kd.R_below (rp_ HO175.out) hb); replace HO181 := Aside0.mk (Kd.R_below (rp_ HO181.out) hb); have HO186 := Aside0.mk (Kd.R_lower ho0 (below_size bp_)); replace HB := Aside0.mk (below_step bp_ hb); (try clear hb); (try clear hb2); (try clear hk); (try clear hi); (try clear ho0)) | ((with_reducible refine gate_callee (f := 11) rfl ?_); refine goQ_ (some 69) Try.func11 #[.int .i64 t171] ?_; (with_reducible refine (chequerref01_Decimal.calls k1 t171 t187 _ A25.out).mono ?_); rintro e w51 ⟨rfl, hb⟩; refine ⟨_, rfl, ?_⟩; replace HO175 := Aside0.mk (Kd.R_below (rp_ HO175.out) hb); replace HO181 := Aside0.mk (Kd.R_below (rp_ HO181.out) hb); replace HO186 := Aside0.mk (Kd.R_below (rp_ HO186.out) hb); replace HB := Aside0.mk (below_step bp_ hb); (try clear hb); (try clear hb2); (try clear hk); (try clear hi)) | ((with_reducible refine gate_callee (f := 12) rfl ?_); refine goQ_ (some 74) Try.func12 #[.string ((t187 ++ x8_1) ++ (⟨#[13]⟩ : ByteArray)), .int .i64 t171] ?_; (with_reducible refine (token_All.calls ((t187 ++ x8_1) ++ (⟨#[13]⟩ : ByteArray)) t171 t188 t189 t190 _ A28.out).mono ?_); rintro e w52 ⟨v191, rfl, ho0, hb⟩; refine ⟨_, rfl, ?_⟩; replace HO175 := Aside0.mk (Kd.R_below (rp_ HO175.out) hb); replace HO181 := Aside0.mk (Kd.R_below (rp_ HO181.out) hb); have HO192 := Aside0.mk (Kd.R_lower (Kd.R_new' ho0 (Kd.R_lt (rp_ HO186.out))) (below_size bp_)); replace HO186 := Aside0.mk (Kd.R_elder' (rp_ HO186.out) (Kd.R_base ho0) hb); replace HB := Aside0.mk (below_step bp_ hb); (try clear hb); (try clear hb2); (try clear hk); (try clear hi); (try clear ho0)) | ((with_reducible refine gate_dst (N := 80) rfl ?_); (try (refine gate_guard (by rfl) ?_; dsimp only)); refine Kd.R_lit (Kd.int .i64) _ 3 ?hg (N := 80) ?hd (xs := ([t171] : List Int)) (inner := [.int .i64 t171]) (ok := fun _ => True) (okp := fun _ => True) ?hr ?hp (fun _ hk => hk) trivial (Below.refl _ _) (Nat.le_refl _) (by simp) ?_; (case hd => rfl); (case hg => rfl); (case hr => first | (go_simp; done) | (go_simp; rfl)); (case hp => exact (Reps.one (show Kd.M (Kd.int .i64) _ _ _ t171 [.int .i64 t171] from rfl) (Reps.none _ _))); intro v194 w53 ho54 hb hg_ hnew_; clear hg_ hnew_; (first | rw [← Ny193.out] at ho54 | (simp only [Int.reduceToNat] at ho54; rw [← Ny193.out] at ho54)); replace HO175 := Aside0.mk (Kd.R_below (rp_ HO175.out) hb); replace HO181 := Aside0.mk (Kd.R_below (rp_ HO181.out) hb); have HO195 := Aside0.mk (Kd.R_lower (Kd.R_new' (Kd.R_new' ho54 (Kd.R_lt (rp_ HO186.out))) (Kd.R_lt (rp_ HO192.out))) (below_size bp_)); replace HO186 := Aside0.mk (Kd.R_elder' (rp_ HO186.out) (Kd.R_base ho54) hb); replace HO192 := Aside0.mk (Kd.R_elder' (rp_ HO192.out) (Kd.R_base ho54) hb); replace HB := Aside0.mk (below_step bp_ hb); clear hb ho54; obtain ⟨Ao55, co55, eo55⟩ := Kd.R_slice HO186.out; subst eo55; obtain ⟨Ao56, co56, eo56⟩ := Kd.R_slice HO195.out; subst eo56) | ((with_reducible refine gate_callee (f := 13) rfl ?_); refine goQ_ (some 81) Try.func13 #[.slice Ao55 t182.length co55, .slice Ao56 y193.length co56] ?_; (with_reducible refine (chequerref01_Same.calls k1 _ _ t182 _ _ y193 true _ ?side1 ?side2 ?side3 ?side4 A29.out).mono ?_); (case side1 => exact cp_ (Kd.R_reads' HO186.out).2.2); (case side2 => exact (Kd.R_reads' HO186.out).2.1); (case side3 => exact cp_ (Kd.R_reads' HO195.out).2.2); (case side4 => exact (Kd.R_reads' HO195.out).2.1); rintro e w' ⟨rfl, ⟨nd, rfl⟩⟩; refine ⟨_, rfl, ?_⟩) | ((with_reducible refine gate_dst (N := 95) rfl ?_); (try (refine gate_guard (by rfl) ?_; dsimp only)); refine Kd.R_lit (Kd.int .i64) _ 3 ?hg (N := 95) ?hd (xs := ([t171] : List Int)) (inner := [.int .i64 t171]) (ok := fun _ => True) (okp := fun _ => True) ?hr ?hp (fun _ hk => hk) trivial (Below.refl _ _) (Nat.le_refl _) (by simp) ?_; (case hd => rfl); (case hg => rfl); (case hr => first | (go_simp; done) | (go_simp; rfl)); (case hp => exact (Reps.one (show Kd.M (Kd.int .i64) _ _ _ t171 [.int .i64 t171] from rfl) (Reps.none _ _))); intro v198 w57 ho58 hb hg_ hnew_; clear hg_ hnew_; (first | rw [← Ny197.out] at ho58 | (simp only [Int.reduceToNat] at ho58; rw [← Ny197.out] at ho58)); replace HO175 := Aside0.mk (Kd.R_below (rp_ HO175.out) hb); replace HO181 := Aside0.mk (Kd.R_below (rp_ HO181.out) hb); have HO199 := Aside0.mk (Kd.R_lower (Kd.R_new' (Kd.R_new' (Kd.R_new' ho58 (Kd.R_lt (rp_ HO186.out))) (Kd.R_lt (rp_ HO192.out))) (Kd.R_lt (rp_ HO195.out))) (below_size bp_)); replace HO186 := Aside0.mk (Kd.R_elder' (rp_ HO186.out) (Kd.R_base ho58) hb); replace HO192 := Aside0.mk (Kd.R_elder' (rp_ HO192.out) (Kd.R_base ho58) hb); replace HO195 := Aside0.mk (Kd.R_elder' (rp_ HO195.out) (Kd.R_base ho58) hb); replace HB := Aside0.mk (below_step bp_ hb); clear hb ho58; obtain ⟨Ao59, co59, eo59⟩ := Kd.R_slice HO192.out; subst eo59; obtain ⟨Ao60, co60, eo60⟩ := Kd.R_slice HO199.out; subst eo60) | (go_at_call 13; (with_reducible refine (chequerref01_Same.calls k1 _ _ t188 _ _ y197 true _ ?side1 ?side2 ?side3 ?side4 A33.out).mono ?_); (case side1 => exact cp_ (Kd.R_reads' HO192.out).2.2); (case side2 => exact (Kd.R_reads' HO192.out).2.1); (case side3 => exact cp_ (Kd.R_reads' HO199.out).2.2); (case side4 => exact (Kd.R_reads' HO199.out).2.1); rintro e w' ⟨rfl, ⟨nd, rfl⟩⟩) | (go_at_call 11; (with_reducible refine (chequerref01_Decimal.calls k1 t171 t201 _ A35.out).mono ?_); rintro e w61 ⟨rfl, hb⟩; replace HO175 := Aside0.mk (Kd.R_below (rp_ HO175.out) hb); replace HO181 := Aside0.mk (Kd.R_below (rp_ HO181.out) hb); replace HO186 := Aside0.mk (Kd.R_below (rp_ HO186.out) hb); replace HO192 := Aside0.mk (Kd.R_below (rp_ HO192.out) hb); replace HO195 := Aside0.mk (Kd.R_below (rp_ HO195.out) hb); replace HO199 := Aside0.mk (Kd.R_below (rp_ HO199.out) hb); replace HB := Aside0.mk (below_step bp_ hb); (try clear hb); (try clear hb2); (try clear hk); (try clear hi)) | (go_at_call 14; (with_reducible refine (token_Skip.calls x8_1 t202 _ A38.out).mono ?_); rintro e w62 ⟨rfl, hb⟩; replace HO175 := Aside0.mk (Kd.R_below (rp_ HO175.out) hb); replace HO181 := Aside0.mk (Kd.R_below (rp_ HO181.out) hb); replace HO186 := Aside0.mk (Kd.R_below (rp_ HO186.out) hb); replace HO192 := Aside0.mk (Kd.R_below (rp_ HO192.out) hb); replace HO195 := Aside0.mk (Kd.R_below (rp_ HO195.out) hb); replace HO199 := Aside0.mk (Kd.R_below (rp_ HO199.out) hb); replace HB := Aside0.mk (below_step bp_ hb); (try clear hb); (try clear hb2); (try clear hk); (try clear hi)) | (go_at_call 15; (with_reducible refine (chequerlaw05_lives.calls  t203 _ A40.out).mono ?_); rintro e w63 ⟨rfl, hb⟩; replace HO175 := Aside0.mk (Kd.R_below (rp_ HO175.out) hb); replace HO181 := Aside0.mk (Kd.R_below (rp_ HO181.out) hb); replace HO186 := Aside0.mk (Kd.R_below (rp_ HO186.out) hb); replace HO192 := Aside0.mk (Kd.R_below (rp_ HO192.out) hb); replace HO195 := Aside0.mk (Kd.R_below (rp_ HO195.out) hb); replace HO199 := Aside0.mk (Kd.R_below (rp_ HO199.out) hb); replace HB := Aside0.mk (below_step bp_ hb); (try clear hb); (try clear hb2); (try clear hk); (try clear hi)))
                                   go_ret
                                   exact ⟨by first | rfl | (simp [errW_none, errW_some] <;> rfl) | (simp [*, errW_none, errW_some] <;> rfl), bp_⟩
                                 · rw [if_neg c39] at H
                                   have c39b0 : (t202 == (x8_1.size : Int)) = false := beq_eq_false_iff_ne.mpr c39
                                   have c39b1 : (t202 != (x8_1.size : Int)) = true := bne_iff_ne.mpr c39
                                   obtain rfl := Option.some.inj H
                                   try go_wp2_with (first | ((with_reducible refine gate_dst (N := 45) rfl ?_); (try (refine gate_guard (by rfl) ?_; dsimp only)); refine Kd.R_lit (Kd.int .u8) _ 5 ?hg (N := 45) ?hd (xs := ([9, 10, 11, 12, 13, 32] : List Int)) (inner := [.int .u8 9, .int .u8 10, .int .u8 11, .int .u8 12, .int .u8 13, .int .u8 32]) (ok := fun _ => True) (okp := fun _ => True) ?hr ?hp (fun _ hk => hk) trivial (Below.refl _ _) (Nat.le_refl _) (by simp) ?_; (case hd => rfl); (case hg => rfl); (case hr => first | (go_simp; done) | (go_simp; rfl)); (case hp => exact (Reps.one (show Kd.M (Kd.int .u8) _ _ _ 9 [.int .u8 9] from rfl) (Reps.one (show Kd.M (Kd.int .u8) _ _ _ 10 [.int .u8 10] from rfl) (Reps.one (show Kd.M (Kd.int .u8) _ _ _ 11 [.int .u8 11] from rfl) (Reps.one (show Kd.M (Kd.int .u8) _ _ _ 12 [.int .u8 12] from rfl) (Reps.one (show Kd.M (Kd.int .u8) _ _ _ 13 [.int .u8 13] from rfl) (Reps.one (show Kd.M (Kd.int .u8) _ _ _ 32 [.int .u8 32] from rfl) (Reps.none _ _)))))))); intro v174 w64 ho65 hb hg_ hnew_; clear hg_ hnew_; (first | rw [← Ny173.out] at ho65 | (simp only [Int.reduceToNat] at ho65; rw [← Ny173.out] at ho65)); have HO175 := Aside0.mk (Kd.R_lower ho65 (below_size bp_)); replace HB := Aside0.mk (below_step bp_ hb); clear hb ho65) | ((with_reducible refine gate_callee (f := 10) rfl ?_); refine goQ_ (some 47) Try.func10 #[.int .i64 a2, .int .i64 6] ?_; (with_reducible refine (chequerref01_Around.calls a2 6 t176 _ A16.out).mono ?_); rintro e w' ⟨rfl, ⟨nd, rfl⟩⟩; refine ⟨_, rfl, ?_⟩; obtain ⟨Ao66, co66, eo66⟩ := Kd.R_slice HO175.out; subst eo66; have p177 : 0 ≤ (t176 : Int) := of_decide_eq_true (by first | (with_reducible assumption) | assumption); have q177 : t176 < (y173.length : Int) := of_decide_eq_true (by first | (with_reducible assumption) | assumption); obtain ⟨ad177, e177, hx177_0⟩ := Kd.at_int (Kd.R_reads' HO175.out).2.2 t176 p177 q177; cases e177; replace p177 := eq_true p177; replace q177 := eq_true q177))
                                   (try (rw [drewN_self w64]; generalize hq_ : World.drewN w64 _ = w64; have n0_ := Aside0.mk (qrp_ hq_ HO175.out); have n1_ : Aside0 (Below w.heap.size w w64) := ⟨qbp_ hq_⟩; clear HO175 HB hq_; have HO175 := n0_; have HB := n1_; clear n0_ n1_))
                                   replace HO175 := Aside0.mk (Kd.R_drew HO175.out)
                                   replace HB := Aside0.mk (below_drew1 HB.out)
                                   refine start_ (n := 11) (S := fun w' => True) (ds := []) Fl3 (by kernel_rfl) rfl rfl trivial (fun hHeld => ?_); refine with_tabW chequerlaw05_TokenRemarks.tab10 chequerlaw05_TokenRemarks.bits10 (fun HT_ HW_ => ?_)
                                   generalize w64.drew = w67 at HO175 HB hHeld ⊢
                                   refine pur_ (i := 0) (N := some 50) Fl4 (any_of HT_.out (by kernel_rfl)) ?_
                                   refine pur_ (i := 1) (N := some 51) Fl5 (any_of HT_.out (by kernel_rfl)) ?_
                                   refine pur_ (i := 2) (N := some 52) Fl6 (any_of HT_.out (by kernel_rfl)) ?_
                                   refine pur_ (i := 3) (N := some 53) Fl7 (any_of HT_.out (by kernel_rfl)) ?_
                                   refine pur_ (i := 6) (N := some 56) Fl8 (any_of HT_.out (by kernel_rfl)) ?_
                                   refine join_ (σ := Value) 2 Fl1 (fun s_ => [(54, .string t178), (57, s_), (58, .string (strOfNums y179)), (55, .string ((((⟨#[32]⟩ : ByteArray) ++ x8_1) ++ (⟨#[10, 9]⟩ : ByteArray)) ++ t178))]) (fun s_ w' => (Kd.R (Kd.int .u8) 5 w' w.heap.size (fun k_ => some k_ ≠ (s_ : Value).ownBlock) (.slice (some ad177) y173.length co66) y173) ∧ (Kd.R (Kd.int .u8) 5 w' w.heap.size (fun k_ => some k_ ≠ (.slice (some ad177) y173.length co66 : Value).ownBlock) s_ y179) ∧ (Below w.heap.size w w')) ?_ ?_
                                   rotate_left
                                   · intro hCont
                                     refine two_ (i := 4) (j := 7) (Ni := some 54) (Nj := some 57) Fl11 Fl9 rfl rfl rfl rfl (two_of HT_.out (by kernel_rfl)) (by decide) (by decide) (fun K hK => ?_) (fun K hK => ?_)
                                     · skip
                                       refine goes_ Try.func11 (by kernel_rfl) rfl #[.int .i64 t171] (by rfl) rfl rfl (by (try simp only [List.map_toArray, List.map_cons, List.map_nil]); first | done | rfl | (simp only [List.length_drop, List.length_take]; rfl)) ?_
                                       with_reducible refine (chequerref01_Decimal.calls k1 t171 t178 _ A21.out).mono ?_
                                       rintro e w68 ⟨rfl, hb⟩
                                       refine ⟨_, rfl, ?_⟩
                                       replace HO175 := Aside0.mk (Kd.R_below (rp_ HO175.out) hb)
                                       replace HB := Aside0.mk (below_step bp_ hb)
                                       (try clear hb)
                                       (try clear hb2)
                                       (try clear hk)
                                       (try clear hi)
                                       refine hK.out _ _ trivial (fun hHeld => ?_)
                                       clear hK K
                                       refine norm_ (a' := ?_) ?_ ?_
                                       rotate_left
                                       · show Act.put _ (some 54) _ = _
                                         simp only [Act.put, List.setIfInBounds_toArray, List.set_cons_zero, List.set_cons_succ, i64_w, i32_w]
                                         rfl
                                       refine pur_ (i := 5) (N := some 55) Fl14 (any_of HT_.out (by kernel_rfl)) ?_
                                       refine one_ (i := 7) (N := some 57) Fl2 rfl rfl (one_of HT_.out (by kernel_rfl)) (by decide) (fun K hK => ?_)
                                       refine Kd.R_lit_step (Kd.int .u8) _ 5 ?hg (N := 57) ?hd (xs := ([rd y173 t176] : List Int)) (inner := [.int .u8 (rd y173 t176)]) (ok := fun _ => True) (okp := fun _ => True) ?hr ?hp (fun _ hk => hk) trivial (Below.refl _ _) (Nat.le_refl _) (by simp) ?_; (case hd => rfl); (case hg => rfl); (case hr => first | (go_simp; done) | (go_simp; rfl)); (case hp => exact (Reps.one (show Kd.M (Kd.int .u8) _ _ _ (rd y173 t176) [.int .u8 (rd y173 t176)] from rfl) (Reps.none _ _)))
                                       intro v180 w69 ho70 hb hg_ hnew_
                                       clear hg_ hnew_
                                       (first | rw [← Ny179.out] at ho70 | (simp only [Int.reduceToNat] at ho70; rw [← Ny179.out] at ho70))
                                       have HO181 := Aside0.mk (Kd.R_lower (Kd.R_new' ho70 (Kd.R_lt (rp_ HO175.out))) (below_size bp_))
                                       replace HO175 := Aside0.mk (Kd.R_elder' (rp_ HO175.out) (Kd.R_base ho70) hb)
                                       replace HB := Aside0.mk (below_step bp_ hb)
                                       clear hb ho70
                                       refine hK.out _ _ trivial (fun hHeld => ?_)
                                       clear hK K
                                       refine norm_ (a' := ?_) ?_ ?_
                                       rotate_left
                                       · show Act.put _ (some 57) _ = _
                                         simp only [Act.put, List.setIfInBounds_toArray, List.set_cons_zero, List.set_cons_succ, i64_w, i32_w]
                                         rfl
                                       refine one_ (i := 8) (N := some 58) Fl1 rfl rfl (one_of HT_.out (by kernel_rfl)) (by decide) (fun K hK => ?_)
                                       have hcv71 := own_string (P := Try.prog) Try.underlying24 Try.underlying5 Try.underlying9 (Kd.own_of_R HO181.out)
                                       refine value_ (w1 := ?_) (v := ?_) (by rfl) rfl ?_ ?_
                                       rotate_left 2
                                       · go_simp
                                         constructor
                                         · rfl
                                         · rfl
                                       clear hcv71
                                       refine hK.out _ _ trivial (fun hHeld => ?_)
                                       clear hK K
                                       refine norm_ (a' := ?_) ?_ ?_
                                       rotate_left
                                       · show Act.put _ (some 58) _ = _
                                         simp only [Act.put, List.setIfInBounds_toArray, List.set_cons_zero, List.set_cons_succ, i64_w, i32_w]
                                         rfl
                                       exact norm_ (by simp only [putAll, Act.put, List.setIfInBounds_toArray, List.set_cons_zero, List.set_cons_succ]) (hCont (v180) _ ⟨(by (with_reducible repeat (first | apply Kd.R_alloc | apply Kd.R_drewN | apply Kd.R_drew)); exact Kd.R_mono HO175.out (fun _ hk => hk.2)), (by (with_reducible repeat (first | apply Kd.R_alloc | apply Kd.R_drewN | apply Kd.R_drew)); exact Kd.R_mono HO181.out (fun _ hk => hk.2)), bp_⟩)
                                     · skip
                                       refine Kd.R_lit_step (Kd.int .u8) _ 5 ?hg (N := 57) ?hd (xs := ([rd y173 t176] : List Int)) (inner := [.int .u8 (rd y173 t176)]) (ok := fun _ => True) (okp := fun _ => True) ?hr ?hp (fun _ hk => hk) trivial (Below.refl _ _) (Nat.le_refl _) (by simp) ?_; (case hd => rfl); (case hg => rfl); (case hr => first | (go_simp; done) | (go_simp; rfl)); (case hp => exact (Reps.one (show Kd.M (Kd.int .u8) _ _ _ (rd y173 t176) [.int .u8 (rd y173 t176)] from rfl) (Reps.none _ _)))
                                       intro v180 w68 ho69 hb hg_ hnew_
                                       clear hg_ hnew_
                                       (first | rw [← Ny179.out] at ho69 | (simp only [Int.reduceToNat] at ho69; rw [← Ny179.out] at ho69))
                                       have HO181 := Aside0.mk (Kd.R_lower (Kd.R_new' ho69 (Kd.R_lt (rp_ HO175.out))) (below_size bp_))
                                       replace HO175 := Aside0.mk (Kd.R_elder' (rp_ HO175.out) (Kd.R_base ho69) hb)
                                       replace HB := Aside0.mk (below_step bp_ hb)
                                       clear hb ho69
                                       refine hK.out _ _ trivial (fun hHeld => ?_)
                                       clear hK K
                                       refine norm_ (a' := ?_) ?_ ?_
                                       rotate_left
                                       · show Act.put _ (some 57) _ = _
                                         simp only [Act.put, List.setIfInBounds_toArray, List.set_cons_zero, List.set_cons_succ, i64_w, i32_w]
                                         rfl
                                       refine two_ (i := 4) (j := 8) (Ni := some 54) (Nj := some 58) Fl12 Fl10 rfl rfl rfl rfl (two_of HT_.out (by kernel_rfl)) (by decide) (by decide) (fun K hK => ?_) (fun K hK => ?_)
                                       · skip
                                         refine goes_ Try.func11 (by kernel_rfl) rfl #[.int .i64 t171] (by rfl) rfl rfl (by (try simp only [List.map_toArray, List.map_cons, List.map_nil]); first | done | rfl | (simp only [List.length_drop, List.length_take]; rfl)) ?_
                                         with_reducible refine (chequerref01_Decimal.calls k1 t171 t178 _ A21.out).mono ?_
                                         rintro e w70 ⟨rfl, hb⟩
                                         refine ⟨_, rfl, ?_⟩
                                         replace HO175 := Aside0.mk (Kd.R_below (rp_ HO175.out) hb)
                                         replace HO181 := Aside0.mk (Kd.R_below (rp_ HO181.out) hb)
                                         replace HB := Aside0.mk (below_step bp_ hb)
                                         (try clear hb)
                                         (try clear hb2)
                                         (try clear hk)
                                         (try clear hi)
                                         refine hK.out _ _ trivial (fun hHeld => ?_)
                                         clear hK K
                                         refine norm_ (a' := ?_) ?_ ?_
                                         rotate_left
                                         · show Act.put _ (some 54) _ = _
                                           simp only [Act.put, List.setIfInBounds_toArray, List.set_cons_zero, List.set_cons_succ, i64_w, i32_w]
                                           rfl
                                         refine pur_ (i := 5) (N := some 55) Fl2 (any_of HT_.out (by kernel_rfl)) ?_
                                         refine one_ (i := 8) (N := some 58) Fl1 rfl rfl (one_of HT_.out (by kernel_rfl)) (by decide) (fun K hK => ?_)
                                         have hcv71 := own_string (P := Try.prog) Try.underlying24 Try.underlying5 Try.underlying9 (Kd.own_of_R HO181.out)
                                         refine value_ (w1 := ?_) (v := ?_) (by rfl) rfl ?_ ?_
                                         rotate_left 2
                                         · go_simp
                                           constructor
                                           · rfl
                                           · rfl
                                         clear hcv71
                                         refine hK.out _ _ trivial (fun hHeld => ?_)
                                         clear hK K
                                         refine norm_ (a' := ?_) ?_ ?_
                                         rotate_left
                                         · show Act.put _ (some 58) _ = _
                                           simp only [Act.put, List.setIfInBounds_toArray, List.set_cons_zero, List.set_cons_succ, i64_w, i32_w]
                                           rfl
                                         exact norm_ (by simp only [putAll, Act.put, List.setIfInBounds_toArray, List.set_cons_zero, List.set_cons_succ]) (hCont (v180) _ ⟨(by (with_reducible repeat (first | apply Kd.R_alloc | apply Kd.R_drewN | apply Kd.R_drew)); exact Kd.R_mono HO175.out (fun _ hk => hk.2)), (by (with_reducible repeat (first | apply Kd.R_alloc | apply Kd.R_drewN | apply Kd.R_drew)); exact Kd.R_mono HO181.out (fun _ hk => hk.2)), bp_⟩)
                                       · skip
                                         have hcv70 := own_string (P := Try.prog) Try.underlying24 Try.underlying5 Try.underlying9 (Kd.own_of_R HO181.out)
                                         refine value_ (w1 := ?_) (v := ?_) (by rfl) rfl ?_ ?_
                                         rotate_left 2
                                         · go_simp
                                           constructor
                                           · rfl
                                           · rfl
                                         clear hcv70
                                         refine hK.out _ _ trivial (fun hHeld => ?_)
                                         clear hK K
                                         refine norm_ (a' := ?_) ?_ ?_
                                         rotate_left
                                         · show Act.put _ (some 58) _ = _
                                           simp only [Act.put, List.setIfInBounds_toArray, List.set_cons_zero, List.set_cons_succ, i64_w, i32_w]
                                           rfl
                                         refine one_ (i := 4) (N := some 54) Fl13 rfl rfl (one_of HT_.out (by kernel_rfl)) (by decide) (fun K hK => ?_)
                                         refine goes_ Try.func11 (by kernel_rfl) rfl #[.int .i64 t171] (by rfl) rfl rfl (by (try simp only [List.map_toArray, List.map_cons, List.map_nil]); first | done | rfl | (simp only [List.length_drop, List.length_take]; rfl)) ?_
                                         with_reducible refine (chequerref01_Decimal.calls k1 t171 t178 _ A21.out).mono ?_
                                         rintro e w71 ⟨rfl, hb⟩
                                         refine ⟨_, rfl, ?_⟩
                                         replace HO175 := Aside0.mk (Kd.R_below (rp_ HO175.out) hb)
                                         replace HO181 := Aside0.mk (Kd.R_below (rp_ HO181.out) hb)
                                         replace HB := Aside0.mk (below_step bp_ hb)
                                         (try clear hb)
                                         (try clear hb2)
                                         (try clear hk)
                                         (try clear hi)
                                         refine hK.out _ _ trivial (fun hHeld => ?_)
                                         clear hK K
                                         refine norm_ (a' := ?_) ?_ ?_
                                         rotate_left
                                         · show Act.put _ (some 54) _ = _
                                           simp only [Act.put, List.setIfInBounds_toArray, List.set_cons_zero, List.set_cons_succ, i64_w, i32_w]
                                           rfl
                                         refine pur_ (i := 5) (N := some 55) Fl1 (any_of HT_.out (by kernel_rfl)) ?_
                                         exact norm_ (by simp only [putAll, Act.put, List.setIfInBounds_toArray, List.set_cons_zero, List.set_cons_succ]) (hCont (v180) _ ⟨(by (with_reducible repeat (first | apply Kd.R_alloc | apply Kd.R_drewN | apply Kd.R_drew)); exact Kd.R_mono HO175.out (fun _ hk => hk.2)), (by (with_reducible repeat (first | apply Kd.R_alloc | apply Kd.R_drewN | apply Kd.R_drew)); exact Kd.R_mono HO181.out (fun _ hk => hk.2)), bp_⟩)
                                   rintro v180 w72 ⟨h0_, h1_, h2_⟩
                                   replace HO175 : Aside0 (Kd.R (Kd.int .u8) 5 w72 w.heap.size (fun k_ => some k_ ≠ (v180 : Value).ownBlock) (.slice (some ad177) y173.length co66) y173) := ⟨h0_⟩
                                   have HO181 : Aside0 (Kd.R (Kd.int .u8) 5 w72 w.heap.size (fun k_ => some k_ ≠ (.slice (some ad177) y173.length co66 : Value).ownBlock) v180 y179) := ⟨h1_⟩
                                   replace HB : Aside0 (Below w.heap.size w w72) := ⟨h2_⟩
                                   clear h0_ h1_ h2_
                                   have hHeld := trivial
                                   refine norm_ (a' := ?_) ?_ ?_
                                   rotate_left
                                   · simp only [putAll, Act.put, List.setIfInBounds_toArray, List.set_cons_zero, List.set_cons_succ]
                                     rfl
                                   refine pur_ (i := 9) (N := some 59) Fl15 (any_of HT_.out (by kernel_rfl)) ?_
                                   refine pur_ (i := 10) (N := some 11) Fl16 (any_of HT_.out (by kernel_rfl)) ?_
                                   refine done_ (done_of HT_.out (by kernel_rfl)) ?_
                                   try go_wp2_with (first | ((with_reducible refine gate_callee (f := 12) rfl ?_); refine goQ_ (some 63) Try.func12 #[.string (((((⟨#[32]⟩ : ByteArray) ++ x8_1) ++ (⟨#[10, 9]⟩ : ByteArray)) ++ t178) ++ (strOfNums y179)), .int .i64 t171] ?_; (with_reducible refine (token_All.calls (((((⟨#[32]⟩ : ByteArray) ++ x8_1) ++ (⟨#[10, 9]⟩ : ByteArray)) ++ t178) ++ (strOfNums y179)) t171 t182 t183 t184 _ A24.out).mono ?_); rintro e w73 ⟨v185, rfl, ho0, hb⟩; refine ⟨_, rfl, ?_⟩; replace HO175 := Aside0.mk (Kd.R_below (rp_ HO175.out) hb); replace HO181 := Aside0.mk (Kd.R_below (rp_ HO181.out) hb); have HO186 := Aside0.mk (Kd.R_lower ho0 (below_size bp_)); replace HB := Aside0.mk (below_step bp_ hb); (try clear hb); (try clear hb2); (try clear hk); (try clear hi); (try clear ho0)) | ((with_reducible refine gate_callee (f := 11) rfl ?_); refine goQ_ (some 69) Try.func11 #[.int .i64 t171] ?_; (with_reducible refine (chequerref01_Decimal.calls k1 t171 t187 _ A25.out).mono ?_); rintro e w74 ⟨rfl, hb⟩; refine ⟨_, rfl, ?_⟩; replace HO175 := Aside0.mk (Kd.R_below (rp_ HO175.out) hb); replace HO181 := Aside0.mk (Kd.R_below (rp_ HO181.out) hb); replace HO186 := Aside0.mk (Kd.R_below (rp_ HO186.out) hb); replace HB := Aside0.mk (below_step bp_ hb); (try clear hb); (try clear hb2); (try clear hk); (try clear hi)) | ((with_reducible refine gate_callee (f := 12) rfl ?_); refine goQ_ (some 74) Try.func12 #[.string ((t187 ++ x8_1) ++ (⟨#[13]⟩ : ByteArray)), .int .i64 t171] ?_; (with_reducible refine (token_All.calls ((t187 ++ x8_1) ++ (⟨#[13]⟩ : ByteArray)) t171 t188 t189 t190 _ A28.out).mono ?_); rintro e w75 ⟨v191, rfl, ho0, hb⟩; refine ⟨_, rfl, ?_⟩; replace HO175 := Aside0.mk (Kd.R_below (rp_ HO175.out) hb); replace HO181 := Aside0.mk (Kd.R_below (rp_ HO181.out) hb); have HO192 := Aside0.mk (Kd.R_lower (Kd.R_new' ho0 (Kd.R_lt (rp_ HO186.out))) (below_size bp_)); replace HO186 := Aside0.mk (Kd.R_elder' (rp_ HO186.out) (Kd.R_base ho0) hb); replace HB := Aside0.mk (below_step bp_ hb); (try clear hb); (try clear hb2); (try clear hk); (try clear hi); (try clear ho0)) | ((with_reducible refine gate_dst (N := 80) rfl ?_); (try (refine gate_guard (by rfl) ?_; dsimp only)); refine Kd.R_lit (Kd.int .i64) _ 3 ?hg (N := 80) ?hd (xs := ([t171] : List Int)) (inner := [.int .i64 t171]) (ok := fun _ => True) (okp := fun _ => True) ?hr ?hp (fun _ hk => hk) trivial (Below.refl _ _) (Nat.le_refl _) (by simp) ?_; (case hd => rfl); (case hg => rfl); (case hr => first | (go_simp; done) | (go_simp; rfl)); (case hp => exact (Reps.one (show Kd.M (Kd.int .i64) _ _ _ t171 [.int .i64 t171] from rfl) (Reps.none _ _))); intro v194 w76 ho77 hb hg_ hnew_; clear hg_ hnew_; (first | rw [← Ny193.out] at ho77 | (simp only [Int.reduceToNat] at ho77; rw [← Ny193.out] at ho77)); replace HO175 := Aside0.mk (Kd.R_below (rp_ HO175.out) hb); replace HO181 := Aside0.mk (Kd.R_below (rp_ HO181.out) hb); have HO195 := Aside0.mk (Kd.R_lower (Kd.R_new' (Kd.R_new' ho77 (Kd.R_lt (rp_ HO186.out))) (Kd.R_lt (rp_ HO192.out))) (below_size bp_)); replace HO186 := Aside0.mk (Kd.R_elder' (rp_ HO186.out) (Kd.R_base ho77) hb); replace HO192 := Aside0.mk (Kd.R_elder' (rp_ HO192.out) (Kd.R_base ho77) hb); replace HB := Aside0.mk (below_step bp_ hb); clear hb ho77; obtain ⟨Ao78, co78, eo78⟩ := Kd.R_slice HO186.out; subst eo78; obtain ⟨Ao79, co79, eo79⟩ := Kd.R_slice HO195.out; subst eo79) | ((with_reducible refine gate_callee (f := 13) rfl ?_); refine goQ_ (some 81) Try.func13 #[.slice Ao78 t182.length co78, .slice Ao79 y193.length co79] ?_; (with_reducible refine (chequerref01_Same.calls k1 _ _ t182 _ _ y193 true _ ?side1 ?side2 ?side3 ?side4 A29.out).mono ?_); (case side1 => exact cp_ (Kd.R_reads' HO186.out).2.2); (case side2 => exact (Kd.R_reads' HO186.out).2.1); (case side3 => exact cp_ (Kd.R_reads' HO195.out).2.2); (case side4 => exact (Kd.R_reads' HO195.out).2.1); rintro e w' ⟨rfl, ⟨nd, rfl⟩⟩; refine ⟨_, rfl, ?_⟩) | ((with_reducible refine gate_dst (N := 95) rfl ?_); (try (refine gate_guard (by rfl) ?_; dsimp only)); refine Kd.R_lit (Kd.int .i64) _ 3 ?hg (N := 95) ?hd (xs := ([t171] : List Int)) (inner := [.int .i64 t171]) (ok := fun _ => True) (okp := fun _ => True) ?hr ?hp (fun _ hk => hk) trivial (Below.refl _ _) (Nat.le_refl _) (by simp) ?_; (case hd => rfl); (case hg => rfl); (case hr => first | (go_simp; done) | (go_simp; rfl)); (case hp => exact (Reps.one (show Kd.M (Kd.int .i64) _ _ _ t171 [.int .i64 t171] from rfl) (Reps.none _ _))); intro v198 w80 ho81 hb hg_ hnew_; clear hg_ hnew_; (first | rw [← Ny197.out] at ho81 | (simp only [Int.reduceToNat] at ho81; rw [← Ny197.out] at ho81)); replace HO175 := Aside0.mk (Kd.R_below (rp_ HO175.out) hb); replace HO181 := Aside0.mk (Kd.R_below (rp_ HO181.out) hb); have HO199 := Aside0.mk (Kd.R_lower (Kd.R_new' (Kd.R_new' (Kd.R_new' ho81 (Kd.R_lt (rp_ HO186.out))) (Kd.R_lt (rp_ HO192.out))) (Kd.R_lt (rp_ HO195.out))) (below_size bp_)); replace HO186 := Aside0.mk (Kd.R_elder' (rp_ HO186.out) (Kd.R_base ho81) hb); replace HO192 := Aside0.mk (Kd.R_elder' (rp_ HO192.out) (Kd.R_base ho81) hb); replace HO195 := Aside0.mk (Kd.R_elder' (rp_ HO195.out) (Kd.R_base ho81) hb); replace HB := Aside0.mk (below_step bp_ hb); clear hb ho81; obtain ⟨Ao82, co82, eo82⟩ := Kd.R_slice HO192.out; subst eo82; obtain ⟨Ao83, co83, eo83⟩ := Kd.R_slice HO199.out; subst eo83) | (go_at_call 13; (with_reducible refine (chequerref01_Same.calls k1 _ _ t188 _ _ y197 true _ ?side1 ?side2 ?side3 ?side4 A33.out).mono ?_); (case side1 => exact cp_ (Kd.R_reads' HO192.out).2.2); (case side2 => exact (Kd.R_reads' HO192.out).2.1); (case side3 => exact cp_ (Kd.R_reads' HO199.out).2.2); (case side4 => exact (Kd.R_reads' HO199.out).2.1); rintro e w' ⟨rfl, ⟨nd, rfl⟩⟩) | (go_at_call 11; (with_reducible refine (chequerref01_Decimal.calls k1 t171 t201 _ A35.out).mono ?_); rintro e w84 ⟨rfl, hb⟩; replace HO175 := Aside0.mk (Kd.R_below (rp_ HO175.out) hb); replace HO181 := Aside0.mk (Kd.R_below (rp_ HO181.out) hb); replace HO186 := Aside0.mk (Kd.R_below (rp_ HO186.out) hb); replace HO192 := Aside0.mk (Kd.R_below (rp_ HO192.out) hb); replace HO195 := Aside0.mk (Kd.R_below (rp_ HO195.out) hb); replace HO199 := Aside0.mk (Kd.R_below (rp_ HO199.out) hb); replace HB := Aside0.mk (below_step bp_ hb); (try clear hb); (try clear hb2); (try clear hk); (try clear hi)) | (go_at_call 14; (with_reducible refine (token_Skip.calls x8_1 t202 _ A38.out).mono ?_); rintro e w85 ⟨rfl, hb⟩; replace HO175 := Aside0.mk (Kd.R_below (rp_ HO175.out) hb); replace HO181 := Aside0.mk (Kd.R_below (rp_ HO181.out) hb); replace HO186 := Aside0.mk (Kd.R_below (rp_ HO186.out) hb); replace HO192 := Aside0.mk (Kd.R_below (rp_ HO192.out) hb); replace HO195 := Aside0.mk (Kd.R_below (rp_ HO195.out) hb); replace HO199 := Aside0.mk (Kd.R_below (rp_ HO199.out) hb); replace HB := Aside0.mk (below_step bp_ hb); (try clear hb); (try clear hb2); (try clear hk); (try clear hi)))
                                   go_ret
                                   exact ⟨by first | rfl | (simp [errW_none, errW_some] <;> rfl) | (simp [*, errW_none, errW_some] <;> rfl), bp_⟩
                               · rw [if_neg c37] at H
                                 have c37b0 : (t190 == 0) = false := beq_eq_false_iff_ne.mpr c37
                                 have c37b1 : (t190 != 0) = true := bne_iff_ne.mpr c37
                                 obtain rfl := Option.some.inj H
                                 try go_wp2_with (first | ((with_reducible refine gate_dst (N := 45) rfl ?_); (try (refine gate_guard (by rfl) ?_; dsimp only)); refine Kd.R_lit (Kd.int .u8) _ 5 ?hg (N := 45) ?hd (xs := ([9, 10, 11, 12, 13, 32] : List Int)) (inner := [.int .u8 9, .int .u8 10, .int .u8 11, .int .u8 12, .int .u8 13, .int .u8 32]) (ok := fun _ => True) (okp := fun _ => True) ?hr ?hp (fun _ hk => hk) trivial (Below.refl _ _) (Nat.le_refl _) (by simp) ?_; (case hd => rfl); (case hg => rfl); (case hr => first | (go_simp; done) | (go_simp; rfl)); (case hp => exact (Reps.one (show Kd.M (Kd.int .u8) _ _ _ 9 [.int .u8 9] from rfl) (Reps.one (show Kd.M (Kd.int .u8) _ _ _ 10 [.int .u8 10] from rfl) (Reps.one (show Kd.M (Kd.int .u8) _ _ _ 11 [.int .u8 11] from rfl) (Reps.one (show Kd.M (Kd.int .u8) _ _ _ 12 [.int .u8 12] from rfl) (Reps.one (show Kd.M (Kd.int .u8) _ _ _ 13 [.int .u8 13] from rfl) (Reps.one (show Kd.M (Kd.int .u8) _ _ _ 32 [.int .u8 32] from rfl) (Reps.none _ _)))))))); intro v174 w86 ho87 hb hg_ hnew_; clear hg_ hnew_; (first | rw [← Ny173.out] at ho87 | (simp only [Int.reduceToNat] at ho87; rw [← Ny173.out] at ho87)); have HO175 := Aside0.mk (Kd.R_lower ho87 (below_size bp_)); replace HB := Aside0.mk (below_step bp_ hb); clear hb ho87) | ((with_reducible refine gate_callee (f := 10) rfl ?_); refine goQ_ (some 47) Try.func10 #[.int .i64 a2, .int .i64 6] ?_; (with_reducible refine (chequerref01_Around.calls a2 6 t176 _ A16.out).mono ?_); rintro e w' ⟨rfl, ⟨nd, rfl⟩⟩; refine ⟨_, rfl, ?_⟩; obtain ⟨Ao88, co88, eo88⟩ := Kd.R_slice HO175.out; subst eo88; have p177 : 0 ≤ (t176 : Int) := of_decide_eq_true (by first | (with_reducible assumption) | assumption); have q177 : t176 < (y173.length : Int) := of_decide_eq_true (by first | (with_reducible assumption) | assumption); obtain ⟨ad177, e177, hx177_0⟩ := Kd.at_int (Kd.R_reads' HO175.out).2.2 t176 p177 q177; cases e177; replace p177 := eq_true p177; replace q177 := eq_true q177))
                                 (try (rw [drewN_self w86]; generalize hq_ : World.drewN w86 _ = w86; have n0_ := Aside0.mk (qrp_ hq_ HO175.out); have n1_ : Aside0 (Below w.heap.size w w86) := ⟨qbp_ hq_⟩; clear HO175 HB hq_; have HO175 := n0_; have HB := n1_; clear n0_ n1_))
                                 replace HO175 := Aside0.mk (Kd.R_drew HO175.out)
                                 replace HB := Aside0.mk (below_drew1 HB.out)
                                 refine start_ (n := 11) (S := fun w' => True) (ds := []) Fl3 (by kernel_rfl) rfl rfl trivial (fun hHeld => ?_); refine with_tabW chequerlaw05_TokenRemarks.tab10 chequerlaw05_TokenRemarks.bits10 (fun HT_ HW_ => ?_)
                                 generalize w86.drew = w89 at HO175 HB hHeld ⊢
                                 refine pur_ (i := 0) (N := some 50) Fl4 (any_of HT_.out (by kernel_rfl)) ?_
                                 refine pur_ (i := 1) (N := some 51) Fl5 (any_of HT_.out (by kernel_rfl)) ?_
                                 refine pur_ (i := 2) (N := some 52) Fl6 (any_of HT_.out (by kernel_rfl)) ?_
                                 refine pur_ (i := 3) (N := some 53) Fl7 (any_of HT_.out (by kernel_rfl)) ?_
                                 refine pur_ (i := 6) (N := some 56) Fl8 (any_of HT_.out (by kernel_rfl)) ?_
                                 refine join_ (σ := Value) 2 Fl1 (fun s_ => [(54, .string t178), (57, s_), (58, .string (strOfNums y179)), (55, .string ((((⟨#[32]⟩ : ByteArray) ++ x8_1) ++ (⟨#[10, 9]⟩ : ByteArray)) ++ t178))]) (fun s_ w' => (Kd.R (Kd.int .u8) 5 w' w.heap.size (fun k_ => some k_ ≠ (s_ : Value).ownBlock) (.slice (some ad177) y173.length co88) y173) ∧ (Kd.R (Kd.int .u8) 5 w' w.heap.size (fun k_ => some k_ ≠ (.slice (some ad177) y173.length co88 : Value).ownBlock) s_ y179) ∧ (Below w.heap.size w w')) ?_ ?_
                                 rotate_left
                                 · intro hCont
                                   refine two_ (i := 4) (j := 7) (Ni := some 54) (Nj := some 57) Fl11 Fl9 rfl rfl rfl rfl (two_of HT_.out (by kernel_rfl)) (by decide) (by decide) (fun K hK => ?_) (fun K hK => ?_)
                                   · skip
                                     refine goes_ Try.func11 (by kernel_rfl) rfl #[.int .i64 t171] (by rfl) rfl rfl (by (try simp only [List.map_toArray, List.map_cons, List.map_nil]); first | done | rfl | (simp only [List.length_drop, List.length_take]; rfl)) ?_
                                     with_reducible refine (chequerref01_Decimal.calls k1 t171 t178 _ A21.out).mono ?_
                                     rintro e w90 ⟨rfl, hb⟩
                                     refine ⟨_, rfl, ?_⟩
                                     replace HO175 := Aside0.mk (Kd.R_below (rp_ HO175.out) hb)
                                     replace HB := Aside0.mk (below_step bp_ hb)
                                     (try clear hb)
                                     (try clear hb2)
                                     (try clear hk)
                                     (try clear hi)
                                     refine hK.out _ _ trivial (fun hHeld => ?_)
                                     clear hK K
                                     refine norm_ (a' := ?_) ?_ ?_
                                     rotate_left
                                     · show Act.put _ (some 54) _ = _
                                       simp only [Act.put, List.setIfInBounds_toArray, List.set_cons_zero, List.set_cons_succ, i64_w, i32_w]
                                       rfl
                                     refine pur_ (i := 5) (N := some 55) Fl14 (any_of HT_.out (by kernel_rfl)) ?_
                                     refine one_ (i := 7) (N := some 57) Fl2 rfl rfl (one_of HT_.out (by kernel_rfl)) (by decide) (fun K hK => ?_)
                                     refine Kd.R_lit_step (Kd.int .u8) _ 5 ?hg (N := 57) ?hd (xs := ([rd y173 t176] : List Int)) (inner := [.int .u8 (rd y173 t176)]) (ok := fun _ => True) (okp := fun _ => True) ?hr ?hp (fun _ hk => hk) trivial (Below.refl _ _) (Nat.le_refl _) (by simp) ?_; (case hd => rfl); (case hg => rfl); (case hr => first | (go_simp; done) | (go_simp; rfl)); (case hp => exact (Reps.one (show Kd.M (Kd.int .u8) _ _ _ (rd y173 t176) [.int .u8 (rd y173 t176)] from rfl) (Reps.none _ _)))
                                     intro v180 w91 ho92 hb hg_ hnew_
                                     clear hg_ hnew_
                                     (first | rw [← Ny179.out] at ho92 | (simp only [Int.reduceToNat] at ho92; rw [← Ny179.out] at ho92))
                                     have HO181 := Aside0.mk (Kd.R_lower (Kd.R_new' ho92 (Kd.R_lt (rp_ HO175.out))) (below_size bp_))
                                     replace HO175 := Aside0.mk (Kd.R_elder' (rp_ HO175.out) (Kd.R_base ho92) hb)
                                     replace HB := Aside0.mk (below_step bp_ hb)
                                     clear hb ho92
                                     refine hK.out _ _ trivial (fun hHeld => ?_)
                                     clear hK K
                                     refine norm_ (a' := ?_) ?_ ?_
                                     rotate_left
                                     · show Act.put _ (some 57) _ = _
                                       simp only [Act.put, List.setIfInBounds_toArray, List.set_cons_zero, List.set_cons_succ, i64_w, i32_w]
                                       rfl
                                     refine one_ (i := 8) (N := some 58) Fl1 rfl rfl (one_of HT_.out (by kernel_rfl)) (by decide) (fun K hK => ?_)
                                     have hcv93 := own_string (P := Try.prog) Try.underlying24 Try.underlying5 Try.underlying9 (Kd.own_of_R HO181.out)
                                     refine value_ (w1 := ?_) (v := ?_) (by rfl) rfl ?_ ?_
                                     rotate_left 2
                                     · go_simp
                                       constructor
                                       · rfl
                                       · rfl
                                     clear hcv93
                                     refine hK.out _ _ trivial (fun hHeld => ?_)
                                     clear hK K
                                     refine norm_ (a' := ?_) ?_ ?_
                                     rotate_left
                                     · show Act.put _ (some 58) _ = _
                                       simp only [Act.put, List.setIfInBounds_toArray, List.set_cons_zero, List.set_cons_succ, i64_w, i32_w]
                                       rfl
                                     exact norm_ (by simp only [putAll, Act.put, List.setIfInBounds_toArray, List.set_cons_zero, List.set_cons_succ]) (hCont (v180) _ ⟨(by (with_reducible repeat (first | apply Kd.R_alloc | apply Kd.R_drewN | apply Kd.R_drew)); exact Kd.R_mono HO175.out (fun _ hk => hk.2)), (by (with_reducible repeat (first | apply Kd.R_alloc | apply Kd.R_drewN | apply Kd.R_drew)); exact Kd.R_mono HO181.out (fun _ hk => hk.2)), bp_⟩)
                                   · skip
                                     refine Kd.R_lit_step (Kd.int .u8) _ 5 ?hg (N := 57) ?hd (xs := ([rd y173 t176] : List Int)) (inner := [.int .u8 (rd y173 t176)]) (ok := fun _ => True) (okp := fun _ => True) ?hr ?hp (fun _ hk => hk) trivial (Below.refl _ _) (Nat.le_refl _) (by simp) ?_; (case hd => rfl); (case hg => rfl); (case hr => first | (go_simp; done) | (go_simp; rfl)); (case hp => exact (Reps.one (show Kd.M (Kd.int .u8) _ _ _ (rd y173 t176) [.int .u8 (rd y173 t176)] from rfl) (Reps.none _ _)))
                                     intro v180 w90 ho91 hb hg_ hnew_
                                     clear hg_ hnew_
                                     (first | rw [← Ny179.out] at ho91 | (simp only [Int.reduceToNat] at ho91; rw [← Ny179.out] at ho91))
                                     have HO181 := Aside0.mk (Kd.R_lower (Kd.R_new' ho91 (Kd.R_lt (rp_ HO175.out))) (below_size bp_))
                                     replace HO175 := Aside0.mk (Kd.R_elder' (rp_ HO175.out) (Kd.R_base ho91) hb)
                                     replace HB := Aside0.mk (below_step bp_ hb)
                                     clear hb ho91
                                     refine hK.out _ _ trivial (fun hHeld => ?_)
                                     clear hK K
                                     refine norm_ (a' := ?_) ?_ ?_
                                     rotate_left
                                     · show Act.put _ (some 57) _ = _
                                       simp only [Act.put, List.setIfInBounds_toArray, List.set_cons_zero, List.set_cons_succ, i64_w, i32_w]
                                       rfl
                                     refine two_ (i := 4) (j := 8) (Ni := some 54) (Nj := some 58) Fl12 Fl10 rfl rfl rfl rfl (two_of HT_.out (by kernel_rfl)) (by decide) (by decide) (fun K hK => ?_) (fun K hK => ?_)
                                     · skip
                                       refine goes_ Try.func11 (by kernel_rfl) rfl #[.int .i64 t171] (by rfl) rfl rfl (by (try simp only [List.map_toArray, List.map_cons, List.map_nil]); first | done | rfl | (simp only [List.length_drop, List.length_take]; rfl)) ?_
                                       with_reducible refine (chequerref01_Decimal.calls k1 t171 t178 _ A21.out).mono ?_
                                       rintro e w92 ⟨rfl, hb⟩
                                       refine ⟨_, rfl, ?_⟩
                                       replace HO175 := Aside0.mk (Kd.R_below (rp_ HO175.out) hb)
                                       replace HO181 := Aside0.mk (Kd.R_below (rp_ HO181.out) hb)
                                       replace HB := Aside0.mk (below_step bp_ hb)
                                       (try clear hb)
                                       (try clear hb2)
                                       (try clear hk)
                                       (try clear hi)
                                       refine hK.out _ _ trivial (fun hHeld => ?_)
                                       clear hK K
                                       refine norm_ (a' := ?_) ?_ ?_
                                       rotate_left
                                       · show Act.put _ (some 54) _ = _
                                         simp only [Act.put, List.setIfInBounds_toArray, List.set_cons_zero, List.set_cons_succ, i64_w, i32_w]
                                         rfl
                                       refine pur_ (i := 5) (N := some 55) Fl2 (any_of HT_.out (by kernel_rfl)) ?_
                                       refine one_ (i := 8) (N := some 58) Fl1 rfl rfl (one_of HT_.out (by kernel_rfl)) (by decide) (fun K hK => ?_)
                                       have hcv93 := own_string (P := Try.prog) Try.underlying24 Try.underlying5 Try.underlying9 (Kd.own_of_R HO181.out)
                                       refine value_ (w1 := ?_) (v := ?_) (by rfl) rfl ?_ ?_
                                       rotate_left 2
                                       · go_simp
                                         constructor
                                         · rfl
                                         · rfl
                                       clear hcv93
                                       refine hK.out _ _ trivial (fun hHeld => ?_)
                                       clear hK K
                                       refine norm_ (a' := ?_) ?_ ?_
                                       rotate_left
                                       · show Act.put _ (some 58) _ = _
                                         simp only [Act.put, List.setIfInBounds_toArray, List.set_cons_zero, List.set_cons_succ, i64_w, i32_w]
                                         rfl
                                       exact norm_ (by simp only [putAll, Act.put, List.setIfInBounds_toArray, List.set_cons_zero, List.set_cons_succ]) (hCont (v180) _ ⟨(by (with_reducible repeat (first | apply Kd.R_alloc | apply Kd.R_drewN | apply Kd.R_drew)); exact Kd.R_mono HO175.out (fun _ hk => hk.2)), (by (with_reducible repeat (first | apply Kd.R_alloc | apply Kd.R_drewN | apply Kd.R_drew)); exact Kd.R_mono HO181.out (fun _ hk => hk.2)), bp_⟩)
                                     · skip
                                       have hcv92 := own_string (P := Try.prog) Try.underlying24 Try.underlying5 Try.underlying9 (Kd.own_of_R HO181.out)
                                       refine value_ (w1 := ?_) (v := ?_) (by rfl) rfl ?_ ?_
                                       rotate_left 2
                                       · go_simp
                                         constructor
                                         · rfl
                                         · rfl
                                       clear hcv92
                                       refine hK.out _ _ trivial (fun hHeld => ?_)
                                       clear hK K
                                       refine norm_ (a' := ?_) ?_ ?_
                                       rotate_left
                                       · show Act.put _ (some 58) _ = _
                                         simp only [Act.put, List.setIfInBounds_toArray, List.set_cons_zero, List.set_cons_succ, i64_w, i32_w]
                                         rfl
                                       refine one_ (i := 4) (N := some 54) Fl13 rfl rfl (one_of HT_.out (by kernel_rfl)) (by decide) (fun K hK => ?_)
                                       refine goes_ Try.func11 (by kernel_rfl) rfl #[.int .i64 t171] (by rfl) rfl rfl (by (try simp only [List.map_toArray, List.map_cons, List.map_nil]); first | done | rfl | (simp only [List.length_drop, List.length_take]; rfl)) ?_
                                       with_reducible refine (chequerref01_Decimal.calls k1 t171 t178 _ A21.out).mono ?_
                                       rintro e w93 ⟨rfl, hb⟩
                                       refine ⟨_, rfl, ?_⟩
                                       replace HO175 := Aside0.mk (Kd.R_below (rp_ HO175.out) hb)
                                       replace HO181 := Aside0.mk (Kd.R_below (rp_ HO181.out) hb)
                                       replace HB := Aside0.mk (below_step bp_ hb)
                                       (try clear hb)
                                       (try clear hb2)
                                       (try clear hk)
                                       (try clear hi)
                                       refine hK.out _ _ trivial (fun hHeld => ?_)
                                       clear hK K
                                       refine norm_ (a' := ?_) ?_ ?_
                                       rotate_left
                                       · show Act.put _ (some 54) _ = _
                                         simp only [Act.put, List.setIfInBounds_toArray, List.set_cons_zero, List.set_cons_succ, i64_w, i32_w]
                                         rfl
                                       refine pur_ (i := 5) (N := some 55) Fl1 (any_of HT_.out (by kernel_rfl)) ?_
                                       exact norm_ (by simp only [putAll, Act.put, List.setIfInBounds_toArray, List.set_cons_zero, List.set_cons_succ]) (hCont (v180) _ ⟨(by (with_reducible repeat (first | apply Kd.R_alloc | apply Kd.R_drewN | apply Kd.R_drew)); exact Kd.R_mono HO175.out (fun _ hk => hk.2)), (by (with_reducible repeat (first | apply Kd.R_alloc | apply Kd.R_drewN | apply Kd.R_drew)); exact Kd.R_mono HO181.out (fun _ hk => hk.2)), bp_⟩)
                                 rintro v180 w94 ⟨h0_, h1_, h2_⟩
                                 replace HO175 : Aside0 (Kd.R (Kd.int .u8) 5 w94 w.heap.size (fun k_ => some k_ ≠ (v180 : Value).ownBlock) (.slice (some ad177) y173.length co88) y173) := ⟨h0_⟩
                                 have HO181 : Aside0 (Kd.R (Kd.int .u8) 5 w94 w.heap.size (fun k_ => some k_ ≠ (.slice (some ad177) y173.length co88 : Value).ownBlock) v180 y179) := ⟨h1_⟩
                                 replace HB : Aside0 (Below w.heap.size w w94) := ⟨h2_⟩
                                 clear h0_ h1_ h2_
                                 have hHeld := trivial
                                 refine norm_ (a' := ?_) ?_ ?_
                                 rotate_left
                                 · simp only [putAll, Act.put, List.setIfInBounds_toArray, List.set_cons_zero, List.set_cons_succ]
                                   rfl
                                 refine pur_ (i := 9) (N := some 59) Fl15 (any_of HT_.out (by kernel_rfl)) ?_
                                 refine pur_ (i := 10) (N := some 11) Fl16 (any_of HT_.out (by kernel_rfl)) ?_
                                 refine done_ (done_of HT_.out (by kernel_rfl)) ?_
                                 try go_wp2_with (first | ((with_reducible refine gate_callee (f := 12) rfl ?_); refine goQ_ (some 63) Try.func12 #[.string (((((⟨#[32]⟩ : ByteArray) ++ x8_1) ++ (⟨#[10, 9]⟩ : ByteArray)) ++ t178) ++ (strOfNums y179)), .int .i64 t171] ?_; (with_reducible refine (token_All.calls (((((⟨#[32]⟩ : ByteArray) ++ x8_1) ++ (⟨#[10, 9]⟩ : ByteArray)) ++ t178) ++ (strOfNums y179)) t171 t182 t183 t184 _ A24.out).mono ?_); rintro e w95 ⟨v185, rfl, ho0, hb⟩; refine ⟨_, rfl, ?_⟩; replace HO175 := Aside0.mk (Kd.R_below (rp_ HO175.out) hb); replace HO181 := Aside0.mk (Kd.R_below (rp_ HO181.out) hb); have HO186 := Aside0.mk (Kd.R_lower ho0 (below_size bp_)); replace HB := Aside0.mk (below_step bp_ hb); (try clear hb); (try clear hb2); (try clear hk); (try clear hi); (try clear ho0)) | ((with_reducible refine gate_callee (f := 11) rfl ?_); refine goQ_ (some 69) Try.func11 #[.int .i64 t171] ?_; (with_reducible refine (chequerref01_Decimal.calls k1 t171 t187 _ A25.out).mono ?_); rintro e w96 ⟨rfl, hb⟩; refine ⟨_, rfl, ?_⟩; replace HO175 := Aside0.mk (Kd.R_below (rp_ HO175.out) hb); replace HO181 := Aside0.mk (Kd.R_below (rp_ HO181.out) hb); replace HO186 := Aside0.mk (Kd.R_below (rp_ HO186.out) hb); replace HB := Aside0.mk (below_step bp_ hb); (try clear hb); (try clear hb2); (try clear hk); (try clear hi)) | ((with_reducible refine gate_callee (f := 12) rfl ?_); refine goQ_ (some 74) Try.func12 #[.string ((t187 ++ x8_1) ++ (⟨#[13]⟩ : ByteArray)), .int .i64 t171] ?_; (with_reducible refine (token_All.calls ((t187 ++ x8_1) ++ (⟨#[13]⟩ : ByteArray)) t171 t188 t189 t190 _ A28.out).mono ?_); rintro e w97 ⟨v191, rfl, ho0, hb⟩; refine ⟨_, rfl, ?_⟩; replace HO175 := Aside0.mk (Kd.R_below (rp_ HO175.out) hb); replace HO181 := Aside0.mk (Kd.R_below (rp_ HO181.out) hb); have HO192 := Aside0.mk (Kd.R_lower (Kd.R_new' ho0 (Kd.R_lt (rp_ HO186.out))) (below_size bp_)); replace HO186 := Aside0.mk (Kd.R_elder' (rp_ HO186.out) (Kd.R_base ho0) hb); replace HB := Aside0.mk (below_step bp_ hb); (try clear hb); (try clear hb2); (try clear hk); (try clear hi); (try clear ho0)) | ((with_reducible refine gate_dst (N := 80) rfl ?_); (try (refine gate_guard (by rfl) ?_; dsimp only)); refine Kd.R_lit (Kd.int .i64) _ 3 ?hg (N := 80) ?hd (xs := ([t171] : List Int)) (inner := [.int .i64 t171]) (ok := fun _ => True) (okp := fun _ => True) ?hr ?hp (fun _ hk => hk) trivial (Below.refl _ _) (Nat.le_refl _) (by simp) ?_; (case hd => rfl); (case hg => rfl); (case hr => first | (go_simp; done) | (go_simp; rfl)); (case hp => exact (Reps.one (show Kd.M (Kd.int .i64) _ _ _ t171 [.int .i64 t171] from rfl) (Reps.none _ _))); intro v194 w98 ho99 hb hg_ hnew_; clear hg_ hnew_; (first | rw [← Ny193.out] at ho99 | (simp only [Int.reduceToNat] at ho99; rw [← Ny193.out] at ho99)); replace HO175 := Aside0.mk (Kd.R_below (rp_ HO175.out) hb); replace HO181 := Aside0.mk (Kd.R_below (rp_ HO181.out) hb); have HO195 := Aside0.mk (Kd.R_lower (Kd.R_new' (Kd.R_new' ho99 (Kd.R_lt (rp_ HO186.out))) (Kd.R_lt (rp_ HO192.out))) (below_size bp_)); replace HO186 := Aside0.mk (Kd.R_elder' (rp_ HO186.out) (Kd.R_base ho99) hb); replace HO192 := Aside0.mk (Kd.R_elder' (rp_ HO192.out) (Kd.R_base ho99) hb); replace HB := Aside0.mk (below_step bp_ hb); clear hb ho99; obtain ⟨Ao100, co100, eo100⟩ := Kd.R_slice HO186.out; subst eo100; obtain ⟨Ao101, co101, eo101⟩ := Kd.R_slice HO195.out; subst eo101) | ((with_reducible refine gate_callee (f := 13) rfl ?_); refine goQ_ (some 81) Try.func13 #[.slice Ao100 t182.length co100, .slice Ao101 y193.length co101] ?_; (with_reducible refine (chequerref01_Same.calls k1 _ _ t182 _ _ y193 true _ ?side1 ?side2 ?side3 ?side4 A29.out).mono ?_); (case side1 => exact cp_ (Kd.R_reads' HO186.out).2.2); (case side2 => exact (Kd.R_reads' HO186.out).2.1); (case side3 => exact cp_ (Kd.R_reads' HO195.out).2.2); (case side4 => exact (Kd.R_reads' HO195.out).2.1); rintro e w' ⟨rfl, ⟨nd, rfl⟩⟩; refine ⟨_, rfl, ?_⟩) | ((with_reducible refine gate_dst (N := 95) rfl ?_); (try (refine gate_guard (by rfl) ?_; dsimp only)); refine Kd.R_lit (Kd.int .i64) _ 3 ?hg (N := 95) ?hd (xs := ([t171] : List Int)) (inner := [.int .i64 t171]) (ok := fun _ => True) (okp := fun _ => True) ?hr ?hp (fun _ hk => hk) trivial (Below.refl _ _) (Nat.le_refl _) (by simp) ?_; (case hd => rfl); (case hg => rfl); (case hr => first | (go_simp; done) | (go_simp; rfl)); (case hp => exact (Reps.one (show Kd.M (Kd.int .i64) _ _ _ t171 [.int .i64 t171] from rfl) (Reps.none _ _))); intro v198 w102 ho103 hb hg_ hnew_; clear hg_ hnew_; (first | rw [← Ny197.out] at ho103 | (simp only [Int.reduceToNat] at ho103; rw [← Ny197.out] at ho103)); replace HO175 := Aside0.mk (Kd.R_below (rp_ HO175.out) hb); replace HO181 := Aside0.mk (Kd.R_below (rp_ HO181.out) hb); have HO199 := Aside0.mk (Kd.R_lower (Kd.R_new' (Kd.R_new' (Kd.R_new' ho103 (Kd.R_lt (rp_ HO186.out))) (Kd.R_lt (rp_ HO192.out))) (Kd.R_lt (rp_ HO195.out))) (below_size bp_)); replace HO186 := Aside0.mk (Kd.R_elder' (rp_ HO186.out) (Kd.R_base ho103) hb); replace HO192 := Aside0.mk (Kd.R_elder' (rp_ HO192.out) (Kd.R_base ho103) hb); replace HO195 := Aside0.mk (Kd.R_elder' (rp_ HO195.out) (Kd.R_base ho103) hb); replace HB := Aside0.mk (below_step bp_ hb); clear hb ho103; obtain ⟨Ao104, co104, eo104⟩ := Kd.R_slice HO192.out; subst eo104; obtain ⟨Ao105, co105, eo105⟩ := Kd.R_slice HO199.out; subst eo105) | (go_at_call 13; (with_reducible refine (chequerref01_Same.calls k1 _ _ t188 _ _ y197 true _ ?side1 ?side2 ?side3 ?side4 A33.out).mono ?_); (case side1 => exact cp_ (Kd.R_reads' HO192.out).2.2); (case side2 => exact (Kd.R_reads' HO192.out).2.1); (case side3 => exact cp_ (Kd.R_reads' HO199.out).2.2); (case side4 => exact (Kd.R_reads' HO199.out).2.1); rintro e w' ⟨rfl, ⟨nd, rfl⟩⟩) | (go_at_call 11; (with_reducible refine (chequerref01_Decimal.calls k1 t171 t201 _ A35.out).mono ?_); rintro e w106 ⟨rfl, hb⟩; replace HO175 := Aside0.mk (Kd.R_below (rp_ HO175.out) hb); replace HO181 := Aside0.mk (Kd.R_below (rp_ HO181.out) hb); replace HO186 := Aside0.mk (Kd.R_below (rp_ HO186.out) hb); replace HO192 := Aside0.mk (Kd.R_below (rp_ HO192.out) hb); replace HO195 := Aside0.mk (Kd.R_below (rp_ HO195.out) hb); replace HO199 := Aside0.mk (Kd.R_below (rp_ HO199.out) hb); replace HB := Aside0.mk (below_step bp_ hb); (try clear hb); (try clear hb2); (try clear hk); (try clear hi)))
                                 go_ret
                                 exact ⟨by first | rfl | (simp [errW_none, errW_some] <;> rfl) | (simp [*, errW_none, errW_some] <;> rfl), bp_⟩
                             · rw [if_neg c36] at H
                               have c36b0 : (t189 == (wrap64 ((wrap64 ((t201.size : Int) + (x8_1.size : Int))) + 1))) = false := beq_eq_false_iff_ne.mpr c36
                               have c36b1 : (t189 != (wrap64 ((wrap64 ((t201.size : Int) + (x8_1.size : Int))) + 1))) = true := bne_iff_ne.mpr c36
                               obtain rfl := Option.some.inj H
                               try go_wp2_with (first | ((with_reducible refine gate_dst (N := 45) rfl ?_); (try (refine gate_guard (by rfl) ?_; dsimp only)); refine Kd.R_lit (Kd.int .u8) _ 5 ?hg (N := 45) ?hd (xs := ([9, 10, 11, 12, 13, 32] : List Int)) (inner := [.int .u8 9, .int .u8 10, .int .u8 11, .int .u8 12, .int .u8 13, .int .u8 32]) (ok := fun _ => True) (okp := fun _ => True) ?hr ?hp (fun _ hk => hk) trivial (Below.refl _ _) (Nat.le_refl _) (by simp) ?_; (case hd => rfl); (case hg => rfl); (case hr => first | (go_simp; done) | (go_simp; rfl)); (case hp => exact (Reps.one (show Kd.M (Kd.int .u8) _ _ _ 9 [.int .u8 9] from rfl) (Reps.one (show Kd.M (Kd.int .u8) _ _ _ 10 [.int .u8 10] from rfl) (Reps.one (show Kd.M (Kd.int .u8) _ _ _ 11 [.int .u8 11] from rfl) (Reps.one (show Kd.M (Kd.int .u8) _ _ _ 12 [.int .u8 12] from rfl) (Reps.one (show Kd.M (Kd.int .u8) _ _ _ 13 [.int .u8 13] from rfl) (Reps.one (show Kd.M (Kd.int .u8) _ _ _ 32 [.int .u8 32] from rfl) (Reps.none _ _)))))))); intro v174 w107 ho108 hb hg_ hnew_; clear hg_ hnew_; (first | rw [← Ny173.out] at ho108 | (simp only [Int.reduceToNat] at ho108; rw [← Ny173.out] at ho108)); have HO175 := Aside0.mk (Kd.R_lower ho108 (below_size bp_)); replace HB := Aside0.mk (below_step bp_ hb); clear hb ho108) | ((with_reducible refine gate_callee (f := 10) rfl ?_); refine goQ_ (some 47) Try.func10 #[.int .i64 a2, .int .i64 6] ?_; (with_reducible refine (chequerref01_Around.calls a2 6 t176 _ A16.out).mono ?_); rintro e w' ⟨rfl, ⟨nd, rfl⟩⟩; refine ⟨_, rfl, ?_⟩; obtain ⟨Ao109, co109, eo109⟩ := Kd.R_slice HO175.out; subst eo109; have p177 : 0 ≤ (t176 : Int) := of_decide_eq_true (by first | (with_reducible assumption) | assumption); have q177 : t176 < (y173.length : Int) := of_decide_eq_true (by first | (with_reducible assumption) | assumption); obtain ⟨ad177, e177, hx177_0⟩ := Kd.at_int (Kd.R_reads' HO175.out).2.2 t176 p177 q177; cases e177; replace p177 := eq_true p177; replace q177 := eq_true q177))
                               (try (rw [drewN_self w107]; generalize hq_ : World.drewN w107 _ = w107; have n0_ := Aside0.mk (qrp_ hq_ HO175.out); have n1_ : Aside0 (Below w.heap.size w w107) := ⟨qbp_ hq_⟩; clear HO175 HB hq_; have HO175 := n0_; have HB := n1_; clear n0_ n1_))
                               replace HO175 := Aside0.mk (Kd.R_drew HO175.out)
                               replace HB := Aside0.mk (below_drew1 HB.out)
                               refine start_ (n := 11) (S := fun w' => True) (ds := []) Fl3 (by kernel_rfl) rfl rfl trivial (fun hHeld => ?_); refine with_tabW chequerlaw05_TokenRemarks.tab10 chequerlaw05_TokenRemarks.bits10 (fun HT_ HW_ => ?_)
                               generalize w107.drew = w110 at HO175 HB hHeld ⊢
                               refine pur_ (i := 0) (N := some 50) Fl4 (any_of HT_.out (by kernel_rfl)) ?_
                               refine pur_ (i := 1) (N := some 51) Fl5 (any_of HT_.out (by kernel_rfl)) ?_
                               refine pur_ (i := 2) (N := some 52) Fl6 (any_of HT_.out (by kernel_rfl)) ?_
                               refine pur_ (i := 3) (N := some 53) Fl7 (any_of HT_.out (by kernel_rfl)) ?_
                               refine pur_ (i := 6) (N := some 56) Fl8 (any_of HT_.out (by kernel_rfl)) ?_
                               refine join_ (σ := Value) 2 Fl1 (fun s_ => [(54, .string t178), (57, s_), (58, .string (strOfNums y179)), (55, .string ((((⟨#[32]⟩ : ByteArray) ++ x8_1) ++ (⟨#[10, 9]⟩ : ByteArray)) ++ t178))]) (fun s_ w' => (Kd.R (Kd.int .u8) 5 w' w.heap.size (fun k_ => some k_ ≠ (s_ : Value).ownBlock) (.slice (some ad177) y173.length co109) y173) ∧ (Kd.R (Kd.int .u8) 5 w' w.heap.size (fun k_ => some k_ ≠ (.slice (some ad177) y173.length co109 : Value).ownBlock) s_ y179) ∧ (Below w.heap.size w w')) ?_ ?_
                               rotate_left
                               · intro hCont
                                 refine two_ (i := 4) (j := 7) (Ni := some 54) (Nj := some 57) Fl11 Fl9 rfl rfl rfl rfl (two_of HT_.out (by kernel_rfl)) (by decide) (by decide) (fun K hK => ?_) (fun K hK => ?_)
                                 · skip
                                   refine goes_ Try.func11 (by kernel_rfl) rfl #[.int .i64 t171] (by rfl) rfl rfl (by (try simp only [List.map_toArray, List.map_cons, List.map_nil]); first | done | rfl | (simp only [List.length_drop, List.length_take]; rfl)) ?_
                                   with_reducible refine (chequerref01_Decimal.calls k1 t171 t178 _ A21.out).mono ?_
                                   rintro e w111 ⟨rfl, hb⟩
                                   refine ⟨_, rfl, ?_⟩
                                   replace HO175 := Aside0.mk (Kd.R_below (rp_ HO175.out) hb)
                                   replace HB := Aside0.mk (below_step bp_ hb)
                                   (try clear hb)
                                   (try clear hb2)
                                   (try clear hk)
                                   (try clear hi)
                                   refine hK.out _ _ trivial (fun hHeld => ?_)
                                   clear hK K
                                   refine norm_ (a' := ?_) ?_ ?_
                                   rotate_left
                                   · show Act.put _ (some 54) _ = _
                                     simp only [Act.put, List.setIfInBounds_toArray, List.set_cons_zero, List.set_cons_succ, i64_w, i32_w]
                                     rfl
                                   refine pur_ (i := 5) (N := some 55) Fl14 (any_of HT_.out (by kernel_rfl)) ?_
                                   refine one_ (i := 7) (N := some 57) Fl2 rfl rfl (one_of HT_.out (by kernel_rfl)) (by decide) (fun K hK => ?_)
                                   refine Kd.R_lit_step (Kd.int .u8) _ 5 ?hg (N := 57) ?hd (xs := ([rd y173 t176] : List Int)) (inner := [.int .u8 (rd y173 t176)]) (ok := fun _ => True) (okp := fun _ => True) ?hr ?hp (fun _ hk => hk) trivial (Below.refl _ _) (Nat.le_refl _) (by simp) ?_; (case hd => rfl); (case hg => rfl); (case hr => first | (go_simp; done) | (go_simp; rfl)); (case hp => exact (Reps.one (show Kd.M (Kd.int .u8) _ _ _ (rd y173 t176) [.int .u8 (rd y173 t176)] from rfl) (Reps.none _ _)))
                                   intro v180 w112 ho113 hb hg_ hnew_
                                   clear hg_ hnew_
                                   (first | rw [← Ny179.out] at ho113 | (simp only [Int.reduceToNat] at ho113; rw [← Ny179.out] at ho113))
                                   have HO181 := Aside0.mk (Kd.R_lower (Kd.R_new' ho113 (Kd.R_lt (rp_ HO175.out))) (below_size bp_))
                                   replace HO175 := Aside0.mk (Kd.R_elder' (rp_ HO175.out) (Kd.R_base ho113) hb)
                                   replace HB := Aside0.mk (below_step bp_ hb)
                                   clear hb ho113
                                   refine hK.out _ _ trivial (fun hHeld => ?_)
                                   clear hK K
                                   refine norm_ (a' := ?_) ?_ ?_
                                   rotate_left
                                   · show Act.put _ (some 57) _ = _
                                     simp only [Act.put, List.setIfInBounds_toArray, List.set_cons_zero, List.set_cons_succ, i64_w, i32_w]
                                     rfl
                                   refine one_ (i := 8) (N := some 58) Fl1 rfl rfl (one_of HT_.out (by kernel_rfl)) (by decide) (fun K hK => ?_)
                                   have hcv114 := own_string (P := Try.prog) Try.underlying24 Try.underlying5 Try.underlying9 (Kd.own_of_R HO181.out)
                                   refine value_ (w1 := ?_) (v := ?_) (by rfl) rfl ?_ ?_
                                   rotate_left 2
                                   · go_simp
                                     constructor
                                     · rfl
                                     · rfl
                                   clear hcv114
                                   refine hK.out _ _ trivial (fun hHeld => ?_)
                                   clear hK K
                                   refine norm_ (a' := ?_) ?_ ?_
                                   rotate_left
                                   · show Act.put _ (some 58) _ = _
                                     simp only [Act.put, List.setIfInBounds_toArray, List.set_cons_zero, List.set_cons_succ, i64_w, i32_w]
                                     rfl
                                   exact norm_ (by simp only [putAll, Act.put, List.setIfInBounds_toArray, List.set_cons_zero, List.set_cons_succ]) (hCont (v180) _ ⟨(by (with_reducible repeat (first | apply Kd.R_alloc | apply Kd.R_drewN | apply Kd.R_drew)); exact Kd.R_mono HO175.out (fun _ hk => hk.2)), (by (with_reducible repeat (first | apply Kd.R_alloc | apply Kd.R_drewN | apply Kd.R_drew)); exact Kd.R_mono HO181.out (fun _ hk => hk.2)), bp_⟩)
                                 · skip
                                   refine Kd.R_lit_step (Kd.int .u8) _ 5 ?hg (N := 57) ?hd (xs := ([rd y173 t176] : List Int)) (inner := [.int .u8 (rd y173 t176)]) (ok := fun _ => True) (okp := fun _ => True) ?hr ?hp (fun _ hk => hk) trivial (Below.refl _ _) (Nat.le_refl _) (by simp) ?_; (case hd => rfl); (case hg => rfl); (case hr => first | (go_simp; done) | (go_simp; rfl)); (case hp => exact (Reps.one (show Kd.M (Kd.int .u8) _ _ _ (rd y173 t176) [.int .u8 (rd y173 t176)] from rfl) (Reps.none _ _)))
                                   intro v180 w111 ho112 hb hg_ hnew_
                                   clear hg_ hnew_
                                   (first | rw [← Ny179.out] at ho112 | (simp only [Int.reduceToNat] at ho112; rw [← Ny179.out] at ho112))
                                   have HO181 := Aside0.mk (Kd.R_lower (Kd.R_new' ho112 (Kd.R_lt (rp_ HO175.out))) (below_size bp_))
                                   replace HO175 := Aside0.mk (Kd.R_elder' (rp_ HO175.out) (Kd.R_base ho112) hb)
                                   replace HB := Aside0.mk (below_step bp_ hb)
                                   clear hb ho112
                                   refine hK.out _ _ trivial (fun hHeld => ?_)
                                   clear hK K
                                   refine norm_ (a' := ?_) ?_ ?_
                                   rotate_left
                                   · show Act.put _ (some 57) _ = _
                                     simp only [Act.put, List.setIfInBounds_toArray, List.set_cons_zero, List.set_cons_succ, i64_w, i32_w]
                                     rfl
                                   refine two_ (i := 4) (j := 8) (Ni := some 54) (Nj := some 58) Fl12 Fl10 rfl rfl rfl rfl (two_of HT_.out (by kernel_rfl)) (by decide) (by decide) (fun K hK => ?_) (fun K hK => ?_)
                                   · skip
                                     refine goes_ Try.func11 (by kernel_rfl) rfl #[.int .i64 t171] (by rfl) rfl rfl (by (try simp only [List.map_toArray, List.map_cons, List.map_nil]); first | done | rfl | (simp only [List.length_drop, List.length_take]; rfl)) ?_
                                     with_reducible refine (chequerref01_Decimal.calls k1 t171 t178 _ A21.out).mono ?_
                                     rintro e w113 ⟨rfl, hb⟩
                                     refine ⟨_, rfl, ?_⟩
                                     replace HO175 := Aside0.mk (Kd.R_below (rp_ HO175.out) hb)
                                     replace HO181 := Aside0.mk (Kd.R_below (rp_ HO181.out) hb)
                                     replace HB := Aside0.mk (below_step bp_ hb)
                                     (try clear hb)
                                     (try clear hb2)
                                     (try clear hk)
                                     (try clear hi)
                                     refine hK.out _ _ trivial (fun hHeld => ?_)
                                     clear hK K
                                     refine norm_ (a' := ?_) ?_ ?_
                                     rotate_left
                                     · show Act.put _ (some 54) _ = _
                                       simp only [Act.put, List.setIfInBounds_toArray, List.set_cons_zero, List.set_cons_succ, i64_w, i32_w]
                                       rfl
                                     refine pur_ (i := 5) (N := some 55) Fl2 (any_of HT_.out (by kernel_rfl)) ?_
                                     refine one_ (i := 8) (N := some 58) Fl1 rfl rfl (one_of HT_.out (by kernel_rfl)) (by decide) (fun K hK => ?_)
                                     have hcv114 := own_string (P := Try.prog) Try.underlying24 Try.underlying5 Try.underlying9 (Kd.own_of_R HO181.out)
                                     refine value_ (w1 := ?_) (v := ?_) (by rfl) rfl ?_ ?_
                                     rotate_left 2
                                     · go_simp
                                       constructor
                                       · rfl
                                       · rfl
                                     clear hcv114
                                     refine hK.out _ _ trivial (fun hHeld => ?_)
                                     clear hK K
                                     refine norm_ (a' := ?_) ?_ ?_
                                     rotate_left
                                     · show Act.put _ (some 58) _ = _
                                       simp only [Act.put, List.setIfInBounds_toArray, List.set_cons_zero, List.set_cons_succ, i64_w, i32_w]
                                       rfl
                                     exact norm_ (by simp only [putAll, Act.put, List.setIfInBounds_toArray, List.set_cons_zero, List.set_cons_succ]) (hCont (v180) _ ⟨(by (with_reducible repeat (first | apply Kd.R_alloc | apply Kd.R_drewN | apply Kd.R_drew)); exact Kd.R_mono HO175.out (fun _ hk => hk.2)), (by (with_reducible repeat (first | apply Kd.R_alloc | apply Kd.R_drewN | apply Kd.R_drew)); exact Kd.R_mono HO181.out (fun _ hk => hk.2)), bp_⟩)
                                   · skip
                                     have hcv113 := own_string (P := Try.prog) Try.underlying24 Try.underlying5 Try.underlying9 (Kd.own_of_R HO181.out)
                                     refine value_ (w1 := ?_) (v := ?_) (by rfl) rfl ?_ ?_
                                     rotate_left 2
                                     · go_simp
                                       constructor
                                       · rfl
                                       · rfl
                                     clear hcv113
                                     refine hK.out _ _ trivial (fun hHeld => ?_)
                                     clear hK K
                                     refine norm_ (a' := ?_) ?_ ?_
                                     rotate_left
                                     · show Act.put _ (some 58) _ = _
                                       simp only [Act.put, List.setIfInBounds_toArray, List.set_cons_zero, List.set_cons_succ, i64_w, i32_w]
                                       rfl
                                     refine one_ (i := 4) (N := some 54) Fl13 rfl rfl (one_of HT_.out (by kernel_rfl)) (by decide) (fun K hK => ?_)
                                     refine goes_ Try.func11 (by kernel_rfl) rfl #[.int .i64 t171] (by rfl) rfl rfl (by (try simp only [List.map_toArray, List.map_cons, List.map_nil]); first | done | rfl | (simp only [List.length_drop, List.length_take]; rfl)) ?_
                                     with_reducible refine (chequerref01_Decimal.calls k1 t171 t178 _ A21.out).mono ?_
                                     rintro e w114 ⟨rfl, hb⟩
                                     refine ⟨_, rfl, ?_⟩
                                     replace HO175 := Aside0.mk (Kd.R_below (rp_ HO175.out) hb)
                                     replace HO181 := Aside0.mk (Kd.R_below (rp_ HO181.out) hb)
                                     replace HB := Aside0.mk (below_step bp_ hb)
                                     (try clear hb)
                                     (try clear hb2)
                                     (try clear hk)
                                     (try clear hi)
                                     refine hK.out _ _ trivial (fun hHeld => ?_)
                                     clear hK K
                                     refine norm_ (a' := ?_) ?_ ?_
                                     rotate_left
                                     · show Act.put _ (some 54) _ = _
                                       simp only [Act.put, List.setIfInBounds_toArray, List.set_cons_zero, List.set_cons_succ, i64_w, i32_w]
                                       rfl
                                     refine pur_ (i := 5) (N := some 55) Fl1 (any_of HT_.out (by kernel_rfl)) ?_
                                     exact norm_ (by simp only [putAll, Act.put, List.setIfInBounds_toArray, List.set_cons_zero, List.set_cons_succ]) (hCont (v180) _ ⟨(by (with_reducible repeat (first | apply Kd.R_alloc | apply Kd.R_drewN | apply Kd.R_drew)); exact Kd.R_mono HO175.out (fun _ hk => hk.2)), (by (with_reducible repeat (first | apply Kd.R_alloc | apply Kd.R_drewN | apply Kd.R_drew)); exact Kd.R_mono HO181.out (fun _ hk => hk.2)), bp_⟩)
                               rintro v180 w115 ⟨h0_, h1_, h2_⟩
                               replace HO175 : Aside0 (Kd.R (Kd.int .u8) 5 w115 w.heap.size (fun k_ => some k_ ≠ (v180 : Value).ownBlock) (.slice (some ad177) y173.length co109) y173) := ⟨h0_⟩
                               have HO181 : Aside0 (Kd.R (Kd.int .u8) 5 w115 w.heap.size (fun k_ => some k_ ≠ (.slice (some ad177) y173.length co109 : Value).ownBlock) v180 y179) := ⟨h1_⟩
                               replace HB : Aside0 (Below w.heap.size w w115) := ⟨h2_⟩
                               clear h0_ h1_ h2_
                               have hHeld := trivial
                               refine norm_ (a' := ?_) ?_ ?_
                               rotate_left
                               · simp only [putAll, Act.put, List.setIfInBounds_toArray, List.set_cons_zero, List.set_cons_succ]
                                 rfl
                               refine pur_ (i := 9) (N := some 59) Fl15 (any_of HT_.out (by kernel_rfl)) ?_
                               refine pur_ (i := 10) (N := some 11) Fl16 (any_of HT_.out (by kernel_rfl)) ?_
                               refine done_ (done_of HT_.out (by kernel_rfl)) ?_
                               try go_wp2_with (first | ((with_reducible refine gate_callee (f := 12) rfl ?_); refine goQ_ (some 63) Try.func12 #[.string (((((⟨#[32]⟩ : ByteArray) ++ x8_1) ++ (⟨#[10, 9]⟩ : ByteArray)) ++ t178) ++ (strOfNums y179)), .int .i64 t171] ?_; (with_reducible refine (token_All.calls (((((⟨#[32]⟩ : ByteArray) ++ x8_1) ++ (⟨#[10, 9]⟩ : ByteArray)) ++ t178) ++ (strOfNums y179)) t171 t182 t183 t184 _ A24.out).mono ?_); rintro e w116 ⟨v185, rfl, ho0, hb⟩; refine ⟨_, rfl, ?_⟩; replace HO175 := Aside0.mk (Kd.R_below (rp_ HO175.out) hb); replace HO181 := Aside0.mk (Kd.R_below (rp_ HO181.out) hb); have HO186 := Aside0.mk (Kd.R_lower ho0 (below_size bp_)); replace HB := Aside0.mk (below_step bp_ hb); (try clear hb); (try clear hb2); (try clear hk); (try clear hi); (try clear ho0)) | ((with_reducible refine gate_callee (f := 11) rfl ?_); refine goQ_ (some 69) Try.func11 #[.int .i64 t171] ?_; (with_reducible refine (chequerref01_Decimal.calls k1 t171 t187 _ A25.out).mono ?_); rintro e w117 ⟨rfl, hb⟩; refine ⟨_, rfl, ?_⟩; replace HO175 := Aside0.mk (Kd.R_below (rp_ HO175.out) hb); replace HO181 := Aside0.mk (Kd.R_below (rp_ HO181.out) hb); replace HO186 := Aside0.mk (Kd.R_below (rp_ HO186.out) hb); replace HB := Aside0.mk (below_step bp_ hb); (try clear hb); (try clear hb2); (try clear hk); (try clear hi)) | ((with_reducible refine gate_callee (f := 12) rfl ?_); refine goQ_ (some 74) Try.func12 #[.string ((t187 ++ x8_1) ++ (⟨#[13]⟩ : ByteArray)), .int .i64 t171] ?_; (with_reducible refine (token_All.calls ((t187 ++ x8_1) ++ (⟨#[13]⟩ : ByteArray)) t171 t188 t189 t190 _ A28.out).mono ?_); rintro e w118 ⟨v191, rfl, ho0, hb⟩; refine ⟨_, rfl, ?_⟩; replace HO175 := Aside0.mk (Kd.R_below (rp_ HO175.out) hb); replace HO181 := Aside0.mk (Kd.R_below (rp_ HO181.out) hb); have HO192 := Aside0.mk (Kd.R_lower (Kd.R_new' ho0 (Kd.R_lt (rp_ HO186.out))) (below_size bp_)); replace HO186 := Aside0.mk (Kd.R_elder' (rp_ HO186.out) (Kd.R_base ho0) hb); replace HB := Aside0.mk (below_step bp_ hb); (try clear hb); (try clear hb2); (try clear hk); (try clear hi); (try clear ho0)) | ((with_reducible refine gate_dst (N := 80) rfl ?_); (try (refine gate_guard (by rfl) ?_; dsimp only)); refine Kd.R_lit (Kd.int .i64) _ 3 ?hg (N := 80) ?hd (xs := ([t171] : List Int)) (inner := [.int .i64 t171]) (ok := fun _ => True) (okp := fun _ => True) ?hr ?hp (fun _ hk => hk) trivial (Below.refl _ _) (Nat.le_refl _) (by simp) ?_; (case hd => rfl); (case hg => rfl); (case hr => first | (go_simp; done) | (go_simp; rfl)); (case hp => exact (Reps.one (show Kd.M (Kd.int .i64) _ _ _ t171 [.int .i64 t171] from rfl) (Reps.none _ _))); intro v194 w119 ho120 hb hg_ hnew_; clear hg_ hnew_; (first | rw [← Ny193.out] at ho120 | (simp only [Int.reduceToNat] at ho120; rw [← Ny193.out] at ho120)); replace HO175 := Aside0.mk (Kd.R_below (rp_ HO175.out) hb); replace HO181 := Aside0.mk (Kd.R_below (rp_ HO181.out) hb); have HO195 := Aside0.mk (Kd.R_lower (Kd.R_new' (Kd.R_new' ho120 (Kd.R_lt (rp_ HO186.out))) (Kd.R_lt (rp_ HO192.out))) (below_size bp_)); replace HO186 := Aside0.mk (Kd.R_elder' (rp_ HO186.out) (Kd.R_base ho120) hb); replace HO192 := Aside0.mk (Kd.R_elder' (rp_ HO192.out) (Kd.R_base ho120) hb); replace HB := Aside0.mk (below_step bp_ hb); clear hb ho120; obtain ⟨Ao121, co121, eo121⟩ := Kd.R_slice HO186.out; subst eo121; obtain ⟨Ao122, co122, eo122⟩ := Kd.R_slice HO195.out; subst eo122) | ((with_reducible refine gate_callee (f := 13) rfl ?_); refine goQ_ (some 81) Try.func13 #[.slice Ao121 t182.length co121, .slice Ao122 y193.length co122] ?_; (with_reducible refine (chequerref01_Same.calls k1 _ _ t182 _ _ y193 true _ ?side1 ?side2 ?side3 ?side4 A29.out).mono ?_); (case side1 => exact cp_ (Kd.R_reads' HO186.out).2.2); (case side2 => exact (Kd.R_reads' HO186.out).2.1); (case side3 => exact cp_ (Kd.R_reads' HO195.out).2.2); (case side4 => exact (Kd.R_reads' HO195.out).2.1); rintro e w' ⟨rfl, ⟨nd, rfl⟩⟩; refine ⟨_, rfl, ?_⟩) | ((with_reducible refine gate_dst (N := 95) rfl ?_); (try (refine gate_guard (by rfl) ?_; dsimp only)); refine Kd.R_lit (Kd.int .i64) _ 3 ?hg (N := 95) ?hd (xs := ([t171] : List Int)) (inner := [.int .i64 t171]) (ok := fun _ => True) (okp := fun _ => True) ?hr ?hp (fun _ hk => hk) trivial (Below.refl _ _) (Nat.le_refl _) (by simp) ?_; (case hd => rfl); (case hg => rfl); (case hr => first | (go_simp; done) | (go_simp; rfl)); (case hp => exact (Reps.one (show Kd.M (Kd.int .i64) _ _ _ t171 [.int .i64 t171] from rfl) (Reps.none _ _))); intro v198 w123 ho124 hb hg_ hnew_; clear hg_ hnew_; (first | rw [← Ny197.out] at ho124 | (simp only [Int.reduceToNat] at ho124; rw [← Ny197.out] at ho124)); replace HO175 := Aside0.mk (Kd.R_below (rp_ HO175.out) hb); replace HO181 := Aside0.mk (Kd.R_below (rp_ HO181.out) hb); have HO199 := Aside0.mk (Kd.R_lower (Kd.R_new' (Kd.R_new' (Kd.R_new' ho124 (Kd.R_lt (rp_ HO186.out))) (Kd.R_lt (rp_ HO192.out))) (Kd.R_lt (rp_ HO195.out))) (below_size bp_)); replace HO186 := Aside0.mk (Kd.R_elder' (rp_ HO186.out) (Kd.R_base ho124) hb); replace HO192 := Aside0.mk (Kd.R_elder' (rp_ HO192.out) (Kd.R_base ho124) hb); replace HO195 := Aside0.mk (Kd.R_elder' (rp_ HO195.out) (Kd.R_base ho124) hb); replace HB := Aside0.mk (below_step bp_ hb); clear hb ho124; obtain ⟨Ao125, co125, eo125⟩ := Kd.R_slice HO192.out; subst eo125; obtain ⟨Ao126, co126, eo126⟩ := Kd.R_slice HO199.out; subst eo126) | (go_at_call 13; (with_reducible refine (chequerref01_Same.calls k1 _ _ t188 _ _ y197 true _ ?side1 ?side2 ?side3 ?side4 A33.out).mono ?_); (case side1 => exact cp_ (Kd.R_reads' HO192.out).2.2); (case side2 => exact (Kd.R_reads' HO192.out).2.1); (case side3 => exact cp_ (Kd.R_reads' HO199.out).2.2); (case side4 => exact (Kd.R_reads' HO199.out).2.1); rintro e w' ⟨rfl, ⟨nd, rfl⟩⟩) | (go_at_call 11; (with_reducible refine (chequerref01_Decimal.calls k1 t171 t201 _ A35.out).mono ?_); rintro e w127 ⟨rfl, hb⟩; replace HO175 := Aside0.mk (Kd.R_below (rp_ HO175.out) hb); replace HO181 := Aside0.mk (Kd.R_below (rp_ HO181.out) hb); replace HO186 := Aside0.mk (Kd.R_below (rp_ HO186.out) hb); replace HO192 := Aside0.mk (Kd.R_below (rp_ HO192.out) hb); replace HO195 := Aside0.mk (Kd.R_below (rp_ HO195.out) hb); replace HO199 := Aside0.mk (Kd.R_below (rp_ HO199.out) hb); replace HB := Aside0.mk (below_step bp_ hb); (try clear hb); (try clear hb2); (try clear hk); (try clear hi)))
                               go_ret
                               exact ⟨by first | rfl | (simp [errW_none, errW_some] <;> rfl) | (simp [*, errW_none, errW_some] <;> rfl), bp_⟩
                           · replace c34 := Bool.eq_false_iff.mpr c34
                             subst c34
                             have H1 : (some false) = some r := by rw [if_neg (show ¬ (false = true) by decide)] at H; exact H
                             clear H
                             have H := H1
                             clear H1
                             obtain rfl := Option.some.inj H
                             try go_wp2_with (first | ((with_reducible refine gate_dst (N := 45) rfl ?_); (try (refine gate_guard (by rfl) ?_; dsimp only)); refine Kd.R_lit (Kd.int .u8) _ 5 ?hg (N := 45) ?hd (xs := ([9, 10, 11, 12, 13, 32] : List Int)) (inner := [.int .u8 9, .int .u8 10, .int .u8 11, .int .u8 12, .int .u8 13, .int .u8 32]) (ok := fun _ => True) (okp := fun _ => True) ?hr ?hp (fun _ hk => hk) trivial (Below.refl _ _) (Nat.le_refl _) (by simp) ?_; (case hd => rfl); (case hg => rfl); (case hr => first | (go_simp; done) | (go_simp; rfl)); (case hp => exact (Reps.one (show Kd.M (Kd.int .u8) _ _ _ 9 [.int .u8 9] from rfl) (Reps.one (show Kd.M (Kd.int .u8) _ _ _ 10 [.int .u8 10] from rfl) (Reps.one (show Kd.M (Kd.int .u8) _ _ _ 11 [.int .u8 11] from rfl) (Reps.one (show Kd.M (Kd.int .u8) _ _ _ 12 [.int .u8 12] from rfl) (Reps.one (show Kd.M (Kd.int .u8) _ _ _ 13 [.int .u8 13] from rfl) (Reps.one (show Kd.M (Kd.int .u8) _ _ _ 32 [.int .u8 32] from rfl) (Reps.none _ _)))))))); intro v174 w128 ho129 hb hg_ hnew_; clear hg_ hnew_; (first | rw [← Ny173.out] at ho129 | (simp only [Int.reduceToNat] at ho129; rw [← Ny173.out] at ho129)); have HO175 := Aside0.mk (Kd.R_lower ho129 (below_size bp_)); replace HB := Aside0.mk (below_step bp_ hb); clear hb ho129) | ((with_reducible refine gate_callee (f := 10) rfl ?_); refine goQ_ (some 47) Try.func10 #[.int .i64 a2, .int .i64 6] ?_; (with_reducible refine (chequerref01_Around.calls a2 6 t176 _ A16.out).mono ?_); rintro e w' ⟨rfl, ⟨nd, rfl⟩⟩; refine ⟨_, rfl, ?_⟩; obtain ⟨Ao130, co130, eo130⟩ := Kd.R_slice HO175.out; subst eo130; have p177 : 0 ≤ (t176 : Int) := of_decide_eq_true (by first | (with_reducible assumption) | assumption); have q177 : t176 < (y173.length : Int) := of_decide_eq_true (by first | (with_reducible assumption) | assumption); obtain ⟨ad177, e177, hx177_0⟩ := Kd.at_int (Kd.R_reads' HO175.out).2.2 t176 p177 q177; cases e177; replace p177 := eq_true p177; replace q177 := eq_true q177))
                             (try (rw [drewN_self w128]; generalize hq_ : World.drewN w128 _ = w128; have n0_ := Aside0.mk (qrp_ hq_ HO175.out); have n1_ : Aside0 (Below w.heap.size w w128) := ⟨qbp_ hq_⟩; clear HO175 HB hq_; have HO175 := n0_; have HB := n1_; clear n0_ n1_))
                             replace HO175 := Aside0.mk (Kd.R_drew HO175.out)
                             replace HB := Aside0.mk (below_drew1 HB.out)
                             refine start_ (n := 11) (S := fun w' => True) (ds := []) Fl3 (by kernel_rfl) rfl rfl trivial (fun hHeld => ?_); refine with_tabW chequerlaw05_TokenRemarks.tab10 chequerlaw05_TokenRemarks.bits10 (fun HT_ HW_ => ?_)
                             generalize w128.drew = w131 at HO175 HB hHeld ⊢
                             refine pur_ (i := 0) (N := some 50) Fl4 (any_of HT_.out (by kernel_rfl)) ?_
                             refine pur_ (i := 1) (N := some 51) Fl5 (any_of HT_.out (by kernel_rfl)) ?_
                             refine pur_ (i := 2) (N := some 52) Fl6 (any_of HT_.out (by kernel_rfl)) ?_
                             refine pur_ (i := 3) (N := some 53) Fl7 (any_of HT_.out (by kernel_rfl)) ?_
                             refine pur_ (i := 6) (N := some 56) Fl8 (any_of HT_.out (by kernel_rfl)) ?_
                             refine join_ (σ := Value) 2 Fl1 (fun s_ => [(54, .string t178), (57, s_), (58, .string (strOfNums y179)), (55, .string ((((⟨#[32]⟩ : ByteArray) ++ x8_1) ++ (⟨#[10, 9]⟩ : ByteArray)) ++ t178))]) (fun s_ w' => (Kd.R (Kd.int .u8) 5 w' w.heap.size (fun k_ => some k_ ≠ (s_ : Value).ownBlock) (.slice (some ad177) y173.length co130) y173) ∧ (Kd.R (Kd.int .u8) 5 w' w.heap.size (fun k_ => some k_ ≠ (.slice (some ad177) y173.length co130 : Value).ownBlock) s_ y179) ∧ (Below w.heap.size w w')) ?_ ?_
                             rotate_left
                             · intro hCont
                               refine two_ (i := 4) (j := 7) (Ni := some 54) (Nj := some 57) Fl11 Fl9 rfl rfl rfl rfl (two_of HT_.out (by kernel_rfl)) (by decide) (by decide) (fun K hK => ?_) (fun K hK => ?_)
                               · skip
                                 refine goes_ Try.func11 (by kernel_rfl) rfl #[.int .i64 t171] (by rfl) rfl rfl (by (try simp only [List.map_toArray, List.map_cons, List.map_nil]); first | done | rfl | (simp only [List.length_drop, List.length_take]; rfl)) ?_
                                 with_reducible refine (chequerref01_Decimal.calls k1 t171 t178 _ A21.out).mono ?_
                                 rintro e w132 ⟨rfl, hb⟩
                                 refine ⟨_, rfl, ?_⟩
                                 replace HO175 := Aside0.mk (Kd.R_below (rp_ HO175.out) hb)
                                 replace HB := Aside0.mk (below_step bp_ hb)
                                 (try clear hb)
                                 (try clear hb2)
                                 (try clear hk)
                                 (try clear hi)
                                 refine hK.out _ _ trivial (fun hHeld => ?_)
                                 clear hK K
                                 refine norm_ (a' := ?_) ?_ ?_
                                 rotate_left
                                 · show Act.put _ (some 54) _ = _
                                   simp only [Act.put, List.setIfInBounds_toArray, List.set_cons_zero, List.set_cons_succ, i64_w, i32_w]
                                   rfl
                                 refine pur_ (i := 5) (N := some 55) Fl14 (any_of HT_.out (by kernel_rfl)) ?_
                                 refine one_ (i := 7) (N := some 57) Fl2 rfl rfl (one_of HT_.out (by kernel_rfl)) (by decide) (fun K hK => ?_)
                                 refine Kd.R_lit_step (Kd.int .u8) _ 5 ?hg (N := 57) ?hd (xs := ([rd y173 t176] : List Int)) (inner := [.int .u8 (rd y173 t176)]) (ok := fun _ => True) (okp := fun _ => True) ?hr ?hp (fun _ hk => hk) trivial (Below.refl _ _) (Nat.le_refl _) (by simp) ?_; (case hd => rfl); (case hg => rfl); (case hr => first | (go_simp; done) | (go_simp; rfl)); (case hp => exact (Reps.one (show Kd.M (Kd.int .u8) _ _ _ (rd y173 t176) [.int .u8 (rd y173 t176)] from rfl) (Reps.none _ _)))
                                 intro v180 w133 ho134 hb hg_ hnew_
                                 clear hg_ hnew_
                                 (first | rw [← Ny179.out] at ho134 | (simp only [Int.reduceToNat] at ho134; rw [← Ny179.out] at ho134))
                                 have HO181 := Aside0.mk (Kd.R_lower (Kd.R_new' ho134 (Kd.R_lt (rp_ HO175.out))) (below_size bp_))
                                 replace HO175 := Aside0.mk (Kd.R_elder' (rp_ HO175.out) (Kd.R_base ho134) hb)
                                 replace HB := Aside0.mk (below_step bp_ hb)
                                 clear hb ho134
                                 refine hK.out _ _ trivial (fun hHeld => ?_)
                                 clear hK K
                                 refine norm_ (a' := ?_) ?_ ?_
                                 rotate_left
                                 · show Act.put _ (some 57) _ = _
                                   simp only [Act.put, List.setIfInBounds_toArray, List.set_cons_zero, List.set_cons_succ, i64_w, i32_w]
                                   rfl
                                 refine one_ (i := 8) (N := some 58) Fl1 rfl rfl (one_of HT_.out (by kernel_rfl)) (by decide) (fun K hK => ?_)
                                 have hcv135 := own_string (P := Try.prog) Try.underlying24 Try.underlying5 Try.underlying9 (Kd.own_of_R HO181.out)
                                 refine value_ (w1 := ?_) (v := ?_) (by rfl) rfl ?_ ?_
                                 rotate_left 2
                                 · go_simp
                                   constructor
                                   · rfl
                                   · rfl
                                 clear hcv135
                                 refine hK.out _ _ trivial (fun hHeld => ?_)
                                 clear hK K
                                 refine norm_ (a' := ?_) ?_ ?_
                                 rotate_left
                                 · show Act.put _ (some 58) _ = _
                                   simp only [Act.put, List.setIfInBounds_toArray, List.set_cons_zero, List.set_cons_succ, i64_w, i32_w]
                                   rfl
                                 exact norm_ (by simp only [putAll, Act.put, List.setIfInBounds_toArray, List.set_cons_zero, List.set_cons_succ]) (hCont (v180) _ ⟨(by (with_reducible repeat (first | apply Kd.R_alloc | apply Kd.R_drewN | apply Kd.R_drew)); exact Kd.R_mono HO175.out (fun _ hk => hk.2)), (by (with_reducible repeat (first | apply Kd.R_alloc | apply Kd.R_drewN | apply Kd.R_drew)); exact Kd.R_mono HO181.out (fun _ hk => hk.2)), bp_⟩)
                               · skip
                                 refine Kd.R_lit_step (Kd.int .u8) _ 5 ?hg (N := 57) ?hd (xs := ([rd y173 t176] : List Int)) (inner := [.int .u8 (rd y173 t176)]) (ok := fun _ => True) (okp := fun _ => True) ?hr ?hp (fun _ hk => hk) trivial (Below.refl _ _) (Nat.le_refl _) (by simp) ?_; (case hd => rfl); (case hg => rfl); (case hr => first | (go_simp; done) | (go_simp; rfl)); (case hp => exact (Reps.one (show Kd.M (Kd.int .u8) _ _ _ (rd y173 t176) [.int .u8 (rd y173 t176)] from rfl) (Reps.none _ _)))
                                 intro v180 w132 ho133 hb hg_ hnew_
                                 clear hg_ hnew_
                                 (first | rw [← Ny179.out] at ho133 | (simp only [Int.reduceToNat] at ho133; rw [← Ny179.out] at ho133))
                                 have HO181 := Aside0.mk (Kd.R_lower (Kd.R_new' ho133 (Kd.R_lt (rp_ HO175.out))) (below_size bp_))
                                 replace HO175 := Aside0.mk (Kd.R_elder' (rp_ HO175.out) (Kd.R_base ho133) hb)
                                 replace HB := Aside0.mk (below_step bp_ hb)
                                 clear hb ho133
                                 refine hK.out _ _ trivial (fun hHeld => ?_)
                                 clear hK K
                                 refine norm_ (a' := ?_) ?_ ?_
                                 rotate_left
                                 · show Act.put _ (some 57) _ = _
                                   simp only [Act.put, List.setIfInBounds_toArray, List.set_cons_zero, List.set_cons_succ, i64_w, i32_w]
                                   rfl
                                 refine two_ (i := 4) (j := 8) (Ni := some 54) (Nj := some 58) Fl12 Fl10 rfl rfl rfl rfl (two_of HT_.out (by kernel_rfl)) (by decide) (by decide) (fun K hK => ?_) (fun K hK => ?_)
                                 · skip
                                   refine goes_ Try.func11 (by kernel_rfl) rfl #[.int .i64 t171] (by rfl) rfl rfl (by (try simp only [List.map_toArray, List.map_cons, List.map_nil]); first | done | rfl | (simp only [List.length_drop, List.length_take]; rfl)) ?_
                                   with_reducible refine (chequerref01_Decimal.calls k1 t171 t178 _ A21.out).mono ?_
                                   rintro e w134 ⟨rfl, hb⟩
                                   refine ⟨_, rfl, ?_⟩
                                   replace HO175 := Aside0.mk (Kd.R_below (rp_ HO175.out) hb)
                                   replace HO181 := Aside0.mk (Kd.R_below (rp_ HO181.out) hb)
                                   replace HB := Aside0.mk (below_step bp_ hb)
                                   (try clear hb)
                                   (try clear hb2)
                                   (try clear hk)
                                   (try clear hi)
                                   refine hK.out _ _ trivial (fun hHeld => ?_)
                                   clear hK K
                                   refine norm_ (a' := ?_) ?_ ?_
                                   rotate_left
                                   · show Act.put _ (some 54) _ = _
                                     simp only [Act.put, List.setIfInBounds_toArray, List.set_cons_zero, List.set_cons_succ, i64_w, i32_w]
                                     rfl
                                   refine pur_ (i := 5) (N := some 55) Fl2 (any_of HT_.out (by kernel_rfl)) ?_
                                   refine one_ (i := 8) (N := some 58) Fl1 rfl rfl (one_of HT_.out (by kernel_rfl)) (by decide) (fun K hK => ?_)
                                   have hcv135 := own_string (P := Try.prog) Try.underlying24 Try.underlying5 Try.underlying9 (Kd.own_of_R HO181.out)
                                   refine value_ (w1 := ?_) (v := ?_) (by rfl) rfl ?_ ?_
                                   rotate_left 2
                                   · go_simp
                                     constructor
                                     · rfl
                                     · rfl
                                   clear hcv135
                                   refine hK.out _ _ trivial (fun hHeld => ?_)
                                   clear hK K
                                   refine norm_ (a' := ?_) ?_ ?_
                                   rotate_left
                                   · show Act.put _ (some 58) _ = _
                                     simp only [Act.put, List.setIfInBounds_toArray, List.set_cons_zero, List.set_cons_succ, i64_w, i32_w]
                                     rfl
                                   exact norm_ (by simp only [putAll, Act.put, List.setIfInBounds_toArray, List.set_cons_zero, List.set_cons_succ]) (hCont (v180) _ ⟨(by (with_reducible repeat (first | apply Kd.R_alloc | apply Kd.R_drewN | apply Kd.R_drew)); exact Kd.R_mono HO175.out (fun _ hk => hk.2)), (by (with_reducible repeat (first | apply Kd.R_alloc | apply Kd.R_drewN | apply Kd.R_drew)); exact Kd.R_mono HO181.out (fun _ hk => hk.2)), bp_⟩)
                                 · skip
                                   have hcv134 := own_string (P := Try.prog) Try.underlying24 Try.underlying5 Try.underlying9 (Kd.own_of_R HO181.out)
                                   refine value_ (w1 := ?_) (v := ?_) (by rfl) rfl ?_ ?_
                                   rotate_left 2
                                   · go_simp
                                     constructor
                                     · rfl
                                     · rfl
                                   clear hcv134
                                   refine hK.out _ _ trivial (fun hHeld => ?_)
                                   clear hK K
                                   refine norm_ (a' := ?_) ?_ ?_
                                   rotate_left
                                   · show Act.put _ (some 58) _ = _
                                     simp only [Act.put, List.setIfInBounds_toArray, List.set_cons_zero, List.set_cons_succ, i64_w, i32_w]
                                     rfl
                                   refine one_ (i := 4) (N := some 54) Fl13 rfl rfl (one_of HT_.out (by kernel_rfl)) (by decide) (fun K hK => ?_)
                                   refine goes_ Try.func11 (by kernel_rfl) rfl #[.int .i64 t171] (by rfl) rfl rfl (by (try simp only [List.map_toArray, List.map_cons, List.map_nil]); first | done | rfl | (simp only [List.length_drop, List.length_take]; rfl)) ?_
                                   with_reducible refine (chequerref01_Decimal.calls k1 t171 t178 _ A21.out).mono ?_
                                   rintro e w135 ⟨rfl, hb⟩
                                   refine ⟨_, rfl, ?_⟩
                                   replace HO175 := Aside0.mk (Kd.R_below (rp_ HO175.out) hb)
                                   replace HO181 := Aside0.mk (Kd.R_below (rp_ HO181.out) hb)
                                   replace HB := Aside0.mk (below_step bp_ hb)
                                   (try clear hb)
                                   (try clear hb2)
                                   (try clear hk)
                                   (try clear hi)
                                   refine hK.out _ _ trivial (fun hHeld => ?_)
                                   clear hK K
                                   refine norm_ (a' := ?_) ?_ ?_
                                   rotate_left
                                   · show Act.put _ (some 54) _ = _
                                     simp only [Act.put, List.setIfInBounds_toArray, List.set_cons_zero, List.set_cons_succ, i64_w, i32_w]
                                     rfl
                                   refine pur_ (i := 5) (N := some 55) Fl1 (any_of HT_.out (by kernel_rfl)) ?_
                                   exact norm_ (by simp only [putAll, Act.put, List.setIfInBounds_toArray, List.set_cons_zero, List.set_cons_succ]) (hCont (v180) _ ⟨(by (with_reducible repeat (first | apply Kd.R_alloc | apply Kd.R_drewN | apply Kd.R_drew)); exact Kd.R_mono HO175.out (fun _ hk => hk.2)), (by (with_reducible repeat (first | apply Kd.R_alloc | apply Kd.R_drewN | apply Kd.R_drew)); exact Kd.R_mono HO181.out (fun _ hk => hk.2)), bp_⟩)
                             rintro v180 w136 ⟨h0_, h1_, h2_⟩
                             replace HO175 : Aside0 (Kd.R (Kd.int .u8) 5 w136 w.heap.size (fun k_ => some k_ ≠ (v180 : Value).ownBlock) (.slice (some ad177) y173.length co130) y173) := ⟨h0_⟩
                             have HO181 : Aside0 (Kd.R (Kd.int .u8) 5 w136 w.heap.size (fun k_ => some k_ ≠ (.slice (some ad177) y173.length co130 : Value).ownBlock) v180 y179) := ⟨h1_⟩
                             replace HB : Aside0 (Below w.heap.size w w136) := ⟨h2_⟩
                             clear h0_ h1_ h2_
                             have hHeld := trivial
                             refine norm_ (a' := ?_) ?_ ?_
                             rotate_left
                             · simp only [putAll, Act.put, List.setIfInBounds_toArray, List.set_cons_zero, List.set_cons_succ]
                               rfl
                             refine pur_ (i := 9) (N := some 59) Fl15 (any_of HT_.out (by kernel_rfl)) ?_
                             refine pur_ (i := 10) (N := some 11) Fl16 (any_of HT_.out (by kernel_rfl)) ?_
                             refine done_ (done_of HT_.out (by kernel_rfl)) ?_
                             try go_wp2_with (first | ((with_reducible refine gate_callee (f := 12) rfl ?_); refine goQ_ (some 63) Try.func12 #[.string (((((⟨#[32]⟩ : ByteArray) ++ x8_1) ++ (⟨#[10, 9]⟩ : ByteArray)) ++ t178) ++ (strOfNums y179)), .int .i64 t171] ?_; (with_reducible refine (token_All.calls (((((⟨#[32]⟩ : ByteArray) ++ x8_1) ++ (⟨#[10, 9]⟩ : ByteArray)) ++ t178) ++ (strOfNums y179)) t171 t182 t183 t184 _ A24.out).mono ?_); rintro e w137 ⟨v185, rfl, ho0, hb⟩; refine ⟨_, rfl, ?_⟩; replace HO175 := Aside0.mk (Kd.R_below (rp_ HO175.out) hb); replace HO181 := Aside0.mk (Kd.R_below (rp_ HO181.out) hb); have HO186 := Aside0.mk (Kd.R_lower ho0 (below_size bp_)); replace HB := Aside0.mk (below_step bp_ hb); (try clear hb); (try clear hb2); (try clear hk); (try clear hi); (try clear ho0)) | ((with_reducible refine gate_callee (f := 11) rfl ?_); refine goQ_ (some 69) Try.func11 #[.int .i64 t171] ?_; (with_reducible refine (chequerref01_Decimal.calls k1 t171 t187 _ A25.out).mono ?_); rintro e w138 ⟨rfl, hb⟩; refine ⟨_, rfl, ?_⟩; replace HO175 := Aside0.mk (Kd.R_below (rp_ HO175.out) hb); replace HO181 := Aside0.mk (Kd.R_below (rp_ HO181.out) hb); replace HO186 := Aside0.mk (Kd.R_below (rp_ HO186.out) hb); replace HB := Aside0.mk (below_step bp_ hb); (try clear hb); (try clear hb2); (try clear hk); (try clear hi)) | ((with_reducible refine gate_callee (f := 12) rfl ?_); refine goQ_ (some 74) Try.func12 #[.string ((t187 ++ x8_1) ++ (⟨#[13]⟩ : ByteArray)), .int .i64 t171] ?_; (with_reducible refine (token_All.calls ((t187 ++ x8_1) ++ (⟨#[13]⟩ : ByteArray)) t171 t188 t189 t190 _ A28.out).mono ?_); rintro e w139 ⟨v191, rfl, ho0, hb⟩; refine ⟨_, rfl, ?_⟩; replace HO175 := Aside0.mk (Kd.R_below (rp_ HO175.out) hb); replace HO181 := Aside0.mk (Kd.R_below (rp_ HO181.out) hb); have HO192 := Aside0.mk (Kd.R_lower (Kd.R_new' ho0 (Kd.R_lt (rp_ HO186.out))) (below_size bp_)); replace HO186 := Aside0.mk (Kd.R_elder' (rp_ HO186.out) (Kd.R_base ho0) hb); replace HB := Aside0.mk (below_step bp_ hb); (try clear hb); (try clear hb2); (try clear hk); (try clear hi); (try clear ho0)) | ((with_reducible refine gate_dst (N := 80) rfl ?_); (try (refine gate_guard (by rfl) ?_; dsimp only)); refine Kd.R_lit (Kd.int .i64) _ 3 ?hg (N := 80) ?hd (xs := ([t171] : List Int)) (inner := [.int .i64 t171]) (ok := fun _ => True) (okp := fun _ => True) ?hr ?hp (fun _ hk => hk) trivial (Below.refl _ _) (Nat.le_refl _) (by simp) ?_; (case hd => rfl); (case hg => rfl); (case hr => first | (go_simp; done) | (go_simp; rfl)); (case hp => exact (Reps.one (show Kd.M (Kd.int .i64) _ _ _ t171 [.int .i64 t171] from rfl) (Reps.none _ _))); intro v194 w140 ho141 hb hg_ hnew_; clear hg_ hnew_; (first | rw [← Ny193.out] at ho141 | (simp only [Int.reduceToNat] at ho141; rw [← Ny193.out] at ho141)); replace HO175 := Aside0.mk (Kd.R_below (rp_ HO175.out) hb); replace HO181 := Aside0.mk (Kd.R_below (rp_ HO181.out) hb); have HO195 := Aside0.mk (Kd.R_lower (Kd.R_new' (Kd.R_new' ho141 (Kd.R_lt (rp_ HO186.out))) (Kd.R_lt (rp_ HO192.out))) (below_size bp_)); replace HO186 := Aside0.mk (Kd.R_elder' (rp_ HO186.out) (Kd.R_base ho141) hb); replace HO192 := Aside0.mk (Kd.R_elder' (rp_ HO192.out) (Kd.R_base ho141) hb); replace HB := Aside0.mk (below_step bp_ hb); clear hb ho141; obtain ⟨Ao142, co142, eo142⟩ := Kd.R_slice HO186.out; subst eo142; obtain ⟨Ao143, co143, eo143⟩ := Kd.R_slice HO195.out; subst eo143) | ((with_reducible refine gate_callee (f := 13) rfl ?_); refine goQ_ (some 81) Try.func13 #[.slice Ao142 t182.length co142, .slice Ao143 y193.length co143] ?_; (with_reducible refine (chequerref01_Same.calls k1 _ _ t182 _ _ y193 true _ ?side1 ?side2 ?side3 ?side4 A29.out).mono ?_); (case side1 => exact cp_ (Kd.R_reads' HO186.out).2.2); (case side2 => exact (Kd.R_reads' HO186.out).2.1); (case side3 => exact cp_ (Kd.R_reads' HO195.out).2.2); (case side4 => exact (Kd.R_reads' HO195.out).2.1); rintro e w' ⟨rfl, ⟨nd, rfl⟩⟩; refine ⟨_, rfl, ?_⟩) | ((with_reducible refine gate_dst (N := 95) rfl ?_); (try (refine gate_guard (by rfl) ?_; dsimp only)); refine Kd.R_lit (Kd.int .i64) _ 3 ?hg (N := 95) ?hd (xs := ([t171] : List Int)) (inner := [.int .i64 t171]) (ok := fun _ => True) (okp := fun _ => True) ?hr ?hp (fun _ hk => hk) trivial (Below.refl _ _) (Nat.le_refl _) (by simp) ?_; (case hd => rfl); (case hg => rfl); (case hr => first | (go_simp; done) | (go_simp; rfl)); (case hp => exact (Reps.one (show Kd.M (Kd.int .i64) _ _ _ t171 [.int .i64 t171] from rfl) (Reps.none _ _))); intro v198 w144 ho145 hb hg_ hnew_; clear hg_ hnew_; (first | rw [← Ny197.out] at ho145 | (simp only [Int.reduceToNat] at ho145; rw [← Ny197.out] at ho145)); replace HO175 := Aside0.mk (Kd.R_below (rp_ HO175.out) hb); replace HO181 := Aside0.mk (Kd.R_below (rp_ HO181.out) hb); have HO199 := Aside0.mk (Kd.R_lower (Kd.R_new' (Kd.R_new' (Kd.R_new' ho145 (Kd.R_lt (rp_ HO186.out))) (Kd.R_lt (rp_ HO192.out))) (Kd.R_lt (rp_ HO195.out))) (below_size bp_)); replace HO186 := Aside0.mk (Kd.R_elder' (rp_ HO186.out) (Kd.R_base ho145) hb); replace HO192 := Aside0.mk (Kd.R_elder' (rp_ HO192.out) (Kd.R_base ho145) hb); replace HO195 := Aside0.mk (Kd.R_elder' (rp_ HO195.out) (Kd.R_base ho145) hb); replace HB := Aside0.mk (below_step bp_ hb); clear hb ho145; obtain ⟨Ao146, co146, eo146⟩ := Kd.R_slice HO192.out; subst eo146; obtain ⟨Ao147, co147, eo147⟩ := Kd.R_slice HO199.out; subst eo147) | (go_at_call 13; (with_reducible refine (chequerref01_Same.calls k1 _ _ t188 _ _ y197 false _ ?side1 ?side2 ?side3 ?side4 A33.out).mono ?_); (case side1 => exact cp_ (Kd.R_reads' HO192.out).2.2); (case side2 => exact (Kd.R_reads' HO192.out).2.1); (case side3 => exact cp_ (Kd.R_reads' HO199.out).2.2); (case side4 => exact (Kd.R_reads' HO199.out).2.1); rintro e w' ⟨rfl, ⟨nd, rfl⟩⟩))
                             go_ret
                             exact ⟨by first | rfl | (simp [errW_none, errW_some] <;> rfl) | (simp [*, errW_none, errW_some] <;> rfl), bp_⟩
                         · rw [if_neg c32] at H
                           have c32b0 : (t184 == 0) = false := beq_eq_false_iff_ne.mpr c32
                           have c32b1 : (t184 != 0) = true := bne_iff_ne.mpr c32
                           obtain rfl := Option.some.inj H
                           try go_wp2_with (first | ((with_reducible refine gate_dst (N := 45) rfl ?_); (try (refine gate_guard (by rfl) ?_; dsimp only)); refine Kd.R_lit (Kd.int .u8) _ 5 ?hg (N := 45) ?hd (xs := ([9, 10, 11, 12, 13, 32] : List Int)) (inner := [.int .u8 9, .int .u8 10, .int .u8 11, .int .u8 12, .int .u8 13, .int .u8 32]) (ok := fun _ => True) (okp := fun _ => True) ?hr ?hp (fun _ hk => hk) trivial (Below.refl _ _) (Nat.le_refl _) (by simp) ?_; (case hd => rfl); (case hg => rfl); (case hr => first | (go_simp; done) | (go_simp; rfl)); (case hp => exact (Reps.one (show Kd.M (Kd.int .u8) _ _ _ 9 [.int .u8 9] from rfl) (Reps.one (show Kd.M (Kd.int .u8) _ _ _ 10 [.int .u8 10] from rfl) (Reps.one (show Kd.M (Kd.int .u8) _ _ _ 11 [.int .u8 11] from rfl) (Reps.one (show Kd.M (Kd.int .u8) _ _ _ 12 [.int .u8 12] from rfl) (Reps.one (show Kd.M (Kd.int .u8) _ _ _ 13 [.int .u8 13] from rfl) (Reps.one (show Kd.M (Kd.int .u8) _ _ _ 32 [.int .u8 32] from rfl) (Reps.none _ _)))))))); intro v174 w148 ho149 hb hg_ hnew_; clear hg_ hnew_; (first | rw [← Ny173.out] at ho149 | (simp only [Int.reduceToNat] at ho149; rw [← Ny173.out] at ho149)); have HO175 := Aside0.mk (Kd.R_lower ho149 (below_size bp_)); replace HB := Aside0.mk (below_step bp_ hb); clear hb ho149) | ((with_reducible refine gate_callee (f := 10) rfl ?_); refine goQ_ (some 47) Try.func10 #[.int .i64 a2, .int .i64 6] ?_; (with_reducible refine (chequerref01_Around.calls a2 6 t176 _ A16.out).mono ?_); rintro e w' ⟨rfl, ⟨nd, rfl⟩⟩; refine ⟨_, rfl, ?_⟩; obtain ⟨Ao150, co150, eo150⟩ := Kd.R_slice HO175.out; subst eo150; have p177 : 0 ≤ (t176 : Int) := of_decide_eq_true (by first | (with_reducible assumption) | assumption); have q177 : t176 < (y173.length : Int) := of_decide_eq_true (by first | (with_reducible assumption) | assumption); obtain ⟨ad177, e177, hx177_0⟩ := Kd.at_int (Kd.R_reads' HO175.out).2.2 t176 p177 q177; cases e177; replace p177 := eq_true p177; replace q177 := eq_true q177))
                           (try (rw [drewN_self w148]; generalize hq_ : World.drewN w148 _ = w148; have n0_ := Aside0.mk (qrp_ hq_ HO175.out); have n1_ : Aside0 (Below w.heap.size w w148) := ⟨qbp_ hq_⟩; clear HO175 HB hq_; have HO175 := n0_; have HB := n1_; clear n0_ n1_))
                           replace HO175 := Aside0.mk (Kd.R_drew HO175.out)
                           replace HB := Aside0.mk (below_drew1 HB.out)
                           refine start_ (n := 11) (S := fun w' => True) (ds := []) Fl3 (by kernel_rfl) rfl rfl trivial (fun hHeld => ?_); refine with_tabW chequerlaw05_TokenRemarks.tab10 chequerlaw05_TokenRemarks.bits10 (fun HT_ HW_ => ?_)
                           generalize w148.drew = w151 at HO175 HB hHeld ⊢
                           refine pur_ (i := 0) (N := some 50) Fl4 (any_of HT_.out (by kernel_rfl)) ?_
                           refine pur_ (i := 1) (N := some 51) Fl5 (any_of HT_.out (by kernel_rfl)) ?_
                           refine pur_ (i := 2) (N := some 52) Fl6 (any_of HT_.out (by kernel_rfl)) ?_
                           refine pur_ (i := 3) (N := some 53) Fl7 (any_of HT_.out (by kernel_rfl)) ?_
                           refine pur_ (i := 6) (N := some 56) Fl8 (any_of HT_.out (by kernel_rfl)) ?_
                           refine join_ (σ := Value) 2 Fl1 (fun s_ => [(54, .string t178), (57, s_), (58, .string (strOfNums y179)), (55, .string ((((⟨#[32]⟩ : ByteArray) ++ x8_1) ++ (⟨#[10, 9]⟩ : ByteArray)) ++ t178))]) (fun s_ w' => (Kd.R (Kd.int .u8) 5 w' w.heap.size (fun k_ => some k_ ≠ (s_ : Value).ownBlock) (.slice (some ad177) y173.length co150) y173) ∧ (Kd.R (Kd.int .u8) 5 w' w.heap.size (fun k_ => some k_ ≠ (.slice (some ad177) y173.length co150 : Value).ownBlock) s_ y179) ∧ (Below w.heap.size w w')) ?_ ?_
                           rotate_left
                           · intro hCont
                             refine two_ (i := 4) (j := 7) (Ni := some 54) (Nj := some 57) Fl11 Fl9 rfl rfl rfl rfl (two_of HT_.out (by kernel_rfl)) (by decide) (by decide) (fun K hK => ?_) (fun K hK => ?_)
                             · skip
                               refine goes_ Try.func11 (by kernel_rfl) rfl #[.int .i64 t171] (by rfl) rfl rfl (by (try simp only [List.map_toArray, List.map_cons, List.map_nil]); first | done | rfl | (simp only [List.length_drop, List.length_take]; rfl)) ?_
                               with_reducible refine (chequerref01_Decimal.calls k1 t171 t178 _ A21.out).mono ?_
                               rintro e w152 ⟨rfl, hb⟩
                               refine ⟨_, rfl, ?_⟩
                               replace HO175 := Aside0.mk (Kd.R_below (rp_ HO175.out) hb)
                               replace HB := Aside0.mk (below_step bp_ hb)
                               (try clear hb)
                               (try clear hb2)
                               (try clear hk)
                               (try clear hi)
                               refine hK.out _ _ trivial (fun hHeld => ?_)
                               clear hK K
                               refine norm_ (a' := ?_) ?_ ?_
                               rotate_left
                               · show Act.put _ (some 54) _ = _
                                 simp only [Act.put, List.setIfInBounds_toArray, List.set_cons_zero, List.set_cons_succ, i64_w, i32_w]
                                 rfl
                               refine pur_ (i := 5) (N := some 55) Fl14 (any_of HT_.out (by kernel_rfl)) ?_
                               refine one_ (i := 7) (N := some 57) Fl2 rfl rfl (one_of HT_.out (by kernel_rfl)) (by decide) (fun K hK => ?_)
                               refine Kd.R_lit_step (Kd.int .u8) _ 5 ?hg (N := 57) ?hd (xs := ([rd y173 t176] : List Int)) (inner := [.int .u8 (rd y173 t176)]) (ok := fun _ => True) (okp := fun _ => True) ?hr ?hp (fun _ hk => hk) trivial (Below.refl _ _) (Nat.le_refl _) (by simp) ?_; (case hd => rfl); (case hg => rfl); (case hr => first | (go_simp; done) | (go_simp; rfl)); (case hp => exact (Reps.one (show Kd.M (Kd.int .u8) _ _ _ (rd y173 t176) [.int .u8 (rd y173 t176)] from rfl) (Reps.none _ _)))
                               intro v180 w153 ho154 hb hg_ hnew_
                               clear hg_ hnew_
                               (first | rw [← Ny179.out] at ho154 | (simp only [Int.reduceToNat] at ho154; rw [← Ny179.out] at ho154))
                               have HO181 := Aside0.mk (Kd.R_lower (Kd.R_new' ho154 (Kd.R_lt (rp_ HO175.out))) (below_size bp_))
                               replace HO175 := Aside0.mk (Kd.R_elder' (rp_ HO175.out) (Kd.R_base ho154) hb)
                               replace HB := Aside0.mk (below_step bp_ hb)
                               clear hb ho154
                               refine hK.out _ _ trivial (fun hHeld => ?_)
                               clear hK K
                               refine norm_ (a' := ?_) ?_ ?_
                               rotate_left
                               · show Act.put _ (some 57) _ = _
                                 simp only [Act.put, List.setIfInBounds_toArray, List.set_cons_zero, List.set_cons_succ, i64_w, i32_w]
                                 rfl
                               refine one_ (i := 8) (N := some 58) Fl1 rfl rfl (one_of HT_.out (by kernel_rfl)) (by decide) (fun K hK => ?_)
                               have hcv155 := own_string (P := Try.prog) Try.underlying24 Try.underlying5 Try.underlying9 (Kd.own_of_R HO181.out)
                               refine value_ (w1 := ?_) (v := ?_) (by rfl) rfl ?_ ?_
                               rotate_left 2
                               · go_simp
                                 constructor
                                 · rfl
                                 · rfl
                               clear hcv155
                               refine hK.out _ _ trivial (fun hHeld => ?_)
                               clear hK K
                               refine norm_ (a' := ?_) ?_ ?_
                               rotate_left
                               · show Act.put _ (some 58) _ = _
                                 simp only [Act.put, List.setIfInBounds_toArray, List.set_cons_zero, List.set_cons_succ, i64_w, i32_w]
                                 rfl
                               exact norm_ (by simp only [putAll, Act.put, List.setIfInBounds_toArray, List.set_cons_zero, List.set_cons_succ]) (hCont (v180) _ ⟨(by (with_reducible repeat (first | apply Kd.R_alloc | apply Kd.R_drewN | apply Kd.R_drew)); exact Kd.R_mono HO175.out (fun _ hk => hk.2)), (by (with_reducible repeat (first | apply Kd.R_alloc | apply Kd.R_drewN | apply Kd.R_drew)); exact Kd.R_mono HO181.out (fun _ hk => hk.2)), bp_⟩)
                             · skip
                               refine Kd.R_lit_step (Kd.int .u8) _ 5 ?hg (N := 57) ?hd (xs := ([rd y173 t176] : List Int)) (inner := [.int .u8 (rd y173 t176)]) (ok := fun _ => True) (okp := fun _ => True) ?hr ?hp (fun _ hk => hk) trivial (Below.refl _ _) (Nat.le_refl _) (by simp) ?_; (case hd => rfl); (case hg => rfl); (case hr => first | (go_simp; done) | (go_simp; rfl)); (case hp => exact (Reps.one (show Kd.M (Kd.int .u8) _ _ _ (rd y173 t176) [.int .u8 (rd y173 t176)] from rfl) (Reps.none _ _)))
                               intro v180 w152 ho153 hb hg_ hnew_
                               clear hg_ hnew_
                               (first | rw [← Ny179.out] at ho153 | (simp only [Int.reduceToNat] at ho153; rw [← Ny179.out] at ho153))
                               have HO181 := Aside0.mk (Kd.R_lower (Kd.R_new' ho153 (Kd.R_lt (rp_ HO175.out))) (below_size bp_))
                               replace HO175 := Aside0.mk (Kd.R_elder' (rp_ HO175.out) (Kd.R_base ho153) hb)
                               replace HB := Aside0.mk (below_step bp_ hb)
                               clear hb ho153
                               refine hK.out _ _ trivial (fun hHeld => ?_)
                               clear hK K
                               refine norm_ (a' := ?_) ?_ ?_
                               rotate_left
                               · show Act.put _ (some 57) _ = _
                                 simp only [Act.put, List.setIfInBounds_toArray, List.set_cons_zero, List.set_cons_succ, i64_w, i32_w]
                                 rfl
                               refine two_ (i := 4) (j := 8) (Ni := some 54) (Nj := some 58) Fl12 Fl10 rfl rfl rfl rfl (two_of HT_.out (by kernel_rfl)) (by decide) (by decide) (fun K hK => ?_) (fun K hK => ?_)
                               · skip
                                 refine goes_ Try.func11 (by kernel_rfl) rfl #[.int .i64 t171] (by rfl) rfl rfl (by (try simp only [List.map_toArray, List.map_cons, List.map_nil]); first | done | rfl | (simp only [List.length_drop, List.length_take]; rfl)) ?_
                                 with_reducible refine (chequerref01_Decimal.calls k1 t171 t178 _ A21.out).mono ?_
                                 rintro e w154 ⟨rfl, hb⟩
                                 refine ⟨_, rfl, ?_⟩
                                 replace HO175 := Aside0.mk (Kd.R_below (rp_ HO175.out) hb)
                                 replace HO181 := Aside0.mk (Kd.R_below (rp_ HO181.out) hb)
                                 replace HB := Aside0.mk (below_step bp_ hb)
                                 (try clear hb)
                                 (try clear hb2)
                                 (try clear hk)
                                 (try clear hi)
                                 refine hK.out _ _ trivial (fun hHeld => ?_)
                                 clear hK K
                                 refine norm_ (a' := ?_) ?_ ?_
                                 rotate_left
                                 · show Act.put _ (some 54) _ = _
                                   simp only [Act.put, List.setIfInBounds_toArray, List.set_cons_zero, List.set_cons_succ, i64_w, i32_w]
                                   rfl
                                 refine pur_ (i := 5) (N := some 55) Fl2 (any_of HT_.out (by kernel_rfl)) ?_
                                 refine one_ (i := 8) (N := some 58) Fl1 rfl rfl (one_of HT_.out (by kernel_rfl)) (by decide) (fun K hK => ?_)
                                 have hcv155 := own_string (P := Try.prog) Try.underlying24 Try.underlying5 Try.underlying9 (Kd.own_of_R HO181.out)
                                 refine value_ (w1 := ?_) (v := ?_) (by rfl) rfl ?_ ?_
                                 rotate_left 2
                                 · go_simp
                                   constructor
                                   · rfl
                                   · rfl
                                 clear hcv155
                                 refine hK.out _ _ trivial (fun hHeld => ?_)
                                 clear hK K
                                 refine norm_ (a' := ?_) ?_ ?_
                                 rotate_left
                                 · show Act.put _ (some 58) _ = _
                                   simp only [Act.put, List.setIfInBounds_toArray, List.set_cons_zero, List.set_cons_succ, i64_w, i32_w]
                                   rfl
                                 exact norm_ (by simp only [putAll, Act.put, List.setIfInBounds_toArray, List.set_cons_zero, List.set_cons_succ]) (hCont (v180) _ ⟨(by (with_reducible repeat (first | apply Kd.R_alloc | apply Kd.R_drewN | apply Kd.R_drew)); exact Kd.R_mono HO175.out (fun _ hk => hk.2)), (by (with_reducible repeat (first | apply Kd.R_alloc | apply Kd.R_drewN | apply Kd.R_drew)); exact Kd.R_mono HO181.out (fun _ hk => hk.2)), bp_⟩)
                               · skip
                                 have hcv154 := own_string (P := Try.prog) Try.underlying24 Try.underlying5 Try.underlying9 (Kd.own_of_R HO181.out)
                                 refine value_ (w1 := ?_) (v := ?_) (by rfl) rfl ?_ ?_
                                 rotate_left 2
                                 · go_simp
                                   constructor
                                   · rfl
                                   · rfl
                                 clear hcv154
                                 refine hK.out _ _ trivial (fun hHeld => ?_)
                                 clear hK K
                                 refine norm_ (a' := ?_) ?_ ?_
                                 rotate_left
                                 · show Act.put _ (some 58) _ = _
                                   simp only [Act.put, List.setIfInBounds_toArray, List.set_cons_zero, List.set_cons_succ, i64_w, i32_w]
                                   rfl
                                 refine one_ (i := 4) (N := some 54) Fl13 rfl rfl (one_of HT_.out (by kernel_rfl)) (by decide) (fun K hK => ?_)
                                 refine goes_ Try.func11 (by kernel_rfl) rfl #[.int .i64 t171] (by rfl) rfl rfl (by (try simp only [List.map_toArray, List.map_cons, List.map_nil]); first | done | rfl | (simp only [List.length_drop, List.length_take]; rfl)) ?_
                                 with_reducible refine (chequerref01_Decimal.calls k1 t171 t178 _ A21.out).mono ?_
                                 rintro e w155 ⟨rfl, hb⟩
                                 refine ⟨_, rfl, ?_⟩
                                 replace HO175 := Aside0.mk (Kd.R_below (rp_ HO175.out) hb)
                                 replace HO181 := Aside0.mk (Kd.R_below (rp_ HO181.out) hb)
                                 replace HB := Aside0.mk (below_step bp_ hb)
                                 (try clear hb)
                                 (try clear hb2)
                                 (try clear hk)
                                 (try clear hi)
                                 refine hK.out _ _ trivial (fun hHeld => ?_)
                                 clear hK K
                                 refine norm_ (a' := ?_) ?_ ?_
                                 rotate_left
                                 · show Act.put _ (some 54) _ = _
                                   simp only [Act.put, List.setIfInBounds_toArray, List.set_cons_zero, List.set_cons_succ, i64_w, i32_w]
                                   rfl
                                 refine pur_ (i := 5) (N := some 55) Fl1 (any_of HT_.out (by kernel_rfl)) ?_
                                 exact norm_ (by simp only [putAll, Act.put, List.setIfInBounds_toArray, List.set_cons_zero, List.set_cons_succ]) (hCont (v180) _ ⟨(by (with_reducible repeat (first | apply Kd.R_alloc | apply Kd.R_drewN | apply Kd.R_drew)); exact Kd.R_mono HO175.out (fun _ hk => hk.2)), (by (with_reducible repeat (first | apply Kd.R_alloc | apply Kd.R_drewN | apply Kd.R_drew)); exact Kd.R_mono HO181.out (fun _ hk => hk.2)), bp_⟩)
                           rintro v180 w156 ⟨h0_, h1_, h2_⟩
                           replace HO175 : Aside0 (Kd.R (Kd.int .u8) 5 w156 w.heap.size (fun k_ => some k_ ≠ (v180 : Value).ownBlock) (.slice (some ad177) y173.length co150) y173) := ⟨h0_⟩
                           have HO181 : Aside0 (Kd.R (Kd.int .u8) 5 w156 w.heap.size (fun k_ => some k_ ≠ (.slice (some ad177) y173.length co150 : Value).ownBlock) v180 y179) := ⟨h1_⟩
                           replace HB : Aside0 (Below w.heap.size w w156) := ⟨h2_⟩
                           clear h0_ h1_ h2_
                           have hHeld := trivial
                           refine norm_ (a' := ?_) ?_ ?_
                           rotate_left
                           · simp only [putAll, Act.put, List.setIfInBounds_toArray, List.set_cons_zero, List.set_cons_succ]
                             rfl
                           refine pur_ (i := 9) (N := some 59) Fl15 (any_of HT_.out (by kernel_rfl)) ?_
                           refine pur_ (i := 10) (N := some 11) Fl16 (any_of HT_.out (by kernel_rfl)) ?_
                           refine done_ (done_of HT_.out (by kernel_rfl)) ?_
                           try go_wp2_with (first | ((with_reducible refine gate_callee (f := 12) rfl ?_); refine goQ_ (some 63) Try.func12 #[.string (((((⟨#[32]⟩ : ByteArray) ++ x8_1) ++ (⟨#[10, 9]⟩ : ByteArray)) ++ t178) ++ (strOfNums y179)), .int .i64 t171] ?_; (with_reducible refine (token_All.calls (((((⟨#[32]⟩ : ByteArray) ++ x8_1) ++ (⟨#[10, 9]⟩ : ByteArray)) ++ t178) ++ (strOfNums y179)) t171 t182 t183 t184 _ A24.out).mono ?_); rintro e w157 ⟨v185, rfl, ho0, hb⟩; refine ⟨_, rfl, ?_⟩; replace HO175 := Aside0.mk (Kd.R_below (rp_ HO175.out) hb); replace HO181 := Aside0.mk (Kd.R_below (rp_ HO181.out) hb); have HO186 := Aside0.mk (Kd.R_lower ho0 (below_size bp_)); replace HB := Aside0.mk (below_step bp_ hb); (try clear hb); (try clear hb2); (try clear hk); (try clear hi); (try clear ho0)) | ((with_reducible refine gate_callee (f := 11) rfl ?_); refine goQ_ (some 69) Try.func11 #[.int .i64 t171] ?_; (with_reducible refine (chequerref01_Decimal.calls k1 t171 t187 _ A25.out).mono ?_); rintro e w158 ⟨rfl, hb⟩; refine ⟨_, rfl, ?_⟩; replace HO175 := Aside0.mk (Kd.R_below (rp_ HO175.out) hb); replace HO181 := Aside0.mk (Kd.R_below (rp_ HO181.out) hb); replace HO186 := Aside0.mk (Kd.R_below (rp_ HO186.out) hb); replace HB := Aside0.mk (below_step bp_ hb); (try clear hb); (try clear hb2); (try clear hk); (try clear hi)) | ((with_reducible refine gate_callee (f := 12) rfl ?_); refine goQ_ (some 74) Try.func12 #[.string ((t187 ++ x8_1) ++ (⟨#[13]⟩ : ByteArray)), .int .i64 t171] ?_; (with_reducible refine (token_All.calls ((t187 ++ x8_1) ++ (⟨#[13]⟩ : ByteArray)) t171 t188 t189 t190 _ A28.out).mono ?_); rintro e w159 ⟨v191, rfl, ho0, hb⟩; refine ⟨_, rfl, ?_⟩; replace HO175 := Aside0.mk (Kd.R_below (rp_ HO175.out) hb); replace HO181 := Aside0.mk (Kd.R_below (rp_ HO181.out) hb); have HO192 := Aside0.mk (Kd.R_lower (Kd.R_new' ho0 (Kd.R_lt (rp_ HO186.out))) (below_size bp_)); replace HO186 := Aside0.mk (Kd.R_elder' (rp_ HO186.out) (Kd.R_base ho0) hb); replace HB := Aside0.mk (below_step bp_ hb); (try clear hb); (try clear hb2); (try clear hk); (try clear hi); (try clear ho0)) | ((with_reducible refine gate_dst (N := 80) rfl ?_); (try (refine gate_guard (by rfl) ?_; dsimp only)); refine Kd.R_lit (Kd.int .i64) _ 3 ?hg (N := 80) ?hd (xs := ([t171] : List Int)) (inner := [.int .i64 t171]) (ok := fun _ => True) (okp := fun _ => True) ?hr ?hp (fun _ hk => hk) trivial (Below.refl _ _) (Nat.le_refl _) (by simp) ?_; (case hd => rfl); (case hg => rfl); (case hr => first | (go_simp; done) | (go_simp; rfl)); (case hp => exact (Reps.one (show Kd.M (Kd.int .i64) _ _ _ t171 [.int .i64 t171] from rfl) (Reps.none _ _))); intro v194 w160 ho161 hb hg_ hnew_; clear hg_ hnew_; (first | rw [← Ny193.out] at ho161 | (simp only [Int.reduceToNat] at ho161; rw [← Ny193.out] at ho161)); replace HO175 := Aside0.mk (Kd.R_below (rp_ HO175.out) hb); replace HO181 := Aside0.mk (Kd.R_below (rp_ HO181.out) hb); have HO195 := Aside0.mk (Kd.R_lower (Kd.R_new' (Kd.R_new' ho161 (Kd.R_lt (rp_ HO186.out))) (Kd.R_lt (rp_ HO192.out))) (below_size bp_)); replace HO186 := Aside0.mk (Kd.R_elder' (rp_ HO186.out) (Kd.R_base ho161) hb); replace HO192 := Aside0.mk (Kd.R_elder' (rp_ HO192.out) (Kd.R_base ho161) hb); replace HB := Aside0.mk (below_step bp_ hb); clear hb ho161; obtain ⟨Ao162, co162, eo162⟩ := Kd.R_slice HO186.out; subst eo162; obtain ⟨Ao163, co163, eo163⟩ := Kd.R_slice HO195.out; subst eo163) | ((with_reducible refine gate_callee (f := 13) rfl ?_); refine goQ_ (some 81) Try.func13 #[.slice Ao162 t182.length co162, .slice Ao163 y193.length co163] ?_; (with_reducible refine (chequerref01_Same.calls k1 _ _ t182 _ _ y193 true _ ?side1 ?side2 ?side3 ?side4 A29.out).mono ?_); (case side1 => exact cp_ (Kd.R_reads' HO186.out).2.2); (case side2 => exact (Kd.R_reads' HO186.out).2.1); (case side3 => exact cp_ (Kd.R_reads' HO195.out).2.2); (case side4 => exact (Kd.R_reads' HO195.out).2.1); rintro e w' ⟨rfl, ⟨nd, rfl⟩⟩; refine ⟨_, rfl, ?_⟩))
                           go_ret
                           exact ⟨by first | rfl | (simp [errW_none, errW_some] <;> rfl) | (simp [*, errW_none, errW_some] <;> rfl), bp_⟩
                       · rw [if_neg c31] at H
                         have c31b0 : (t183 == ((((((⟨#[32]⟩ : ByteArray) ++ x8_1) ++ (⟨#[10, 9]⟩ : ByteArray)) ++ t178) ++ (strOfNums y179)).size : Int)) = false := beq_eq_false_iff_ne.mpr c31
                         (try (have c31b0y := c31b0; simp only [ByteArray.size_append, Int.natCast_add, show ((⟨#[10, 9]⟩ : ByteArray).size : Int) = 2 from rfl, show ((⟨#[32]⟩ : ByteArray).size : Int) = 1 from rfl] at c31b0y))
                         have c31b1 : (t183 != ((((((⟨#[32]⟩ : ByteArray) ++ x8_1) ++ (⟨#[10, 9]⟩ : ByteArray)) ++ t178) ++ (strOfNums y179)).size : Int)) = true := bne_iff_ne.mpr c31
                         (try (have c31b1y := c31b1; simp only [ByteArray.size_append, Int.natCast_add, show ((⟨#[10, 9]⟩ : ByteArray).size : Int) = 2 from rfl, show ((⟨#[32]⟩ : ByteArray).size : Int) = 1 from rfl] at c31b1y))
                         obtain rfl := Option.some.inj H
                         try go_wp2_with (first | ((with_reducible refine gate_dst (N := 45) rfl ?_); (try (refine gate_guard (by rfl) ?_; dsimp only)); refine Kd.R_lit (Kd.int .u8) _ 5 ?hg (N := 45) ?hd (xs := ([9, 10, 11, 12, 13, 32] : List Int)) (inner := [.int .u8 9, .int .u8 10, .int .u8 11, .int .u8 12, .int .u8 13, .int .u8 32]) (ok := fun _ => True) (okp := fun _ => True) ?hr ?hp (fun _ hk => hk) trivial (Below.refl _ _) (Nat.le_refl _) (by simp) ?_; (case hd => rfl); (case hg => rfl); (case hr => first | (go_simp; done) | (go_simp; rfl)); (case hp => exact (Reps.one (show Kd.M (Kd.int .u8) _ _ _ 9 [.int .u8 9] from rfl) (Reps.one (show Kd.M (Kd.int .u8) _ _ _ 10 [.int .u8 10] from rfl) (Reps.one (show Kd.M (Kd.int .u8) _ _ _ 11 [.int .u8 11] from rfl) (Reps.one (show Kd.M (Kd.int .u8) _ _ _ 12 [.int .u8 12] from rfl) (Reps.one (show Kd.M (Kd.int .u8) _ _ _ 13 [.int .u8 13] from rfl) (Reps.one (show Kd.M (Kd.int .u8) _ _ _ 32 [.int .u8 32] from rfl) (Reps.none _ _)))))))); intro v174 w164 ho165 hb hg_ hnew_; clear hg_ hnew_; (first | rw [← Ny173.out] at ho165 | (simp only [Int.reduceToNat] at ho165; rw [← Ny173.out] at ho165)); have HO175 := Aside0.mk (Kd.R_lower ho165 (below_size bp_)); replace HB := Aside0.mk (below_step bp_ hb); clear hb ho165) | ((with_reducible refine gate_callee (f := 10) rfl ?_); refine goQ_ (some 47) Try.func10 #[.int .i64 a2, .int .i64 6] ?_; (with_reducible refine (chequerref01_Around.calls a2 6 t176 _ A16.out).mono ?_); rintro e w' ⟨rfl, ⟨nd, rfl⟩⟩; refine ⟨_, rfl, ?_⟩; obtain ⟨Ao166, co166, eo166⟩ := Kd.R_slice HO175.out; subst eo166; have p177 : 0 ≤ (t176 : Int) := of_decide_eq_true (by first | (with_reducible assumption) | assumption); have q177 : t176 < (y173.length : Int) := of_decide_eq_true (by first | (with_reducible assumption) | assumption); obtain ⟨ad177, e177, hx177_0⟩ := Kd.at_int (Kd.R_reads' HO175.out).2.2 t176 p177 q177; cases e177; replace p177 := eq_true p177; replace q177 := eq_true q177))
                         (try (rw [drewN_self w164]; generalize hq_ : World.drewN w164 _ = w164; have n0_ := Aside0.mk (qrp_ hq_ HO175.out); have n1_ : Aside0 (Below w.heap.size w w164) := ⟨qbp_ hq_⟩; clear HO175 HB hq_; have HO175 := n0_; have HB := n1_; clear n0_ n1_))
                         replace HO175 := Aside0.mk (Kd.R_drew HO175.out)
                         replace HB := Aside0.mk (below_drew1 HB.out)
                         refine start_ (n := 11) (S := fun w' => True) (ds := []) Fl3 (by kernel_rfl) rfl rfl trivial (fun hHeld => ?_); refine with_tabW chequerlaw05_TokenRemarks.tab10 chequerlaw05_TokenRemarks.bits10 (fun HT_ HW_ => ?_)
                         generalize w164.drew = w167 at HO175 HB hHeld ⊢
                         refine pur_ (i := 0) (N := some 50) Fl4 (any_of HT_.out (by kernel_rfl)) ?_
                         refine pur_ (i := 1) (N := some 51) Fl5 (any_of HT_.out (by kernel_rfl)) ?_
                         refine pur_ (i := 2) (N := some 52) Fl6 (any_of HT_.out (by kernel_rfl)) ?_
                         refine pur_ (i := 3) (N := some 53) Fl7 (any_of HT_.out (by kernel_rfl)) ?_
                         refine pur_ (i := 6) (N := some 56) Fl8 (any_of HT_.out (by kernel_rfl)) ?_
                         refine join_ (σ := Value) 2 Fl1 (fun s_ => [(54, .string t178), (57, s_), (58, .string (strOfNums y179)), (55, .string ((((⟨#[32]⟩ : ByteArray) ++ x8_1) ++ (⟨#[10, 9]⟩ : ByteArray)) ++ t178))]) (fun s_ w' => (Kd.R (Kd.int .u8) 5 w' w.heap.size (fun k_ => some k_ ≠ (s_ : Value).ownBlock) (.slice (some ad177) y173.length co166) y173) ∧ (Kd.R (Kd.int .u8) 5 w' w.heap.size (fun k_ => some k_ ≠ (.slice (some ad177) y173.length co166 : Value).ownBlock) s_ y179) ∧ (Below w.heap.size w w')) ?_ ?_
                         rotate_left
                         · intro hCont
                           refine two_ (i := 4) (j := 7) (Ni := some 54) (Nj := some 57) Fl11 Fl9 rfl rfl rfl rfl (two_of HT_.out (by kernel_rfl)) (by decide) (by decide) (fun K hK => ?_) (fun K hK => ?_)
                           · skip
                             refine goes_ Try.func11 (by kernel_rfl) rfl #[.int .i64 t171] (by rfl) rfl rfl (by (try simp only [List.map_toArray, List.map_cons, List.map_nil]); first | done | rfl | (simp only [List.length_drop, List.length_take]; rfl)) ?_
                             with_reducible refine (chequerref01_Decimal.calls k1 t171 t178 _ A21.out).mono ?_
                             rintro e w168 ⟨rfl, hb⟩
                             refine ⟨_, rfl, ?_⟩
                             replace HO175 := Aside0.mk (Kd.R_below (rp_ HO175.out) hb)
                             replace HB := Aside0.mk (below_step bp_ hb)
                             (try clear hb)
                             (try clear hb2)
                             (try clear hk)
                             (try clear hi)
                             refine hK.out _ _ trivial (fun hHeld => ?_)
                             clear hK K
                             refine norm_ (a' := ?_) ?_ ?_
                             rotate_left
                             · show Act.put _ (some 54) _ = _
                               simp only [Act.put, List.setIfInBounds_toArray, List.set_cons_zero, List.set_cons_succ, i64_w, i32_w]
                               rfl
                             refine pur_ (i := 5) (N := some 55) Fl14 (any_of HT_.out (by kernel_rfl)) ?_
                             refine one_ (i := 7) (N := some 57) Fl2 rfl rfl (one_of HT_.out (by kernel_rfl)) (by decide) (fun K hK => ?_)
                             refine Kd.R_lit_step (Kd.int .u8) _ 5 ?hg (N := 57) ?hd (xs := ([rd y173 t176] : List Int)) (inner := [.int .u8 (rd y173 t176)]) (ok := fun _ => True) (okp := fun _ => True) ?hr ?hp (fun _ hk => hk) trivial (Below.refl _ _) (Nat.le_refl _) (by simp) ?_; (case hd => rfl); (case hg => rfl); (case hr => first | (go_simp; done) | (go_simp; rfl)); (case hp => exact (Reps.one (show Kd.M (Kd.int .u8) _ _ _ (rd y173 t176) [.int .u8 (rd y173 t176)] from rfl) (Reps.none _ _)))
                             intro v180 w169 ho170 hb hg_ hnew_
                             clear hg_ hnew_
                             (first | rw [← Ny179.out] at ho170 | (simp only [Int.reduceToNat] at ho170; rw [← Ny179.out] at ho170))
                             have HO181 := Aside0.mk (Kd.R_lower (Kd.R_new' ho170 (Kd.R_lt (rp_ HO175.out))) (below_size bp_))
                             replace HO175 := Aside0.mk (Kd.R_elder' (rp_ HO175.out) (Kd.R_base ho170) hb)
                             replace HB := Aside0.mk (below_step bp_ hb)
                             clear hb ho170
                             refine hK.out _ _ trivial (fun hHeld => ?_)
                             clear hK K
                             refine norm_ (a' := ?_) ?_ ?_
                             rotate_left
                             · show Act.put _ (some 57) _ = _
                               simp only [Act.put, List.setIfInBounds_toArray, List.set_cons_zero, List.set_cons_succ, i64_w, i32_w]
                               rfl
                             refine one_ (i := 8) (N := some 58) Fl1 rfl rfl (one_of HT_.out (by kernel_rfl)) (by decide) (fun K hK => ?_)
                             have hcv171 := own_string (P := Try.prog) Try.underlying24 Try.underlying5 Try.underlying9 (Kd.own_of_R HO181.out)
                             refine value_ (w1 := ?_) (v := ?_) (by rfl) rfl ?_ ?_
                             rotate_left 2
                             · go_simp
                               constructor
                               · rfl
                               · rfl
                             clear hcv171
                             refine hK.out _ _ trivial (fun hHeld => ?_)
                             clear hK K
                             refine norm_ (a' := ?_) ?_ ?_
                             rotate_left
                             · show Act.put _ (some 58) _ = _
                               simp only [Act.put, List.setIfInBounds_toArray, List.set_cons_zero, List.set_cons_succ, i64_w, i32_w]
                               rfl
                             exact norm_ (by simp only [putAll, Act.put, List.setIfInBounds_toArray, List.set_cons_zero, List.set_cons_succ]) (hCont (v180) _ ⟨(by (with_reducible repeat (first | apply Kd.R_alloc | apply Kd.R_drewN | apply Kd.R_drew)); exact Kd.R_mono HO175.out (fun _ hk => hk.2)), (by (with_reducible repeat (first | apply Kd.R_alloc | apply Kd.R_drewN | apply Kd.R_drew)); exact Kd.R_mono HO181.out (fun _ hk => hk.2)), bp_⟩)
                           · skip
                             refine Kd.R_lit_step (Kd.int .u8) _ 5 ?hg (N := 57) ?hd (xs := ([rd y173 t176] : List Int)) (inner := [.int .u8 (rd y173 t176)]) (ok := fun _ => True) (okp := fun _ => True) ?hr ?hp (fun _ hk => hk) trivial (Below.refl _ _) (Nat.le_refl _) (by simp) ?_; (case hd => rfl); (case hg => rfl); (case hr => first | (go_simp; done) | (go_simp; rfl)); (case hp => exact (Reps.one (show Kd.M (Kd.int .u8) _ _ _ (rd y173 t176) [.int .u8 (rd y173 t176)] from rfl) (Reps.none _ _)))
                             intro v180 w168 ho169 hb hg_ hnew_
                             clear hg_ hnew_
                             (first | rw [← Ny179.out] at ho169 | (simp only [Int.reduceToNat] at ho169; rw [← Ny179.out] at ho169))
                             have HO181 := Aside0.mk (Kd.R_lower (Kd.R_new' ho169 (Kd.R_lt (rp_ HO175.out))) (below_size bp_))
                             replace HO175 := Aside0.mk (Kd.R_elder' (rp_ HO175.out) (Kd.R_base ho169) hb)
                             replace HB := Aside0.mk (below_step bp_ hb)
                             clear hb ho169
                             refine hK.out _ _ trivial (fun hHeld => ?_)
                             clear hK K
                             refine norm_ (a' := ?_) ?_ ?_
                             rotate_left
                             · show Act.put _ (some 57) _ = _
                               simp only [Act.put, List.setIfInBounds_toArray, List.set_cons_zero, List.set_cons_succ, i64_w, i32_w]
                               rfl
                             refine two_ (i := 4) (j := 8) (Ni := some 54) (Nj := some 58) Fl12 Fl10 rfl rfl rfl rfl (two_of HT_.out (by kernel_rfl)) (by decide) (by decide) (fun K hK => ?_) (fun K hK => ?_)
                             · skip
                               refine goes_ Try.func11 (by kernel_rfl) rfl #[.int .i64 t171] (by rfl) rfl rfl (by (try simp only [List.map_toArray, List.map_cons, List.map_nil]); first | done | rfl | (simp only [List.length_drop, List.length_take]; rfl)) ?_
                               with_reducible refine (chequerref01_Decimal.calls k1 t171 t178 _ A21.out).mono ?_
                               rintro e w170 ⟨rfl, hb⟩
                               refine ⟨_, rfl, ?_⟩
                               replace HO175 := Aside0.mk (Kd.R_below (rp_ HO175.out) hb)
                               replace HO181 := Aside0.mk (Kd.R_below (rp_ HO181.out) hb)
                               replace HB := Aside0.mk (below_step bp_ hb)
                               (try clear hb)
                               (try clear hb2)
                               (try clear hk)
                               (try clear hi)
                               refine hK.out _ _ trivial (fun hHeld => ?_)
                               clear hK K
                               refine norm_ (a' := ?_) ?_ ?_
                               rotate_left
                               · show Act.put _ (some 54) _ = _
                                 simp only [Act.put, List.setIfInBounds_toArray, List.set_cons_zero, List.set_cons_succ, i64_w, i32_w]
                                 rfl
                               refine pur_ (i := 5) (N := some 55) Fl2 (any_of HT_.out (by kernel_rfl)) ?_
                               refine one_ (i := 8) (N := some 58) Fl1 rfl rfl (one_of HT_.out (by kernel_rfl)) (by decide) (fun K hK => ?_)
                               have hcv171 := own_string (P := Try.prog) Try.underlying24 Try.underlying5 Try.underlying9 (Kd.own_of_R HO181.out)
                               refine value_ (w1 := ?_) (v := ?_) (by rfl) rfl ?_ ?_
                               rotate_left 2
                               · go_simp
                                 constructor
                                 · rfl
                                 · rfl
                               clear hcv171
                               refine hK.out _ _ trivial (fun hHeld => ?_)
                               clear hK K
                               refine norm_ (a' := ?_) ?_ ?_
                               rotate_left
                               · show Act.put _ (some 58) _ = _
                                 simp only [Act.put, List.setIfInBounds_toArray, List.set_cons_zero, List.set_cons_succ, i64_w, i32_w]
                                 rfl
                               exact norm_ (by simp only [putAll, Act.put, List.setIfInBounds_toArray, List.set_cons_zero, List.set_cons_succ]) (hCont (v180) _ ⟨(by (with_reducible repeat (first | apply Kd.R_alloc | apply Kd.R_drewN | apply Kd.R_drew)); exact Kd.R_mono HO175.out (fun _ hk => hk.2)), (by (with_reducible repeat (first | apply Kd.R_alloc | apply Kd.R_drewN | apply Kd.R_drew)); exact Kd.R_mono HO181.out (fun _ hk => hk.2)), bp_⟩)
                             · skip
                               have hcv170 := own_string (P := Try.prog) Try.underlying24 Try.underlying5 Try.underlying9 (Kd.own_of_R HO181.out)
                               refine value_ (w1 := ?_) (v := ?_) (by rfl) rfl ?_ ?_
                               rotate_left 2
                               · go_simp
                                 constructor
                                 · rfl
                                 · rfl
                               clear hcv170
                               refine hK.out _ _ trivial (fun hHeld => ?_)
                               clear hK K
                               refine norm_ (a' := ?_) ?_ ?_
                               rotate_left
                               · show Act.put _ (some 58) _ = _
                                 simp only [Act.put, List.setIfInBounds_toArray, List.set_cons_zero, List.set_cons_succ, i64_w, i32_w]
                                 rfl
                               refine one_ (i := 4) (N := some 54) Fl13 rfl rfl (one_of HT_.out (by kernel_rfl)) (by decide) (fun K hK => ?_)
                               refine goes_ Try.func11 (by kernel_rfl) rfl #[.int .i64 t171] (by rfl) rfl rfl (by (try simp only [List.map_toArray, List.map_cons, List.map_nil]); first | done | rfl | (simp only [List.length_drop, List.length_take]; rfl)) ?_
                               with_reducible refine (chequerref01_Decimal.calls k1 t171 t178 _ A21.out).mono ?_
                               rintro e w171 ⟨rfl, hb⟩
                               refine ⟨_, rfl, ?_⟩
                               replace HO175 := Aside0.mk (Kd.R_below (rp_ HO175.out) hb)
                               replace HO181 := Aside0.mk (Kd.R_below (rp_ HO181.out) hb)
                               replace HB := Aside0.mk (below_step bp_ hb)
                               (try clear hb)
                               (try clear hb2)
                               (try clear hk)
                               (try clear hi)
                               refine hK.out _ _ trivial (fun hHeld => ?_)
                               clear hK K
                               refine norm_ (a' := ?_) ?_ ?_
                               rotate_left
                               · show Act.put _ (some 54) _ = _
                                 simp only [Act.put, List.setIfInBounds_toArray, List.set_cons_zero, List.set_cons_succ, i64_w, i32_w]
                                 rfl
                               refine pur_ (i := 5) (N := some 55) Fl1 (any_of HT_.out (by kernel_rfl)) ?_
                               exact norm_ (by simp only [putAll, Act.put, List.setIfInBounds_toArray, List.set_cons_zero, List.set_cons_succ]) (hCont (v180) _ ⟨(by (with_reducible repeat (first | apply Kd.R_alloc | apply Kd.R_drewN | apply Kd.R_drew)); exact Kd.R_mono HO175.out (fun _ hk => hk.2)), (by (with_reducible repeat (first | apply Kd.R_alloc | apply Kd.R_drewN | apply Kd.R_drew)); exact Kd.R_mono HO181.out (fun _ hk => hk.2)), bp_⟩)
                         rintro v180 w172 ⟨h0_, h1_, h2_⟩
                         replace HO175 : Aside0 (Kd.R (Kd.int .u8) 5 w172 w.heap.size (fun k_ => some k_ ≠ (v180 : Value).ownBlock) (.slice (some ad177) y173.length co166) y173) := ⟨h0_⟩
                         have HO181 : Aside0 (Kd.R (Kd.int .u8) 5 w172 w.heap.size (fun k_ => some k_ ≠ (.slice (some ad177) y173.length co166 : Value).ownBlock) v180 y179) := ⟨h1_⟩
                         replace HB : Aside0 (Below w.heap.size w w172) := ⟨h2_⟩
                         clear h0_ h1_ h2_
                         have hHeld := trivial
                         refine norm_ (a' := ?_) ?_ ?_
                         rotate_left
                         · simp only [putAll, Act.put, List.setIfInBounds_toArray, List.set_cons_zero, List.set_cons_succ]
                           rfl
                         refine pur_ (i := 9) (N := some 59) Fl15 (any_of HT_.out (by kernel_rfl)) ?_
                         refine pur_ (i := 10) (N := some 11) Fl16 (any_of HT_.out (by kernel_rfl)) ?_
                         refine done_ (done_of HT_.out (by kernel_rfl)) ?_
                         try go_wp2_with (first | ((with_reducible refine gate_callee (f := 12) rfl ?_); refine goQ_ (some 63) Try.func12 #[.string (((((⟨#[32]⟩ : ByteArray) ++ x8_1) ++ (⟨#[10, 9]⟩ : ByteArray)) ++ t178) ++ (strOfNums y179)), .int .i64 t171] ?_; (with_reducible refine (token_All.calls (((((⟨#[32]⟩ : ByteArray) ++ x8_1) ++ (⟨#[10, 9]⟩ : ByteArray)) ++ t178) ++ (strOfNums y179)) t171 t182 t183 t184 _ A24.out).mono ?_); rintro e w173 ⟨v185, rfl, ho0, hb⟩; refine ⟨_, rfl, ?_⟩; replace HO175 := Aside0.mk (Kd.R_below (rp_ HO175.out) hb); replace HO181 := Aside0.mk (Kd.R_below (rp_ HO181.out) hb); have HO186 := Aside0.mk (Kd.R_lower ho0 (below_size bp_)); replace HB := Aside0.mk (below_step bp_ hb); (try clear hb); (try clear hb2); (try clear hk); (try clear hi); (try clear ho0)) | ((with_reducible refine gate_callee (f := 11) rfl ?_); refine goQ_ (some 69) Try.func11 #[.int .i64 t171] ?_; (with_reducible refine (chequerref01_Decimal.calls k1 t171 t187 _ A25.out).mono ?_); rintro e w174 ⟨rfl, hb⟩; refine ⟨_, rfl, ?_⟩; replace HO175 := Aside0.mk (Kd.R_below (rp_ HO175.out) hb); replace HO181 := Aside0.mk (Kd.R_below (rp_ HO181.out) hb); replace HO186 := Aside0.mk (Kd.R_below (rp_ HO186.out) hb); replace HB := Aside0.mk (below_step bp_ hb); (try clear hb); (try clear hb2); (try clear hk); (try clear hi)) | ((with_reducible refine gate_callee (f := 12) rfl ?_); refine goQ_ (some 74) Try.func12 #[.string ((t187 ++ x8_1) ++ (⟨#[13]⟩ : ByteArray)), .int .i64 t171] ?_; (with_reducible refine (token_All.calls ((t187 ++ x8_1) ++ (⟨#[13]⟩ : ByteArray)) t171 t188 t189 t190 _ A28.out).mono ?_); rintro e w175 ⟨v191, rfl, ho0, hb⟩; refine ⟨_, rfl, ?_⟩; replace HO175 := Aside0.mk (Kd.R_below (rp_ HO175.out) hb); replace HO181 := Aside0.mk (Kd.R_below (rp_ HO181.out) hb); have HO192 := Aside0.mk (Kd.R_lower (Kd.R_new' ho0 (Kd.R_lt (rp_ HO186.out))) (below_size bp_)); replace HO186 := Aside0.mk (Kd.R_elder' (rp_ HO186.out) (Kd.R_base ho0) hb); replace HB := Aside0.mk (below_step bp_ hb); (try clear hb); (try clear hb2); (try clear hk); (try clear hi); (try clear ho0)) | ((with_reducible refine gate_dst (N := 80) rfl ?_); (try (refine gate_guard (by rfl) ?_; dsimp only)); refine Kd.R_lit (Kd.int .i64) _ 3 ?hg (N := 80) ?hd (xs := ([t171] : List Int)) (inner := [.int .i64 t171]) (ok := fun _ => True) (okp := fun _ => True) ?hr ?hp (fun _ hk => hk) trivial (Below.refl _ _) (Nat.le_refl _) (by simp) ?_; (case hd => rfl); (case hg => rfl); (case hr => first | (go_simp; done) | (go_simp; rfl)); (case hp => exact (Reps.one (show Kd.M (Kd.int .i64) _ _ _ t171 [.int .i64 t171] from rfl) (Reps.none _ _))); intro v194 w176 ho177 hb hg_ hnew_; clear hg_ hnew_; (first | rw [← Ny193.out] at ho177 | (simp only [Int.reduceToNat] at ho177; rw [← Ny193.out] at ho177)); replace HO175 := Aside0.mk (Kd.R_below (rp_ HO175.out) hb); replace HO181 := Aside0.mk (Kd.R_below (rp_ HO181.out) hb); have HO195 := Aside0.mk (Kd.R_lower (Kd.R_new' (Kd.R_new' ho177 (Kd.R_lt (rp_ HO186.out))) (Kd.R_lt (rp_ HO192.out))) (below_size bp_)); replace HO186 := Aside0.mk (Kd.R_elder' (rp_ HO186.out) (Kd.R_base ho177) hb); replace HO192 := Aside0.mk (Kd.R_elder' (rp_ HO192.out) (Kd.R_base ho177) hb); replace HB := Aside0.mk (below_step bp_ hb); clear hb ho177; obtain ⟨Ao178, co178, eo178⟩ := Kd.R_slice HO186.out; subst eo178; obtain ⟨Ao179, co179, eo179⟩ := Kd.R_slice HO195.out; subst eo179) | ((with_reducible refine gate_callee (f := 13) rfl ?_); refine goQ_ (some 81) Try.func13 #[.slice Ao178 t182.length co178, .slice Ao179 y193.length co179] ?_; (with_reducible refine (chequerref01_Same.calls k1 _ _ t182 _ _ y193 true _ ?side1 ?side2 ?side3 ?side4 A29.out).mono ?_); (case side1 => exact cp_ (Kd.R_reads' HO186.out).2.2); (case side2 => exact (Kd.R_reads' HO186.out).2.1); (case side3 => exact cp_ (Kd.R_reads' HO195.out).2.2); (case side4 => exact (Kd.R_reads' HO195.out).2.1); rintro e w' ⟨rfl, ⟨nd, rfl⟩⟩; refine ⟨_, rfl, ?_⟩))
                         go_ret
                         exact ⟨by first | rfl | (simp [errW_none, errW_some] <;> rfl) | (simp [*, errW_none, errW_some] <;> rfl), bp_⟩
                     · replace c30 := Bool.eq_false_iff.mpr c30
                       subst c30
                       have H1 : (some false) = some r := by rw [if_neg (show ¬ (false = true) by decide)] at H; exact H
                       clear H
                       have H := H1
                       clear H1
                       obtain rfl := Option.some.inj H
                       try go_wp2_with (first | ((with_reducible refine gate_dst (N := 45) rfl ?_); (try (refine gate_guard (by rfl) ?_; dsimp only)); refine Kd.R_lit (Kd.int .u8) _ 5 ?hg (N := 45) ?hd (xs := ([9, 10, 11, 12, 13, 32] : List Int)) (inner := [.int .u8 9, .int .u8 10, .int .u8 11, .int .u8 12, .int .u8 13, .int .u8 32]) (ok := fun _ => True) (okp := fun _ => True) ?hr ?hp (fun _ hk => hk) trivial (Below.refl _ _) (Nat.le_refl _) (by simp) ?_; (case hd => rfl); (case hg => rfl); (case hr => first | (go_simp; done) | (go_simp; rfl)); (case hp => exact (Reps.one (show Kd.M (Kd.int .u8) _ _ _ 9 [.int .u8 9] from rfl) (Reps.one (show Kd.M (Kd.int .u8) _ _ _ 10 [.int .u8 10] from rfl) (Reps.one (show Kd.M (Kd.int .u8) _ _ _ 11 [.int .u8 11] from rfl) (Reps.one (show Kd.M (Kd.int .u8) _ _ _ 12 [.int .u8 12] from rfl) (Reps.one (show Kd.M (Kd.int .u8) _ _ _ 13 [.int .u8 13] from rfl) (Reps.one (show Kd.M (Kd.int .u8) _ _ _ 32 [.int .u8 32] from rfl) (Reps.none _ _)))))))); intro v174 w180 ho181 hb hg_ hnew_; clear hg_ hnew_; (first | rw [← Ny173.out] at ho181 | (simp only [Int.reduceToNat] at ho181; rw [← Ny173.out] at ho181)); have HO175 := Aside0.mk (Kd.R_lower ho181 (below_size bp_)); replace HB := Aside0.mk (below_step bp_ hb); clear hb ho181) | ((with_reducible refine gate_callee (f := 10) rfl ?_); refine goQ_ (some 47) Try.func10 #[.int .i64 a2, .int .i64 6] ?_; (with_reducible refine (chequerref01_Around.calls a2 6 t176 _ A16.out).mono ?_); rintro e w' ⟨rfl, ⟨nd, rfl⟩⟩; refine ⟨_, rfl, ?_⟩; obtain ⟨Ao182, co182, eo182⟩ := Kd.R_slice HO175.out; subst eo182; have p177 : 0 ≤ (t176 : Int) := of_decide_eq_true (by first | (with_reducible assumption) | assumption); have q177 : t176 < (y173.length : Int) := of_decide_eq_true (by first | (with_reducible assumption) | assumption); obtain ⟨ad177, e177, hx177_0⟩ := Kd.at_int (Kd.R_reads' HO175.out).2.2 t176 p177 q177; cases e177; replace p177 := eq_true p177; replace q177 := eq_true q177))
                       (try (rw [drewN_self w180]; generalize hq_ : World.drewN w180 _ = w180; have n0_ := Aside0.mk (qrp_ hq_ HO175.out); have n1_ : Aside0 (Below w.heap.size w w180) := ⟨qbp_ hq_⟩; clear HO175 HB hq_; have HO175 := n0_; have HB := n1_; clear n0_ n1_))
                       replace HO175 := Aside0.mk (Kd.R_drew HO175.out)
                       replace HB := Aside0.mk (below_drew1 HB.out)
                       refine start_ (n := 11) (S := fun w' => True) (ds := []) Fl3 (by kernel_rfl) rfl rfl trivial (fun hHeld => ?_); refine with_tabW chequerlaw05_TokenRemarks.tab10 chequerlaw05_TokenRemarks.bits10 (fun HT_ HW_ => ?_)
                       generalize w180.drew = w183 at HO175 HB hHeld ⊢
                       refine pur_ (i := 0) (N := some 50) Fl4 (any_of HT_.out (by kernel_rfl)) ?_
                       refine pur_ (i := 1) (N := some 51) Fl5 (any_of HT_.out (by kernel_rfl)) ?_
                       refine pur_ (i := 2) (N := some 52) Fl6 (any_of HT_.out (by kernel_rfl)) ?_
                       refine pur_ (i := 3) (N := some 53) Fl7 (any_of HT_.out (by kernel_rfl)) ?_
                       refine pur_ (i := 6) (N := some 56) Fl8 (any_of HT_.out (by kernel_rfl)) ?_
                       refine join_ (σ := Value) 2 Fl1 (fun s_ => [(54, .string t178), (57, s_), (58, .string (strOfNums y179)), (55, .string ((((⟨#[32]⟩ : ByteArray) ++ x8_1) ++ (⟨#[10, 9]⟩ : ByteArray)) ++ t178))]) (fun s_ w' => (Kd.R (Kd.int .u8) 5 w' w.heap.size (fun k_ => some k_ ≠ (s_ : Value).ownBlock) (.slice (some ad177) y173.length co182) y173) ∧ (Kd.R (Kd.int .u8) 5 w' w.heap.size (fun k_ => some k_ ≠ (.slice (some ad177) y173.length co182 : Value).ownBlock) s_ y179) ∧ (Below w.heap.size w w')) ?_ ?_
                       rotate_left
                       · intro hCont
                         refine two_ (i := 4) (j := 7) (Ni := some 54) (Nj := some 57) Fl11 Fl9 rfl rfl rfl rfl (two_of HT_.out (by kernel_rfl)) (by decide) (by decide) (fun K hK => ?_) (fun K hK => ?_)
                         · skip
                           refine goes_ Try.func11 (by kernel_rfl) rfl #[.int .i64 t171] (by rfl) rfl rfl (by (try simp only [List.map_toArray, List.map_cons, List.map_nil]); first | done | rfl | (simp only [List.length_drop, List.length_take]; rfl)) ?_
                           with_reducible refine (chequerref01_Decimal.calls k1 t171 t178 _ A21.out).mono ?_
                           rintro e w184 ⟨rfl, hb⟩
                           refine ⟨_, rfl, ?_⟩
                           replace HO175 := Aside0.mk (Kd.R_below (rp_ HO175.out) hb)
                           replace HB := Aside0.mk (below_step bp_ hb)
                           (try clear hb)
                           (try clear hb2)
                           (try clear hk)
                           (try clear hi)
                           refine hK.out _ _ trivial (fun hHeld => ?_)
                           clear hK K
                           refine norm_ (a' := ?_) ?_ ?_
                           rotate_left
                           · show Act.put _ (some 54) _ = _
                             simp only [Act.put, List.setIfInBounds_toArray, List.set_cons_zero, List.set_cons_succ, i64_w, i32_w]
                             rfl
                           refine pur_ (i := 5) (N := some 55) Fl14 (any_of HT_.out (by kernel_rfl)) ?_
                           refine one_ (i := 7) (N := some 57) Fl2 rfl rfl (one_of HT_.out (by kernel_rfl)) (by decide) (fun K hK => ?_)
                           refine Kd.R_lit_step (Kd.int .u8) _ 5 ?hg (N := 57) ?hd (xs := ([rd y173 t176] : List Int)) (inner := [.int .u8 (rd y173 t176)]) (ok := fun _ => True) (okp := fun _ => True) ?hr ?hp (fun _ hk => hk) trivial (Below.refl _ _) (Nat.le_refl _) (by simp) ?_; (case hd => rfl); (case hg => rfl); (case hr => first | (go_simp; done) | (go_simp; rfl)); (case hp => exact (Reps.one (show Kd.M (Kd.int .u8) _ _ _ (rd y173 t176) [.int .u8 (rd y173 t176)] from rfl) (Reps.none _ _)))
                           intro v180 w185 ho186 hb hg_ hnew_
                           clear hg_ hnew_
                           (first | rw [← Ny179.out] at ho186 | (simp only [Int.reduceToNat] at ho186; rw [← Ny179.out] at ho186))
                           have HO181 := Aside0.mk (Kd.R_lower (Kd.R_new' ho186 (Kd.R_lt (rp_ HO175.out))) (below_size bp_))
                           replace HO175 := Aside0.mk (Kd.R_elder' (rp_ HO175.out) (Kd.R_base ho186) hb)
                           replace HB := Aside0.mk (below_step bp_ hb)
                           clear hb ho186
                           refine hK.out _ _ trivial (fun hHeld => ?_)
                           clear hK K
                           refine norm_ (a' := ?_) ?_ ?_
                           rotate_left
                           · show Act.put _ (some 57) _ = _
                             simp only [Act.put, List.setIfInBounds_toArray, List.set_cons_zero, List.set_cons_succ, i64_w, i32_w]
                             rfl
                           refine one_ (i := 8) (N := some 58) Fl1 rfl rfl (one_of HT_.out (by kernel_rfl)) (by decide) (fun K hK => ?_)
                           have hcv187 := own_string (P := Try.prog) Try.underlying24 Try.underlying5 Try.underlying9 (Kd.own_of_R HO181.out)
                           refine value_ (w1 := ?_) (v := ?_) (by rfl) rfl ?_ ?_
                           rotate_left 2
                           · go_simp
                             constructor
                             · rfl
                             · rfl
                           clear hcv187
                           refine hK.out _ _ trivial (fun hHeld => ?_)
                           clear hK K
                           refine norm_ (a' := ?_) ?_ ?_
                           rotate_left
                           · show Act.put _ (some 58) _ = _
                             simp only [Act.put, List.setIfInBounds_toArray, List.set_cons_zero, List.set_cons_succ, i64_w, i32_w]
                             rfl
                           exact norm_ (by simp only [putAll, Act.put, List.setIfInBounds_toArray, List.set_cons_zero, List.set_cons_succ]) (hCont (v180) _ ⟨(by (with_reducible repeat (first | apply Kd.R_alloc | apply Kd.R_drewN | apply Kd.R_drew)); exact Kd.R_mono HO175.out (fun _ hk => hk.2)), (by (with_reducible repeat (first | apply Kd.R_alloc | apply Kd.R_drewN | apply Kd.R_drew)); exact Kd.R_mono HO181.out (fun _ hk => hk.2)), bp_⟩)
                         · skip
                           refine Kd.R_lit_step (Kd.int .u8) _ 5 ?hg (N := 57) ?hd (xs := ([rd y173 t176] : List Int)) (inner := [.int .u8 (rd y173 t176)]) (ok := fun _ => True) (okp := fun _ => True) ?hr ?hp (fun _ hk => hk) trivial (Below.refl _ _) (Nat.le_refl _) (by simp) ?_; (case hd => rfl); (case hg => rfl); (case hr => first | (go_simp; done) | (go_simp; rfl)); (case hp => exact (Reps.one (show Kd.M (Kd.int .u8) _ _ _ (rd y173 t176) [.int .u8 (rd y173 t176)] from rfl) (Reps.none _ _)))
                           intro v180 w184 ho185 hb hg_ hnew_
                           clear hg_ hnew_
                           (first | rw [← Ny179.out] at ho185 | (simp only [Int.reduceToNat] at ho185; rw [← Ny179.out] at ho185))
                           have HO181 := Aside0.mk (Kd.R_lower (Kd.R_new' ho185 (Kd.R_lt (rp_ HO175.out))) (below_size bp_))
                           replace HO175 := Aside0.mk (Kd.R_elder' (rp_ HO175.out) (Kd.R_base ho185) hb)
                           replace HB := Aside0.mk (below_step bp_ hb)
                           clear hb ho185
                           refine hK.out _ _ trivial (fun hHeld => ?_)
                           clear hK K
                           refine norm_ (a' := ?_) ?_ ?_
                           rotate_left
                           · show Act.put _ (some 57) _ = _
                             simp only [Act.put, List.setIfInBounds_toArray, List.set_cons_zero, List.set_cons_succ, i64_w, i32_w]
                             rfl
                           refine two_ (i := 4) (j := 8) (Ni := some 54) (Nj := some 58) Fl12 Fl10 rfl rfl rfl rfl (two_of HT_.out (by kernel_rfl)) (by decide) (by decide) (fun K hK => ?_) (fun K hK => ?_)
                           · skip
                             refine goes_ Try.func11 (by kernel_rfl) rfl #[.int .i64 t171] (by rfl) rfl rfl (by (try simp only [List.map_toArray, List.map_cons, List.map_nil]); first | done | rfl | (simp only [List.length_drop, List.length_take]; rfl)) ?_
                             with_reducible refine (chequerref01_Decimal.calls k1 t171 t178 _ A21.out).mono ?_
                             rintro e w186 ⟨rfl, hb⟩
                             refine ⟨_, rfl, ?_⟩
                             replace HO175 := Aside0.mk (Kd.R_below (rp_ HO175.out) hb)
                             replace HO181 := Aside0.mk (Kd.R_below (rp_ HO181.out) hb)
                             replace HB := Aside0.mk (below_step bp_ hb)
                             (try clear hb)
                             (try clear hb2)
                             (try clear hk)
                             (try clear hi)
                             refine hK.out _ _ trivial (fun hHeld => ?_)
                             clear hK K
                             refine norm_ (a' := ?_) ?_ ?_
                             rotate_left
                             · show Act.put _ (some 54) _ = _
                               simp only [Act.put, List.setIfInBounds_toArray, List.set_cons_zero, List.set_cons_succ, i64_w, i32_w]
                               rfl
                             refine pur_ (i := 5) (N := some 55) Fl2 (any_of HT_.out (by kernel_rfl)) ?_
                             refine one_ (i := 8) (N := some 58) Fl1 rfl rfl (one_of HT_.out (by kernel_rfl)) (by decide) (fun K hK => ?_)
                             have hcv187 := own_string (P := Try.prog) Try.underlying24 Try.underlying5 Try.underlying9 (Kd.own_of_R HO181.out)
                             refine value_ (w1 := ?_) (v := ?_) (by rfl) rfl ?_ ?_
                             rotate_left 2
                             · go_simp
                               constructor
                               · rfl
                               · rfl
                             clear hcv187
                             refine hK.out _ _ trivial (fun hHeld => ?_)
                             clear hK K
                             refine norm_ (a' := ?_) ?_ ?_
                             rotate_left
                             · show Act.put _ (some 58) _ = _
                               simp only [Act.put, List.setIfInBounds_toArray, List.set_cons_zero, List.set_cons_succ, i64_w, i32_w]
                               rfl
                             exact norm_ (by simp only [putAll, Act.put, List.setIfInBounds_toArray, List.set_cons_zero, List.set_cons_succ]) (hCont (v180) _ ⟨(by (with_reducible repeat (first | apply Kd.R_alloc | apply Kd.R_drewN | apply Kd.R_drew)); exact Kd.R_mono HO175.out (fun _ hk => hk.2)), (by (with_reducible repeat (first | apply Kd.R_alloc | apply Kd.R_drewN | apply Kd.R_drew)); exact Kd.R_mono HO181.out (fun _ hk => hk.2)), bp_⟩)
                           · skip
                             have hcv186 := own_string (P := Try.prog) Try.underlying24 Try.underlying5 Try.underlying9 (Kd.own_of_R HO181.out)
                             refine value_ (w1 := ?_) (v := ?_) (by rfl) rfl ?_ ?_
                             rotate_left 2
                             · go_simp
                               constructor
                               · rfl
                               · rfl
                             clear hcv186
                             refine hK.out _ _ trivial (fun hHeld => ?_)
                             clear hK K
                             refine norm_ (a' := ?_) ?_ ?_
                             rotate_left
                             · show Act.put _ (some 58) _ = _
                               simp only [Act.put, List.setIfInBounds_toArray, List.set_cons_zero, List.set_cons_succ, i64_w, i32_w]
                               rfl
                             refine one_ (i := 4) (N := some 54) Fl13 rfl rfl (one_of HT_.out (by kernel_rfl)) (by decide) (fun K hK => ?_)
                             refine goes_ Try.func11 (by kernel_rfl) rfl #[.int .i64 t171] (by rfl) rfl rfl (by (try simp only [List.map_toArray, List.map_cons, List.map_nil]); first | done | rfl | (simp only [List.length_drop, List.length_take]; rfl)) ?_
                             with_reducible refine (chequerref01_Decimal.calls k1 t171 t178 _ A21.out).mono ?_
                             rintro e w187 ⟨rfl, hb⟩
                             refine ⟨_, rfl, ?_⟩
                             replace HO175 := Aside0.mk (Kd.R_below (rp_ HO175.out) hb)
                             replace HO181 := Aside0.mk (Kd.R_below (rp_ HO181.out) hb)
                             replace HB := Aside0.mk (below_step bp_ hb)
                             (try clear hb)
                             (try clear hb2)
                             (try clear hk)
                             (try clear hi)
                             refine hK.out _ _ trivial (fun hHeld => ?_)
                             clear hK K
                             refine norm_ (a' := ?_) ?_ ?_
                             rotate_left
                             · show Act.put _ (some 54) _ = _
                               simp only [Act.put, List.setIfInBounds_toArray, List.set_cons_zero, List.set_cons_succ, i64_w, i32_w]
                               rfl
                             refine pur_ (i := 5) (N := some 55) Fl1 (any_of HT_.out (by kernel_rfl)) ?_
                             exact norm_ (by simp only [putAll, Act.put, List.setIfInBounds_toArray, List.set_cons_zero, List.set_cons_succ]) (hCont (v180) _ ⟨(by (with_reducible repeat (first | apply Kd.R_alloc | apply Kd.R_drewN | apply Kd.R_drew)); exact Kd.R_mono HO175.out (fun _ hk => hk.2)), (by (with_reducible repeat (first | apply Kd.R_alloc | apply Kd.R_drewN | apply Kd.R_drew)); exact Kd.R_mono HO181.out (fun _ hk => hk.2)), bp_⟩)
                       rintro v180 w188 ⟨h0_, h1_, h2_⟩
                       replace HO175 : Aside0 (Kd.R (Kd.int .u8) 5 w188 w.heap.size (fun k_ => some k_ ≠ (v180 : Value).ownBlock) (.slice (some ad177) y173.length co182) y173) := ⟨h0_⟩
                       have HO181 : Aside0 (Kd.R (Kd.int .u8) 5 w188 w.heap.size (fun k_ => some k_ ≠ (.slice (some ad177) y173.length co182 : Value).ownBlock) v180 y179) := ⟨h1_⟩
                       replace HB : Aside0 (Below w.heap.size w w188) := ⟨h2_⟩
                       clear h0_ h1_ h2_
                       have hHeld := trivial
                       refine norm_ (a' := ?_) ?_ ?_
                       rotate_left
                       · simp only [putAll, Act.put, List.setIfInBounds_toArray, List.set_cons_zero, List.set_cons_succ]
                         rfl
                       refine pur_ (i := 9) (N := some 59) Fl15 (any_of HT_.out (by kernel_rfl)) ?_
                       refine pur_ (i := 10) (N := some 11) Fl16 (any_of HT_.out (by kernel_rfl)) ?_
                       refine done_ (done_of HT_.out (by kernel_rfl)) ?_
                       try go_wp2_with (first | ((with_reducible refine gate_callee (f := 12) rfl ?_); refine goQ_ (some 63) Try.func12 #[.string (((((⟨#[32]⟩ : ByteArray) ++ x8_1) ++ (⟨#[10, 9]⟩ : ByteArray)) ++ t178) ++ (strOfNums y179)), .int .i64 t171] ?_; (with_reducible refine (token_All.calls (((((⟨#[32]⟩ : ByteArray) ++ x8_1) ++ (⟨#[10, 9]⟩ : ByteArray)) ++ t178) ++ (strOfNums y179)) t171 t182 t183 t184 _ A24.out).mono ?_); rintro e w189 ⟨v185, rfl, ho0, hb⟩; refine ⟨_, rfl, ?_⟩; replace HO175 := Aside0.mk (Kd.R_below (rp_ HO175.out) hb); replace HO181 := Aside0.mk (Kd.R_below (rp_ HO181.out) hb); have HO186 := Aside0.mk (Kd.R_lower ho0 (below_size bp_)); replace HB := Aside0.mk (below_step bp_ hb); (try clear hb); (try clear hb2); (try clear hk); (try clear hi); (try clear ho0)) | ((with_reducible refine gate_callee (f := 11) rfl ?_); refine goQ_ (some 69) Try.func11 #[.int .i64 t171] ?_; (with_reducible refine (chequerref01_Decimal.calls k1 t171 t187 _ A25.out).mono ?_); rintro e w190 ⟨rfl, hb⟩; refine ⟨_, rfl, ?_⟩; replace HO175 := Aside0.mk (Kd.R_below (rp_ HO175.out) hb); replace HO181 := Aside0.mk (Kd.R_below (rp_ HO181.out) hb); replace HO186 := Aside0.mk (Kd.R_below (rp_ HO186.out) hb); replace HB := Aside0.mk (below_step bp_ hb); (try clear hb); (try clear hb2); (try clear hk); (try clear hi)) | ((with_reducible refine gate_callee (f := 12) rfl ?_); refine goQ_ (some 74) Try.func12 #[.string ((t187 ++ x8_1) ++ (⟨#[13]⟩ : ByteArray)), .int .i64 t171] ?_; (with_reducible refine (token_All.calls ((t187 ++ x8_1) ++ (⟨#[13]⟩ : ByteArray)) t171 t188 t189 t190 _ A28.out).mono ?_); rintro e w191 ⟨v191, rfl, ho0, hb⟩; refine ⟨_, rfl, ?_⟩; replace HO175 := Aside0.mk (Kd.R_below (rp_ HO175.out) hb); replace HO181 := Aside0.mk (Kd.R_below (rp_ HO181.out) hb); have HO192 := Aside0.mk (Kd.R_lower (Kd.R_new' ho0 (Kd.R_lt (rp_ HO186.out))) (below_size bp_)); replace HO186 := Aside0.mk (Kd.R_elder' (rp_ HO186.out) (Kd.R_base ho0) hb); replace HB := Aside0.mk (below_step bp_ hb); (try clear hb); (try clear hb2); (try clear hk); (try clear hi); (try clear ho0)) | ((with_reducible refine gate_dst (N := 80) rfl ?_); (try (refine gate_guard (by rfl) ?_; dsimp only)); refine Kd.R_lit (Kd.int .i64) _ 3 ?hg (N := 80) ?hd (xs := ([t171] : List Int)) (inner := [.int .i64 t171]) (ok := fun _ => True) (okp := fun _ => True) ?hr ?hp (fun _ hk => hk) trivial (Below.refl _ _) (Nat.le_refl _) (by simp) ?_; (case hd => rfl); (case hg => rfl); (case hr => first | (go_simp; done) | (go_simp; rfl)); (case hp => exact (Reps.one (show Kd.M (Kd.int .i64) _ _ _ t171 [.int .i64 t171] from rfl) (Reps.none _ _))); intro v194 w192 ho193 hb hg_ hnew_; clear hg_ hnew_; (first | rw [← Ny193.out] at ho193 | (simp only [Int.reduceToNat] at ho193; rw [← Ny193.out] at ho193)); replace HO175 := Aside0.mk (Kd.R_below (rp_ HO175.out) hb); replace HO181 := Aside0.mk (Kd.R_below (rp_ HO181.out) hb); have HO195 := Aside0.mk (Kd.R_lower (Kd.R_new' (Kd.R_new' ho193 (Kd.R_lt (rp_ HO186.out))) (Kd.R_lt (rp_ HO192.out))) (below_size bp_)); replace HO186 := Aside0.mk (Kd.R_elder' (rp_ HO186.out) (Kd.R_base ho193) hb); replace HO192 := Aside0.mk (Kd.R_elder' (rp_ HO192.out) (Kd.R_base ho193) hb); replace HB := Aside0.mk (below_step bp_ hb); clear hb ho193; obtain ⟨Ao194, co194, eo194⟩ := Kd.R_slice HO186.out; subst eo194; obtain ⟨Ao195, co195, eo195⟩ := Kd.R_slice HO195.out; subst eo195) | ((with_reducible refine gate_callee (f := 13) rfl ?_); refine goQ_ (some 81) Try.func13 #[.slice Ao194 t182.length co194, .slice Ao195 y193.length co195] ?_; (with_reducible refine (chequerref01_Same.calls k1 _ _ t182 _ _ y193 false _ ?side1 ?side2 ?side3 ?side4 A29.out).mono ?_); (case side1 => exact cp_ (Kd.R_reads' HO186.out).2.2); (case side2 => exact (Kd.R_reads' HO186.out).2.1); (case side3 => exact cp_ (Kd.R_reads' HO195.out).2.2); (case side4 => exact (Kd.R_reads' HO195.out).2.1); rintro e w' ⟨rfl, ⟨nd, rfl⟩⟩; refine ⟨_, rfl, ?_⟩))
                       go_ret
                       exact ⟨by first | rfl | (simp [errW_none, errW_some] <;> rfl) | (simp [*, errW_none, errW_some] <;> rfl), bp_⟩
                   · rw [if_neg c27] at H
                     exact absurd H (by simp)
                 · rw [if_neg c26] at H
                   exact absurd H (by simp)
               · rw [if_neg c23] at H
                 exact absurd H (by simp)
             · rw [if_neg c22] at H
               exact absurd H (by simp)
           · rw [if_neg c20] at H
             exact absurd H (by simp)
         · rw [if_neg c19] at H
           exact absurd H (by simp)
       · rw [if_neg c18] at H
         exact absurd H (by simp)
     · rw [if_neg c17] at H
       exact absurd H (by simp)

/-- THE ONE PURE STATEMENT of chequerlaw05_TokenRemarks. -/
def chequerlaw05_TokenRemarks.Pure : Prop := ∀ (a0 : Int) (a1 : ByteArray) (a2 : Int), (Lit.int .i64 a0).wf = true → a1.size ≤ 140737488351232 → (Lit.int .i64 a2).wf = true → ∃ k, chequerlaw05_TokenRemarks.f k a0 a1 a2 = some true
theorem chequerlaw05_TokenRemarks.walk (P : chequerlaw05_TokenRemarks.Pure) (a0 : Int) (a1 : ByteArray) (a2 : Int) (w : World) (w0 : (Lit.int .i64 a0).wf = true) (w1 : a1.size ≤ 140737488351232) (w2 : (Lit.int .i64 a2).wf = true) :
 Calls Try.prog 3 #[.int .i64 a0, .string a1, .int .i64 a2] w fun e w' => e = .returned (.bool true) ∧ Below w.heap.size w w' := by
 obtain ⟨k, h⟩ := P a0 a1 a2 w0 w1 w2
 refine (chequerlaw05_TokenRemarks.calls k a0 a1 a2 true w h).mono ?_
 rintro e w' ⟨rfl, hd⟩
 exact ⟨rfl, hd⟩

end Go.Proofs.Ytbbgichpbjgifaa.Q
