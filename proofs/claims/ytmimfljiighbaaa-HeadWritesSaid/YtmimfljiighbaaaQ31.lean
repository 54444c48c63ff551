-- written by our own program (wip/tools/myprint.py) out of the translation, by the kit's print; Lean checks it
import Derived.Test.YtmimfljiighbaaaQ0
import Derived.Test.YtmimfljiighbaaaIhead_May
import Derived.Test.YtmimfljiighbaaaInum_Decimal
namespace Go.Proofs.Ytmimfljiighbaaa.Q
open Go.RowKit Go.Proofs.YtmimfljiighbaaaW.PrintWords Go.Proofs.YtmimfljiighbaaaW.PrintLast Go.Proofs.YtmimfljiighbaaaW.PrintMore
attribute [local go_sem] max2_int min2_int max_two min_two max_three min_three max_four min_four   -- for this text's walks alone
set_option linter.unusedVariables false
set_option linter.unusedSimpArgs false

/-! ### head_bits: function 41 -/
def head_bits.f (a0_0 : Int) (a0_1 : Int) (a0_2 : Int) (a0_3 : Int) : Option (Bool) := if a0_0 = 1 then (some true) else (some (a0_0 == 4))
set_option maxHeartbeats 8000000 in
set_option maxRecDepth 100000 in
theorem head_bits.calls (a0_0 : Int) (a0_1 : Int) (a0_2 : Int) (a0_3 : Int) (r : Bool) (w : World) (h : head_bits.f a0_0 a0_1 a0_2 a0_3 = some r) :
    Calls Try.prog 41 #[.agg #[.int .i64 a0_0, .int .i64 a0_1, .int .i64 a0_2, .int .i64 a0_3]] w fun e w' => e = .returned (.bool r) ∧ Below w.heap.size w w' := by
  have hu36 := Try.underlying36
  have HB := Aside0.mk (Below.refl w.heap.size w)
  have H : (if a0_0 = 1 then (some true) else (some (a0_0 == 4))) = some r := h
  clear h
  by_cases c2 : a0_0 = 1
  · rw [if_pos c2] at H
    have c2b0 : (a0_0 == 1) = true := beq_iff_eq.mpr c2
    have c2b1 : (a0_0 != 1) = false := bne_eq_false_iff_eq.mpr c2
    clear c2
    obtain rfl := Option.some.inj H
    go_enter Try.func41, Try.ntmps41
    go_wp2_with (first | ((with_reducible refine gate_dst (N := 1) rfl ?_); refine box_event ?hg (N := 1) ?hd (cs := #[.int .i64 a0_0, .int .i64 a0_1, .int .i64 a0_2, .int .i64 a0_3]) (t := 36) ?hr ?_; (case hd => rfl); (case hg => rfl); (case hr => first | (go_simp; done) | (go_simp; rfl)); intro gb483 hg w3 hbox hb; have n0_ := Aside0.mk (below_step (by repeat (first | (with_reducible first | exact HB.out | apply below_alloc | apply pw_below_drewN | apply below_drew1) | exact HB.out)) hb); have n1_ := Aside0.mk (hbox); have n2_ := Aside0.mk ((by rw [hg]; exact (below_size (by repeat (first | (with_reducible first | exact HB.out | apply below_alloc | apply pw_below_drewN | apply below_drew1) | exact HB.out))) : w.heap.size ≤ gb483)); have n3_ := Aside0.mk ((by rw [hg]; exact (below_size (by repeat (first | (with_reducible first | exact HB.out | apply below_alloc | apply pw_below_drewN | apply below_drew1) | exact HB.out))) : w.heap.size ≤ gb483)); clear HB; have HB := n0_; have BK483 := n1_; have GW483 := n2_; have GE483 := n3_; clear n0_ n1_ n2_ n3_; clear hb hbox hg; have hcz4_0 : w3.cell? ⟨gb483, 0, none⟩ = some (.int .i64 a0_0) := (blk_cell BK483.out 0).trans rfl; have hcz4_1 : w3.cell? ⟨gb483, 1, none⟩ = some (.int .i64 a0_1) := (blk_cell BK483.out 1).trans rfl; have hcz4_2 : w3.cell? ⟨gb483, 2, none⟩ = some (.int .i64 a0_2) := (blk_cell BK483.out 2).trans rfl; have hcz4_3 : w3.cell? ⟨gb483, 3, none⟩ = some (.int .i64 a0_3) := (blk_cell BK483.out 3).trans rfl; have hfz4_0 := blk_frozen BK483.out 0; have hfz4_1 := blk_frozen BK483.out 1; have hfz4_2 := blk_frozen BK483.out 2; have hfz4_3 := blk_frozen BK483.out 3))
    go_ret
    exact ⟨by first | rfl | (simp [errW_none, errW_some] <;> rfl) | (simp [*, errW_none, errW_some] <;> rfl), by repeat (first | (with_reducible first | exact HB.out | apply below_alloc | apply pw_below_drewN | apply below_drew1 | refine below_set ?_ GE483.out) | exact HB.out)⟩
  · rw [if_neg c2] at H
    have c2b0 : (a0_0 == 1) = false := beq_eq_false_iff_ne.mpr c2
    have c2b1 : (a0_0 != 1) = true := bne_iff_ne.mpr c2
    obtain rfl := Option.some.inj H
    go_enter Try.func41, Try.ntmps41
    go_wp2_with (first | ((with_reducible refine gate_dst (N := 1) rfl ?_); refine box_event ?hg (N := 1) ?hd (cs := #[.int .i64 a0_0, .int .i64 a0_1, .int .i64 a0_2, .int .i64 a0_3]) (t := 36) ?hr ?_; (case hd => rfl); (case hg => rfl); (case hr => first | (go_simp; done) | (go_simp; rfl)); intro gb483 hg w5 hbox hb; have n0_ := Aside0.mk (below_step (by repeat (first | (with_reducible first | exact HB.out | apply below_alloc | apply pw_below_drewN | apply below_drew1) | exact HB.out)) hb); have n1_ := Aside0.mk (hbox); have n2_ := Aside0.mk ((by rw [hg]; exact (below_size (by repeat (first | (with_reducible first | exact HB.out | apply below_alloc | apply pw_below_drewN | apply below_drew1) | exact HB.out))) : w.heap.size ≤ gb483)); have n3_ := Aside0.mk ((by rw [hg]; exact (below_size (by repeat (first | (with_reducible first | exact HB.out | apply below_alloc | apply pw_below_drewN | apply below_drew1) | exact HB.out))) : w.heap.size ≤ gb483)); clear HB; have HB := n0_; have BK483 := n1_; have GW483 := n2_; have GE483 := n3_; clear n0_ n1_ n2_ n3_; clear hb hbox hg; have hcz6_0 : w5.cell? ⟨gb483, 0, none⟩ = some (.int .i64 a0_0) := (blk_cell BK483.out 0).trans rfl; have hcz6_1 : w5.cell? ⟨gb483, 1, none⟩ = some (.int .i64 a0_1) := (blk_cell BK483.out 1).trans rfl; have hcz6_2 : w5.cell? ⟨gb483, 2, none⟩ = some (.int .i64 a0_2) := (blk_cell BK483.out 2).trans rfl; have hcz6_3 : w5.cell? ⟨gb483, 3, none⟩ = some (.int .i64 a0_3) := (blk_cell BK483.out 3).trans rfl; have hfz6_0 := blk_frozen BK483.out 0; have hfz6_1 := blk_frozen BK483.out 1; have hfz6_2 := blk_frozen BK483.out 2; have hfz6_3 := blk_frozen BK483.out 3))
    go_ret
    exact ⟨by first | rfl | (simp [errW_none, errW_some] <;> rfl) | (simp [*, errW_none, errW_some] <;> rfl), by repeat (first | (with_reducible first | exact HB.out | apply below_alloc | apply pw_below_drewN | apply below_drew1 | refine below_set ?_ GE483.out) | exact HB.out)⟩

abbrev Fl132 : Array Bool := #[false, false, false, false, false, false, false, false, false, false, false, false, false, false, false, false]
abbrev Fl133 : Array Bool := #[true, false, false, false, false, false, false, false, false, false, false, false, false, false, false, false]
abbrev Fl134 : Array Bool := #[true, false, false, false, false, true, false, false, false, false, false, false, false, false, false, false]
abbrev Fl135 : Array Bool := #[true, false, false, false, false, true, false, false, false, false, true, false, false, false, false, false]
abbrev Fl136 : Array Bool := #[true, true, false, false, false, true, false, false, false, false, true, false, false, false, false, false]
abbrev Fl137 : Array Bool := #[true, true, false, false, false, true, true, false, false, false, true, false, false, false, false, false]
abbrev Fl138 : Array Bool := #[true, true, false, false, false, true, true, false, false, false, true, true, false, false, false, false]
abbrev Fl139 : Array Bool := #[true, true, true, false, false, true, true, false, false, false, true, true, false, false, false, false]
abbrev Fl140 : Array Bool := #[true, true, true, true, false, true, true, false, false, false, true, true, false, false, false, false]
abbrev Fl141 : Array Bool := #[true, true, true, true, true, true, true, false, false, false, true, true, false, false, false, false]
abbrev Fl142 : Array Bool := #[true, true, true, true, true, true, true, true, false, false, true, true, false, false, false, false]
abbrev Fl143 : Array Bool := #[true, true, true, true, true, true, true, true, true, false, true, true, false, false, false, false]
abbrev Fl144 : Array Bool := #[true, true, true, true, true, true, true, true, true, true, true, true, false, false, false, false]
abbrev Fl145 : Array Bool := #[true, true, true, true, true, true, true, true, true, true, true, true, true, false, false, false]
abbrev Fl146 : Array Bool := #[true, true, true, true, true, true, true, true, true, true, true, true, true, true, false, false]
abbrev Fl147 : Array Bool := #[true, true, true, true, true, true, true, true, true, true, true, true, true, true, true, false]
abbrev Fl148 : Array Bool := #[true, true, true, true, true, true, true, true, true, true, true, true, true, true, true, true]
/-! ### head_Write: function 29 -/
def head_Write.f (a0_0 : Int) (a0_1 : Int) (a0_2 : Int) (a0_3 : Int) : Option (ByteArray × Int) := (head_May.f a0_0 a0_1 a0_2 a0_3).bind fun t485 => (if t485 = true then ((num_Decimal.f a0_0).bind fun t486 => (if 1 + t486.size ≤ 9223372036854775807 then (if ((⟨#[80]⟩ : ByteArray) ++ t486).size + 1 ≤ 9223372036854775807 then ((num_Decimal.f a0_1).bind fun t487 => (if (((⟨#[80]⟩ : ByteArray) ++ t486) ++ (⟨#[10]⟩ : ByteArray)).size + t487.size ≤ 9223372036854775807 then (if ((((⟨#[80]⟩ : ByteArray) ++ t486) ++ (⟨#[10]⟩ : ByteArray)) ++ t487).size + 1 ≤ 9223372036854775807 then ((num_Decimal.f a0_2).bind fun t488 => (if (((((⟨#[80]⟩ : ByteArray) ++ t486) ++ (⟨#[10]⟩ : ByteArray)) ++ t487) ++ (⟨#[32]⟩ : ByteArray)).size + t488.size ≤ 9223372036854775807 then (if ((((((⟨#[80]⟩ : ByteArray) ++ t486) ++ (⟨#[10]⟩ : ByteArray)) ++ t487) ++ (⟨#[32]⟩ : ByteArray)) ++ t488).size + 1 ≤ 9223372036854775807 then ((head_bits.f a0_0 a0_1 a0_2 a0_3).bind fun t489 => (if t489 = true then (some (((((((⟨#[80]⟩ : ByteArray) ++ t486) ++ (⟨#[10]⟩ : ByteArray)) ++ t487) ++ (⟨#[32]⟩ : ByteArray)) ++ t488) ++ (⟨#[10]⟩ : ByteArray), 0)) else ((num_Decimal.f a0_3).bind fun t490 => (if t490.size + 1 ≤ 9223372036854775807 then (if (((((((⟨#[80]⟩ : ByteArray) ++ t486) ++ (⟨#[10]⟩ : ByteArray)) ++ t487) ++ (⟨#[32]⟩ : ByteArray)) ++ t488) ++ (⟨#[10]⟩ : ByteArray)).size + (t490 ++ (⟨#[10]⟩ : ByteArray)).size ≤ 9223372036854775807 then (some ((((((((⟨#[80]⟩ : ByteArray) ++ t486) ++ (⟨#[10]⟩ : ByteArray)) ++ t487) ++ (⟨#[32]⟩ : ByteArray)) ++ t488) ++ (⟨#[10]⟩ : ByteArray)) ++ (t490 ++ (⟨#[10]⟩ : ByteArray)), 0)) else (none)) else (none))))) else (none)) else (none))) else (none)) else (none))) else (none)) else (none))) else (some ((⟨#[]⟩ : ByteArray), 1)))
def head_Write.T3 : Bool × List (List Nat × List Nat) := (true, [([], []), ([0], [0]), ([1], [1]), ([2], [2]), ([3], [3]), ([], []), ([5], [5]), ([6, 2], [6]), ([4, 7], [4, 7]), ([8], [8]), ([], []), ([10], [10]), ([11, 7], [11]), ([9, 12], [9, 12]), ([13], [13]), ([14, 12, 0, 1, 2, 3, 4, 5, 6, 7, 8, 9, 10, 11, 12, 13, 14], [14])])
def head_Write.B3 : List Nat := [0, 1, 3, 7, 15, 0, 32, 103, 255, 511, 0, 1024, 3303, 8191, 16383, 32767]
theorem head_Write.tab3 : rtab .any (opsOf Try.f29 3) = head_Write.T3 := by kernel_rfl
theorem head_Write.bits3 : waitsOk head_Write.T3.2 head_Write.B3 = true := by kernel_rfl
set_option maxHeartbeats 8000000 in
set_option maxRecDepth 100000 in
theorem head_Write.calls (a0_0 : Int) (a0_1 : Int) (a0_2 : Int) (a0_3 : Int) (r1 : ByteArray) (r2 : Int) (w : World) (h : head_Write.f a0_0 a0_1 a0_2 a0_3 = some (r1, r2)) :
 Calls Try.prog 29 #[.agg #[.int .i64 a0_0, .int .i64 a0_1, .int .i64 a0_2, .int .i64 a0_3]] w fun e w' => e = .returned (.tuple #[.string r1, .int .i64 r2]) ∧ Below w.heap.size w w' := by
 have hu36 := Try.underlying36
 have HB := Aside0.mk (Below.refl w.heap.size w)
 have H : ((head_May.f a0_0 a0_1 a0_2 a0_3).bind fun t485 => (if t485 = true then ((num_Decimal.f a0_0).bind fun t486 => (if 1 + t486.size ≤ 9223372036854775807 then (if ((⟨#[80]⟩ : ByteArray) ++ t486).size + 1 ≤ 9223372036854775807 then ((num_Decimal.f a0_1).bind fun t487 => (if (((⟨#[80]⟩ : ByteArray) ++ t486) ++ (⟨#[10]⟩ : ByteArray)).size + t487.size ≤ 9223372036854775807 then (if ((((⟨#[80]⟩ : ByteArray) ++ t486) ++ (⟨#[10]⟩ : ByteArray)) ++ t487).size + 1 ≤ 9223372036854775807 then ((num_Decimal.f a0_2).bind fun t488 => (if (((((⟨#[80]⟩ : ByteArray) ++ t486) ++ (⟨#[10]⟩ : ByteArray)) ++ t487) ++ (⟨#[32]⟩ : ByteArray)).size + t488.size ≤ 9223372036854775807 then (if ((((((⟨#[80]⟩ : ByteArray) ++ t486) ++ (⟨#[10]⟩ : ByteArray)) ++ t487) ++ (⟨#[32]⟩ : ByteArray)) ++ t488).size + 1 ≤ 9223372036854775807 then ((head_bits.f a0_0 a0_1 a0_2 a0_3).bind fun t489 => (if t489 = true then (some (((((((⟨#[80]⟩ : ByteArray) ++ t486) ++ (⟨#[10]⟩ : ByteArray)) ++ t487) ++ (⟨#[32]⟩ : ByteArray)) ++ t488) ++ (⟨#[10]⟩ : ByteArray), 0)) else ((num_Decimal.f a0_3).bind fun t490 => (if t490.size + 1 ≤ 9223372036854775807 then (if (((((((⟨#[80]⟩ : ByteArray) ++ t486) ++ (⟨#[10]⟩ : ByteArray)) ++ t487) ++ (⟨#[32]⟩ : ByteArray)) ++ t488) ++ (⟨#[10]⟩ : ByteArray)).size + (t490 ++ (⟨#[10]⟩ : ByteArray)).size ≤ 9223372036854775807 then (some ((((((((⟨#[80]⟩ : ByteArray) ++ t486) ++ (⟨#[10]⟩ : ByteArray)) ++ t487) ++ (⟨#[32]⟩ : ByteArray)) ++ t488) ++ (⟨#[10]⟩ : ByteArray)) ++ (t490 ++ (⟨#[10]⟩ : ByteArray)), 0)) else (none)) else (none))))) else (none)) else (none))) else (none)) else (none))) else (none)) else (none))) else (some ((⟨#[]⟩ : ByteArray), 1)))) = some (r1, r2) := h
 clear h
 replace H := Option.bind_eq_some_iff.mp H
 obtain ⟨t485, A20, H⟩ := H
 replace H : (if t485 = true then ((num_Decimal.f a0_0).bind fun t486 => (if 1 + t486.size ≤ 9223372036854775807 then (if ((⟨#[80]⟩ : ByteArray) ++ t486).size + 1 ≤ 9223372036854775807 then ((num_Decimal.f a0_1).bind fun t487 => (if (((⟨#[80]⟩ : ByteArray) ++ t486) ++ (⟨#[10]⟩ : ByteArray)).size + t487.size ≤ 9223372036854775807 then (if ((((⟨#[80]⟩ : ByteArray) ++ t486) ++ (⟨#[10]⟩ : ByteArray)) ++ t487).size + 1 ≤ 9223372036854775807 then ((num_Decimal.f a0_2).bind fun t488 => (if (((((⟨#[80]⟩ : ByteArray) ++ t486) ++ (⟨#[10]⟩ : ByteArray)) ++ t487) ++ (⟨#[32]⟩ : ByteArray)).size + t488.size ≤ 9223372036854775807 then (if ((((((⟨#[80]⟩ : ByteArray) ++ t486) ++ (⟨#[10]⟩ : ByteArray)) ++ t487) ++ (⟨#[32]⟩ : ByteArray)) ++ t488).size + 1 ≤ 9223372036854775807 then ((head_bits.f a0_0 a0_1 a0_2 a0_3).bind fun t489 => (if t489 = true then (some (((((((⟨#[80]⟩ : ByteArray) ++ t486) ++ (⟨#[10]⟩ : ByteArray)) ++ t487) ++ (⟨#[32]⟩ : ByteArray)) ++ t488) ++ (⟨#[10]⟩ : ByteArray), 0)) else ((num_Decimal.f a0_3).bind fun t490 => (if t490.size + 1 ≤ 9223372036854775807 then (if (((((((⟨#[80]⟩ : ByteArray) ++ t486) ++ (⟨#[10]⟩ : ByteArray)) ++ t487) ++ (⟨#[32]⟩ : ByteArray)) ++ t488) ++ (⟨#[10]⟩ : ByteArray)).size + (t490 ++ (⟨#[10]⟩ : ByteArray)).size ≤ 9223372036854775807 then (some ((((((((⟨#[80]⟩ : ByteArray) ++ t486) ++ (⟨#[10]⟩ : ByteArray)) ++ t487) ++ (⟨#[32]⟩ : ByteArray)) ++ t488) ++ (⟨#[10]⟩ : ByteArray)) ++ (t490 ++ (⟨#[10]⟩ : ByteArray)), 0)) else (none)) else (none))))) else (none)) else (none))) else (none)) else (none))) else (none)) else (none))) else (some ((⟨#[]⟩ : ByteArray), 1))) = some (r1, r2) := H
 have A2 := Aside0.mk A20
 clear A20
 by_cases c3 : t485 = true
 · subst c3
   have H1 : ((num_Decimal.f a0_0).bind fun t486 => (if 1 + t486.size ≤ 9223372036854775807 then (if ((⟨#[80]⟩ : ByteArray) ++ t486).size + 1 ≤ 9223372036854775807 then ((num_Decimal.f a0_1).bind fun t487 => (if (((⟨#[80]⟩ : ByteArray) ++ t486) ++ (⟨#[10]⟩ : ByteArray)).size + t487.size ≤ 9223372036854775807 then (if ((((⟨#[80]⟩ : ByteArray) ++ t486) ++ (⟨#[10]⟩ : ByteArray)) ++ t487).size + 1 ≤ 9223372036854775807 then ((num_Decimal.f a0_2).bind fun t488 => (if (((((⟨#[80]⟩ : ByteArray) ++ t486) ++ (⟨#[10]⟩ : ByteArray)) ++ t487) ++ (⟨#[32]⟩ : ByteArray)).size + t488.size ≤ 9223372036854775807 then (if ((((((⟨#[80]⟩ : ByteArray) ++ t486) ++ (⟨#[10]⟩ : ByteArray)) ++ t487) ++ (⟨#[32]⟩ : ByteArray)) ++ t488).size + 1 ≤ 9223372036854775807 then ((head_bits.f a0_0 a0_1 a0_2 a0_3).bind fun t489 => (if t489 = true then (some (((((((⟨#[80]⟩ : ByteArray) ++ t486) ++ (⟨#[10]⟩ : ByteArray)) ++ t487) ++ (⟨#[32]⟩ : ByteArray)) ++ t488) ++ (⟨#[10]⟩ : ByteArray), 0)) else ((num_Decimal.f a0_3).bind fun t490 => (if t490.size + 1 ≤ 9223372036854775807 then (if (((((((⟨#[80]⟩ : ByteArray) ++ t486) ++ (⟨#[10]⟩ : ByteArray)) ++ t487) ++ (⟨#[32]⟩ : ByteArray)) ++ t488) ++ (⟨#[10]⟩ : ByteArray)).size + (t490 ++ (⟨#[10]⟩ : ByteArray)).size ≤ 9223372036854775807 then (some ((((((((⟨#[80]⟩ : ByteArray) ++ t486) ++ (⟨#[10]⟩ : ByteArray)) ++ t487) ++ (⟨#[32]⟩ : ByteArray)) ++ t488) ++ (⟨#[10]⟩ : ByteArray)) ++ (t490 ++ (⟨#[10]⟩ : ByteArray)), 0)) else (none)) else (none))))) else (none)) else (none))) else (none)) else (none))) else (none)) else (none))) = some (r1, r2) := by rw [if_pos rfl] at H; exact H
   clear H
   have H := H1
   clear H1
   replace H := Option.bind_eq_some_iff.mp H
   obtain ⟨t486, A40, H⟩ := H
   replace H : (if 1 + t486.size ≤ 9223372036854775807 then (if ((⟨#[80]⟩ : ByteArray) ++ t486).size + 1 ≤ 9223372036854775807 then ((num_Decimal.f a0_1).bind fun t487 => (if (((⟨#[80]⟩ : ByteArray) ++ t486) ++ (⟨#[10]⟩ : ByteArray)).size + t487.size ≤ 9223372036854775807 then (if ((((⟨#[80]⟩ : ByteArray) ++ t486) ++ (⟨#[10]⟩ : ByteArray)) ++ t487).size + 1 ≤ 9223372036854775807 then ((num_Decimal.f a0_2).bind fun t488 => (if (((((⟨#[80]⟩ : ByteArray) ++ t486) ++ (⟨#[10]⟩ : ByteArray)) ++ t487) ++ (⟨#[32]⟩ : ByteArray)).size + t488.size ≤ 9223372036854775807 then (if ((((((⟨#[80]⟩ : ByteArray) ++ t486) ++ (⟨#[10]⟩ : ByteArray)) ++ t487) ++ (⟨#[32]⟩ : ByteArray)) ++ t488).size + 1 ≤ 9223372036854775807 then ((head_bits.f a0_0 a0_1 a0_2 a0_3).bind fun t489 => (if t489 = true then (some (((((((⟨#[80]⟩ : ByteArray) ++ t486) ++ (⟨#[10]⟩ : ByteArray)) ++ t487) ++ (⟨#[32]⟩ : ByteArray)) ++ t488) ++ (⟨#[10]⟩ : ByteArray), 0)) else ((num_Decimal.f a0_3).bind fun t490 => (if t490.size + 1 ≤ 9223372036854775807 then (if (((((((⟨#[80]⟩ : ByteArray) ++ t486) ++ (⟨#[10]⟩ : ByteArray)) ++ t487) ++ (⟨#[32]⟩ : ByteArray)) ++ t488) ++ (⟨#[10]⟩ : ByteArray)).size + (t490 ++ (⟨#[10]⟩ : ByteArray)).size ≤ 9223372036854775807 then (some ((((((((⟨#[80]⟩ : ByteArray) ++ t486) ++ (⟨#[10]⟩ : ByteArray)) ++ t487) ++ (⟨#[32]⟩ : ByteArray)) ++ t488) ++ (⟨#[10]⟩ : ByteArray)) ++ (t490 ++ (⟨#[10]⟩ : ByteArray)), 0)) else (none)) else (none))))) else (none)) else (none))) else (none)) else (none))) else (none)) else (none)) = some (r1, r2) := H
   have A4 := Aside0.mk A40
   clear A40
   by_cases c5 : 1 + t486.size ≤ 9223372036854775807
   · rw [if_pos c5] at H
     have c5b0 := eq_true c5
     have c5b1 : decide (1 + t486.size ≤ 9223372036854775807) = true := decide_eq_true c5
     try have c5b2 : (9223372036854775807 < 1 + t486.size) = False := eq_false (Nat.not_lt.2 c5)
     by_cases c6 : ((⟨#[80]⟩ : ByteArray) ++ t486).size + 1 ≤ 9223372036854775807
     · rw [if_pos c6] at H
       have c6b0 := eq_true c6
       have c6b1 : decide (((⟨#[80]⟩ : ByteArray) ++ t486).size + 1 ≤ 9223372036854775807) = true := decide_eq_true c6
       try have c6b2 : (9223372036854775807 < ((⟨#[80]⟩ : ByteArray) ++ t486).size + 1) = False := eq_false (Nat.not_lt.2 c6)
       (try (have c6y := c6b2; simp only [ByteArray.size_append, show (⟨#[80]⟩ : ByteArray).size = 1 from rfl] at c6y))
       replace H := Option.bind_eq_some_iff.mp H
       obtain ⟨t487, A70, H⟩ := H
       replace H : (if (((⟨#[80]⟩ : ByteArray) ++ t486) ++ (⟨#[10]⟩ : ByteArray)).size + t487.size ≤ 9223372036854775807 then (if ((((⟨#[80]⟩ : ByteArray) ++ t486) ++ (⟨#[10]⟩ : ByteArray)) ++ t487).size + 1 ≤ 9223372036854775807 then ((num_Decimal.f a0_2).bind fun t488 => (if (((((⟨#[80]⟩ : ByteArray) ++ t486) ++ (⟨#[10]⟩ : ByteArray)) ++ t487) ++ (⟨#[32]⟩ : ByteArray)).size + t488.size ≤ 9223372036854775807 then (if ((((((⟨#[80]⟩ : ByteArray) ++ t486) ++ (⟨#[10]⟩ : ByteArray)) ++ t487) ++ (⟨#[32]⟩ : ByteArray)) ++ t488).size + 1 ≤ 9223372036854775807 then ((head_bits.f a0_0 a0_1 a0_2 a0_3).bind fun t489 => (if t489 = true then (some (((((((⟨#[80]⟩ : ByteArray) ++ t486) ++ (⟨#[10]⟩ : ByteArray)) ++ t487) ++ (⟨#[32]⟩ : ByteArray)) ++ t488) ++ (⟨#[10]⟩ : ByteArray), 0)) else ((num_Decimal.f a0_3).bind fun t490 => (if t490.size + 1 ≤ 9223372036854775807 then (if (((((((⟨#[80]⟩ : ByteArray) ++ t486) ++ (⟨#[10]⟩ : ByteArray)) ++ t487) ++ (⟨#[32]⟩ : ByteArray)) ++ t488) ++ (⟨#[10]⟩ : ByteArray)).size + (t490 ++ (⟨#[10]⟩ : ByteArray)).size ≤ 9223372036854775807 then (some ((((((((⟨#[80]⟩ : ByteArray) ++ t486) ++ (⟨#[10]⟩ : ByteArray)) ++ t487) ++ (⟨#[32]⟩ : ByteArray)) ++ t488) ++ (⟨#[10]⟩ : ByteArray)) ++ (t490 ++ (⟨#[10]⟩ : ByteArray)), 0)) else (none)) else (none))))) else (none)) else (none))) else (none)) else (none)) = some (r1, r2) := H
       have A7 := Aside0.mk A70
       clear A70
       by_cases c8 : (((⟨#[80]⟩ : ByteArray) ++ t486) ++ (⟨#[10]⟩ : ByteArray)).size + t487.size ≤ 9223372036854775807
       · rw [if_pos c8] at H
         have c8b0 := eq_true c8
         have c8b1 : decide ((((⟨#[80]⟩ : ByteArray) ++ t486) ++ (⟨#[10]⟩ : ByteArray)).size + t487.size ≤ 9223372036854775807) = true := decide_eq_true c8
         try have c8b2 : (9223372036854775807 < (((⟨#[80]⟩ : ByteArray) ++ t486) ++ (⟨#[10]⟩ : ByteArray)).size + t487.size) = False := eq_false (Nat.not_lt.2 c8)
         (try (have c8y := c8b2; simp only [ByteArray.size_append, show (⟨#[10]⟩ : ByteArray).size = 1 from rfl, show (⟨#[80]⟩ : ByteArray).size = 1 from rfl] at c8y))
         by_cases c9 : ((((⟨#[80]⟩ : ByteArray) ++ t486) ++ (⟨#[10]⟩ : ByteArray)) ++ t487).size + 1 ≤ 9223372036854775807
         · rw [if_pos c9] at H
           have c9b0 := eq_true c9
           have c9b1 : decide (((((⟨#[80]⟩ : ByteArray) ++ t486) ++ (⟨#[10]⟩ : ByteArray)) ++ t487).size + 1 ≤ 9223372036854775807) = true := decide_eq_true c9
           try have c9b2 : (9223372036854775807 < ((((⟨#[80]⟩ : ByteArray) ++ t486) ++ (⟨#[10]⟩ : ByteArray)) ++ t487).size + 1) = False := eq_false (Nat.not_lt.2 c9)
           (try (have c9y := c9b2; simp only [ByteArray.size_append, show (⟨#[10]⟩ : ByteArray).size = 1 from rfl, show (⟨#[80]⟩ : ByteArray).size = 1 from rfl] at c9y))
           replace H := Option.bind_eq_some_iff.mp H
           obtain ⟨t488, A100, H⟩ := H
           replace H : (if (((((⟨#[80]⟩ : ByteArray) ++ t486) ++ (⟨#[10]⟩ : ByteArray)) ++ t487) ++ (⟨#[32]⟩ : ByteArray)).size + t488.size ≤ 9223372036854775807 then (if ((((((⟨#[80]⟩ : ByteArray) ++ t486) ++ (⟨#[10]⟩ : ByteArray)) ++ t487) ++ (⟨#[32]⟩ : ByteArray)) ++ t488).size + 1 ≤ 9223372036854775807 then ((head_bits.f a0_0 a0_1 a0_2 a0_3).bind fun t489 => (if t489 = true then (some (((((((⟨#[80]⟩ : ByteArray) ++ t486) ++ (⟨#[10]⟩ : ByteArray)) ++ t487) ++ (⟨#[32]⟩ : ByteArray)) ++ t488) ++ (⟨#[10]⟩ : ByteArray), 0)) else ((num_Decimal.f a0_3).bind fun t490 => (if t490.size + 1 ≤ 9223372036854775807 then (if (((((((⟨#[80]⟩ : ByteArray) ++ t486) ++ (⟨#[10]⟩ : ByteArray)) ++ t487) ++ (⟨#[32]⟩ : ByteArray)) ++ t488) ++ (⟨#[10]⟩ : ByteArray)).size + (t490 ++ (⟨#[10]⟩ : ByteArray)).size ≤ 9223372036854775807 then (some ((((((((⟨#[80]⟩ : ByteArray) ++ t486) ++ (⟨#[10]⟩ : ByteArray)) ++ t487) ++ (⟨#[32]⟩ : ByteArray)) ++ t488) ++ (⟨#[10]⟩ : ByteArray)) ++ (t490 ++ (⟨#[10]⟩ : ByteArray)), 0)) else (none)) else (none))))) else (none)) else (none)) = some (r1, r2) := H
           have A10 := Aside0.mk A100
           clear A100
           by_cases c11 : (((((⟨#[80]⟩ : ByteArray) ++ t486) ++ (⟨#[10]⟩ : ByteArray)) ++ t487) ++ (⟨#[32]⟩ : ByteArray)).size + t488.size ≤ 9223372036854775807
           · rw [if_pos c11] at H
             have c11b0 := eq_true c11
             have c11b1 : decide ((((((⟨#[80]⟩ : ByteArray) ++ t486) ++ (⟨#[10]⟩ : ByteArray)) ++ t487) ++ (⟨#[32]⟩ : ByteArray)).size + t488.size ≤ 9223372036854775807) = true := decide_eq_true c11
             try have c11b2 : (9223372036854775807 < (((((⟨#[80]⟩ : ByteArray) ++ t486) ++ (⟨#[10]⟩ : ByteArray)) ++ t487) ++ (⟨#[32]⟩ : ByteArray)).size + t488.size) = False := eq_false (Nat.not_lt.2 c11)
             (try (have c11y := c11b2; simp only [ByteArray.size_append, show (⟨#[10]⟩ : ByteArray).size = 1 from rfl, show (⟨#[32]⟩ : ByteArray).size = 1 from rfl, show (⟨#[80]⟩ : ByteArray).size = 1 from rfl] at c11y))
             by_cases c12 : ((((((⟨#[80]⟩ : ByteArray) ++ t486) ++ (⟨#[10]⟩ : ByteArray)) ++ t487) ++ (⟨#[32]⟩ : ByteArray)) ++ t488).size + 1 ≤ 9223372036854775807
             · rw [if_pos c12] at H
               have c12b0 := eq_true c12
               have c12b1 : decide (((((((⟨#[80]⟩ : ByteArray) ++ t486) ++ (⟨#[10]⟩ : ByteArray)) ++ t487) ++ (⟨#[32]⟩ : ByteArray)) ++ t488).size + 1 ≤ 9223372036854775807) = true := decide_eq_true c12
               try have c12b2 : (9223372036854775807 < ((((((⟨#[80]⟩ : ByteArray) ++ t486) ++ (⟨#[10]⟩ : ByteArray)) ++ t487) ++ (⟨#[32]⟩ : ByteArray)) ++ t488).size + 1) = False := eq_false (Nat.not_lt.2 c12)
               (try (have c12y := c12b2; simp only [ByteArray.size_append, show (⟨#[10]⟩ : ByteArray).size = 1 from rfl, show (⟨#[32]⟩ : ByteArray).size = 1 from rfl, show (⟨#[80]⟩ : ByteArray).size = 1 from rfl] at c12y))
               replace H := Option.bind_eq_some_iff.mp H
               obtain ⟨t489, A130, H⟩ := H
               replace H : (if t489 = true then (some (((((((⟨#[80]⟩ : ByteArray) ++ t486) ++ (⟨#[10]⟩ : ByteArray)) ++ t487) ++ (⟨#[32]⟩ : ByteArray)) ++ t488) ++ (⟨#[10]⟩ : ByteArray), 0)) else ((num_Decimal.f a0_3).bind fun t490 => (if t490.size + 1 ≤ 9223372036854775807 then (if (((((((⟨#[80]⟩ : ByteArray) ++ t486) ++ (⟨#[10]⟩ : ByteArray)) ++ t487) ++ (⟨#[32]⟩ : ByteArray)) ++ t488) ++ (⟨#[10]⟩ : ByteArray)).size + (t490 ++ (⟨#[10]⟩ : ByteArray)).size ≤ 9223372036854775807 then (some ((((((((⟨#[80]⟩ : ByteArray) ++ t486) ++ (⟨#[10]⟩ : ByteArray)) ++ t487) ++ (⟨#[32]⟩ : ByteArray)) ++ t488) ++ (⟨#[10]⟩ : ByteArray)) ++ (t490 ++ (⟨#[10]⟩ : ByteArray)), 0)) else (none)) else (none)))) = some (r1, r2) := H
               have A13 := Aside0.mk A130
               clear A130
               by_cases c14 : t489 = true
               · subst c14
                 have H1 : (some (((((((⟨#[80]⟩ : ByteArray) ++ t486) ++ (⟨#[10]⟩ : ByteArray)) ++ t487) ++ (⟨#[32]⟩ : ByteArray)) ++ t488) ++ (⟨#[10]⟩ : ByteArray), 0)) = some (r1, r2) := by rw [if_pos rfl] at H; exact H
                 clear H
                 have H := H1
                 clear H1
                 simp only [Option.some.injEq, Prod.mk.injEq] at H
                 obtain ⟨rfl, rfl⟩ := H
                 go_enter Try.func29, Try.ntmps29
                 try go_wp2_with (first | ((with_reducible refine gate_dst (N := 1) rfl ?_); refine box_event ?hg (N := 1) ?hd (cs := #[.int .i64 a0_0, .int .i64 a0_1, .int .i64 a0_2, .int .i64 a0_3]) (t := 36) ?hr ?_; (case hd => rfl); (case hg => rfl); (case hr => first | (go_simp; done) | (go_simp; rfl)); intro gb484 hg w15 hbox hb; have BK484 := Aside0.mk (hbox); have GW484 := Aside0.mk ((by rw [hg]; exact (below_size bp_) : w.heap.size ≤ gb484)); have GE484 := Aside0.mk ((by rw [hg]; exact (below_size bp_) : w.heap.size ≤ gb484)); replace HB := Aside0.mk (below_step bp_ hb); clear hb hbox hg; have hcz16_0 : w15.cell? ⟨gb484, 0, none⟩ = some (.int .i64 a0_0) := (blk_cell BK484.out 0).trans rfl; have hcz16_1 : w15.cell? ⟨gb484, 1, none⟩ = some (.int .i64 a0_1) := (blk_cell BK484.out 1).trans rfl; have hcz16_2 : w15.cell? ⟨gb484, 2, none⟩ = some (.int .i64 a0_2) := (blk_cell BK484.out 2).trans rfl; have hcz16_3 : w15.cell? ⟨gb484, 3, none⟩ = some (.int .i64 a0_3) := (blk_cell BK484.out 3).trans rfl; have hfz16_0 := blk_frozen BK484.out 0; have hfz16_1 := blk_frozen BK484.out 1; have hfz16_2 := blk_frozen BK484.out 2; have hfz16_3 := blk_frozen BK484.out 3) | ((with_reducible refine gate_callee (f := 30) rfl ?_); refine goQ_ (some 6) Try.func30 #[.agg #[.int .i64 a0_0, .int .i64 a0_1, .int .i64 a0_2, .int .i64 a0_3]] ?_; (with_reducible refine (head_May.calls a0_0 a0_1 a0_2 a0_3 true _ A2.out).mono ?_); rintro e w17 ⟨rfl, hb⟩; refine ⟨_, rfl, ?_⟩; replace BK484 := Aside0.mk (blk_below (hp_ BK484.out) hb); replace HB := Aside0.mk (below_step bp_ hb); (try clear hb); (try clear hb2); (try clear hk); (try clear hi)))
                 replace BK484 := Aside0.mk (blk_drew BK484.out)
                 replace HB := Aside0.mk (below_drew1 HB.out)
                 refine start_ (n := 16) (S := fun w' => w'.cell? ⟨gb484, 0, none⟩ = some (.int .i64 a0_0) ∧ w'.cell? ⟨gb484, 1, none⟩ = some (.int .i64 a0_1) ∧ w'.cell? ⟨gb484, 2, none⟩ = some (.int .i64 a0_2) ∧ w'.cell? ⟨gb484, 3, none⟩ = some (.int .i64 a0_3)) (ds := []) Fl132 (by kernel_rfl) rfl rfl ⟨(blk_cell BK484.out 0).trans rfl, (blk_cell BK484.out 1).trans rfl, (blk_cell BK484.out 2).trans rfl, (blk_cell BK484.out 3).trans rfl⟩ (fun hHeld => ?_); refine with_tabW head_Write.tab3 head_Write.bits3 (fun HT_ HW_ => ?_)
                 generalize w17.drew = w18 at BK484 HB hHeld ⊢
                 refine pur_ (i := 0) (N := some 8) Fl133 (any_of HT_.out (by kernel_rfl)) ?_
                 refine pur_ (i := 5) (N := some 13) Fl134 (any_of HT_.out (by kernel_rfl)) ?_
                 refine pur_ (i := 10) (N := some 18) Fl135 (any_of HT_.out (by kernel_rfl)) ?_
                 refine take_ (i := 1) (N := some 9) (v := ?_) (a' := ?_) Fl136 rfl rfl (take_ofW HT_.out HW_.out (by kernel_rfl)) (fun _ _ _ h => h) (Or.inl ⟨by rfl, ?_⟩) hHeld ?_ ?_
                 rotate_left
                 · rintro w' ⟨s0, s1, s2, s3⟩
                   go_simp
                   with_reducible rfl
                 rotate_left
                 · simp only [Act.put, List.setIfInBounds_toArray, List.set_cons_zero, List.set_cons_succ, i64_w, i32_w]
                   rfl
                 refine take_ (i := 6) (N := some 14) (v := ?_) (a' := ?_) Fl137 rfl rfl (take_ofW HT_.out HW_.out (by kernel_rfl)) (fun _ _ _ h => h) (Or.inl ⟨by rfl, ?_⟩) hHeld ?_ ?_
                 rotate_left
                 · rintro w' ⟨s0, s1, s2, s3⟩
                   go_simp
                   with_reducible rfl
                 rotate_left
                 · simp only [Act.put, List.setIfInBounds_toArray, List.set_cons_zero, List.set_cons_succ, i64_w, i32_w]
                   rfl
                 refine take_ (i := 11) (N := some 19) (v := ?_) (a' := ?_) Fl138 rfl rfl (take_ofW HT_.out HW_.out (by kernel_rfl)) (fun _ _ _ h => h) (Or.inl ⟨by rfl, ?_⟩) hHeld ?_ ?_
                 rotate_left
                 · rintro w' ⟨s0, s1, s2, s3⟩
                   go_simp
                   with_reducible rfl
                 rotate_left
                 · simp only [Act.put, List.setIfInBounds_toArray, List.set_cons_zero, List.set_cons_succ, i64_w, i32_w]
                   rfl
                 refine one_ (i := 2) (N := some 10) Fl139 rfl rfl (one_of HT_.out (by kernel_rfl)) (by decide) (fun K hK => ?_)
                 refine goes_ Try.func40 (by kernel_rfl) rfl #[.int .i64 a0_0] (by rfl) rfl rfl (by (try simp only [List.map_toArray, List.map_cons, List.map_nil]); first | done | rfl | (simp only [List.length_drop, List.length_take]; rfl)) ?_
                 with_reducible refine (num_Decimal.calls a0_0 t486 _ A4.out).mono ?_
                 rintro e w19 ⟨rfl, hb⟩
                 refine ⟨_, rfl, ?_⟩
                 replace BK484 := Aside0.mk (blk_below (hp_ BK484.out) hb)
                 replace HB := Aside0.mk (below_step bp_ hb)
                 (try clear hb)
                 (try clear hb2)
                 (try clear hk)
                 (try clear hi)
                 refine hK.out _ _ ⟨(blk_cell BK484.out 0).trans rfl, (blk_cell BK484.out 1).trans rfl, (blk_cell BK484.out 2).trans rfl, (blk_cell BK484.out 3).trans rfl⟩ (fun hHeld => ?_)
                 clear hK K
                 refine norm_ (a' := ?_) ?_ ?_
                 rotate_left
                 · show Act.put _ (some 10) _ = _
                   simp only [Act.put, List.setIfInBounds_toArray, List.set_cons_zero, List.set_cons_succ, i64_w, i32_w]
                   rfl
                 refine pur_ (i := 3) (N := some 11) Fl140 (any_of HT_.out (by kernel_rfl)) ?_
                 refine pur_ (i := 4) (N := some 12) Fl141 (any_of HT_.out (by kernel_rfl)) ?_
                 refine one_ (i := 7) (N := some 15) Fl142 rfl rfl (one_of HT_.out (by kernel_rfl)) (by decide) (fun K hK => ?_)
                 refine goes_ Try.func40 (by kernel_rfl) rfl #[.int .i64 a0_1] (by rfl) rfl rfl (by (try simp only [List.map_toArray, List.map_cons, List.map_nil]); first | done | rfl | (simp only [List.length_drop, List.length_take]; rfl)) ?_
                 with_reducible refine (num_Decimal.calls a0_1 t487 _ A7.out).mono ?_
                 rintro e w20 ⟨rfl, hb⟩
                 refine ⟨_, rfl, ?_⟩
                 replace BK484 := Aside0.mk (blk_below (hp_ BK484.out) hb)
                 replace HB := Aside0.mk (below_step bp_ hb)
                 (try clear hb)
                 (try clear hb2)
                 (try clear hk)
                 (try clear hi)
                 refine hK.out _ _ ⟨(blk_cell BK484.out 0).trans rfl, (blk_cell BK484.out 1).trans rfl, (blk_cell BK484.out 2).trans rfl, (blk_cell BK484.out 3).trans rfl⟩ (fun hHeld => ?_)
                 clear hK K
                 refine norm_ (a' := ?_) ?_ ?_
                 rotate_left
                 · show Act.put _ (some 15) _ = _
                   simp only [Act.put, List.setIfInBounds_toArray, List.set_cons_zero, List.set_cons_succ, i64_w, i32_w]
                   rfl
                 refine pur_ (i := 8) (N := some 16) Fl143 (any_of HT_.out (by kernel_rfl)) ?_
                 refine pur_ (i := 9) (N := some 17) Fl144 (any_of HT_.out (by kernel_rfl)) ?_
                 refine one_ (i := 12) (N := some 20) Fl145 rfl rfl (one_of HT_.out (by kernel_rfl)) (by decide) (fun K hK => ?_)
                 refine goes_ Try.func40 (by kernel_rfl) rfl #[.int .i64 a0_2] (by rfl) rfl rfl (by (try simp only [List.map_toArray, List.map_cons, List.map_nil]); first | done | rfl | (simp only [List.length_drop, List.length_take]; rfl)) ?_
                 with_reducible refine (num_Decimal.calls a0_2 t488 _ A10.out).mono ?_
                 rintro e w21 ⟨rfl, hb⟩
                 refine ⟨_, rfl, ?_⟩
                 replace BK484 := Aside0.mk (blk_below (hp_ BK484.out) hb)
                 replace HB := Aside0.mk (below_step bp_ hb)
                 (try clear hb)
                 (try clear hb2)
                 (try clear hk)
                 (try clear hi)
                 refine hK.out _ _ ⟨(blk_cell BK484.out 0).trans rfl, (blk_cell BK484.out 1).trans rfl, (blk_cell BK484.out 2).trans rfl, (blk_cell BK484.out 3).trans rfl⟩ (fun hHeld => ?_)
                 clear hK K
                 refine norm_ (a' := ?_) ?_ ?_
                 rotate_left
                 · show Act.put _ (some 20) _ = _
                   simp only [Act.put, List.setIfInBounds_toArray, List.set_cons_zero, List.set_cons_succ, i64_w, i32_w]
                   rfl
                 refine pur_ (i := 13) (N := some 21) Fl146 (any_of HT_.out (by kernel_rfl)) ?_
                 refine pur_ (i := 14) (N := some 22) Fl147 (any_of HT_.out (by kernel_rfl)) ?_
                 refine pur_ (i := 15) (N := some 4) Fl148 (any_of HT_.out (by kernel_rfl)) ?_
                 refine done_ (done_of HT_.out (by kernel_rfl)) ?_
                 have hcz22_0 : w21.cell? ⟨gb484, 0, none⟩ = some (.int .i64 a0_0) := (blk_cell BK484.out 0).trans rfl
                 have hcz22_1 : w21.cell? ⟨gb484, 1, none⟩ = some (.int .i64 a0_1) := (blk_cell BK484.out 1).trans rfl
                 have hcz22_2 : w21.cell? ⟨gb484, 2, none⟩ = some (.int .i64 a0_2) := (blk_cell BK484.out 2).trans rfl
                 have hcz22_3 : w21.cell? ⟨gb484, 3, none⟩ = some (.int .i64 a0_3) := (blk_cell BK484.out 3).trans rfl
                 have hfz22_0 := blk_frozen BK484.out 0
                 have hfz22_1 := blk_frozen BK484.out 1
                 have hfz22_2 := blk_frozen BK484.out 2
                 have hfz22_3 := blk_frozen BK484.out 3
                 try go_wp2_with (first | ((with_reducible refine gate_callee (f := 41) rfl ?_); refine goQ_ (some 24) Try.func41 #[.agg #[.int .i64 a0_0, .int .i64 a0_1, .int .i64 a0_2, .int .i64 a0_3]] ?_; (with_reducible refine (head_bits.calls a0_0 a0_1 a0_2 a0_3 true _ A13.out).mono ?_); rintro e w23 ⟨rfl, hb⟩; refine ⟨_, rfl, ?_⟩; replace HB := Aside0.mk (below_step bp_ hb); (try clear hb); (try clear hb2); (try clear hk); (try clear hi)))
                 go_ret2
                 exact ⟨by first | rfl | (simp [errW_none, errW_some] <;> rfl) | (simp [*, errW_none, errW_some] <;> rfl), bp_⟩
               · replace c14 := Bool.eq_false_iff.mpr c14
                 subst c14
                 have H1 : ((num_Decimal.f a0_3).bind fun t490 => (if t490.size + 1 ≤ 9223372036854775807 then (if (((((((⟨#[80]⟩ : ByteArray) ++ t486) ++ (⟨#[10]⟩ : ByteArray)) ++ t487) ++ (⟨#[32]⟩ : ByteArray)) ++ t488) ++ (⟨#[10]⟩ : ByteArray)).size + (t490 ++ (⟨#[10]⟩ : ByteArray)).size ≤ 9223372036854775807 then (some ((((((((⟨#[80]⟩ : ByteArray) ++ t486) ++ (⟨#[10]⟩ : ByteArray)) ++ t487) ++ (⟨#[32]⟩ : ByteArray)) ++ t488) ++ (⟨#[10]⟩ : ByteArray)) ++ (t490 ++ (⟨#[10]⟩ : ByteArray)), 0)) else (none)) else (none))) = some (r1, r2) := by rw [if_neg (show ¬ (false = true) by decide)] at H; exact H
                 clear H
                 have H := H1
                 clear H1
                 replace H := Option.bind_eq_some_iff.mp H
                 obtain ⟨t490, A240, H⟩ := H
                 replace H : (if t490.size + 1 ≤ 9223372036854775807 then (if (((((((⟨#[80]⟩ : ByteArray) ++ t486) ++ (⟨#[10]⟩ : ByteArray)) ++ t487) ++ (⟨#[32]⟩ : ByteArray)) ++ t488) ++ (⟨#[10]⟩ : ByteArray)).size + (t490 ++ (⟨#[10]⟩ : ByteArray)).size ≤ 9223372036854775807 then (some ((((((((⟨#[80]⟩ : ByteArray) ++ t486) ++ (⟨#[10]⟩ : ByteArray)) ++ t487) ++ (⟨#[32]⟩ : ByteArray)) ++ t488) ++ (⟨#[10]⟩ : ByteArray)) ++ (t490 ++ (⟨#[10]⟩ : ByteArray)), 0)) else (none)) else (none)) = some (r1, r2) := H
                 have A24 := Aside0.mk A240
                 clear A240
                 by_cases c25 : t490.size + 1 ≤ 9223372036854775807
                 · rw [if_pos c25] at H
                   have c25b0 := eq_true c25
                   have c25b1 : decide (t490.size + 1 ≤ 9223372036854775807) = true := decide_eq_true c25
                   try have c25b2 : (9223372036854775807 < t490.size + 1) = False := eq_false (Nat.not_lt.2 c25)
                   by_cases c26 : (((((((⟨#[80]⟩ : ByteArray) ++ t486) ++ (⟨#[10]⟩ : ByteArray)) ++ t487) ++ (⟨#[32]⟩ : ByteArray)) ++ t488) ++ (⟨#[10]⟩ : ByteArray)).size + (t490 ++ (⟨#[10]⟩ : ByteArray)).size ≤ 9223372036854775807
                   · rw [if_pos c26] at H
                     have c26b0 := eq_true c26
                     have c26b1 : decide ((((((((⟨#[80]⟩ : ByteArray) ++ t486) ++ (⟨#[10]⟩ : ByteArray)) ++ t487) ++ (⟨#[32]⟩ : ByteArray)) ++ t488) ++ (⟨#[10]⟩ : ByteArray)).size + (t490 ++ (⟨#[10]⟩ : ByteArray)).size ≤ 9223372036854775807) = true := decide_eq_true c26
                     try have c26b2 : (9223372036854775807 < (((((((⟨#[80]⟩ : ByteArray) ++ t486) ++ (⟨#[10]⟩ : ByteArray)) ++ t487) ++ (⟨#[32]⟩ : ByteArray)) ++ t488) ++ (⟨#[10]⟩ : ByteArray)).size + (t490 ++ (⟨#[10]⟩ : ByteArray)).size) = False := eq_false (Nat.not_lt.2 c26)
                     (try (have c26y := c26b2; simp only [ByteArray.size_append, show (⟨#[10]⟩ : ByteArray).size = 1 from rfl, show (⟨#[32]⟩ : ByteArray).size = 1 from rfl, show (⟨#[80]⟩ : ByteArray).size = 1 from rfl] at c26y))
                     simp only [Option.some.injEq, Prod.mk.injEq] at H
                     obtain ⟨rfl, rfl⟩ := H
                     go_enter Try.func29, Try.ntmps29
                     try go_wp2_with (first | ((with_reducible refine gate_dst (N := 1) rfl ?_); refine box_event ?hg (N := 1) ?hd (cs := #[.int .i64 a0_0, .int .i64 a0_1, .int .i64 a0_2, .int .i64 a0_3]) (t := 36) ?hr ?_; (case hd => rfl); (case hg => rfl); (case hr => first | (go_simp; done) | (go_simp; rfl)); intro gb484 hg w27 hbox hb; have BK484 := Aside0.mk (hbox); have GW484 := Aside0.mk ((by rw [hg]; exact (below_size bp_) : w.heap.size ≤ gb484)); have GE484 := Aside0.mk ((by rw [hg]; exact (below_size bp_) : w.heap.size ≤ gb484)); replace HB := Aside0.mk (below_step bp_ hb); clear hb hbox hg; have hcz28_0 : w27.cell? ⟨gb484, 0, none⟩ = some (.int .i64 a0_0) := (blk_cell BK484.out 0).trans rfl; have hcz28_1 : w27.cell? ⟨gb484, 1, none⟩ = some (.int .i64 a0_1) := (blk_cell BK484.out 1).trans rfl; have hcz28_2 : w27.cell? ⟨gb484, 2, none⟩ = some (.int .i64 a0_2) := (blk_cell BK484.out 2).trans rfl; have hcz28_3 : w27.cell? ⟨gb484, 3, none⟩ = some (.int .i64 a0_3) := (blk_cell BK484.out 3).trans rfl; have hfz28_0 := blk_frozen BK484.out 0; have hfz28_1 := blk_frozen BK484.out 1; have hfz28_2 := blk_frozen BK484.out 2; have hfz28_3 := blk_frozen BK484.out 3) | ((with_reducible refine gate_callee (f := 30) rfl ?_); refine goQ_ (some 6) Try.func30 #[.agg #[.int .i64 a0_0, .int .i64 a0_1, .int .i64 a0_2, .int .i64 a0_3]] ?_; (with_reducible refine (head_May.calls a0_0 a0_1 a0_2 a0_3 true _ A2.out).mono ?_); rintro e w29 ⟨rfl, hb⟩; refine ⟨_, rfl, ?_⟩; replace BK484 := Aside0.mk (blk_below (hp_ BK484.out) hb); replace HB := Aside0.mk (below_step bp_ hb); (try clear hb); (try clear hb2); (try clear hk); (try clear hi)))
                     replace BK484 := Aside0.mk (blk_drew BK484.out)
                     replace HB := Aside0.mk (below_drew1 HB.out)
                     refine start_ (n := 16) (S := fun w' => w'.cell? ⟨gb484, 0, none⟩ = some (.int .i64 a0_0) ∧ w'.cell? ⟨gb484, 1, none⟩ = some (.int .i64 a0_1) ∧ w'.cell? ⟨gb484, 2, none⟩ = some (.int .i64 a0_2) ∧ w'.cell? ⟨gb484, 3, none⟩ = some (.int .i64 a0_3)) (ds := []) Fl132 (by kernel_rfl) rfl rfl ⟨(blk_cell BK484.out 0).trans rfl, (blk_cell BK484.out 1).trans rfl, (blk_cell BK484.out 2).trans rfl, (blk_cell BK484.out 3).trans rfl⟩ (fun hHeld => ?_); refine with_tabW head_Write.tab3 head_Write.bits3 (fun HT_ HW_ => ?_)
                     generalize w29.drew = w30 at BK484 HB hHeld ⊢
                     refine pur_ (i := 0) (N := some 8) Fl133 (any_of HT_.out (by kernel_rfl)) ?_
                     refine pur_ (i := 5) (N := some 13) Fl134 (any_of HT_.out (by kernel_rfl)) ?_
                     refine pur_ (i := 10) (N := some 18) Fl135 (any_of HT_.out (by kernel_rfl)) ?_
                     refine take_ (i := 1) (N := some 9) (v := ?_) (a' := ?_) Fl136 rfl rfl (take_ofW HT_.out HW_.out (by kernel_rfl)) (fun _ _ _ h => h) (Or.inl ⟨by rfl, ?_⟩) hHeld ?_ ?_
                     rotate_left
                     · rintro w' ⟨s0, s1, s2, s3⟩
                       go_simp
                       with_reducible rfl
                     rotate_left
                     · simp only [Act.put, List.setIfInBounds_toArray, List.set_cons_zero, List.set_cons_succ, i64_w, i32_w]
                       rfl
                     refine take_ (i := 6) (N := some 14) (v := ?_) (a' := ?_) Fl137 rfl rfl (take_ofW HT_.out HW_.out (by kernel_rfl)) (fun _ _ _ h => h) (Or.inl ⟨by rfl, ?_⟩) hHeld ?_ ?_
                     rotate_left
                     · rintro w' ⟨s0, s1, s2, s3⟩
                       go_simp
                       with_reducible rfl
                     rotate_left
                     · simp only [Act.put, List.setIfInBounds_toArray, List.set_cons_zero, List.set_cons_succ, i64_w, i32_w]
                       rfl
                     refine take_ (i := 11) (N := some 19) (v := ?_) (a' := ?_) Fl138 rfl rfl (take_ofW HT_.out HW_.out (by kernel_rfl)) (fun _ _ _ h => h) (Or.inl ⟨by rfl, ?_⟩) hHeld ?_ ?_
                     rotate_left
                     · rintro w' ⟨s0, s1, s2, s3⟩
                       go_simp
                       with_reducible rfl
                     rotate_left
                     · simp only [Act.put, List.setIfInBounds_toArray, List.set_cons_zero, List.set_cons_succ, i64_w, i32_w]
                       rfl
                     refine one_ (i := 2) (N := some 10) Fl139 rfl rfl (one_of HT_.out (by kernel_rfl)) (by decide) (fun K hK => ?_)
                     refine goes_ Try.func40 (by kernel_rfl) rfl #[.int .i64 a0_0] (by rfl) rfl rfl (by (try simp only [List.map_toArray, List.map_cons, List.map_nil]); first | done | rfl | (simp only [List.length_drop, List.length_take]; rfl)) ?_
                     with_reducible refine (num_Decimal.calls a0_0 t486 _ A4.out).mono ?_
                     rintro e w31 ⟨rfl, hb⟩
                     refine ⟨_, rfl, ?_⟩
                     replace BK484 := Aside0.mk (blk_below (hp_ BK484.out) hb)
                     replace HB := Aside0.mk (below_step bp_ hb)
                     (try clear hb)
                     (try clear hb2)
                     (try clear hk)
                     (try clear hi)
                     refine hK.out _ _ ⟨(blk_cell BK484.out 0).trans rfl, (blk_cell BK484.out 1).trans rfl, (blk_cell BK484.out 2).trans rfl, (blk_cell BK484.out 3).trans rfl⟩ (fun hHeld => ?_)
                     clear hK K
                     refine norm_ (a' := ?_) ?_ ?_
                     rotate_left
                     · show Act.put _ (some 10) _ = _
                       simp only [Act.put, List.setIfInBounds_toArray, List.set_cons_zero, List.set_cons_succ, i64_w, i32_w]
                       rfl
                     refine pur_ (i := 3) (N := some 11) Fl140 (any_of HT_.out (by kernel_rfl)) ?_
                     refine pur_ (i := 4) (N := some 12) Fl141 (any_of HT_.out (by kernel_rfl)) ?_
                     refine one_ (i := 7) (N := some 15) Fl142 rfl rfl (one_of HT_.out (by kernel_rfl)) (by decide) (fun K hK => ?_)
                     refine goes_ Try.func40 (by kernel_rfl) rfl #[.int .i64 a0_1] (by rfl) rfl rfl (by (try simp only [List.map_toArray, List.map_cons, List.map_nil]); first | done | rfl | (simp only [List.length_drop, List.length_take]; rfl)) ?_
                     with_reducible refine (num_Decimal.calls a0_1 t487 _ A7.out).mono ?_
                     rintro e w32 ⟨rfl, hb⟩
                     refine ⟨_, rfl, ?_⟩
                     replace BK484 := Aside0.mk (blk_below (hp_ BK484.out) hb)
                     replace HB := Aside0.mk (below_step bp_ hb)
                     (try clear hb)
                     (try clear hb2)
                     (try clear hk)
                     (try clear hi)
                     refine hK.out _ _ ⟨(blk_cell BK484.out 0).trans rfl, (blk_cell BK484.out 1).trans rfl, (blk_cell BK484.out 2).trans rfl, (blk_cell BK484.out 3).trans rfl⟩ (fun hHeld => ?_)
                     clear hK K
                     refine norm_ (a' := ?_) ?_ ?_
                     rotate_left
                     · show Act.put _ (some 15) _ = _
                       simp only [Act.put, List.setIfInBounds_toArray, List.set_cons_zero, List.set_cons_succ, i64_w, i32_w]
                       rfl
                     refine pur_ (i := 8) (N := some 16) Fl143 (any_of HT_.out (by kernel_rfl)) ?_
                     refine pur_ (i := 9) (N := some 17) Fl144 (any_of HT_.out (by kernel_rfl)) ?_
                     refine one_ (i := 12) (N := some 20) Fl145 rfl rfl (one_of HT_.out (by kernel_rfl)) (by decide) (fun K hK => ?_)
                     refine goes_ Try.func40 (by kernel_rfl) rfl #[.int .i64 a0_2] (by rfl) rfl rfl (by (try simp only [List.map_toArray, List.map_cons, List.map_nil]); first | done | rfl | (simp only [List.length_drop, List.length_take]; rfl)) ?_
                     with_reducible refine (num_Decimal.calls a0_2 t488 _ A10.out).mono ?_
                     rintro e w33 ⟨rfl, hb⟩
                     refine ⟨_, rfl, ?_⟩
                     replace BK484 := Aside0.mk (blk_below (hp_ BK484.out) hb)
                     replace HB := Aside0.mk (below_step bp_ hb)
                     (try clear hb)
                     (try clear hb2)
                     (try clear hk)
                     (try clear hi)
                     refine hK.out _ _ ⟨(blk_cell BK484.out 0).trans rfl, (blk_cell BK484.out 1).trans rfl, (blk_cell BK484.out 2).trans rfl, (blk_cell BK484.out 3).trans rfl⟩ (fun hHeld => ?_)
                     clear hK K
                     refine norm_ (a' := ?_) ?_ ?_
                     rotate_left
                     · show Act.put _ (some 20) _ = _
                       simp only [Act.put, List.setIfInBounds_toArray, List.set_cons_zero, List.set_cons_succ, i64_w, i32_w]
                       rfl
                     refine pur_ (i := 13) (N := some 21) Fl146 (any_of HT_.out (by kernel_rfl)) ?_
                     refine pur_ (i := 14) (N := some 22) Fl147 (any_of HT_.out (by kernel_rfl)) ?_
                     refine pur_ (i := 15) (N := some 4) Fl148 (any_of HT_.out (by kernel_rfl)) ?_
                     refine done_ (done_of HT_.out (by kernel_rfl)) ?_
                     have hcz34_0 : w33.cell? ⟨gb484, 0, none⟩ = some (.int .i64 a0_0) := (blk_cell BK484.out 0).trans rfl
                     have hcz34_1 : w33.cell? ⟨gb484, 1, none⟩ = some (.int .i64 a0_1) := (blk_cell BK484.out 1).trans rfl
                     have hcz34_2 : w33.cell? ⟨gb484, 2, none⟩ = some (.int .i64 a0_2) := (blk_cell BK484.out 2).trans rfl
                     have hcz34_3 : w33.cell? ⟨gb484, 3, none⟩ = some (.int .i64 a0_3) := (blk_cell BK484.out 3).trans rfl
                     have hfz34_0 := blk_frozen BK484.out 0
                     have hfz34_1 := blk_frozen BK484.out 1
                     have hfz34_2 := blk_frozen BK484.out 2
                     have hfz34_3 := blk_frozen BK484.out 3
                     try go_wp2_with (first | ((with_reducible refine gate_callee (f := 41) rfl ?_); refine goQ_ (some 24) Try.func41 #[.agg #[.int .i64 a0_0, .int .i64 a0_1, .int .i64 a0_2, .int .i64 a0_3]] ?_; (with_reducible refine (head_bits.calls a0_0 a0_1 a0_2 a0_3 false _ A13.out).mono ?_); rintro e w35 ⟨rfl, hb⟩; refine ⟨_, rfl, ?_⟩; replace BK484 := Aside0.mk (blk_below (hp_ BK484.out) hb); replace HB := Aside0.mk (below_step bp_ hb); (try clear hb); (try clear hb2); (try clear hk); (try clear hi); have hcz36_0 : w35.cell? ⟨gb484, 0, none⟩ = some (.int .i64 a0_0) := (blk_cell BK484.out 0).trans rfl; have hcz36_1 : w35.cell? ⟨gb484, 1, none⟩ = some (.int .i64 a0_1) := (blk_cell BK484.out 1).trans rfl; have hcz36_2 : w35.cell? ⟨gb484, 2, none⟩ = some (.int .i64 a0_2) := (blk_cell BK484.out 2).trans rfl; have hcz36_3 : w35.cell? ⟨gb484, 3, none⟩ = some (.int .i64 a0_3) := (blk_cell BK484.out 3).trans rfl; have hfz36_0 := blk_frozen BK484.out 0; have hfz36_1 := blk_frozen BK484.out 1; have hfz36_2 := blk_frozen BK484.out 2; have hfz36_3 := blk_frozen BK484.out 3) | ((with_reducible refine gate_callee (f := 40) rfl ?_); refine goQ_ (some 29) Try.func40 #[.int .i64 a0_3] ?_; (with_reducible refine (num_Decimal.calls a0_3 t490 _ A24.out).mono ?_); rintro e w37 ⟨rfl, hb⟩; refine ⟨_, rfl, ?_⟩; replace HB := Aside0.mk (below_step bp_ hb); (try clear hb); (try clear hb2); (try clear hk); (try clear hi)))
                     go_ret2
                     exact ⟨by first | rfl | (simp [errW_none, errW_some] <;> rfl) | (simp [*, errW_none, errW_some] <;> rfl), bp_⟩
                   · rw [if_neg c26] at H
                     exact absurd H (by simp)
                 · rw [if_neg c25] at H
                   exact absurd H (by simp)
             · rw [if_neg c12] at H
               exact absurd H (by simp)
           · rw [if_neg c11] at H
             exact absurd H (by simp)
         · rw [if_neg c9] at H
           exact absurd H (by simp)
       · rw [if_neg c8] at H
         exact absurd H (by simp)
     · rw [if_neg c6] at H
       exact absurd H (by simp)
   · rw [if_neg c5] at H
     exact absurd H (by simp)
 · replace c3 := Bool.eq_false_iff.mpr c3
   subst c3
   have H1 : (some ((⟨#[]⟩ : ByteArray), 1)) = some (r1, r2) := by rw [if_neg (show ¬ (false = true) by decide)] at H; exact H
   clear H
   have H := H1
   clear H1
   simp only [Option.some.injEq, Prod.mk.injEq] at H
   obtain ⟨rfl, rfl⟩ := H
   go_enter Try.func29, Try.ntmps29
   go_wp2_with (first | ((with_reducible refine gate_dst (N := 1) rfl ?_); refine box_event ?hg (N := 1) ?hd (cs := #[.int .i64 a0_0, .int .i64 a0_1, .int .i64 a0_2, .int .i64 a0_3]) (t := 36) ?hr ?_; (case hd => rfl); (case hg => rfl); (case hr => first | (go_simp; done) | (go_simp; rfl)); intro gb484 hg w38 hbox hb; have BK484 := Aside0.mk (hbox); have GW484 := Aside0.mk ((by rw [hg]; exact (below_size bp_) : w.heap.size ≤ gb484)); have GE484 := Aside0.mk ((by rw [hg]; exact (below_size bp_) : w.heap.size ≤ gb484)); replace HB := Aside0.mk (below_step bp_ hb); clear hb hbox hg; have hcz39_0 : w38.cell? ⟨gb484, 0, none⟩ = some (.int .i64 a0_0) := (blk_cell BK484.out 0).trans rfl; have hcz39_1 : w38.cell? ⟨gb484, 1, none⟩ = some (.int .i64 a0_1) := (blk_cell BK484.out 1).trans rfl; have hcz39_2 : w38.cell? ⟨gb484, 2, none⟩ = some (.int .i64 a0_2) := (blk_cell BK484.out 2).trans rfl; have hcz39_3 : w38.cell? ⟨gb484, 3, none⟩ = some (.int .i64 a0_3) := (blk_cell BK484.out 3).trans rfl; have hfz39_0 := blk_frozen BK484.out 0; have hfz39_1 := blk_frozen BK484.out 1; have hfz39_2 := blk_frozen BK484.out 2; have hfz39_3 := blk_frozen BK484.out 3) | ((with_reducible refine gate_callee (f := 30) rfl ?_); refine goQ_ (some 6) Try.func30 #[.agg #[.int .i64 a0_0, .int .i64 a0_1, .int .i64 a0_2, .int .i64 a0_3]] ?_; (with_reducible refine (head_May.calls a0_0 a0_1 a0_2 a0_3 false _ A2.out).mono ?_); rintro e w40 ⟨rfl, hb⟩; refine ⟨_, rfl, ?_⟩; replace HB := Aside0.mk (below_step bp_ hb); (try clear hb); (try clear hb2); (try clear hk); (try clear hi)))
   go_ret2
   exact ⟨by first | rfl | (simp [errW_none, errW_some] <;> rfl) | (simp [*, errW_none, errW_some] <;> rfl), bp_⟩

end Go.Proofs.Ytmimfljiighbaaa.Q
