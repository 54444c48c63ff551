-- written by our own program (wip/tools/myprint.py) out of the translation, by the kit's print; Lean checks it
import Derived.Test.YtehjnekljodmgaaQ0
import Derived.Test.YtehjnekljodmgaaQ1
import Derived.Test.YtehjnekljodmgaaQ6
import Derived.Test.YtehjnekljodmgaaQ9
namespace Go.Proofs.Ytehjnekljodmgaa.Q
open Go.RowKit Go.Proofs.YtehjnekljodmgaaW.PrintWords Go.Proofs.YtehjnekljodmgaaW.PrintLast Go.Proofs.YtehjnekljodmgaaW.PrintMore
attribute [local go_sem] max2_int min2_int max_two min_two max_three min_three max_four min_four   -- for this text's walks alone
set_option linter.unusedVariables false
set_option linter.unusedSimpArgs false


/-! ### chequerlaw04_TurnGroup: function 6 -/
def chequerlaw04_TurnGroup.f (k : Nat) (a0 : Int) (a1 : Int) (a2 : Int) : Option (Bool) := (chequerref01_Around.f a0 8).bind fun t364 => ((chequerref01_Around.f a1 8).bind fun t365 => ((chequerref01_Around.f a2 8).bind fun t366 => ((turn_Then.f k t364 t365).bind fun t367 => ((turn_Then.f k t367 t366).bind fun t368 => ((turn_Then.f k t365 t366).bind fun t369 => ((turn_Then.f k t364 t369).bind fun t370 => (if t368 = t370 then ((turn_Then.f k t364 0).bind fun t371 => (if t371 = t364 then ((turn_Then.f k 0 t364).bind fun t372 => (if t372 = t364 then ((turn_Back.f k t364).bind fun t373 => ((turn_Then.f k t364 t373).bind fun t374 => (if t374 = 0 then ((turn_Back.f k t364).bind fun t375 => ((turn_Then.f k t375 t364).bind fun t376 => (if t376 = 0 then ((turn_Back.f k t364).bind fun t377 => ((turn_Back.f k t377).bind fun t378 => (if t378 = t364 then ((chequerlaw04_lives.f k).bind fun t379 => (some t379)) else (some false)))) else (some false)))) else (some false)))) else (some false))) else (some false))) else (some false))))))))
theorem chequerlaw04_TurnGroup.mono : ∀ a0 a1 a2 k, LeO (chequerlaw04_TurnGroup.f k a0 a1 a2) (chequerlaw04_TurnGroup.f (k + 1) a0 a1 a2) := by
 intro a0 a1 a2 k
 unfold chequerlaw04_TurnGroup.f
 repeat' first
  | (with_reducible exact chequerlaw04_lives.mono _)
  | (with_reducible exact turn_Back.mono _ _)
  | (with_reducible exact turn_Then.mono _ _ _)
  | (with_reducible exact LeO.refl _)
  | (with_reducible exact LeO.none _)
  | (with_reducible refine LeO.ite ?_ ?_)
  | (with_reducible refine LeO.bind ?_ (fun _ => ?_))
  | exact chequerlaw04_lives.mono _
  | exact turn_Back.mono _ _
  | exact turn_Then.mono _ _ _
  | exact LeO.none _
  | refine LeO.ite ?_ ?_
  | refine LeO.bind ?_ (fun _ => ?_)
set_option maxHeartbeats 8000000 in
set_option maxRecDepth 100000 in
theorem chequerlaw04_TurnGroup.calls (k : Nat) (a0 : Int) (a1 : Int) (a2 : Int) (r : Bool) (w : World) (h : chequerlaw04_TurnGroup.f k a0 a1 a2 = some r) :
 Calls Try.prog 6 #[.int .i64 a0, .int .i64 a1, .int .i64 a2] w fun e w' => e = .returned (.bool r) ∧ Below w.heap.size w w' := by
 have HB := Aside0.mk (Below.refl w.heap.size w)
 have H : ((chequerref01_Around.f a0 8).bind fun t364 => ((chequerref01_Around.f a1 8).bind fun t365 => ((chequerref01_Around.f a2 8).bind fun t366 => ((turn_Then.f k t364 t365).bind fun t367 => ((turn_Then.f k t367 t366).bind fun t368 => ((turn_Then.f k t365 t366).bind fun t369 => ((turn_Then.f k t364 t369).bind fun t370 => (if t368 = t370 then ((turn_Then.f k t364 0).bind fun t371 => (if t371 = t364 then ((turn_Then.f k 0 t364).bind fun t372 => (if t372 = t364 then ((turn_Back.f k t364).bind fun t373 => ((turn_Then.f k t364 t373).bind fun t374 => (if t374 = 0 then ((turn_Back.f k t364).bind fun t375 => ((turn_Then.f k t375 t364).bind fun t376 => (if t376 = 0 then ((turn_Back.f k t364).bind fun t377 => ((turn_Back.f k t377).bind fun t378 => (if t378 = t364 then ((chequerlaw04_lives.f k).bind fun t379 => (some t379)) else (some false)))) else (some false)))) else (some false)))) else (some false))) else (some false))) else (some false))))))))) = some r := h
 clear h
 replace H := Option.bind_eq_some_iff.mp H
 obtain ⟨t364, A40, H⟩ := H
 replace H : ((chequerref01_Around.f a1 8).bind fun t365 => ((chequerref01_Around.f a2 8).bind fun t366 => ((turn_Then.f k t364 t365).bind fun t367 => ((turn_Then.f k t367 t366).bind fun t368 => ((turn_Then.f k t365 t366).bind fun t369 => ((turn_Then.f k t364 t369).bind fun t370 => (if t368 = t370 then ((turn_Then.f k t364 0).bind fun t371 => (if t371 = t364 then ((turn_Then.f k 0 t364).bind fun t372 => (if t372 = t364 then ((turn_Back.f k t364).bind fun t373 => ((turn_Then.f k t364 t373).bind fun t374 => (if t374 = 0 then ((turn_Back.f k t364).bind fun t375 => ((turn_Then.f k t375 t364).bind fun t376 => (if t376 = 0 then ((turn_Back.f k t364).bind fun t377 => ((turn_Back.f k t377).bind fun t378 => (if t378 = t364 then ((chequerlaw04_lives.f k).bind fun t379 => (some t379)) else (some false)))) else (some false)))) else (some false)))) else (some false))) else (some false))) else (some false)))))))) = some r := H
 have A4 := Aside0.mk A40
 clear A40
 replace H := Option.bind_eq_some_iff.mp H
 obtain ⟨t365, A50, H⟩ := H
 replace H : ((chequerref01_Around.f a2 8).bind fun t366 => ((turn_Then.f k t364 t365).bind fun t367 => ((turn_Then.f k t367 t366).bind fun t368 => ((turn_Then.f k t365 t366).bind fun t369 => ((turn_Then.f k t364 t369).bind fun t370 => (if t368 = t370 then ((turn_Then.f k t364 0).bind fun t371 => (if t371 = t364 then ((turn_Then.f k 0 t364).bind fun t372 => (if t372 = t364 then ((turn_Back.f k t364).bind fun t373 => ((turn_Then.f k t364 t373).bind fun t374 => (if t374 = 0 then ((turn_Back.f k t364).bind fun t375 => ((turn_Then.f k t375 t364).bind fun t376 => (if t376 = 0 then ((turn_Back.f k t364).bind fun t377 => ((turn_Back.f k t377).bind fun t378 => (if t378 = t364 then ((chequerlaw04_lives.f k).bind fun t379 => (some t379)) else (some false)))) else (some false)))) else (some false)))) else (some false))) else (some false))) else (some false))))))) = some r := H
 have A5 := Aside0.mk A50
 clear A50
 replace H := Option.bind_eq_some_iff.mp H
 obtain ⟨t366, A60, H⟩ := H
 replace H : ((turn_Then.f k t364 t365).bind fun t367 => ((turn_Then.f k t367 t366).bind fun t368 => ((turn_Then.f k t365 t366).bind fun t369 => ((turn_Then.f k t364 t369).bind fun t370 => (if t368 = t370 then ((turn_Then.f k t364 0).bind fun t371 => (if t371 = t364 then ((turn_Then.f k 0 t364).bind fun t372 => (if t372 = t364 then ((turn_Back.f k t364).bind fun t373 => ((turn_Then.f k t364 t373).bind fun t374 => (if t374 = 0 then ((turn_Back.f k t364).bind fun t375 => ((turn_Then.f k t375 t364).bind fun t376 => (if t376 = 0 then ((turn_Back.f k t364).bind fun t377 => ((turn_Back.f k t377).bind fun t378 => (if t378 = t364 then ((chequerlaw04_lives.f k).bind fun t379 => (some t379)) else (some false)))) else (some false)))) else (some false)))) else (some false))) else (some false))) else (some false)))))) = some r := H
 have A6 := Aside0.mk A60
 clear A60
 replace H := Option.bind_eq_some_iff.mp H
 obtain ⟨t367, A70, H⟩ := H
 replace H : ((turn_Then.f k t367 t366).bind fun t368 => ((turn_Then.f k t365 t366).bind fun t369 => ((turn_Then.f k t364 t369).bind fun t370 => (if t368 = t370 then ((turn_Then.f k t364 0).bind fun t371 => (if t371 = t364 then ((turn_Then.f k 0 t364).bind fun t372 => (if t372 = t364 then ((turn_Back.f k t364).bind fun t373 => ((turn_Then.f k t364 t373).bind fun t374 => (if t374 = 0 then ((turn_Back.f k t364).bind fun t375 => ((turn_Then.f k t375 t364).bind fun t376 => (if t376 = 0 then ((turn_Back.f k t364).bind fun t377 => ((turn_Back.f k t377).bind fun t378 => (if t378 = t364 then ((chequerlaw04_lives.f k).bind fun t379 => (some t379)) else (some false)))) else (some false)))) else (some false)))) else (some false))) else (some false))) else (some false))))) = some r := H
 have A7 := Aside0.mk A70
 clear A70
 replace H := Option.bind_eq_some_iff.mp H
 obtain ⟨t368, A80, H⟩ := H
 replace H : ((turn_Then.f k t365 t366).bind fun t369 => ((turn_Then.f k t364 t369).bind fun t370 => (if t368 = t370 then ((turn_Then.f k t364 0).bind fun t371 => (if t371 = t364 then ((turn_Then.f k 0 t364).bind fun t372 => (if t372 = t364 then ((turn_Back.f k t364).bind fun t373 => ((turn_Then.f k t364 t373).bind fun t374 => (if t374 = 0 then ((turn_Back.f k t364).bind fun t375 => ((turn_Then.f k t375 t364).bind fun t376 => (if t376 = 0 then ((turn_Back.f k t364).bind fun t377 => ((turn_Back.f k t377).bind fun t378 => (if t378 = t364 then ((chequerlaw04_lives.f k).bind fun t379 => (some t379)) else (some false)))) else (some false)))) else (some false)))) else (some false))) else (some false))) else (some false)))) = some r := H
 have A8 := Aside0.mk A80
 clear A80
 replace H := Option.bind_eq_some_iff.mp H
 obtain ⟨t369, A90, H⟩ := H
 replace H : ((turn_Then.f k t364 t369).bind fun t370 => (if t368 = t370 then ((turn_Then.f k t364 0).bind fun t371 => (if t371 = t364 then ((turn_Then.f k 0 t364).bind fun t372 => (if t372 = t364 then ((turn_Back.f k t364).bind fun t373 => ((turn_Then.f k t364 t373).bind fun t374 => (if t374 = 0 then ((turn_Back.f k t364).bind fun t375 => ((turn_Then.f k t375 t364).bind fun t376 => (if t376 = 0 then ((turn_Back.f k t364).bind fun t377 => ((turn_Back.f k t377).bind fun t378 => (if t378 = t364 then ((chequerlaw04_lives.f k).bind fun t379 => (some t379)) else (some false)))) else (some false)))) else (some false)))) else (some false))) else (some false))) else (some false))) = some r := H
 have A9 := Aside0.mk A90
 clear A90
 replace H := Option.bind_eq_some_iff.mp H
 obtain ⟨t370, A100, H⟩ := H
 replace H : (if t368 = t370 then ((turn_Then.f k t364 0).bind fun t371 => (if t371 = t364 then ((turn_Then.f k 0 t364).bind fun t372 => (if t372 = t364 then ((turn_Back.f k t364).bind fun t373 => ((turn_Then.f k t364 t373).bind fun t374 => (if t374 = 0 then ((turn_Back.f k t364).bind fun t375 => ((turn_Then.f k t375 t364).bind fun t376 => (if t376 = 0 then ((turn_Back.f k t364).bind fun t377 => ((turn_Back.f k t377).bind fun t378 => (if t378 = t364 then ((chequerlaw04_lives.f k).bind fun t379 => (some t379)) else (some false)))) else (some false)))) else (some false)))) else (some false))) else (some false))) else (some false)) = some r := H
 have A10 := Aside0.mk A100
 clear A100
 by_cases c11 : t368 = t370
 · rw [if_pos c11] at H
   have c11b0 : (t368 == t370) = true := beq_iff_eq.mpr c11
   have c11b1 : (t368 != t370) = false := bne_eq_false_iff_eq.mpr c11
   clear c11
   replace H := Option.bind_eq_some_iff.mp H
   obtain ⟨t371, A120, H⟩ := H
   replace H : (if t371 = t364 then ((turn_Then.f k 0 t364).bind fun t372 => (if t372 = t364 then ((turn_Back.f k t364).bind fun t373 => ((turn_Then.f k t364 t373).bind fun t374 => (if t374 = 0 then ((turn_Back.f k t364).bind fun t375 => ((turn_Then.f k t375 t364).bind fun t376 => (if t376 = 0 then ((turn_Back.f k t364).bind fun t377 => ((turn_Back.f k t377).bind fun t378 => (if t378 = t364 then ((chequerlaw04_lives.f k).bind fun t379 => (some t379)) else (some false)))) else (some false)))) else (some false)))) else (some false))) else (some false)) = some r := H
   have A12 := Aside0.mk A120
   clear A120
   by_cases c13 : t371 = t364
   · rw [if_pos c13] at H
     have c13b0 : (t371 == t364) = true := beq_iff_eq.mpr c13
     have c13b1 : (t371 != t364) = false := bne_eq_false_iff_eq.mpr c13
     clear c13
     replace H := Option.bind_eq_some_iff.mp H
     obtain ⟨t372, A140, H⟩ := H
     replace H : (if t372 = t364 then ((turn_Back.f k t364).bind fun t373 => ((turn_Then.f k t364 t373).bind fun t374 => (if t374 = 0 then ((turn_Back.f k t364).bind fun t375 => ((turn_Then.f k t375 t364).bind fun t376 => (if t376 = 0 then ((turn_Back.f k t364).bind fun t377 => ((turn_Back.f k t377).bind fun t378 => (if t378 = t364 then ((chequerlaw04_lives.f k).bind fun t379 => (some t379)) else (some false)))) else (some false)))) else (some false)))) else (some false)) = some r := H
     have A14 := Aside0.mk A140
     clear A140
     by_cases c15 : t372 = t364
     · rw [if_pos c15] at H
       have c15b0 : (t372 == t364) = true := beq_iff_eq.mpr c15
       have c15b1 : (t372 != t364) = false := bne_eq_false_iff_eq.mpr c15
       clear c15
       replace H := Option.bind_eq_some_iff.mp H
       obtain ⟨t373, A160, H⟩ := H
       replace H : ((turn_Then.f k t364 t373).bind fun t374 => (if t374 = 0 then ((turn_Back.f k t364).bind fun t375 => ((turn_Then.f k t375 t364).bind fun t376 => (if t376 = 0 then ((turn_Back.f k t364).bind fun t377 => ((turn_Back.f k t377).bind fun t378 => (if t378 = t364 then ((chequerlaw04_lives.f k).bind fun t379 => (some t379)) else (some false)))) else (some false)))) else (some false))) = some r := H
       have A16 := Aside0.mk A160
       clear A160
       replace H := Option.bind_eq_some_iff.mp H
       obtain ⟨t374, A170, H⟩ := H
       replace H : (if t374 = 0 then ((turn_Back.f k t364).bind fun t375 => ((turn_Then.f k t375 t364).bind fun t376 => (if t376 = 0 then ((turn_Back.f k t364).bind fun t377 => ((turn_Back.f k t377).bind fun t378 => (if t378 = t364 then ((chequerlaw04_lives.f k).bind fun t379 => (some t379)) else (some false)))) else (some false)))) else (some false)) = some r := H
       have A17 := Aside0.mk A170
       clear A170
       by_cases c18 : t374 = 0
       · rw [if_pos c18] at H
         have c18b0 : (t374 == 0) = true := beq_iff_eq.mpr c18
         have c18b1 : (t374 != 0) = false := bne_eq_false_iff_eq.mpr c18
         clear c18
         replace H := Option.bind_eq_some_iff.mp H
         obtain ⟨t375, A190, H⟩ := H
         obtain rfl : t373 = t375 := Option.some.inj (A16.out.symm.trans A190)
         replace H : ((turn_Then.f k t373 t364).bind fun t376 => (if t376 = 0 then ((turn_Back.f k t364).bind fun t377 => ((turn_Back.f k t377).bind fun t378 => (if t378 = t364 then ((chequerlaw04_lives.f k).bind fun t379 => (some t379)) else (some false)))) else (some false))) = some r := H
         have A19 := Aside0.mk A190
         clear A190
         replace H := Option.bind_eq_some_iff.mp H
         obtain ⟨t376, A200, H⟩ := H
         replace H : (if t376 = 0 then ((turn_Back.f k t364).bind fun t377 => ((turn_Back.f k t377).bind fun t378 => (if t378 = t364 then ((chequerlaw04_lives.f k).bind fun t379 => (some t379)) else (some false)))) else (some false)) = some r := H
         have A20 := Aside0.mk A200
         clear A200
         by_cases c21 : t376 = 0
         · rw [if_pos c21] at H
           have c21b0 : (t376 == 0) = true := beq_iff_eq.mpr c21
           have c21b1 : (t376 != 0) = false := bne_eq_false_iff_eq.mpr c21
           clear c21
           replace H := Option.bind_eq_some_iff.mp H
           obtain ⟨t377, A220, H⟩ := H
           obtain rfl : t373 = t377 := Option.some.inj (A16.out.symm.trans A220)
           replace H : ((turn_Back.f k t373).bind fun t378 => (if t378 = t364 then ((chequerlaw04_lives.f k).bind fun t379 => (some t379)) else (some false))) = some r := H
           have A22 := Aside0.mk A220
           clear A220
           replace H := Option.bind_eq_some_iff.mp H
           obtain ⟨t378, A230, H⟩ := H
           replace H : (if t378 = t364 then ((chequerlaw04_lives.f k).bind fun t379 => (some t379)) else (some false)) = some r := H
           have A23 := Aside0.mk A230
           clear A230
           by_cases c24 : t378 = t364
           · rw [if_pos c24] at H
             have c24b0 : (t378 == t364) = true := beq_iff_eq.mpr c24
             have c24b1 : (t378 != t364) = false := bne_eq_false_iff_eq.mpr c24
             clear c24
             replace H := Option.bind_eq_some_iff.mp H
             obtain ⟨t379, A250, H⟩ := H
             replace H : (some t379) = some r := H
             have A25 := Aside0.mk A250
             clear A250
             obtain rfl := Option.some.inj H
             go_enter Try.func6, Try.ntmps6
             go_wp2_with (first | ((with_reducible refine gate_callee (f := 23) rfl ?_); refine goQ_ (some 11) Try.func23 #[.int .i64 a0, .int .i64 8] ?_; (with_reducible refine (chequerref01_Around.calls a0 8 t364 _ A4.out).mono ?_); rintro e w' ⟨rfl, ⟨nd, rfl⟩⟩; refine ⟨_, rfl, ?_⟩) | ((with_reducible refine gate_callee (f := 23) rfl ?_); refine goQ_ (some 13) Try.func23 #[.int .i64 a1, .int .i64 8] ?_; (with_reducible refine (chequerref01_Around.calls a1 8 t365 _ A5.out).mono ?_); rintro e w' ⟨rfl, ⟨nd, rfl⟩⟩; refine ⟨_, rfl, ?_⟩) | ((with_reducible refine gate_callee (f := 23) rfl ?_); refine goQ_ (some 15) Try.func23 #[.int .i64 a2, .int .i64 8] ?_; (with_reducible refine (chequerref01_Around.calls a2 8 t366 _ A6.out).mono ?_); rintro e w' ⟨rfl, ⟨nd, rfl⟩⟩; refine ⟨_, rfl, ?_⟩) | ((with_reducible refine gate_callee (f := 24) rfl ?_); refine goQ_ (some 18) Try.func24 #[.int .i64 t364, .int .i64 t365] ?_; (with_reducible refine (turn_Then.calls k t364 t365 t367 _ A7.out).mono ?_); rintro e w' ⟨rfl, ⟨nd, rfl⟩⟩; refine ⟨_, rfl, ?_⟩) | ((with_reducible refine gate_callee (f := 24) rfl ?_); refine goQ_ (some 20) Try.func24 #[.int .i64 t367, .int .i64 t366] ?_; (with_reducible refine (turn_Then.calls k t367 t366 t368 _ A8.out).mono ?_); rintro e w' ⟨rfl, ⟨nd, rfl⟩⟩; refine ⟨_, rfl, ?_⟩) | ((with_reducible refine gate_callee (f := 24) rfl ?_); refine goQ_ (some 24) Try.func24 #[.int .i64 t365, .int .i64 t366] ?_; (with_reducible refine (turn_Then.calls k t365 t366 t369 _ A9.out).mono ?_); rintro e w' ⟨rfl, ⟨nd, rfl⟩⟩; refine ⟨_, rfl, ?_⟩) | ((with_reducible refine gate_callee (f := 24) rfl ?_); refine goQ_ (some 25) Try.func24 #[.int .i64 t364, .int .i64 t369] ?_; (with_reducible refine (turn_Then.calls k t364 t369 t370 _ A10.out).mono ?_); rintro e w' ⟨rfl, ⟨nd, rfl⟩⟩; refine ⟨_, rfl, ?_⟩) | (go_at_call 24; (with_reducible refine (turn_Then.calls k t364 0 t371 _ A12.out).mono ?_); rintro e w' ⟨rfl, ⟨nd, rfl⟩⟩) | (go_at_call 24; (with_reducible refine (turn_Then.calls k 0 t364 t372 _ A14.out).mono ?_); rintro e w' ⟨rfl, ⟨nd, rfl⟩⟩) | (go_at_call 25; (with_reducible refine (turn_Back.calls k t364 t373 _ A16.out).mono ?_); rintro e w' ⟨rfl, ⟨nd, rfl⟩⟩) | (go_at_call 24; (with_reducible refine (turn_Then.calls k t364 t373 t374 _ A17.out).mono ?_); rintro e w' ⟨rfl, ⟨nd, rfl⟩⟩) | (go_at_call 25; (with_reducible refine (turn_Back.calls k t364 t373 _ A19.out).mono ?_); rintro e w' ⟨rfl, ⟨nd, rfl⟩⟩) | (go_at_call 24; (with_reducible refine (turn_Then.calls k t373 t364 t376 _ A20.out).mono ?_); rintro e w' ⟨rfl, ⟨nd, rfl⟩⟩) | (go_at_call 25; (with_reducible refine (turn_Back.calls k t364 t373 _ A22.out).mono ?_); rintro e w' ⟨rfl, ⟨nd, rfl⟩⟩) | (go_at_call 25; (with_reducible refine (turn_Back.calls k t373 t378 _ A23.out).mono ?_); rintro e w' ⟨rfl, ⟨nd, rfl⟩⟩) | (go_at_call 22; (with_reducible refine (chequerlaw04_lives.calls k  t379 _ A25.out).mono ?_); rintro e w26 ⟨rfl, hb⟩; replace HB := Aside0.mk (below_step bp_ hb); (try clear hb); (try clear hb2); (try clear hk); (try clear hi)))
             go_ret
             exact ⟨by first | rfl | (simp [errW_none, errW_some] <;> rfl) | (simp [*, errW_none, errW_some] <;> rfl), bp_⟩
           · rw [if_neg c24] at H
             have c24b0 : (t378 == t364) = false := beq_eq_false_iff_ne.mpr c24
             have c24b1 : (t378 != t364) = true := bne_iff_ne.mpr c24
             obtain rfl := Option.some.inj H
             go_enter Try.func6, Try.ntmps6
             go_wp2_with (first | ((with_reducible refine gate_callee (f := 23) rfl ?_); refine goQ_ (some 11) Try.func23 #[.int .i64 a0, .int .i64 8] ?_; (with_reducible refine (chequerref01_Around.calls a0 8 t364 _ A4.out).mono ?_); rintro e w' ⟨rfl, ⟨nd, rfl⟩⟩; refine ⟨_, rfl, ?_⟩) | ((with_reducible refine gate_callee (f := 23) rfl ?_); refine goQ_ (some 13) Try.func23 #[.int .i64 a1, .int .i64 8] ?_; (with_reducible refine (chequerref01_Around.calls a1 8 t365 _ A5.out).mono ?_); rintro e w' ⟨rfl, ⟨nd, rfl⟩⟩; refine ⟨_, rfl, ?_⟩) | ((with_reducible refine gate_callee (f := 23) rfl ?_); refine goQ_ (some 15) Try.func23 #[.int .i64 a2, .int .i64 8] ?_; (with_reducible refine (chequerref01_Around.calls a2 8 t366 _ A6.out).mono ?_); rintro e w' ⟨rfl, ⟨nd, rfl⟩⟩; refine ⟨_, rfl, ?_⟩) | ((with_reducible refine gate_callee (f := 24) rfl ?_); refine goQ_ (some 18) Try.func24 #[.int .i64 t364, .int .i64 t365] ?_; (with_reducible refine (turn_Then.calls k t364 t365 t367 _ A7.out).mono ?_); rintro e w' ⟨rfl, ⟨nd, rfl⟩⟩; refine ⟨_, rfl, ?_⟩) | ((with_reducible refine gate_callee (f := 24) rfl ?_); refine goQ_ (some 20) Try.func24 #[.int .i64 t367, .int .i64 t366] ?_; (with_reducible refine (turn_Then.calls k t367 t366 t368 _ A8.out).mono ?_); rintro e w' ⟨rfl, ⟨nd, rfl⟩⟩; refine ⟨_, rfl, ?_⟩) | ((with_reducible refine gate_callee (f := 24) rfl ?_); refine goQ_ (some 24) Try.func24 #[.int .i64 t365, .int .i64 t366] ?_; (with_reducible refine (turn_Then.calls k t365 t366 t369 _ A9.out).mono ?_); rintro e w' ⟨rfl, ⟨nd, rfl⟩⟩; refine ⟨_, rfl, ?_⟩) | ((with_reducible refine gate_callee (f := 24) rfl ?_); refine goQ_ (some 25) Try.func24 #[.int .i64 t364, .int .i64 t369] ?_; (with_reducible refine (turn_Then.calls k t364 t369 t370 _ A10.out).mono ?_); rintro e w' ⟨rfl, ⟨nd, rfl⟩⟩; refine ⟨_, rfl, ?_⟩) | (go_at_call 24; (with_reducible refine (turn_Then.calls k t364 0 t371 _ A12.out).mono ?_); rintro e w' ⟨rfl, ⟨nd, rfl⟩⟩) | (go_at_call 24; (with_reducible refine (turn_Then.calls k 0 t364 t372 _ A14.out).mono ?_); rintro e w' ⟨rfl, ⟨nd, rfl⟩⟩) | (go_at_call 25; (with_reducible refine (turn_Back.calls k t364 t373 _ A16.out).mono ?_); rintro e w' ⟨rfl, ⟨nd, rfl⟩⟩) | (go_at_call 24; (with_reducible refine (turn_Then.calls k t364 t373 t374 _ A17.out).mono ?_); rintro e w' ⟨rfl, ⟨nd, rfl⟩⟩) | (go_at_call 25; (with_reducible refine (turn_Back.calls k t364 t373 _ A19.out).mono ?_); rintro e w' ⟨rfl, ⟨nd, rfl⟩⟩) | (go_at_call 24; (with_reducible refine (turn_Then.calls k t373 t364 t376 _ A20.out).mono ?_); rintro e w' ⟨rfl, ⟨nd, rfl⟩⟩) | (go_at_call 25; (with_reducible refine (turn_Back.calls k t364 t373 _ A22.out).mono ?_); rintro e w' ⟨rfl, ⟨nd, rfl⟩⟩) | (go_at_call 25; (with_reducible refine (turn_Back.calls k t373 t378 _ A23.out).mono ?_); rintro e w' ⟨rfl, ⟨nd, rfl⟩⟩))
             go_ret
             exact ⟨by first | rfl | (simp [errW_none, errW_some] <;> rfl) | (simp [*, errW_none, errW_some] <;> rfl), bp_⟩
         · rw [if_neg c21] at H
           have c21b0 : (t376 == 0) = false := beq_eq_false_iff_ne.mpr c21
           have c21b1 : (t376 != 0) = true := bne_iff_ne.mpr c21
           obtain rfl := Option.some.inj H
           go_enter Try.func6, Try.ntmps6
           go_wp2_with (first | ((with_reducible refine gate_callee (f := 23) rfl ?_); refine goQ_ (some 11) Try.func23 #[.int .i64 a0, .int .i64 8] ?_; (with_reducible refine (chequerref01_Around.calls a0 8 t364 _ A4.out).mono ?_); rintro e w' ⟨rfl, ⟨nd, rfl⟩⟩; refine ⟨_, rfl, ?_⟩) | ((with_reducible refine gate_callee (f := 23) rfl ?_); refine goQ_ (some 13) Try.func23 #[.int .i64 a1, .int .i64 8] ?_; (with_reducible refine (chequerref01_Around.calls a1 8 t365 _ A5.out).mono ?_); rintro e w' ⟨rfl, ⟨nd, rfl⟩⟩; refine ⟨_, rfl, ?_⟩) | ((with_reducible refine gate_callee (f := 23) rfl ?_); refine goQ_ (some 15) Try.func23 #[.int .i64 a2, .int .i64 8] ?_; (with_reducible refine (chequerref01_Around.calls a2 8 t366 _ A6.out).mono ?_); rintro e w' ⟨rfl, ⟨nd, rfl⟩⟩; refine ⟨_, rfl, ?_⟩) | ((with_reducible refine gate_callee (f := 24) rfl ?_); refine goQ_ (some 18) Try.func24 #[.int .i64 t364, .int .i64 t365] ?_; (with_reducible refine (turn_Then.calls k t364 t365 t367 _ A7.out).mono ?_); rintro e w' ⟨rfl, ⟨nd, rfl⟩⟩; refine ⟨_, rfl, ?_⟩) | ((with_reducible refine gate_callee (f := 24) rfl ?_); refine goQ_ (some 20) Try.func24 #[.int .i64 t367, .int .i64 t366] ?_; (with_reducible refine (turn_Then.calls k t367 t366 t368 _ A8.out).mono ?_); rintro e w' ⟨rfl, ⟨nd, rfl⟩⟩; refine ⟨_, rfl, ?_⟩) | ((with_reducible refine gate_callee (f := 24) rfl ?_); refine goQ_ (some 24) Try.func24 #[.int .i64 t365, .int .i64 t366] ?_; (with_reducible refine (turn_Then.calls k t365 t366 t369 _ A9.out).mono ?_); rintro e w' ⟨rfl, ⟨nd, rfl⟩⟩; refine ⟨_, rfl, ?_⟩) | ((with_reducible refine gate_callee (f := 24) rfl ?_); refine goQ_ (some 25) Try.func24 #[.int .i64 t364, .int .i64 t369] ?_; (with_reducible refine (turn_Then.calls k t364 t369 t370 _ A10.out).mono ?_); rintro e w' ⟨rfl, ⟨nd, rfl⟩⟩; refine ⟨_, rfl, ?_⟩) | (go_at_call 24; (with_reducible refine (turn_Then.calls k t364 0 t371 _ A12.out).mono ?_); rintro e w' ⟨rfl, ⟨nd, rfl⟩⟩) | (go_at_call 24; (with_reducible refine (turn_Then.calls k 0 t364 t372 _ A14.out).mono ?_); rintro e w' ⟨rfl, ⟨nd, rfl⟩⟩) | (go_at_call 25; (with_reducible refine (turn_Back.calls k t364 t373 _ A16.out).mono ?_); rintro e w' ⟨rfl, ⟨nd, rfl⟩⟩) | (go_at_call 24; (with_reducible refine (turn_Then.calls k t364 t373 t374 _ A17.out).mono ?_); rintro e w' ⟨rfl, ⟨nd, rfl⟩⟩) | (go_at_call 25; (with_reducible refine (turn_Back.calls k t364 t373 _ A19.out).mono ?_); rintro e w' ⟨rfl, ⟨nd, rfl⟩⟩) | (go_at_call 24; (with_reducible refine (turn_Then.calls k t373 t364 t376 _ A20.out).mono ?_); rintro e w' ⟨rfl, ⟨nd, rfl⟩⟩))
           go_ret
           exact ⟨by first | rfl | (simp [errW_none, errW_some] <;> rfl) | (simp [*, errW_none, errW_some] <;> rfl), bp_⟩
       · rw [if_neg c18] at H
         have c18b0 : (t374 == 0) = false := beq_eq_false_iff_ne.mpr c18
         have c18b1 : (t374 != 0) = true := bne_iff_ne.mpr c18
         obtain rfl := Option.some.inj H
         go_enter Try.func6, Try.ntmps6
         go_wp2_with (first | ((with_reducible refine gate_callee (f := 23) rfl ?_); refine goQ_ (some 11) Try.func23 #[.int .i64 a0, .int .i64 8] ?_; (with_reducible refine (chequerref01_Around.calls a0 8 t364 _ A4.out).mono ?_); rintro e w' ⟨rfl, ⟨nd, rfl⟩⟩; refine ⟨_, rfl, ?_⟩) | ((with_reducible refine gate_callee (f := 23) rfl ?_); refine goQ_ (some 13) Try.func23 #[.int .i64 a1, .int .i64 8] ?_; (with_reducible refine (chequerref01_Around.calls a1 8 t365 _ A5.out).mono ?_); rintro e w' ⟨rfl, ⟨nd, rfl⟩⟩; refine ⟨_, rfl, ?_⟩) | ((with_reducible refine gate_callee (f := 23) rfl ?_); refine goQ_ (some 15) Try.func23 #[.int .i64 a2, .int .i64 8] ?_; (with_reducible refine (chequerref01_Around.calls a2 8 t366 _ A6.out).mono ?_); rintro e w' ⟨rfl, ⟨nd, rfl⟩⟩; refine ⟨_, rfl, ?_⟩) | ((with_reducible refine gate_callee (f := 24) rfl ?_); refine goQ_ (some 18) Try.func24 #[.int .i64 t364, .int .i64 t365] ?_; (with_reducible refine (turn_Then.calls k t364 t365 t367 _ A7.out).mono ?_); rintro e w' ⟨rfl, ⟨nd, rfl⟩⟩; refine ⟨_, rfl, ?_⟩) | ((with_reducible refine gate_callee (f := 24) rfl ?_); refine goQ_ (some 20) Try.func24 #[.int .i64 t367, .int .i64 t366] ?_; (with_reducible refine (turn_Then.calls k t367 t366 t368 _ A8.out).mono ?_); rintro e w' ⟨rfl, ⟨nd, rfl⟩⟩; refine ⟨_, rfl, ?_⟩) | ((with_reducible refine gate_callee (f := 24) rfl ?_); refine goQ_ (some 24) Try.func24 #[.int .i64 t365, .int .i64 t366] ?_; (with_reducible refine (turn_Then.calls k t365 t366 t369 _ A9.out).mono ?_); rintro e w' ⟨rfl, ⟨nd, rfl⟩⟩; refine ⟨_, rfl, ?_⟩) | ((with_reducible refine gate_callee (f := 24) rfl ?_); refine goQ_ (some 25) Try.func24 #[.int .i64 t364, .int .i64 t369] ?_; (with_reducible refine (turn_Then.calls k t364 t369 t370 _ A10.out).mono ?_); rintro e w' ⟨rfl, ⟨nd, rfl⟩⟩; refine ⟨_, rfl, ?_⟩) | (go_at_call 24; (with_reducible refine (turn_Then.calls k t364 0 t371 _ A12.out).mono ?_); rintro e w' ⟨rfl, ⟨nd, rfl⟩⟩) | (go_at_call 24; (with_reducible refine (turn_Then.calls k 0 t364 t372 _ A14.out).mono ?_); rintro e w' ⟨rfl, ⟨nd, rfl⟩⟩) | (go_at_call 25; (with_reducible refine (turn_Back.calls k t364 t373 _ A16.out).mono ?_); rintro e w' ⟨rfl, ⟨nd, rfl⟩⟩) | (go_at_call 24; (with_reducible refine (turn_Then.calls k t364 t373 t374 _ A17.out).mono ?_); rintro e w' ⟨rfl, ⟨nd, rfl⟩⟩))
         go_ret
         exact ⟨by first | rfl | (simp [errW_none, errW_some] <;> rfl) | (simp [*, errW_none, errW_some] <;> rfl), bp_⟩
     · rw [if_neg c15] at H
       have c15b0 : (t372 == t364) = false := beq_eq_false_iff_ne.mpr c15
       have c15b1 : (t372 != t364) = true := bne_iff_ne.mpr c15
       obtain rfl := Option.some.inj H
       go_enter Try.func6, Try.ntmps6
       go_wp2_with (first | ((with_reducible refine gate_callee (f := 23) rfl ?_); refine goQ_ (some 11) Try.func23 #[.int .i64 a0, .int .i64 8] ?_; (with_reducible refine (chequerref01_Around.calls a0 8 t364 _ A4.out).mono ?_); rintro e w' ⟨rfl, ⟨nd, rfl⟩⟩; refine ⟨_, rfl, ?_⟩) | ((with_reducible refine gate_callee (f := 23) rfl ?_); refine goQ_ (some 13) Try.func23 #[.int .i64 a1, .int .i64 8] ?_; (with_reducible refine (chequerref01_Around.calls a1 8 t365 _ A5.out).mono ?_); rintro e w' ⟨rfl, ⟨nd, rfl⟩⟩; refine ⟨_, rfl, ?_⟩) | ((with_reducible refine gate_callee (f := 23) rfl ?_); refine goQ_ (some 15) Try.func23 #[.int .i64 a2, .int .i64 8] ?_; (with_reducible refine (chequerref01_Around.calls a2 8 t366 _ A6.out).mono ?_); rintro e w' ⟨rfl, ⟨nd, rfl⟩⟩; refine ⟨_, rfl, ?_⟩) | ((with_reducible refine gate_callee (f := 24) rfl ?_); refine goQ_ (some 18) Try.func24 #[.int .i64 t364, .int .i64 t365] ?_; (with_reducible refine (turn_Then.calls k t364 t365 t367 _ A7.out).mono ?_); rintro e w' ⟨rfl, ⟨nd, rfl⟩⟩; refine ⟨_, rfl, ?_⟩) | ((with_reducible refine gate_callee (f := 24) rfl ?_); refine goQ_ (some 20) Try.func24 #[.int .i64 t367, .int .i64 t366] ?_; (with_reducible refine (turn_Then.calls k t367 t366 t368 _ A8.out).mono ?_); rintro e w' ⟨rfl, ⟨nd, rfl⟩⟩; refine ⟨_, rfl, ?_⟩) | ((with_reducible refine gate_callee (f := 24) rfl ?_); refine goQ_ (some 24) Try.func24 #[.int .i64 t365, .int .i64 t366] ?_; (with_reducible refine (turn_Then.calls k t365 t366 t369 _ A9.out).mono ?_); rintro e w' ⟨rfl, ⟨nd, rfl⟩⟩; refine ⟨_, rfl, ?_⟩) | ((with_reducible refine gate_callee (f := 24) rfl ?_); refine goQ_ (some 25) Try.func24 #[.int .i64 t364, .int .i64 t369] ?_; (with_reducible refine (turn_Then.calls k t364 t369 t370 _ A10.out).mono ?_); rintro e w' ⟨rfl, ⟨nd, rfl⟩⟩; refine ⟨_, rfl, ?_⟩) | (go_at_call 24; (with_reducible refine (turn_Then.calls k t364 0 t371 _ A12.out).mono ?_); rintro e w' ⟨rfl, ⟨nd, rfl⟩⟩) | (go_at_call 24; (with_reducible refine (turn_Then.calls k 0 t364 t372 _ A14.out).mono ?_); rintro e w' ⟨rfl, ⟨nd, rfl⟩⟩))
       go_ret
       exact ⟨by first | rfl | (simp [errW_none, errW_some] <;> rfl) | (simp [*, errW_none, errW_some] <;> rfl), bp_⟩
   · rw [if_neg c13] at H
     have c13b0 : (t371 == t364) = false := beq_eq_false_iff_ne.mpr c13
     have c13b1 : (t371 != t364) = true := bne_iff_ne.mpr c13
     obtain rfl := Option.some.inj H
     go_enter Try.func6, Try.ntmps6
     go_wp2_with (first | ((with_reducible refine gate_callee (f := 23) rfl ?_); refine goQ_ (some 11) Try.func23 #[.int .i64 a0, .int .i64 8] ?_; (with_reducible refine (chequerref01_Around.calls a0 8 t364 _ A4.out).mono ?_); rintro e w' ⟨rfl, ⟨nd, rfl⟩⟩; refine ⟨_, rfl, ?_⟩) | ((with_reducible refine gate_callee (f := 23) rfl ?_); refine goQ_ (some 13) Try.func23 #[.int .i64 a1, .int .i64 8] ?_; (with_reducible refine (chequerref01_Around.calls a1 8 t365 _ A5.out).mono ?_); rintro e w' ⟨rfl, ⟨nd, rfl⟩⟩; refine ⟨_, rfl, ?_⟩) | ((with_reducible refine gate_callee (f := 23) rfl ?_); refine goQ_ (some 15) Try.func23 #[.int .i64 a2, .int .i64 8] ?_; (with_reducible refine (chequerref01_Around.calls a2 8 t366 _ A6.out).mono ?_); rintro e w' ⟨rfl, ⟨nd, rfl⟩⟩; refine ⟨_, rfl, ?_⟩) | ((with_reducible refine gate_callee (f := 24) rfl ?_); refine goQ_ (some 18) Try.func24 #[.int .i64 t364, .int .i64 t365] ?_; (with_reducible refine (turn_Then.calls k t364 t365 t367 _ A7.out).mono ?_); rintro e w' ⟨rfl, ⟨nd, rfl⟩⟩; refine ⟨_, rfl, ?_⟩) | ((with_reducible refine gate_callee (f := 24) rfl ?_); refine goQ_ (some 20) Try.func24 #[.int .i64 t367, .int .i64 t366] ?_; (with_reducible refine (turn_Then.calls k t367 t366 t368 _ A8.out).mono ?_); rintro e w' ⟨rfl, ⟨nd, rfl⟩⟩; refine ⟨_, rfl, ?_⟩) | ((with_reducible refine gate_callee (f := 24) rfl ?_); refine goQ_ (some 24) Try.func24 #[.int .i64 t365, .int .i64 t366] ?_; (with_reducible refine (turn_Then.calls k t365 t366 t369 _ A9.out).mono ?_); rintro e w' ⟨rfl, ⟨nd, rfl⟩⟩; refine ⟨_, rfl, ?_⟩) | ((with_reducible refine gate_callee (f := 24) rfl ?_); refine goQ_ (some 25) Try.func24 #[.int .i64 t364, .int .i64 t369] ?_; (with_reducible refine (turn_Then.calls k t364 t369 t370 _ A10.out).mono ?_); rintro e w' ⟨rfl, ⟨nd, rfl⟩⟩; refine ⟨_, rfl, ?_⟩) | (go_at_call 24; (with_reducible refine (turn_Then.calls k t364 0 t371 _ A12.out).mono ?_); rintro e w' ⟨rfl, ⟨nd, rfl⟩⟩))
     go_ret
     exact ⟨by first | rfl | (simp [errW_none, errW_some] <;> rfl) | (simp [*, errW_none, errW_some] <;> rfl), bp_⟩
 · rw [if_neg c11] at H
   have c11b0 : (t368 == t370) = false := beq_eq_false_iff_ne.mpr c11
   have c11b1 : (t368 != t370) = true := bne_iff_ne.mpr c11
   obtain rfl := Option.some.inj H
   go_enter Try.func6, Try.ntmps6
   go_wp2_with (first | ((with_reducible refine gate_callee (f := 23) rfl ?_); refine goQ_ (some 11) Try.func23 #[.int .i64 a0, .int .i64 8] ?_; (with_reducible refine (chequerref01_Around.calls a0 8 t364 _ A4.out).mono ?_); rintro e w' ⟨rfl, ⟨nd, rfl⟩⟩; refine ⟨_, rfl, ?_⟩) | ((with_reducible refine gate_callee (f := 23) rfl ?_); refine goQ_ (some 13) Try.func23 #[.int .i64 a1, .int .i64 8] ?_; (with_reducible refine (chequerref01_Around.calls a1 8 t365 _ A5.out).mono ?_); rintro e w' ⟨rfl, ⟨nd, rfl⟩⟩; refine ⟨_, rfl, ?_⟩) | ((with_reducible refine gate_callee (f := 23) rfl ?_); refine goQ_ (some 15) Try.func23 #[.int .i64 a2, .int .i64 8] ?_; (with_reducible refine (chequerref01_Around.calls a2 8 t366 _ A6.out).mono ?_); rintro e w' ⟨rfl, ⟨nd, rfl⟩⟩; refine ⟨_, rfl, ?_⟩) | ((with_reducible refine gate_callee (f := 24) rfl ?_); refine goQ_ (some 18) Try.func24 #[.int .i64 t364, .int .i64 t365] ?_; (with_reducible refine (turn_Then.calls k t364 t365 t367 _ A7.out).mono ?_); rintro e w' ⟨rfl, ⟨nd, rfl⟩⟩; refine ⟨_, rfl, ?_⟩) | ((with_reducible refine gate_callee (f := 24) rfl ?_); refine goQ_ (some 20) Try.func24 #[.int .i64 t367, .int .i64 t366] ?_; (with_reducible refine (turn_Then.calls k t367 t366 t368 _ A8.out).mono ?_); rintro e w' ⟨rfl, ⟨nd, rfl⟩⟩; refine ⟨_, rfl, ?_⟩) | ((with_reducible refine gate_callee (f := 24) rfl ?_); refine goQ_ (some 24) Try.func24 #[.int .i64 t365, .int .i64 t366] ?_; (with_reducible refine (turn_Then.calls k t365 t366 t369 _ A9.out).mono ?_); rintro e w' ⟨rfl, ⟨nd, rfl⟩⟩; refine ⟨_, rfl, ?_⟩) | ((with_reducible refine gate_callee (f := 24) rfl ?_); refine goQ_ (some 25) Try.func24 #[.int .i64 t364, .int .i64 t369] ?_; (with_reducible refine (turn_Then.calls k t364 t369 t370 _ A10.out).mono ?_); rintro e w' ⟨rfl, ⟨nd, rfl⟩⟩; refine ⟨_, rfl, ?_⟩))
   go_ret
   exact ⟨by first | rfl | (simp [errW_none, errW_some] <;> rfl) | (simp [*, errW_none, errW_some] <;> rfl), bp_⟩

/-- THE ONE PURE STATEMENT of chequerlaw04_TurnGroup. -/
def chequerlaw04_TurnGroup.Pure : Prop := ∀ (a0 : Int) (a1 : Int) (a2 : Int), (Lit.int .i64 a0).wf = true → (Lit.int .i64 a1).wf = true → (Lit.int .i64 a2).wf = true → ∃ k, chequerlaw04_TurnGroup.f k a0 a1 a2 = some true
theorem chequerlaw04_TurnGroup.walk (P : chequerlaw04_TurnGroup.Pure) (a0 : Int) (a1 : Int) (a2 : Int) (w : World) (w0 : (Lit.int .i64 a0).wf = true) (w1 : (Lit.int .i64 a1).wf = true) (w2 : (Lit.int .i64 a2).wf = true) :
 Calls Try.prog 6 #[.int .i64 a0, .int .i64 a1, .int .i64 a2] w fun e w' => e = .returned (.bool true) ∧ Below w.heap.size w w' := by
 obtain ⟨k, h⟩ := P a0 a1 a2 w0 w1 w2
 refine (chequerlaw04_TurnGroup.calls k a0 a1 a2 true w h).mono ?_
 rintro e w' ⟨rfl, hd⟩
 exact ⟨rfl, hd⟩

/-! ### api_Pixel: function 53 -/
def api_Pixel.l0 : Nat → List Int → List Int → Int → Int → Option (Bool)
  | 0, _, _, _, _ => none
  | k + 1, x0, x1, x12, x13 => if x13 < x12 then (if 0 ≤ x13 then (if x13 < (x0.length : Int) then (if x13 < (x1.length : Int) then (if (rd x0 x13) = (rd x1 x13) then (api_Pixel.l0 k x0 x1 x12 (wrap64 (x13 + 1))) else (some false)) else (none)) else (none)) else (none)) else (some true)
def api_Pixel.f (k : Nat) (l0 : List Int) (l1 : List Int) : Option (Bool) := if (l0.length : Int) = (l1.length : Int) then (api_Pixel.l0 k l0 l1 (l0.length : Int) 0) else (some false)
theorem api_Pixel.mono_l : ∀ k, (∀ y0 y1 y2 y3, LeO (api_Pixel.l0 k y0 y1 y2 y3) (api_Pixel.l0 (k + 1) y0 y1 y2 y3))
  | 0 => fun _ _ _ _ r h => by simp [api_Pixel.l0] at h
  | k + 1 => by
    have ih0 := api_Pixel.mono_l k
    · intro y0 y1 y2 y3
      unfold api_Pixel.l0
      repeat' first
      | (with_reducible exact ih0 _ _ _ _)
      | (with_reducible exact LeO.refl _)
      | (with_reducible exact LeO.none _)
      | (with_reducible refine LeO.ite ?_ ?_)
      | (with_reducible refine LeO.bind ?_ (fun _ => ?_))
      | exact ih0 _ _ _ _
      | exact LeO.none _
      | refine LeO.ite ?_ ?_
      | refine LeO.bind ?_ (fun _ => ?_)
theorem api_Pixel.mono : ∀ a0 a1 k, LeO (api_Pixel.f k a0 a1) (api_Pixel.f (k + 1) a0 a1) := by
  intro a0 a1 k
  have ih0 := api_Pixel.mono_l k
  unfold api_Pixel.f
  repeat' first
      | (with_reducible exact ih0 _ _ _ _)
      | (with_reducible exact LeO.refl _)
      | (with_reducible exact LeO.none _)
      | (with_reducible refine LeO.ite ?_ ?_)
      | (with_reducible refine LeO.bind ?_ (fun _ => ?_))
      | exact ih0 _ _ _ _
      | exact LeO.none _
      | refine LeO.ite ?_ ?_
      | refine LeO.bind ?_ (fun _ => ?_)
set_option maxHeartbeats 8000000 in
set_option maxRecDepth 100000 in
theorem api_Pixel.calls (k : Nat) (A0 : Option Addr) (c0 : Nat) (l0 : List Int) (A1 : Option Addr) (c1 : Nat) (l1 : List Int) (r : Bool) (w : World) (hr0 : Kd.C (Kd.int .u64) w A0 l0.length l0) (hc0 : l0.length ≤ c0) (hr1 : Kd.C (Kd.int .u64) w A1 l1.length l1) (hc1 : l1.length ≤ c1) (h : api_Pixel.f k l0 l1 = some r) :
    Calls Try.prog 53 #[.slice A0 l0.length c0, .slice A1 l1.length c1] w fun e w' => e = .returned (.bool r) ∧ Drawn0 w w' := by
  have HR0 := Aside0.mk hr0
  have HC0 := Aside0.mk hc0
  clear hr0 hc0
  have HR1 := Aside0.mk hr1
  have HC1 := Aside0.mk hc1
  clear hr1 hc1
  have H : (if (l0.length : Int) = (l1.length : Int) then (api_Pixel.l0 k l0 l1 (l0.length : Int) 0) else (some false)) = some r := h
  clear h
  by_cases c3 : (l0.length : Int) = (l1.length : Int)
  · rw [if_pos c3] at H
    have c3b0 : ((l0.length : Int) == (l1.length : Int)) = true := beq_iff_eq.mpr c3
    have c3b1 : ((l0.length : Int) != (l1.length : Int)) = false := bne_eq_false_iff_eq.mpr c3
    have c3b2 : (l0.length == l1.length) = true := by first | simpa using c3 | (simp at c3 ⊢; omega)
    clear c3
    have H' := Aside0.mk H
    clear H
    go_enter Try.func53, Try.ntmps53
    go_wp2
    repeat (go_quiet (fail); try go_wp2)
    go_loopg [13] k (fun kq v13 w' => ∃ (x13_1 : Int), v13 = .int .i64 x13_1 ∧ Aside0 (api_Pixel.l0 kq l0 l1 (l0.length : Int) x13_1 = some r) ∧ Aside0 (kq ≤ k) ∧ Drawn0 w w')
    case atStart => exact ⟨(0), (by first | rfl | (simp; done) | (simp [*]; done)), H', ⟨Nat.le_refl _⟩, by repeat (first | exact Drawn0.refl _ | apply Drawn0.step)⟩
    case round =>
      clear H'
      try clear c1
      try clear p2
      try clear c3
      try clear c3b0
      try clear c3b1
      try clear c3b2
      obtain ⟨x13_1, rfl, HA, HK1, ⟨m1, rfl⟩⟩ := hrel
      cases gk with
      | zero => exact absurd HA.out (by simp [api_Pixel.l0])
      | succ k1 =>
        have H := HA.out
        clear HA
        simp only [api_Pixel.l0] at H
        by_cases c4 : x13_1 < (l0.length : Int)
        · rw [if_pos c4] at H
          have c4b0 : decide (x13_1 < (l0.length : Int)) = true := decide_eq_true c4
          clear c4
          by_cases c5 : 0 ≤ x13_1
          · rw [if_pos c5] at H
            have c5b0 : decide (0 ≤ x13_1) = true := decide_eq_true c5
            clear c5
            by_cases c6 : x13_1 < (l0.length : Int)
            · rw [if_pos c6] at H
              have c6b0 : decide (x13_1 < (l0.length : Int)) = true := decide_eq_true c6
              clear c6
              by_cases c7 : x13_1 < (l1.length : Int)
              · rw [if_pos c7] at H
                have c7b0 : decide (x13_1 < (l1.length : Int)) = true := decide_eq_true c7
                clear c7
                by_cases c8 : (rd l0 x13_1) = (rd l1 x13_1)
                · rw [if_pos c8] at H
                  have c8b0 : ((rd l0 x13_1) == (rd l1 x13_1)) = true := beq_iff_eq.mpr c8
                  have c8b1 : ((rd l0 x13_1) != (rd l1 x13_1)) = false := bne_eq_false_iff_eq.mpr c8
                  clear c8
                  have H' := Aside0.mk H
                  clear H
                  have p380 : 0 ≤ (x13_1 : Int) := of_decide_eq_true (by first | (with_reducible assumption) | assumption)
                  have q380 : x13_1 < (l0.length : Int) := of_decide_eq_true (by first | (with_reducible assumption) | assumption)
                  obtain ⟨ad380, e380, hx380_0⟩ := Kd.at_int HR0.out x13_1 p380 q380
                  cases e380
                  replace p380 := eq_true p380
                  replace q380 := eq_true q380
                  have p381 : 0 ≤ (x13_1 : Int) := of_decide_eq_true (by first | (with_reducible assumption) | assumption)
                  have q381 : x13_1 < (l1.length : Int) := of_decide_eq_true (by first | (with_reducible assumption) | assumption)
                  obtain ⟨ad381, e381, hx381_0⟩ := Kd.at_int HR1.out x13_1 p381 q381
                  cases e381
                  replace p381 := eq_true p381
                  replace q381 := eq_true q381
                  go_wp2
                  repeat (go_quiet (fail); try go_wp2)
                  go_roundg k1
                  case measure => have := HK1.out; omega
                  case rel => exact ⟨(wrap64 (x13_1 + 1)), (by first | rfl | (simp; done) | (simp [*]; done)), H', ⟨by have := HK1.out; omega⟩, by repeat (first | exact Drawn0.refl _ | apply Drawn0.step)⟩
                · rw [if_neg c8] at H
                  have c8b0 : ((rd l0 x13_1) == (rd l1 x13_1)) = false := beq_eq_false_iff_ne.mpr c8
                  have c8b1 : ((rd l0 x13_1) != (rd l1 x13_1)) = true := bne_iff_ne.mpr c8
                  obtain rfl := Option.some.inj H
                  have p380 : 0 ≤ (x13_1 : Int) := of_decide_eq_true (by first | (with_reducible assumption) | assumption)
                  have q380 : x13_1 < (l0.length : Int) := of_decide_eq_true (by first | (with_reducible assumption) | assumption)
                  obtain ⟨ad380, e380, hx380_0⟩ := Kd.at_int HR0.out x13_1 p380 q380
                  cases e380
                  replace p380 := eq_true p380
                  replace q380 := eq_true q380
                  have p381 : 0 ≤ (x13_1 : Int) := of_decide_eq_true (by first | (with_reducible assumption) | assumption)
                  have q381 : x13_1 < (l1.length : Int) := of_decide_eq_true (by first | (with_reducible assumption) | assumption)
                  obtain ⟨ad381, e381, hx381_0⟩ := Kd.at_int HR1.out x13_1 p381 q381
                  cases e381
                  replace p381 := eq_true p381
                  replace q381 := eq_true q381
                  go_wp2
                  repeat (go_quiet (fail); try go_wp2)
                  go_ret
                  exact ⟨by first | rfl | (simp; done) | (simp [*]; done), by repeat (first | exact Drawn0.refl _ | apply Drawn0.step)⟩
              · rw [if_neg c7] at H
                exact absurd H (by simp)
            · rw [if_neg c6] at H
              exact absurd H (by simp)
          · rw [if_neg c5] at H
            exact absurd H (by simp)
        · rw [if_neg c4] at H
          have c4b0 : decide (x13_1 < (l0.length : Int)) = false := decide_eq_false c4
          clear c4
          obtain rfl := Option.some.inj H
          go_wp2
          repeat (go_quiet (fail); try go_wp2)
          go_ret
          exact ⟨by first | rfl | (simp; done) | (simp [*]; done), by repeat (first | exact Drawn0.refl _ | apply Drawn0.step)⟩
  · rw [if_neg c3] at H
    have c3b0 : ((l0.length : Int) == (l1.length : Int)) = false := beq_eq_false_iff_ne.mpr c3
    have c3b1 : ((l0.length : Int) != (l1.length : Int)) = true := bne_iff_ne.mpr c3
    have c3b2 : (l0.length == l1.length) = false := by first | simpa using c3 | (simp at c3 ⊢; omega)
    obtain rfl := Option.some.inj H
    go_enter Try.func53, Try.ntmps53
    go_wp2
    repeat (go_quiet (fail); try go_wp2)
    go_ret
    exact ⟨by first | rfl | (simp; done) | (simp [*]; done), by repeat (first | exact Drawn0.refl _ | apply Drawn0.step)⟩


/-! ### rect_Same: function 47 -/
def rect_Same.f (k : Nat) (a0_0 : Int) (a0_1 : Int) (l0_2 : List Int) (a1_0 : Int) (a1_1 : Int) (l1_2 : List Int) : Option (Bool) := if a0_0 = a1_0 then (if a0_1 = a1_1 then ((api_Pixel.f k l0_2 l1_2).bind fun t384 => (some t384)) else (some false)) else (some false)
theorem rect_Same.mono : ∀ a0 a1 a2 a3 a4 a5 k, LeO (rect_Same.f k a0 a1 a2 a3 a4 a5) (rect_Same.f (k + 1) a0 a1 a2 a3 a4 a5) := by
 intro a0 a1 a2 a3 a4 a5 k
 unfold rect_Same.f
 repeat' first
  | (with_reducible exact api_Pixel.mono _ _ _)
  | (with_reducible exact LeO.refl _)
  | (with_reducible exact LeO.none _)
  | (with_reducible refine LeO.ite ?_ ?_)
  | (with_reducible refine LeO.bind ?_ (fun _ => ?_))
  | exact api_Pixel.mono _ _ _
  | exact LeO.none _
  | refine LeO.ite ?_ ?_
  | refine LeO.bind ?_ (fun _ => ?_)
set_option maxHeartbeats 8000000 in
set_option maxRecDepth 100000 in
theorem rect_Same.calls (k : Nat) (a0_0 : Int) (a0_1 : Int) (A0_2 : Option Addr) (c0_2 : Nat) (l0_2 : List Int) (a1_0 : Int) (a1_1 : Int) (A1_2 : Option Addr) (c1_2 : Nat) (l1_2 : List Int) (r : Bool) (w : World) (hr0_2 : Kd.C (Kd.int .u64) w A0_2 l0_2.length l0_2) (hc0_2 : l0_2.length ≤ c0_2) (hr1_2 : Kd.C (Kd.int .u64) w A1_2 l1_2.length l1_2) (hc1_2 : l1_2.length ≤ c1_2) (h : rect_Same.f k a0_0 a0_1 l0_2 a1_0 a1_1 l1_2 = some r) :
 Calls Try.prog 47 #[.agg #[.int .i64 a0_0, .int .i64 a0_1, .slice A0_2 l0_2.length c0_2], .agg #[.int .i64 a1_0, .int .i64 a1_1, .slice A1_2 l1_2.length c1_2]] w fun e w' => e = .returned (.bool r) ∧ Below w.heap.size w w' := by
 have hu26 := Try.underlying26
 have HR0_2 := Aside0.mk hr0_2
 have HC0_2 := Aside0.mk hc0_2
 clear hr0_2 hc0_2
 have HR1_2 := Aside0.mk hr1_2
 have HC1_2 := Aside0.mk hc1_2
 clear hr1_2 hc1_2
 have HB := Aside0.mk (Below.refl w.heap.size w)
 have H : (if a0_0 = a1_0 then (if a0_1 = a1_1 then ((api_Pixel.f k l0_2 l1_2).bind fun t384 => (some t384)) else (some false)) else (some false)) = some r := h
 clear h
 by_cases c3 : a0_0 = a1_0
 · rw [if_pos c3] at H
   have c3b0 : (a0_0 == a1_0) = true := beq_iff_eq.mpr c3
   have c3b1 : (a0_0 != a1_0) = false := bne_eq_false_iff_eq.mpr c3
   clear c3
   by_cases c4 : a0_1 = a1_1
   · rw [if_pos c4] at H
     have c4b0 : (a0_1 == a1_1) = true := beq_iff_eq.mpr c4
     have c4b1 : (a0_1 != a1_1) = false := bne_eq_false_iff_eq.mpr c4
     clear c4
     replace H := Option.bind_eq_some_iff.mp H
     obtain ⟨t384, A50, H⟩ := H
     replace H : (some t384) = some r := H
     have A5 := Aside0.mk A50
     clear A50
     obtain rfl := Option.some.inj H
     go_enter Try.func47, Try.ntmps47
     go_wp2_with (first | ((with_reducible refine gate_dst (N := 2) rfl ?_); refine box_event ?hg (N := 2) ?hd (cs := #[.int .i64 a0_0, .int .i64 a0_1, .slice A0_2 l0_2.length c0_2]) (t := 26) ?hr ?_; (case hd => rfl); (case hg => rfl); (case hr => first | (go_simp; done) | (go_simp; rfl)); intro gb382 hg w6 hbox hb; have BK382 := Aside0.mk (hbox); have GW382 := Aside0.mk ((by rw [hg]; exact (below_size bp_) : w.heap.size ≤ gb382)); have GE382 := Aside0.mk ((by rw [hg]; exact (below_size bp_) : w.heap.size ≤ gb382)); replace HB := Aside0.mk (below_step bp_ hb); clear hb hbox hg) | ((with_reducible refine gate_dst (N := 3) rfl ?_); refine box_event ?hg (N := 3) ?hd (cs := #[.int .i64 a1_0, .int .i64 a1_1, .slice A1_2 l1_2.length c1_2]) (t := 26) ?hr ?_; (case hd => rfl); (case hg => rfl); (case hr => first | (go_simp; done) | (go_simp; rfl)); intro gb383 hg w7 hbox hb; have BK383 := Aside0.mk (hbox); have GW383 := Aside0.mk ((by rw [hg]; exact (below_size bp_) : w.heap.size ≤ gb383)); have GE383 := Aside0.mk ((by rw [hg]; exact (below_size bp_) : w.heap.size ≤ gb383)); replace HB := Aside0.mk (below_step bp_ hb); have NB382_383 := Aside0.mk ((nlt_ hg (hp_ BK382.out))); have NB383_382 := Aside0.mk ((ngt_ hg (hp_ BK382.out))); replace BK382 := Aside0.mk (blk_below (hp_ BK382.out) hb); clear hb hbox hg; have hnb8 := NB382_383.out; have hnc8 := NB383_382.out; have hcz9_0 : w7.cell? ⟨gb382, 0, none⟩ = some (.int .i64 a0_0) := (blk_cell BK382.out 0).trans rfl; have hcz9_1 : w7.cell? ⟨gb382, 1, none⟩ = some (.int .i64 a0_1) := (blk_cell BK382.out 1).trans rfl; have hcz9_2 : w7.cell? ⟨gb382, 2, none⟩ = some (.slice A0_2 l0_2.length c0_2) := (blk_cell BK382.out 2).trans rfl; have hfz9_0 := blk_frozen BK382.out 0; have hfz9_1 := blk_frozen BK382.out 1; have hfz9_2 := blk_frozen BK382.out 2; have hcz10_0 : w7.cell? ⟨gb383, 0, none⟩ = some (.int .i64 a1_0) := (blk_cell BK383.out 0).trans rfl; have hcz10_1 : w7.cell? ⟨gb383, 1, none⟩ = some (.int .i64 a1_1) := (blk_cell BK383.out 1).trans rfl; have hcz10_2 : w7.cell? ⟨gb383, 2, none⟩ = some (.slice A1_2 l1_2.length c1_2) := (blk_cell BK383.out 2).trans rfl; have hfz10_0 := blk_frozen BK383.out 0; have hfz10_1 := blk_frozen BK383.out 1; have hfz10_2 := blk_frozen BK383.out 2) | (go_at_call 53; (with_reducible refine (api_Pixel.calls k _ _ l0_2 _ _ l1_2 t384 _ ?side1 ?side2 ?side3 ?side4 A5.out).mono ?_); (case side1 => repeat (first | exact (Kd.C_below HR0_2.out HB.out) | (with_reducible refine Kd.C_alloc ?_ _) | (with_reducible refine Kd.C_drewN ?_ _) | (with_reducible refine Kd.C_drew ?_))); (case side2 => exact HC0_2.out); (case side3 => repeat (first | exact (Kd.C_below HR1_2.out HB.out) | (with_reducible refine Kd.C_alloc ?_ _) | (with_reducible refine Kd.C_drewN ?_ _) | (with_reducible refine Kd.C_drew ?_))); (case side4 => exact HC1_2.out); rintro e w' ⟨rfl, ⟨nd, rfl⟩⟩))
     go_ret
     exact ⟨by first | rfl | (simp [errW_none, errW_some] <;> rfl) | (simp [*, errW_none, errW_some] <;> rfl), bp_⟩
   · rw [if_neg c4] at H
     have c4b0 : (a0_1 == a1_1) = false := beq_eq_false_iff_ne.mpr c4
     have c4b1 : (a0_1 != a1_1) = true := bne_iff_ne.mpr c4
     obtain rfl := Option.some.inj H
     go_enter Try.func47, Try.ntmps47
     go_wp2_with (first | ((with_reducible refine gate_dst (N := 2) rfl ?_); refine box_event ?hg (N := 2) ?hd (cs := #[.int .i64 a0_0, .int .i64 a0_1, .slice A0_2 l0_2.length c0_2]) (t := 26) ?hr ?_; (case hd => rfl); (case hg => rfl); (case hr => first | (go_simp; done) | (go_simp; rfl)); intro gb382 hg w11 hbox hb; have BK382 := Aside0.mk (hbox); have GW382 := Aside0.mk ((by rw [hg]; exact (below_size bp_) : w.heap.size ≤ gb382)); have GE382 := Aside0.mk ((by rw [hg]; exact (below_size bp_) : w.heap.size ≤ gb382)); replace HB := Aside0.mk (below_step bp_ hb); clear hb hbox hg) | ((with_reducible refine gate_dst (N := 3) rfl ?_); refine box_event ?hg (N := 3) ?hd (cs := #[.int .i64 a1_0, .int .i64 a1_1, .slice A1_2 l1_2.length c1_2]) (t := 26) ?hr ?_; (case hd => rfl); (case hg => rfl); (case hr => first | (go_simp; done) | (go_simp; rfl)); intro gb383 hg w12 hbox hb; have BK383 := Aside0.mk (hbox); have GW383 := Aside0.mk ((by rw [hg]; exact (below_size bp_) : w.heap.size ≤ gb383)); have GE383 := Aside0.mk ((by rw [hg]; exact (below_size bp_) : w.heap.size ≤ gb383)); replace HB := Aside0.mk (below_step bp_ hb); have NB382_383 := Aside0.mk ((nlt_ hg (hp_ BK382.out))); have NB383_382 := Aside0.mk ((ngt_ hg (hp_ BK382.out))); replace BK382 := Aside0.mk (blk_below (hp_ BK382.out) hb); clear hb hbox hg; have hnb13 := NB382_383.out; have hnc13 := NB383_382.out; have hcz14_0 : w12.cell? ⟨gb382, 0, none⟩ = some (.int .i64 a0_0) := (blk_cell BK382.out 0).trans rfl; have hcz14_1 : w12.cell? ⟨gb382, 1, none⟩ = some (.int .i64 a0_1) := (blk_cell BK382.out 1).trans rfl; have hcz14_2 : w12.cell? ⟨gb382, 2, none⟩ = some (.slice A0_2 l0_2.length c0_2) := (blk_cell BK382.out 2).trans rfl; have hfz14_0 := blk_frozen BK382.out 0; have hfz14_1 := blk_frozen BK382.out 1; have hfz14_2 := blk_frozen BK382.out 2; have hcz15_0 : w12.cell? ⟨gb383, 0, none⟩ = some (.int .i64 a1_0) := (blk_cell BK383.out 0).trans rfl; have hcz15_1 : w12.cell? ⟨gb383, 1, none⟩ = some (.int .i64 a1_1) := (blk_cell BK383.out 1).trans rfl; have hcz15_2 : w12.cell? ⟨gb383, 2, none⟩ = some (.slice A1_2 l1_2.length c1_2) := (blk_cell BK383.out 2).trans rfl; have hfz15_0 := blk_frozen BK383.out 0; have hfz15_1 := blk_frozen BK383.out 1; have hfz15_2 := blk_frozen BK383.out 2))
     go_ret
     exact ⟨by first | rfl | (simp [errW_none, errW_some] <;> rfl) | (simp [*, errW_none, errW_some] <;> rfl), bp_⟩
 · rw [if_neg c3] at H
   have c3b0 : (a0_0 == a1_0) = false := beq_eq_false_iff_ne.mpr c3
   have c3b1 : (a0_0 != a1_0) = true := bne_iff_ne.mpr c3
   obtain rfl := Option.some.inj H
   go_enter Try.func47, Try.ntmps47
   go_wp2_with (first | ((with_reducible refine gate_dst (N := 2) rfl ?_); refine box_event ?hg (N := 2) ?hd (cs := #[.int .i64 a0_0, .int .i64 a0_1, .slice A0_2 l0_2.length c0_2]) (t := 26) ?hr ?_; (case hd => rfl); (case hg => rfl); (case hr => first | (go_simp; done) | (go_simp; rfl)); intro gb382 hg w16 hbox hb; have BK382 := Aside0.mk (hbox); have GW382 := Aside0.mk ((by rw [hg]; exact (below_size bp_) : w.heap.size ≤ gb382)); have GE382 := Aside0.mk ((by rw [hg]; exact (below_size bp_) : w.heap.size ≤ gb382)); replace HB := Aside0.mk (below_step bp_ hb); clear hb hbox hg) | ((with_reducible refine gate_dst (N := 3) rfl ?_); refine box_event ?hg (N := 3) ?hd (cs := #[.int .i64 a1_0, .int .i64 a1_1, .slice A1_2 l1_2.length c1_2]) (t := 26) ?hr ?_; (case hd => rfl); (case hg => rfl); (case hr => first | (go_simp; done) | (go_simp; rfl)); intro gb383 hg w17 hbox hb; have BK383 := Aside0.mk (hbox); have GW383 := Aside0.mk ((by rw [hg]; exact (below_size bp_) : w.heap.size ≤ gb383)); have GE383 := Aside0.mk ((by rw [hg]; exact (below_size bp_) : w.heap.size ≤ gb383)); replace HB := Aside0.mk (below_step bp_ hb); have NB382_383 := Aside0.mk ((nlt_ hg (hp_ BK382.out))); have NB383_382 := Aside0.mk ((ngt_ hg (hp_ BK382.out))); replace BK382 := Aside0.mk (blk_below (hp_ BK382.out) hb); clear hb hbox hg; have hnb18 := NB382_383.out; have hnc18 := NB383_382.out; have hcz19_0 : w17.cell? ⟨gb382, 0, none⟩ = some (.int .i64 a0_0) := (blk_cell BK382.out 0).trans rfl; have hcz19_1 : w17.cell? ⟨gb382, 1, none⟩ = some (.int .i64 a0_1) := (blk_cell BK382.out 1).trans rfl; have hcz19_2 : w17.cell? ⟨gb382, 2, none⟩ = some (.slice A0_2 l0_2.length c0_2) := (blk_cell BK382.out 2).trans rfl; have hfz19_0 := blk_frozen BK382.out 0; have hfz19_1 := blk_frozen BK382.out 1; have hfz19_2 := blk_frozen BK382.out 2; have hcz20_0 : w17.cell? ⟨gb383, 0, none⟩ = some (.int .i64 a1_0) := (blk_cell BK383.out 0).trans rfl; have hcz20_1 : w17.cell? ⟨gb383, 1, none⟩ = some (.int .i64 a1_1) := (blk_cell BK383.out 1).trans rfl; have hcz20_2 : w17.cell? ⟨gb383, 2, none⟩ = some (.slice A1_2 l1_2.length c1_2) := (blk_cell BK383.out 2).trans rfl; have hfz20_0 := blk_frozen BK383.out 0; have hfz20_1 := blk_frozen BK383.out 1; have hfz20_2 := blk_frozen BK383.out 2))
   go_ret
   exact ⟨by first | rfl | (simp [errW_none, errW_some] <;> rfl) | (simp [*, errW_none, errW_some] <;> rfl), bp_⟩

end Go.Proofs.Ytehjnekljodmgaa.Q
