-- written by our own program (wip/tools/myprint.py) out of the translation, by the kit's print; Lean checks it
import Derived.Test.YtidpaaemfiopkaaQ0
import Derived.ChangeKeysEq
namespace Go.Proofs.Ytidpaaemfiopkaa.Q
open Go.RowKit Go.Proofs.YtidpaaemfiopkaaW.PrintWords Go.Proofs.YtidpaaemfiopkaaW.PrintLast Go.Proofs.YtidpaaemfiopkaaW.PrintMore
attribute [local go_sem] max2_int min2_int max_two min_two max_three min_three max_four min_four   -- for this text's walks alone
set_option linter.unusedVariables false
set_option linter.unusedSimpArgs false

theorem eqArr_cons {P : Program} {d : Nat} {e : TypeId} {sz : Nat} {xs ys : Array Value} {j : Nat} {js : List Nat} {a b : Value} {r s : Bool} {w : World} (ha : (part e xs (j * sz)).run P w = .ok a w) (hb : (part e ys (j * sz)).run P w = .ok b w) (he : (Op.equalIn d e a b).run P w = .ok r w) (hr : (Op.eqItems d e sz xs ys js).run P w = .ok s w) : (Op.eqItems d e sz xs ys (j :: js)).run P w = .ok (r && s) w := by
  simp only [Op.eqItems, Sem.run_bind, ha, hb, he, Result.andThen_ok]
  cases r
  · simp
  · simpa using hr
theorem eqA36 (d : Nat) (w : World) (x0 y0 : Int) (x1 y1 : Int) :
    (Op.equalIn (d + 2) 36 (.agg #[.int .i64 x0, .int .i64 x1]) (.agg #[.int .i64 y0, .int .i64 y1])).run Try.prog w = .ok (x0 == y0 && (x1 == y1)) w := by
  obtain ⟨i, hi⟩ := info_of_underlying Try.underlying3
  have hc : Try.prog.cellsOf 3 = 1 := by kernel_rfl
  refine (run_equalIn_array w (d + 1) _ _ Try.underlying36 hi).trans ?_
  rw [hc, ← Bool.and_true (x1 == y1)]
  refine eqArr_cons (js := [1]) (by go_simp; rfl) (by go_simp; rfl) (by go_simp) ?_
  refine eqArr_cons (js := []) (by go_simp; rfl) (by go_simp; rfl) (by go_simp) ?_
  simp [Op.eqItems]
end Go.Proofs.Ytidpaaemfiopkaa.Q
