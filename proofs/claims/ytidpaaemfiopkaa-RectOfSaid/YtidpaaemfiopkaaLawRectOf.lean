-- written by our own program (wip/tools/myprint.py) out of the translation, by the kit's print; Lean checks it
import Derived.Test.YtidpaaemfiopkaaRows
import Derived.Test.YtidpaaemfiopkaaQ16
import Derived.Test.YtidpaaemfiopkaaPureRectOf
import Derived.WalkKit
import Derived.ProofKit
import Derived.OpenShut
import Derived.ShutString
import Derived.ChangeOld
import Derived.Below
import Derived.Carry
import Derived.SizedLaws
import Derived.Lib.SmallJoins
import Derived.Deep.Matrix
import Derived.Test.YtidpaaemfiopkaaWFoot
import Derived.Test.YtidpaaemfiopkaaWSized
namespace Go.Proofs.Ytidpaaemfiopkaa.rectOf
open Go.ChangeShapes Go.WideShapes Go.ChangeAt Go.RowKit
open Go.ChangeMaps (open_string shut_string)
set_option linter.unusedVariables false
theorem own : ownKnob Try.prog.godebug = none := by kernel_rfl
theorem laidOut : laidOutB Try.prog = true := by kernel_rfl
def IsRow (k : IntKind) (w : World) (a : Option Addr) (len cap : Nat) (zs : List Int) : Prop :=
  (a = none ∧ len = 0 ∧ cap = 0 ∧ zs = []) ∨
  ∃ x, a = some x ∧ len ≤ cap ∧ cap ≤ maxLen ∧ zs.length = cap ∧ (∀ i, i < zs.length → w.cell? (x.add i) = some (.int k (zs.getD i 0))) ∧ ∀ n ∈ zs, (Lit.int k n).wf = true
open Go.Proofs.YtidpaaemfiopkaaW.PrintWords in
theorem open_rows {H : Type} {enc : TypeId × Value → H} {P : Program} {w : World} {base : Nat} {held : Bool} {t e q : TypeId} {k : IntKind} {fuel : Nat} {A0 : Option Addr} {n0 c0 : Nat} {x : DataW H × List MemPlace} (ht : P.underlying t = some (.slice e)) (he : P.underlying e = some (.slice q)) (hq : P.underlying q = some (.int k))
    (ce : P.cellsOf e = 1) (cq : P.cellsOf q = 1) (h : DataW.trod enc P w base (fun _ => true) held fuel t (Value.slice A0 n0 c0).cells.toList = some x) :
    ∃ l : List (List Int), l.length = n0 ∧ n0 ≤ c0 ∧ n0 ≤ maxLen ∧ Kd.C (Kd.slice q (Kd.int k)) w A0 n0 l ∧ ∀ r ∈ l, r.length ≤ maxLen ∧ ∀ z ∈ r, (Lit.int k z).wf = true := by
  rcases Go.Deep.open_int_rows ht he hq ce cq h with ⟨hcs, _⟩ | ⟨a, len, cap, A, L, C, Z, hcs, hb, hl, hm, _, hx⟩
  · simp [Value.cells] at hcs
    obtain ⟨rfl, rfl, rfl⟩ := hcs
    exact ⟨[], rfl, Nat.le_refl _, Nat.zero_le _, ⟨rfl, by omega, fun h => absurd h (Nat.lt_irrefl _)⟩, fun r hr => by cases hr⟩
  · simp [Value.cells] at hcs
    obtain ⟨rfl, rfl, rfl⟩ := hcs
    have hmx : maxLen ≤ 9223372036854775807 := Nat.le_refl _
    have hp : ∀ j, j < n0 → ((Z j).take (L j)).length = L j := fun j hj => by
      obtain ⟨_, h2, _, h4, _⟩ := hx j (by omega)
      rw [List.length_take, h4]
      omega
    refine ⟨(List.range n0).map fun r => (Z r).take (L r), by simp, hl, by omega, ⟨by simp, by omega, fun _ => ⟨a, rfl, fun j p hj => ?_⟩⟩, fun r hr => ?_⟩
    · have hj' : j < n0 := by
        have := (List.getElem?_eq_some_iff.1 hj).1
        simpa using this
      rw [List.getElem?_map, List.getElem?_range hj'] at hj
      obtain rfl := Option.some.inj hj
      obtain ⟨h1, h2, h3, h4, h5, h6, h7⟩ := hx j (by omega)
      refine ⟨[.slice (A j) ((Z j).take (L j)).length (C j)], rfl, ⟨A j, C j, rfl, by rw [hp j hj']; exact h2, ⟨rfl, by rw [hp j hj']; omega, fun hpos => ?_⟩⟩, fun i u hi => ?_⟩
      · rw [hp j hj'] at hpos
        cases hA : A j with
        | none => have := h6 hA; omega
        | some a' =>
          obtain ⟨_, h8⟩ := h7 a' hA
          refine ⟨a', rfl, fun i z hz => ?_⟩
          have hi : i < ((Z j).take (L j)).length := (List.getElem?_eq_some_iff.1 hz).1
          rw [hp j hj'] at hi
          have hzz : (Z j).getD i 0 = z := by
            rw [List.getElem?_take_of_lt hi] at hz
            rw [List.getD_eq_getElem?_getD, hz]
            rfl
          refine ⟨[.int k z], rfl, rfl, fun i' u hu => ?_⟩
          cases i' with
          | zero =>
            obtain rfl := Option.some.inj hu
            have := h8 i (by omega)
            rw [hzz] at this
            show w.cell? (a'.add (i * 1 + 0)) = _
            rw [Nat.mul_one, Nat.add_zero]
            exact this
          | succ i' => cases hu
      · cases i with
        | zero =>
          obtain rfl := Option.some.inj hi
          rw [hp j hj']
          show w.cell? (a.add (j * 1 + 0)) = _
          rw [Nat.mul_one, Nat.add_zero]
          exact h1
        | succ i => cases hi
    · obtain ⟨j, hj, rfl⟩ := List.mem_map.1 hr
      have hj' := List.mem_range.1 hj
      obtain ⟨h1, h2, h3, h4, h5, h6, h7⟩ := hx j (by omega)
      exact ⟨by rw [hp j hj']; omega, fun z hz => h5 z (List.mem_of_mem_take hz)⟩
set_option maxRecDepth 100000 in
theorem lifted (os : Os) (started : os.Started) (H : Type) (enc : TypeId × Value → H) :
    ReturnsInHanded {} Try.checked os 7 .any (Rows.rectOfSpec.pre6 enc Try.prog Try.f7 Rows.rectOfRow.domain false) (Rows.rectOfSpec.post enc Try.prog Try.f7 false true false false) := by
  refine returnsInHanded_of_change_sized (C := Try.checked) own started (by kernel_rfl) Try.func7
    (ChangeSpec.witness6 (enc := enc) (C := Try.checked) false ⟨#[], #[.slice none 0 0, .agg #[.int .i64 0, .int .i64 0, .slice none 0 0]], []⟩ 8 (by kernel_rfl) (by kernel_rfl) (by kernel_rfl) (by kernel_rfl)) ?_
  intro W base args ds gs before hval0 hW hcnd hsz0 _
  have hsz : (DataW.weightsEach Try.prog (Try.f7.params.toList ++ Rows.rectOfSpec.plain.varTypes Try.prog) (ds ++ gs)).all (· ≤ reachBytes) = true := hsz0
  have hval : ∀ (j : Nat) t v, Try.f7.params[j]? = some t → args[j]? = some v → Value.okWide Try.prog W .any base t v := hval0
  have hW' := hW
  obtain ⟨p, q, hA0, hV, rfl, hfz, hnd⟩ := hW
  have hA : DataW.TrodAll enc Try.prog W 0 (fun _ => true) true Try.f7.params.toList args.toList ds p := hA0
  rw [Try.params7] at hA hval hsz
  obtain ⟨v0, vs0, d0, ds0, p0, q0, hargs, rfl, rfl, h0, r0⟩ := trodAll_cons hA
  obtain ⟨v1, vs1, d1, ds1, p1, q1, rfl, rfl, rfl, h1, r1⟩ := trodAll_cons r0
  obtain ⟨rfl, rfl, rfl⟩ := trodAll_nil r1
  obtain rfl : args = #[v0, v1] := by cases args; simp_all
  obtain ⟨rfl, rfl⟩ := trodVars_none hV
  obtain ⟨a0, len0, cap0, rfl⟩ := okWide_slice Try.underlying61 (hval 0 61 v0 rfl rfl)
  have k0 := h0
  have lt0 : ∀ x ∈ p0, x.block < W.heap.size := by obtain ⟨m, hm⟩ := k0; exact DataW.trod_lt m _ _ _ hm
  obtain ⟨fuel0, hf0⟩ := h0
  obtain ⟨l0, n0_, wl0, wm0, wC0, wz0⟩ := open_rows Try.underlying61 Try.underlying22 Try.underlying46 (by kernel_rfl) (by kernel_rfl) hf0
  subst n0_
  have k1 := h1
  have lt1 : ∀ x ∈ p1, x.block < W.heap.size := by obtain ⟨m, hm⟩ := k1; exact DataW.trod_lt m _ _ _ hm
  obtain ⟨c1_0, c1_1, c1_2, u1_0, u1_1, u1_2, n1_, rfl, rfl, rfl, g1_0, g1_1, g1_2⟩ := Joins.open_agg3 Try.underlying24 (by kernel_rfl) (by kernel_rfl) (hval 1 24 v1 rfl rfl) h1
  obtain ⟨a1_0, e1_0, _, w1_0⟩ := DataW.trod_int Try.underlying3 g1_0
  obtain rfl : c1_0 = .int .i64 a1_0 := by simpa using e1_0
  obtain ⟨a1_1, e1_1, _, w1_1⟩ := DataW.trod_int Try.underlying3 g1_1
  obtain rfl : c1_1 = .int .i64 a1_1 := by simpa using e1_1
  obtain ⟨a1_2, len1_2, cap1_2, e1_2⟩ := Joins.slice_form Try.underlying22 g1_2
  obtain rfl : c1_2 = .slice a1_2 len1_2 cap1_2 := by simpa using e1_2
  obtain ⟨z1_2, w1_2⟩ : ∃ zs, IsRow .u64 W a1_2 len1_2 cap1_2 zs := by
    rcases open_ints Try.underlying22 Try.underlying46 (by kernel_rfl) g1_2 with ⟨hcs, _⟩ | ⟨x, l, c, zs, hcs, _, hl, hm, hz, _, hcell, hwz⟩
    · simp [Value.cells] at hcs
      obtain ⟨rfl, rfl, rfl⟩ := hcs
      exact ⟨[], .inl ⟨rfl, rfl, rfl, rfl⟩⟩
    · simp [Value.cells] at hcs
      obtain ⟨rfl, rfl, rfl⟩ := hcs
      exact ⟨zs, .inr ⟨_, rfl, hl, hm, by simpa using hz, hcell, hwz⟩⟩
  clear hA0 hval0 hsz0 hsz
  refine (Q.chequerlaw03_RectOf.walk Pure.RectOf a0 cap0 l0 a1_0 a1_1 a1_2 len1_2 cap1_2 z1_2 W wl0 wm0 wC0 wz0 w1_0 w1_1 w1_2).mono fun e W' ⟨he, bel⟩ => ?_
  subst he
  exact ⟨_, rfl, _, _, _, [], _, [], hW', trodAll_mk1 (shut_bool Try.underlying4 _), (trodAll_cons_mk (Below.trod laidOut (by kernel_rfl) (of_decide_eq_true (by kernel_rfl)) k0 bel lt0) (trodAll_cons_mk (Below.trod laidOut (by kernel_rfl) (of_decide_eq_true (by kernel_rfl)) k1 bel lt1) trodAll_mk0)), rfl, bel.frame _, fun h => by cases h⟩
theorem over : Rows.rectOfRow.holds Try.pinned (OpenSpec.ofChange Rows.rectOfSpec) :=
  OpenClaim.holds_of_wide 7 Try.f7 rfl rfl rfl rfl rfl rfl rfl ⟨rfl, rfl, rfl, rfl, rfl⟩ rfl rfl rfl rfl rfl (by kernel_rfl) Try.func7 (by kernel_rfl)
    (of_decide_eq_true (by kernel_rfl)) (by unfold Func.isWrapper; first | (rw [if_pos (by decide +kernel)]; kernel_rfl) | (rw [if_neg (by decide +kernel)]; exact ⟨rfl, rfl⟩))
    (fun os started H enc _ => lifted os started H enc)
theorem proved : Rows.RectOfSaid := over
#print axioms proved
end Go.Proofs.Ytidpaaemfiopkaa.rectOf
namespace Go.Proofs.Ytidpaaemfiopkaa
/-- The row, under a short name, for the claim. -/
theorem rectOf_holds : Rows.RectOfSaid := rectOf.proved
end Go.Proofs.Ytidpaaemfiopkaa
