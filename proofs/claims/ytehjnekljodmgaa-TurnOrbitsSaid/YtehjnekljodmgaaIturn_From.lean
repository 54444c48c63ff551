/- turn.From: where something stood. -/
import Derived.Test.YtehjnekljodmgaaQ0
import Derived.Below
import Derived.Deep.Draws
import Derived.Deep.AppendLies
import Derived.Maps.AppendAt
import Derived.OwnWalk
import Derived.Laws.BytesArg
import Derived.Laws.MakeOwn
import Derived.Laws.OwnMore
import Derived.Deep.OwnRows
import Derived.Tactics
import Derived.Lib.ConvBytes
import Derived.Laws.Slices
import Derived.WalkKit
import Derived.KernelRfl
import Derived.RowKit3
import Derived.Deep.LoopGhost
import Derived.Deep.QuietTactic
import Derived.BigQuiet
import Derived.WideLaws
import Derived.Deep.DeepCutAuto
import Derived.Deep.CutBlock
import Derived.Deep.RegionHeld3
import Derived.Laws.Rows
import Derived.Lib.AppendStr
import Derived.ArgAppend
import Derived.Laws.IdiomCopy
import Derived.OrdersHeld
import Derived.Laws.BitsLemmas
import Derived.RowKit
import Derived.Test.YtehjnekljodmgaaMore
import Derived.Test.YtehjnekljodmgaaPeel
import Derived.Scope
import Derived.Test.YtehjnekljodmgaaWWords
import Derived.Test.YtehjnekljodmgaaWLast
import Derived.Test.YtehjnekljodmgaaWTab
import Derived.Test.YtehjnekljodmgaaWFour
import Derived.Test.YtehjnekljodmgaaWQPut
import Derived.Test.YtehjnekljodmgaaWApart
import Derived.Test.YtehjnekljodmgaaWArr
import Derived.Test.YtehjnekljodmgaaWZeros
import Derived.Test.YtehjnekljodmgaaWFoot
import Derived.Test.YtehjnekljodmgaaWKept
import Derived.Test.YtehjnekljodmgaaWShare
import Derived.Test.YtehjnekljodmgaaWN
import Derived.Test.YtehjnekljodmgaaWFootNe
import Derived.Test.YtehjnekljodmgaaWAt
import Derived.Test.YtehjnekljodmgaaWEqStruct
import Derived.Test.YtehjnekljodmgaaWRepsOne
import Derived.Test.YtehjnekljodmgaaWInv
import Derived.Test.YtehjnekljodmgaaWInvWords
import Derived.Test.YtehjnekljodmgaaWGuard
import Derived.Test.YtehjnekljodmgaaWNEv
import Derived.Test.YtehjnekljodmgaaWMore
import Derived.Laws.EntriesVeiled
namespace Go.Proofs.Ytehjnekljodmgaa.Q
open Go.RowKit Go.Proofs.YtehjnekljodmgaaW.PrintWords Go.Proofs.YtehjnekljodmgaaW.PrintLast
set_option linter.unusedVariables false
set_option linter.unusedSimpArgs false
theorem goesG_ {P : Program} {ops : Array Oper} {Q : Exit → Act → World → Prop} {rest : List Oper} {oi : Oper} {a : Act} {w : World} (N : Option Tmp) (hd : oi.dst = N) (hg : oi.guard = none) {f : FuncId} {x : Operand} {lb : Array Value} {ax : Array Operand} {ts : Array TypeId}
    (hent : ∀ (args : Array Value) (w : World), (callFunc f args).run P w = .ok (.enter f args) w) (args : Array Value) (hop : oi.op = .call { callee := .value x, args := ax, argTypes := ts }) (hx : a.eval x = .func (.func f) #[] lb) (hargs : ax.map a.eval = args)
    (h : Calls P f (args ++ lb) w fun e w' => ∃ v, e = .returned v ∧ wpList P ops Q rest (a.put N v) w') : wpList P ops Q (oi :: rest) a w := by
  refine wpList_plain hg fun K hK => ?_
  have hrun : (execOp a.eval oi).run P w = .ok (.enter f (args ++ lb)) w := by
    unfold execOp
    simp [hop, hx, resolve, Deferred.ofValue, invoke, hargs, hent]
  unfold Oper.wp
  rw [hrun, Oper.upon_enter]
  refine h.mono fun e w'' hh => ?_
  obtain ⟨v, rfl, hk⟩ := hh
  subst hd
  exact hK _ _ hk
/-- Where something stood: a quarter turn's four ways, and the mirror. -/
def fromA (w h g x y : Int) : Int := if g % 4 = 0 then x else if g % 4 = 1 then y else if g % 4 = 2 then wrap64 (wrap64 (w - 1) - x) else wrap64 (wrap64 (w - 1) - y)
def fromB (w h g x y : Int) : Int := if g % 4 = 0 then y else if g % 4 = 1 then wrap64 (wrap64 (h - 1) - x) else if g % 4 = 2 then wrap64 (wrap64 (h - 1) - y) else x
def turn_From.f (a0 a1 a2 a3 a4 : Int) : Option (Int × Int) := if 0 ≤ a2 ∧ a2 < 8 then some (if a2 ≥ 4 then wrap64 (wrap64 (a0 - 1) - fromA a0 a1 a2 a3 a4) else fromA a0 a1 a2 a3 a4, fromB a0 a1 a2 a3 a4) else some (0, 0)
set_option maxRecDepth 100000 in
set_option maxHeartbeats 8000000 in
theorem turn_From.calls (a0 a1 a2 a3 a4 : Int) (r1 r2 : Int) (w : World) (h : turn_From.f a0 a1 a2 a3 a4 = some (r1, r2)) :
    Calls Try.prog 20 #[.int .i64 a0, .int .i64 a1, .int .i64 a2, .int .i64 a3, .int .i64 a4] w fun e w' => e = .returned (.tuple #[.int .i64 r1, .int .i64 r2]) ∧ Below w.heap.size w w' := by
  unfold turn_From.f at h
  have hmf_ : ∀ (fn_ : Fn) (first cap : Array Value) (w_ : World), (Instr.makeFunc fn_ first cap).run Try.prog w_ = .ok (.func fn_ first cap) w_ := fun _ _ _ _ => rfl
  by_cases hg : 0 ≤ a2 ∧ a2 < 8
  · rw [if_pos hg] at h
    obtain ⟨rfl, rfl⟩ := Prod.mk.inj (Option.some.inj h)
    clear h
    have hcase : a2 = 0 ∨ a2 = 1 ∨ a2 = 2 ∨ a2 = 3 ∨ a2 = 4 ∨ a2 = 5 ∨ a2 = 6 ∨ a2 = 7 := by omega
    clear hg
    rcases hcase with rfl | rfl | rfl | rfl | rfl | rfl | rfl | rfl
    · go_enter Try.func20, Try.ntmps20
      go_wp2
      go_region
      all_goals (try go_wp2)
      go_ret2
      exact ⟨by simp [fromA, fromB], by repeat (first | exact Below.refl _ _ | (refine below_set ?_ (by simp; omega)) | apply below_alloc | apply pw_below_drewN | apply below_drew1)⟩
    · go_enter Try.func20, Try.ntmps20
      go_wp2
      go_region
      all_goals (try go_wp2)
      go_ret2
      exact ⟨by simp [fromA, fromB], by repeat (first | exact Below.refl _ _ | (refine below_set ?_ (by simp; omega)) | apply below_alloc | apply pw_below_drewN | apply below_drew1)⟩
    · go_enter Try.func20, Try.ntmps20
      go_wp2
      go_region
      all_goals (try go_wp2)
      go_ret2
      exact ⟨by simp [fromA, fromB], by repeat (first | exact Below.refl _ _ | (refine below_set ?_ (by simp; omega)) | apply below_alloc | apply pw_below_drewN | apply below_drew1)⟩
    · go_enter Try.func20, Try.ntmps20
      go_wp2
      go_region
      all_goals (try go_wp2)
      go_ret2
      exact ⟨by simp [fromA, fromB], by repeat (first | exact Below.refl _ _ | (refine below_set ?_ (by simp; omega)) | apply below_alloc | apply pw_below_drewN | apply below_drew1)⟩
    · go_enter Try.func20, Try.ntmps20
      go_wp2
      go_region
      all_goals (try go_wp2)
      go_ret2
      exact ⟨by simp [fromA, fromB], by repeat (first | exact Below.refl _ _ | (refine below_set ?_ (by simp; omega)) | apply below_alloc | apply pw_below_drewN | apply below_drew1)⟩
    · go_enter Try.func20, Try.ntmps20
      go_wp2
      go_region
      all_goals (try go_wp2)
      go_ret2
      exact ⟨by simp [fromA, fromB], by repeat (first | exact Below.refl _ _ | (refine below_set ?_ (by simp; omega)) | apply below_alloc | apply pw_below_drewN | apply below_drew1)⟩
    · go_enter Try.func20, Try.ntmps20
      go_wp2
      go_region
      all_goals (try go_wp2)
      go_ret2
      exact ⟨by simp [fromA, fromB], by repeat (first | exact Below.refl _ _ | (refine below_set ?_ (by simp; omega)) | apply below_alloc | apply pw_below_drewN | apply below_drew1)⟩
    · go_enter Try.func20, Try.ntmps20
      go_wp2
      go_region
      all_goals (try go_wp2)
      go_ret2
      exact ⟨by simp [fromA, fromB], by repeat (first | exact Below.refl _ _ | (refine below_set ?_ (by simp; omega)) | apply below_alloc | apply pw_below_drewN | apply below_drew1)⟩
  · rw [if_neg hg] at h
    obtain ⟨rfl, rfl⟩ := Prod.mk.inj (Option.some.inj h)
    clear h
    by_cases h0 : a2 < 0
    · have c1 : decide (a2 ≥ 0) = false := decide_eq_false (by omega)
      have c2 : decide (0 ≤ a2) = false := decide_eq_false (by omega)
      have c3 : ¬ 0 ≤ a2 := by omega
      clear hg
      go_enter Try.func20, Try.ntmps20
      go_wp2
      go_ret2
      exact ⟨rfl, by repeat (first | exact Below.refl _ _ | apply below_alloc | apply pw_below_drewN | apply below_drew1)⟩
    · have c1 : decide (a2 ≥ 0) = true := decide_eq_true (by omega)
      have c2 : decide (0 ≤ a2) = true := decide_eq_true (by omega)
      have c3 : 0 ≤ a2 := by omega
      have c4 : decide (a2 < 8) = false := decide_eq_false (by omega)
      have c5 : ¬ a2 < 8 := by omega
      clear hg h0
      go_enter Try.func20, Try.ntmps20
      go_wp2
      go_ret2
      exact ⟨rfl, by repeat (first | exact Below.refl _ _ | apply below_alloc | apply pw_below_drewN | apply below_drew1)⟩
end Go.Proofs.Ytehjnekljodmgaa.Q
