/- A reader of numbers that is told a byte: what it tells, and as it is then. -/
import Derived.Test.YtbbgichpbjgifaaQ0
import Derived.Test.YtbbgichpbjgifaaQ4
import Derived.Below
import Derived.Deep.Draws
import Derived.Deep.AppendLies
import Derived.Maps.AppendAt
import Derived.OwnWalk
import Derived.Laws.BytesArg
import Derived.Laws.MakeOwn
import Derived.Laws.OwnMore
import Derived.Deep.OwnRows
import Derived.Tactics
import Derived.Lib.ConvBytes
import Derived.Laws.Slices
import Derived.WalkKit
import Derived.KernelRfl
import Derived.RowKit3
import Derived.Deep.LoopGhost
import Derived.Deep.QuietTactic
import Derived.BigQuiet
import Derived.WideLaws
import Derived.Deep.DeepCutAuto
import Derived.Deep.CutBlock
import Derived.Deep.RegionHeld3
import Derived.Laws.Rows
import Derived.Lib.AppendStr
import Derived.ArgAppend
import Derived.Laws.IdiomCopy
import Derived.OrdersHeld
import Derived.Laws.BitsLemmas
import Derived.RowKit
import Derived.Test.YtbbgichpbjgifaaMore
import Derived.Test.YtbbgichpbjgifaaPeel
import Derived.Test.YtbbgichpbjgifaaTok
import Derived.Scope
import Derived.Test.YtbbgichpbjgifaaWWords
import Derived.Test.YtbbgichpbjgifaaWLast
import Derived.Test.YtbbgichpbjgifaaWTab
import Derived.Test.YtbbgichpbjgifaaWFour
import Derived.Test.YtbbgichpbjgifaaWQPut
import Derived.Test.YtbbgichpbjgifaaWApart
import Derived.Test.YtbbgichpbjgifaaWArr
import Derived.Test.YtbbgichpbjgifaaWZeros
import Derived.Test.YtbbgichpbjgifaaWFoot
import Derived.Test.YtbbgichpbjgifaaWKept
import Derived.Test.YtbbgichpbjgifaaWShare
import Derived.Test.YtbbgichpbjgifaaWN
import Derived.Test.YtbbgichpbjgifaaWFootNe
import Derived.Test.YtbbgichpbjgifaaWAt
import Derived.Test.YtbbgichpbjgifaaWEqStruct
import Derived.Test.YtbbgichpbjgifaaWRepsOne
import Derived.Test.YtbbgichpbjgifaaWInv
import Derived.Test.YtbbgichpbjgifaaWInvWords
import Derived.Test.YtbbgichpbjgifaaWGuard
import Derived.Test.YtbbgichpbjgifaaWNEv
import Derived.Test.YtbbgichpbjgifaaWMore
namespace Go.Proofs.Ytbbgichpbjgifaa.Q
open Go.RowKit Go.Proofs.YtbbgichpbjgifaaW.PrintWords Go.Proofs.YtbbgichpbjgifaaW.PrintLast
set_option linter.unusedVariables false
set_option linter.unusedSimpArgs false
theorem goesF_ {P : Program} {ops : Array Oper} {Q : Exit → Act → World → Prop} {rest : List Oper} {oi : Oper} {a : Act} {w : World} (N : Option Tmp) (hd : oi.dst = N) (hg : oi.guard = none) {f : FuncId} {x : Operand} {fb : Array Value} {ax : Array Operand} {ts : Array TypeId}
    (hent : ∀ (args : Array Value) (w : World), (callFunc f args).run P w = .ok (.enter f args) w) (args : Array Value) (hop : oi.op = .call { callee := .value x, args := ax, argTypes := ts }) (hx : a.eval x = .func (.func f) fb #[]) (hargs : ax.map a.eval = args)
    (h : Calls P f (fb ++ args) w fun e w' => ∃ v, e = .returned v ∧ wpList P ops Q rest (a.put N v) w') : wpList P ops Q (oi :: rest) a w := by
  refine wpList_plain hg fun K hK => ?_
  have hrun : (execOp a.eval oi).run P w = .ok (.enter f (fb ++ args)) w := by
    unfold execOp
    simp [hop, hx, resolve, Deferred.ofValue, invoke, hargs, hent]
  unfold Oper.wp
  rw [hrun, Oper.upon_enter]
  refine h.mono fun e w'' hh => ?_
  obtain ⟨v, rfl, hk⟩ := hh
  subst hd
  exact hK _ _ hk
def token_Number_Put.f (m most n : Int) (b : Bool) (l e c : Int) : Option (Int × Int × Int × Int × Bool × Int × Int) := if l = 0 then (if m = 0 then token_Number_ahead.f 2 m most n b l e c else if m = 1 then token_Number_remark.f m most n b l e c else if m = 2 then token_Number_behind.f 2 m most n b l e c else if m = 3 then token_Number_end.f m most n b l e c else none).bind fun t => some (t.1, t.2.1, t.2.2.1, t.2.2.2.1, t.2.2.2.2.1, t.1, t.2.2.2.2.2.2) else some (l, m, most, n, b, l, e)
set_option maxRecDepth 100000 in
set_option maxHeartbeats 8000000 in
theorem token_Number_Put.calls (g : Nat) (m most n : Int) (b : Bool) (l e c : Int) (r1 : Int) (r2 : Int) (r3 : Int) (r4 : Int) (r5 : Bool) (r6 : Int) (r7 : Int) (w0 w : World) (hI : IsS52 w0 w g m most n b l e) (hB : Below w0.heap.size w0 w) (h : token_Number_Put.f m most n b l e c = some (r1, r2, r3, r4, r5, r6, r7)) :
    Calls Try.prog 19 #[.pointer (some ⟨g, 0, none⟩), .int .u8 c] w fun e w' => e = .returned (.int .i64 r1) ∧ IsS52 w0 w' g r2 r3 r4 r5 r6 r7 ∧ Below w0.heap.size w0 w' ∧ KeepBut w w' g none := by
  unfold token_Number_Put.f at h
  have hu := Try.underlying52
  have HI := Aside0.mk hI
  have HB := Aside0.mk hB
  have hc4 : w.cell? ⟨g, 4, none⟩ = some (.int .i64 l) := (blk_cell hI.1 4).trans rfl
  have hc0 : w.cell? ⟨g, 0, none⟩ = some (modeV g m) := (blk_cell hI.1 0).trans rfl
  clear hI hB
  by_cases c1 : l = 0
  · rw [if_pos c1] at h
    obtain ⟨⟨t1, t2, t3, t4, t5, t6, t7⟩, hT, h⟩ := Option.bind_eq_some_iff.mp h
    simp only [Option.some.injEq, Prod.mk.injEq] at h
    obtain ⟨rfl, rfl, rfl, rfl, rfl, rfl, rfl⟩ := h
    have c1b : (l == 0) = true := beq_iff_eq.2 c1
    subst c1
    by_cases m0 : m = 0
    · rw [if_pos m0] at hT
      subst m0
      have hc0' : w.cell? ⟨g, 0, none⟩ = some (.func (.func 28) #[.pointer (some ⟨g, 0, none⟩)] #[]) := hc0
      have HC := Aside0.mk (token_Number_ahead.calls 2 g _ _ _ _ _ _ c _ _ _ _ _ _ _ w0 w HI.out HB.out hT)
      clear hc0 hT
      go_enter Try.func19, Try.ntmps19
      go_wp2_with ((with_reducible refine gate_dst (N := 16) rfl ?_); refine goesF_ (some 16) rfl rfl (x := .tmp 14) (fb := #[.pointer (some ⟨g, 0, none⟩)]) (f := 28) (enters_ Try.func28 (by kernel_rfl) rfl) #[.int .u8 c] rfl rfl (by (try simp only [List.map_toArray, List.map_cons, List.map_nil]); rfl) ?_; refine HC.out.mono ?_; rintro e w1 ⟨rfl, hI1, hB1, hK1⟩; refine ⟨_, rfl, ?_⟩; have hd4 : w1.cell? ⟨g, 4, none⟩ = some (.int .i64 t6) := (blk_cell hI1.1 4).trans rfl; have hf4 := blk_frozen hI1.1 4; have HI1 := Aside0.mk hI1; have HB1 := Aside0.mk hB1; have HK1 := Aside0.mk hK1; clear hI1 hB1 hK1)
      go_ret
      exact ⟨rfl, HI1.out.set_4 _, below_set HB1.out (IsS52.ge HI1.out), KeepBut.set_ HK1.out _ _⟩
    rw [if_neg m0] at hT
    by_cases m1 : m = 1
    · rw [if_pos m1] at hT
      subst m1
      have hc0' : w.cell? ⟨g, 0, none⟩ = some (.func (.func 35) #[.pointer (some ⟨g, 0, none⟩)] #[]) := hc0
      have HC := Aside0.mk (token_Number_remark.calls g _ _ _ _ _ _ c _ _ _ _ _ _ _ w0 w HI.out HB.out hT)
      clear hc0 hT
      go_enter Try.func19, Try.ntmps19
      go_wp2_with ((with_reducible refine gate_dst (N := 16) rfl ?_); refine goesF_ (some 16) rfl rfl (x := .tmp 14) (fb := #[.pointer (some ⟨g, 0, none⟩)]) (f := 35) (enters_ Try.func35 (by kernel_rfl) rfl) #[.int .u8 c] rfl rfl (by (try simp only [List.map_toArray, List.map_cons, List.map_nil]); rfl) ?_; refine HC.out.mono ?_; rintro e w1 ⟨rfl, hI1, hB1, hK1⟩; refine ⟨_, rfl, ?_⟩; have hd4 : w1.cell? ⟨g, 4, none⟩ = some (.int .i64 t6) := (blk_cell hI1.1 4).trans rfl; have hf4 := blk_frozen hI1.1 4; have HI1 := Aside0.mk hI1; have HB1 := Aside0.mk hB1; have HK1 := Aside0.mk hK1; clear hI1 hB1 hK1)
      go_ret
      exact ⟨rfl, HI1.out.set_4 _, below_set HB1.out (IsS52.ge HI1.out), KeepBut.set_ HK1.out _ _⟩
    rw [if_neg m1] at hT
    by_cases m2 : m = 2
    · rw [if_pos m2] at hT
      subst m2
      have hc0' : w.cell? ⟨g, 0, none⟩ = some (.func (.func 43) #[.pointer (some ⟨g, 0, none⟩)] #[]) := hc0
      have HC := Aside0.mk (token_Number_behind.calls 2 g _ _ _ _ _ _ c _ _ _ _ _ _ _ w0 w HI.out HB.out hT)
      clear hc0 hT
      go_enter Try.func19, Try.ntmps19
      go_wp2_with ((with_reducible refine gate_dst (N := 16) rfl ?_); refine goesF_ (some 16) rfl rfl (x := .tmp 14) (fb := #[.pointer (some ⟨g, 0, none⟩)]) (f := 43) (enters_ Try.func43 (by kernel_rfl) rfl) #[.int .u8 c] rfl rfl (by (try simp only [List.map_toArray, List.map_cons, List.map_nil]); rfl) ?_; refine HC.out.mono ?_; rintro e w1 ⟨rfl, hI1, hB1, hK1⟩; refine ⟨_, rfl, ?_⟩; have hd4 : w1.cell? ⟨g, 4, none⟩ = some (.int .i64 t6) := (blk_cell hI1.1 4).trans rfl; have hf4 := blk_frozen hI1.1 4; have HI1 := Aside0.mk hI1; have HB1 := Aside0.mk hB1; have HK1 := Aside0.mk hK1; clear hI1 hB1 hK1)
      go_ret
      exact ⟨rfl, HI1.out.set_4 _, below_set HB1.out (IsS52.ge HI1.out), KeepBut.set_ HK1.out _ _⟩
    rw [if_neg m2] at hT
    by_cases m3 : m = 3
    · rw [if_pos m3] at hT
      subst m3
      have hc0' : w.cell? ⟨g, 0, none⟩ = some (.func (.func 45) #[.pointer (some ⟨g, 0, none⟩)] #[]) := hc0
      have HC := Aside0.mk (token_Number_end.calls g _ _ _ _ _ _ c _ _ _ _ _ _ _ w0 w HI.out HB.out hT)
      clear hc0 hT
      go_enter Try.func19, Try.ntmps19
      go_wp2_with ((with_reducible refine gate_dst (N := 16) rfl ?_); refine goesF_ (some 16) rfl rfl (x := .tmp 14) (fb := #[.pointer (some ⟨g, 0, none⟩)]) (f := 45) (enters_ Try.func45 (by kernel_rfl) rfl) #[.int .u8 c] rfl rfl (by (try simp only [List.map_toArray, List.map_cons, List.map_nil]); rfl) ?_; refine HC.out.mono ?_; rintro e w1 ⟨rfl, hI1, hB1, hK1⟩; refine ⟨_, rfl, ?_⟩; have hd4 : w1.cell? ⟨g, 4, none⟩ = some (.int .i64 t6) := (blk_cell hI1.1 4).trans rfl; have hf4 := blk_frozen hI1.1 4; have HI1 := Aside0.mk hI1; have HB1 := Aside0.mk hB1; have HK1 := Aside0.mk hK1; clear hI1 hB1 hK1)
      go_ret
      exact ⟨rfl, HI1.out.set_4 _, below_set HB1.out (IsS52.ge HI1.out), KeepBut.set_ HK1.out _ _⟩
    rw [if_neg m3] at hT
    simp at hT
  · rw [if_neg c1] at h
    simp only [Option.some.injEq, Prod.mk.injEq] at h
    obtain ⟨rfl, rfl, rfl, rfl, rfl, rfl, rfl⟩ := h
    have c1b : (l == 0) = false := beq_eq_false_iff_ne.2 c1
    clear c1 hc0
    go_enter Try.func19, Try.ntmps19
    go_wp2
    go_ret
    exact ⟨rfl, HI.out, HB.out, KeepBut.refl _ _ _⟩
end Go.Proofs.Ytbbgichpbjgifaa.Q
