/- slices.IndexFunc at matrices, with the function value that turn.Orbit hands over: where the first one stands that is the same. -/
import Derived.Test.YtehjnekljodmgaaQ0
import Derived.Test.YtehjnekljodmgaaQ11
import Derived.Below
import Derived.Deep.Draws
import Derived.Deep.AppendLies
import Derived.Maps.AppendAt
import Derived.OwnWalk
import Derived.Laws.BytesArg
import Derived.Laws.MakeOwn
import Derived.Laws.OwnMore
import Derived.Deep.OwnRows
import Derived.Tactics
import Derived.Lib.ConvBytes
import Derived.Laws.Slices
import Derived.WalkKit
import Derived.KernelRfl
import Derived.RowKit3
import Derived.Deep.LoopGhost
import Derived.Deep.QuietTactic
import Derived.BigQuiet
import Derived.WideLaws
import Derived.Deep.DeepCutAuto
import Derived.Deep.CutBlock
import Derived.Deep.RegionHeld3
import Derived.Laws.Rows
import Derived.Lib.AppendStr
import Derived.ArgAppend
import Derived.Laws.IdiomCopy
import Derived.OrdersHeld
import Derived.Laws.BitsLemmas
import Derived.RowKit
import Derived.Test.YtehjnekljodmgaaMore
import Derived.Test.YtehjnekljodmgaaPeel
import Derived.Scope
import Derived.Test.YtehjnekljodmgaaWWords
import Derived.Test.YtehjnekljodmgaaWLast
import Derived.Test.YtehjnekljodmgaaWTab
import Derived.Test.YtehjnekljodmgaaWFour
import Derived.Test.YtehjnekljodmgaaWQPut
import Derived.Test.YtehjnekljodmgaaWApart
import Derived.Test.YtehjnekljodmgaaWArr
import Derived.Test.YtehjnekljodmgaaWZeros
import Derived.Test.YtehjnekljodmgaaWFoot
import Derived.Test.YtehjnekljodmgaaWKept
import Derived.Test.YtehjnekljodmgaaWShare
import Derived.Test.YtehjnekljodmgaaWN
import Derived.Test.YtehjnekljodmgaaWFootNe
import Derived.Test.YtehjnekljodmgaaWAt
import Derived.Test.YtehjnekljodmgaaWEqStruct
import Derived.Test.YtehjnekljodmgaaWRepsOne
import Derived.Test.YtehjnekljodmgaaWInv
import Derived.Test.YtehjnekljodmgaaWInvWords
import Derived.Test.YtehjnekljodmgaaWGuard
import Derived.Test.YtehjnekljodmgaaWNEv
import Derived.Test.YtehjnekljodmgaaWMore
import Derived.WalkSpells
namespace Go.Proofs.Ytehjnekljodmgaa.Q
open Go.RowKit Go.Proofs.YtehjnekljodmgaaW.PrintWords Go.Proofs.YtehjnekljodmgaaW.PrintLast
set_option linter.unusedVariables false
set_option linter.unusedSimpArgs false
theorem goesH_ {P : Program} {ops : Array Oper} {Q : Exit → Act → World → Prop} {rest : List Oper} {oi : Oper} {a : Act} {w : World} (N : Option Tmp) (hd : oi.dst = N) (hg : oi.guard = none) {f : FuncId} {x : Operand} {lb : Array Value} {ax : Array Operand} {ts : Array TypeId}
    (hent : ∀ (args : Array Value) (w : World), (callFunc f args).run P w = .ok (.enter f args) w) (args : Array Value) (hop : oi.op = .call { callee := .value x, args := ax, argTypes := ts }) (hx : a.eval x = .func (.func f) #[] lb) (hargs : ax.map a.eval = args)
    (h : Calls P f (args ++ lb) w fun e w' => ∃ v, e = .returned v ∧ wpList P ops Q rest (a.put N v) w') : wpList P ops Q (oi :: rest) a w := by
  refine wpList_plain hg fun K hK => ?_
  have hrun : (execOp a.eval oi).run P w = .ok (.enter f (args ++ lb)) w := by
    unfold execOp
    simp [hop, hx, resolve, Deferred.ofValue, invoke, hargs, hent]
  unfold Oper.wp
  rw [hrun, Oper.upon_enter]
  refine h.mono fun e w'' hh => ?_
  obtain ⟨v, rfl, hk⟩ := hh
  subst hd
  exact hK _ _ hk
/-- Where the first matrix stands that is the same; -1: nowhere. -/
def idxSame (a b : Int) (l : List Int) : Nat → List S26 → Option Int
  | _, [] => some (-1)
  | i, s :: r => (rect_Same.f (l.length + 5) s.f0 s.f1 s.f2 a b l).bind fun t => if t = true then some (i : Int) else idxSame a b l (i + 1) r
def slices_IndexFunc_Same.f (l0 : List S26) (a b : Int) (l2 : List Int) : Option Int := if l0.length ≤ 1000000000 then idxSame a b l2 0 l0 else none
set_option maxRecDepth 100000 in
set_option maxHeartbeats 4000000 in
theorem turn_Orbit_same (s : S26) (A1 : Option Addr) (c1 : Nat) (a b : Int) (A2 : Option Addr) (c2 : Nat) (l2 : List Int) (g : Nat) (t : Bool) (w : World) (hr1 : Kd.C (Kd.int .u64) w A1 s.f2.length s.f2) (hc1 : s.f2.length ≤ c1) (hr2 : Kd.C (Kd.int .u64) w A2 l2.length l2) (hc2 : l2.length ≤ c2)
    (hb : w.heap[g]? = some (.cells #[.int .i64 a, .int .i64 b, .slice A2 l2.length c2] 26 (0, 0))) (h : rect_Same.f (l2.length + 5) s.f0 s.f1 s.f2 a b l2 = some t) :
    Calls Try.prog 46 #[.agg #[.int .i64 s.f0, .int .i64 s.f1, .slice A1 s.f2.length c1], .pointer (some ⟨g, 0, none⟩)] w fun e w' => e = .returned (.bool t) ∧ Below w.heap.size w w' := by
  have hlt : g < w.heap.size := (Array.getElem?_eq_some_iff.1 hb).1
  obtain ⟨s0, s1, s2⟩ := s
  dsimp only at hr1 hc1 h ⊢
  have HA := Aside0.mk (Kd.C_alloc hr1 (.cells #[.int .i64 s0, .int .i64 s1, .slice A1 s2.length c1] 26))
  have HB := Aside0.mk (Kd.C_alloc hr2 (.cells #[.int .i64 s0, .int .i64 s1, .slice A1 s2.length c1] 26))
  have HC1 := Aside0.mk hc1
  have HC2 := Aside0.mk hc2
  have HH := Aside0.mk h
  have hbW : (w.alloc (.cells #[.int .i64 s0, .int .i64 s1, .slice A1 s2.length c1] 26)).heap[g]? = some (.cells #[.int .i64 a, .int .i64 b, .slice A2 l2.length c2] 26 (0, 0)) := (Below.heap_alloc _ _ _ hlt).trans hb
  have hx1 : (w.alloc (.cells #[.int .i64 s0, .int .i64 s1, .slice A1 s2.length c1] 26)).cell? ⟨g, 0, none⟩ = some (.int .i64 a) := by simp [World.cell?, hbW]
  have hx2 : (w.alloc (.cells #[.int .i64 s0, .int .i64 s1, .slice A1 s2.length c1] 26)).cell? ⟨g, 1, none⟩ = some (.int .i64 b) := by simp [World.cell?, hbW]
  have hx3 : (w.alloc (.cells #[.int .i64 s0, .int .i64 s1, .slice A1 s2.length c1] 26)).cell? ⟨g, 2, none⟩ = some (.slice A2 l2.length c2) := by simp [World.cell?, hbW]
  have hu := Try.underlying26
  clear hbW hb hlt hr1 hr2 hc1 hc2 h
  go_enter Try.func46, Try.ntmps46
  go_wp2_with ((with_reducible refine gate_callee (f := 47) rfl ?_); refine goesL_ (some 6) rfl rfl Try.func47 (by kernel_rfl) rfl #[.agg #[.int .i64 s0, .int .i64 s1, .slice A1 s2.length c1], .agg #[.int .i64 a, .int .i64 b, .slice A2 l2.length c2]] rfl (by (try simp only [List.map_toArray, List.map_cons, List.map_nil]); rfl) ?_; refine (rect_Same.calls (l2.length + 5) s0 s1 A1 c1 s2 a b A2 c2 l2 t _ HA.out HC1.out HB.out HC2.out HH.out).mono ?_; rintro e w5 ⟨rfl, hb⟩; refine ⟨_, rfl, ?_⟩; have HB5 := Aside0.mk (below_step (below_alloc (Below.refl _ _) _) hb); clear hb)
  go_ret
  exact ⟨rfl, HB5.out⟩
set_option maxRecDepth 100000 in
set_option maxHeartbeats 4000000 in
theorem slices_IndexFunc_Same.calls (A0 : Option Addr) (c0 : Nat) (l0 : List S26) (a b : Int) (A2 : Option Addr) (c2 : Nat) (l2 : List Int) (g : Nat) (r : Int) (w : World) (hr0 : Kd.C k26 w A0 l0.length l0) (hc0 : l0.length ≤ c0) (hr2 : Kd.C (Kd.int .u64) w A2 l2.length l2) (hc2 : l2.length ≤ c2) (hb : w.heap[g]? = some (.cells #[.int .i64 a, .int .i64 b, .slice A2 l2.length c2] 26 (0, 0))) (h : slices_IndexFunc_Same.f l0 a b l2 = some r) :
    Calls Try.prog 45 #[.slice A0 l0.length c0, .func (.func 46) #[] #[.pointer (some ⟨g, 0, none⟩)]] w fun e w' => e = .returned (.int .i64 r) ∧ Below w.heap.size w w' := by
  unfold slices_IndexFunc_Same.f at h
  split at h
  · rename_i hl
    have hlt : g < w.heap.size := (Array.getElem?_eq_some_iff.1 hb).1
    have HR0 := Aside0.mk hr0
    have HR2 := Aside0.mk hr2
    have HC2 := Aside0.mk hc2
    have HBX := Aside0.mk (And.intro hlt hb)
    have HL := Aside0.mk hl
    have HI0 := Aside0.mk h
    have hent := enters_ Try.func46 (by kernel_rfl) rfl
    have hu := Try.underlying26
    clear hr0 hr2 hc0 hc2 hb hlt hl h
    go_enter Try.func45, Try.ntmps45
    go_wp2
    go_loopg [8] (l0.length + 1) (fun kq v8 w' => ∃ (i : Nat), v8 = .int .i64 (i : Int) ∧ Aside0 (kq + i = l0.length + 1) ∧ Aside0 (i ≤ l0.length) ∧ Aside0 (idxSame a b l2 i (l0.drop i) = some r) ∧ Aside0 (Below w.heap.size w w'))
    case atStart => exact ⟨0, rfl, ⟨rfl⟩, ⟨by omega⟩, HI0, ⟨Below.refl _ _⟩⟩
    case round =>
      clear HI0
      obtain ⟨i, rfl, HM, HI, HN, HB⟩ := hrel
      obtain ⟨k1, rfl⟩ : ∃ m, gk = m + 1 := ⟨gk - 1, by have h1 := HM.out; have h2 := HI.out; omega⟩
      by_cases c : i < l0.length
      · have c0_ : decide ((i : Int) < (l0.length : Int)) = true := decide_eq_true (by omega)
        have q0 : ((i : Int) < (l0.length : Int)) = True := eq_true (by omega)
        obtain ⟨ad, A1, c1, rfl, hx0, hx1, hx2, hx3, hx4⟩ := at_T26 (Kd.C_below HR0.out HB.out) (i : Int) (by omega) (by omega)
        rw [Int.toNat_natCast] at hx0 hx1 hx2
        have hrd : rd_T26 l0 (i : Int) = l0[i] := by unfold rd_T26; rw [Int.toNat_natCast, List.getD_eq_getElem?_getD, List.getElem?_eq_getElem c]; rfl
        have hn := HN.out
        rw [List.drop_eq_getElem_cons c, idxSame, ← hrd] at hn
        obtain ⟨t, ht, hn⟩ := Option.bind_eq_some_iff.mp hn
        have HT := Aside0.mk ht
        have HNX := Aside0.mk hn
        have HX3 := Aside0.mk hx3
        have HX4 := Aside0.mk hx4
        have hw2 : wrap64 ((i : Int) + 1) = ((i + 1 : Nat) : Int) := by have := HL.out; unfold wrap64; omega
        have HW2 := Aside0.mk hw2
        have HC := Aside0.mk c
        clear hrd hn ht hx3 hx4 HN hw2
        generalize rd_T26 l0 (i : Int) = s at *
        have HS := Aside0.mk (turn_Orbit_same s A1 c1 a b A2 c2 l2 g t wr HX4.out HX3.out (Kd.C_below HR2.out HB.out) HC2.out ((HB.out.block g HBX.out.1).trans HBX.out.2) HT.out)
        cases t with
        | true =>
          obtain rfl : (i : Int) = r := Option.some.inj ((if_pos rfl).symm.trans HNX.out)
          go_wp2_with ((with_reducible refine gate_dst (N := 16) rfl ?_); refine goesH_ (some 16) rfl rfl (x := .tmp 11) (lb := #[.pointer (some ⟨g, 0, none⟩)]) (f := 46) hent #[.agg #[.int .i64 s.f0, .int .i64 s.f1, .slice A1 s.f2.length c1]] rfl rfl (by (try simp only [List.map_toArray, List.map_cons, List.map_nil]); rfl) ?_; refine HS.out.mono ?_; rintro e w5 ⟨rfl, hb⟩; refine ⟨_, rfl, ?_⟩; have HB5 := Aside0.mk (below_step HB.out hb); clear hb)
          go_ret
          exact ⟨rfl, HB5.out⟩
        | false =>
          go_wp2_with ((with_reducible refine gate_dst (N := 16) rfl ?_); refine goesH_ (some 16) rfl rfl (x := .tmp 11) (lb := #[.pointer (some ⟨g, 0, none⟩)]) (f := 46) hent #[.agg #[.int .i64 s.f0, .int .i64 s.f1, .slice A1 s.f2.length c1]] rfl rfl (by (try simp only [List.map_toArray, List.map_cons, List.map_nil]); rfl) ?_; refine HS.out.mono ?_; rintro e w5 ⟨rfl, hb⟩; refine ⟨_, rfl, ?_⟩; have HB5 := Aside0.mk (below_step HB.out hb); clear hb)
          go_roundg k1
          case measure => omega
          case rel => exact ⟨i + 1, by rw [HW2.out], ⟨by have := HM.out; omega⟩, ⟨HC.out⟩, ⟨(if_neg (by decide)).symm.trans HNX.out⟩, HB5⟩
      · have c0_ : decide ((i : Int) < (l0.length : Int)) = false := decide_eq_false (by omega)
        have hr : r = -1 := by
          have := HN.out
          rw [List.drop_eq_nil_of_le (by omega), idxSame] at this
          exact (Option.some.inj this).symm
        have HR := Aside0.mk hr
        clear hr
        go_wp2
        go_ret
        exact ⟨by rw [HR.out]; rfl, HB.out⟩
  · simp at h
end Go.Proofs.Ytehjnekljodmgaa.Q
