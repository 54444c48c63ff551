/- A head's reader that is told a byte of a number. -/
import Derived.Test.YtmimfljiighbaaaQ0
import Derived.Test.YtmimfljiighbaaaItoken_New
import Derived.Test.YtmimfljiighbaaaItoken_Number_Put
import Derived.Test.YtmimfljiighbaaaIhead_Reader_magic
import Derived.Test.YtmimfljiighbaaaQ15
import Derived.Below
import Derived.Deep.Draws
import Derived.Deep.AppendLies
import Derived.Maps.AppendAt
import Derived.OwnWalk
import Derived.Laws.BytesArg
import Derived.Laws.MakeOwn
import Derived.Laws.OwnMore
import Derived.Deep.OwnRows
import Derived.Tactics
import Derived.Lib.ConvBytes
import Derived.Laws.Slices
import Derived.WalkKit
import Derived.KernelRfl
import Derived.RowKit3
import Derived.Deep.LoopGhost
import Derived.Deep.QuietTactic
import Derived.BigQuiet
import Derived.WideLaws
import Derived.Deep.DeepCutAuto
import Derived.Deep.CutBlock
import Derived.Deep.RegionHeld3
import Derived.Laws.Rows
import Derived.Lib.AppendStr
import Derived.ArgAppend
import Derived.Laws.IdiomCopy
import Derived.OrdersHeld
import Derived.Laws.BitsLemmas
import Derived.RowKit
import Derived.Test.YtmimfljiighbaaaMore
import Derived.Test.YtmimfljiighbaaaPeel
import Derived.Test.YtmimfljiighbaaaTok
import Derived.Test.YtmimfljiighbaaaHead
import Derived.Scope
import Derived.Test.YtmimfljiighbaaaWWords
import Derived.Test.YtmimfljiighbaaaWLast
import Derived.Test.YtmimfljiighbaaaWTab
import Derived.Test.YtmimfljiighbaaaWFour
import Derived.Test.YtmimfljiighbaaaWQPut
import Derived.Test.YtmimfljiighbaaaWApart
import Derived.Test.YtmimfljiighbaaaWArr
import Derived.Test.YtmimfljiighbaaaWZeros
import Derived.Test.YtmimfljiighbaaaWFoot
import Derived.Test.YtmimfljiighbaaaWKept
import Derived.Test.YtmimfljiighbaaaWShare
import Derived.Test.YtmimfljiighbaaaWN
import Derived.Test.YtmimfljiighbaaaWFootNe
import Derived.Test.YtmimfljiighbaaaWAt
import Derived.Test.YtmimfljiighbaaaWEqStruct
import Derived.Test.YtmimfljiighbaaaWRepsOne
import Derived.Test.YtmimfljiighbaaaWInv
import Derived.Test.YtmimfljiighbaaaWInvWords
import Derived.Test.YtmimfljiighbaaaWGuard
import Derived.Test.YtmimfljiighbaaaWNEv
import Derived.Test.YtmimfljiighbaaaWMore
import Derived.Deep.RegionWith
import Derived.StillTailTactics
namespace Go.Proofs.Ytmimfljiighbaaa.Q
open Go.RowKit Go.Proofs.YtmimfljiighbaaaW.PrintWords Go.Proofs.YtmimfljiighbaaaW.PrintLast Go.Proofs.YtmimfljiighbaaaW.PrintMore
set_option linter.unusedVariables false
set_option linter.unusedSimpArgs false
theorem head_bits.is (k a b d : Int) (r : Bool) (w : World) (hr : r = decide (k = 1 ∨ k = 4)) : Calls Try.prog 41 #[.agg #[.int .i64 k, .int .i64 a, .int .i64 b, .int .i64 d]] w fun e w' => e = .returned (.bool r) ∧ Below w.heap.size w w' := by
  subst hr
  have hu := Try.underlying36
  by_cases h1 : k = 1
  · have e1 : (k == 1) = true := beq_iff_eq.2 h1
    rw [decide_eq_true (.inl h1)]
    clear h1
    go_enter Try.func41, Try.ntmps41
    go_wp2_with ((with_reducible refine gate_dst (N := 1) rfl ?_); refine box_event ?hg (N := 1) ?hd (cs := #[.int .i64 k, .int .i64 a, .int .i64 b, .int .i64 d]) (t := 36) ?hr ?_; (case hd => rfl); (case hg => rfl); (case hr => first | (go_simp; done) | (go_simp; rfl)); intro gb1 hg w2 hbox hb; have HB1 := Aside0.mk hb; have BK1 := Aside0.mk hbox; clear hb hbox hg; have hcz0 : w2.cell? ⟨gb1, 0, none⟩ = some (.int .i64 k) := (blk_cell BK1.out 0).trans rfl)
    go_ret
    exact ⟨rfl, HB1.out⟩
  · have e1 : (k == 1) = false := beq_eq_false_iff_ne.2 h1
    by_cases h4 : k = 4
    · have e2 : (k == 4) = true := beq_iff_eq.2 h4
      rw [decide_eq_true (.inr h4)]
      clear h1 h4
      go_enter Try.func41, Try.ntmps41
      go_wp2_with ((with_reducible refine gate_dst (N := 1) rfl ?_); refine box_event ?hg (N := 1) ?hd (cs := #[.int .i64 k, .int .i64 a, .int .i64 b, .int .i64 d]) (t := 36) ?hr ?_; (case hd => rfl); (case hg => rfl); (case hr => first | (go_simp; done) | (go_simp; rfl)); intro gb1 hg w2 hbox hb; have HB1 := Aside0.mk hb; have BK1 := Aside0.mk hbox; clear hb hbox hg; have hcz0 : w2.cell? ⟨gb1, 0, none⟩ = some (.int .i64 k) := (blk_cell BK1.out 0).trans rfl)
      go_ret
      exact ⟨rfl, HB1.out⟩
    · have e2 : (k == 4) = false := beq_eq_false_iff_ne.2 h4
      rw [decide_eq_false (fun h => h.elim h1 h4)]
      clear h1 h4
      go_enter Try.func41, Try.ntmps41
      go_wp2_with ((with_reducible refine gate_dst (N := 1) rfl ?_); refine box_event ?hg (N := 1) ?hd (cs := #[.int .i64 k, .int .i64 a, .int .i64 b, .int .i64 d]) (t := 36) ?hr ?_; (case hd => rfl); (case hg => rfl); (case hr => first | (go_simp; done) | (go_simp; rfl)); intro gb1 hg w2 hbox hb; have HB1 := Aside0.mk hb; have BK1 := Aside0.mk hbox; clear hb hbox hg; have hcz0 : w2.cell? ⟨gb1, 0, none⟩ = some (.int .i64 k) := (blk_cell BK1.out 0).trans rfl)
      go_ret
      exact ⟨rfl, HB1.out⟩
def head_number.f (f0 : Int) (f1 : Int) (f2 : Int) (f3 : Int) (f4 : Int) (f5 : Int) (f6 : Int) (f7 : Int) (f8 : Int) (f9 : Bool) (f10 : Int) (f11 : Int) (f12 : Int) (f13 : Bool) (f14 : Int) (f15 : Int) (f16 : Int) (f17 : Int) (c : Int) : Option (Int × Int × Int × Int × Int × Int × Int × Int × Int × Int × Bool × Int × Int × Int × Bool × Int × Int × Int × Int) := if f9 = true then (token_Number_Put.f f10 f11 f12 f13 f14 f15 c).bind fun q => (if q.1 = 0 then some (0, f0, f1, f2, f3, f4, f5, f6, f7, f8, f9, q.2.1, q.2.2.1, q.2.2.2.1, q.2.2.2.2.1, q.2.2.2.2.2.1, q.2.2.2.2.2.2, f16, f17) else (token_Number_Value.f q.2.1 q.2.2.1 q.2.2.2.1 q.2.2.2.2.1 q.2.2.2.2.2.1 q.2.2.2.2.2.2).bind fun v => (if v.2.1 ≠ 0 then some (2, f0, f1, f2, f3, f4, f5, f6, f7, f8, f9, v.2.2.1, v.2.2.2.1, v.2.2.2.2.1, v.2.2.2.2.2.1, v.2.2.2.2.2.2.1, v.2.2.2.2.2.2.2, f16, v.2.1) else if v.1 = 0 then some (2, f0, f1, f2, f3, f4, f5, f6, f7, f8, f9, v.2.2.1, v.2.2.2.1, v.2.2.2.2.1, v.2.2.2.2.2.1, v.2.2.2.2.2.2.1, v.2.2.2.2.2.2.2, f16, 4) else if f8 = 0 then some (0, f0, v.1, f2, f3, f4, f5, f6, f7, 1, true, 0, f5, 0, false, 0, 9, f16, f17) else if f8 = 1 then (if f0 = 1 ∨ f0 = 4 then some (1, f0, f1, v.1, 1, f4, f5, f6, f7, 3, f9, v.2.2.1, v.2.2.2.1, v.2.2.2.2.1, v.2.2.2.2.2.1, v.2.2.2.2.2.2.1, v.2.2.2.2.2.2.2, f16, 0) else some (0, f0, f1, v.1, f3, f4, f5, f6, f7, 2, true, 0, f6, 0, false, 0, 9, f16, f17)) else if f8 = 2 then some (1, f0, f1, f2, v.1, f4, f5, f6, f7, 3, f9, v.2.2.1, v.2.2.2.1, v.2.2.2.2.1, v.2.2.2.2.2.1, v.2.2.2.2.2.2.1, v.2.2.2.2.2.2.2, f16, 0) else none)) else none
set_option maxRecDepth 100000 in
set_option maxHeartbeats 4000000 in
theorem head_number.calls (g : Nat) (f0 : Int) (f1 : Int) (f2 : Int) (f3 : Int) (f4 : Int) (f5 : Int) (f6 : Int) (f7 : Int) (f8 : Int) (f9 : Bool) (f10 : Int) (f11 : Int) (f12 : Int) (f13 : Bool) (f14 : Int) (f15 : Int) (f16 : Int) (f17 : Int) (c : Int) (r0 : Int) (r1 : Int) (r2 : Int) (r3 : Int) (r4 : Int) (r5 : Int) (r6 : Int) (r7 : Int) (r8 : Int) (r9 : Int) (r10 : Bool) (r11 : Int) (r12 : Int) (r13 : Int) (r14 : Bool) (r15 : Int) (r16 : Int) (r17 : Int) (r18 : Int) (w0 w : World) (hI : IsS77 w0 w g f0 f1 f2 f3 f4 f5 f6 f7 f8 f9 f10 f11 f12 f13 f14 f15 f16 f17) (hB : Below w0.heap.size w0 w) (h : head_number.f f0 f1 f2 f3 f4 f5 f6 f7 f8 f9 f10 f11 f12 f13 f14 f15 f16 f17 c = some (r0, r1, r2, r3, r4, r5, r6, r7, r8, r9, r10, r11, r12, r13, r14, r15, r16, r17, r18)) :
    Calls Try.prog 39 #[.pointer (some ⟨g, 0, none⟩), .int .u8 c] w fun e w' => e = .returned (.int .i64 r0) ∧ IsS77 w0 w' g r1 r2 r3 r4 r5 r6 r7 r8 r9 r10 r11 r12 r13 r14 r15 r16 r17 r18 ∧ Below w0.heap.size w0 w' ∧ HdKeep w w' := by
  unfold head_number.f at h
  have hu := Try.underlying77
  have hu2 := Try.underlying36
  have hu3 := Try.underlying74
  have HI := Aside0.mk hI
  have HB := Aside0.mk hB
  have HG := Aside0.mk (IsS77.ge hI)
  obtain ⟨gn, hb, hg, hn⟩ := hI
  by_cases c9 : f9 = true
  · rw [if_pos c9] at h
    subst c9
    have hn := hn rfl
    have HN := Aside0.mk hn
    have hne : g ≠ gn := fun e => (IsS93.ne_blk hn hb (by decide)) e.symm
    have HNE := Aside0.mk hne
    have hcz9 : w.cell? ⟨g, 9, none⟩ = some (.pointer (some ⟨gn, 0, none⟩)) := (blk_cell hb 9).trans rfl
    have HBK := Aside0.mk hb
    clear hb hg hn hB hne
    replace h := Option.bind_eq_some_iff.mp h
    obtain ⟨⟨q1, q2, q3, q4, q5, q6, q7⟩, hQ, h⟩ := h
    have HQ := Aside0.mk hQ
    clear hQ
    by_cases s0 : q1 = 0
    · rw [if_pos s0] at h
      simp only [Option.some.injEq, Prod.mk.injEq] at h
      obtain ⟨rfl, rfl, rfl, rfl, rfl, rfl, rfl, rfl, rfl, rfl, rfl, rfl, rfl, rfl, rfl, rfl, rfl, rfl, rfl⟩ := h
      have e0 : (q1 == 0) = true := beq_iff_eq.2 s0
      have HS0 := Aside0.mk s0
      clear s0
      go_enter Try.func39, Try.ntmps39
      go_wp2_with (((with_reducible refine gate_callee (f := 47) rfl ?_); refine goesL_ (some 13) rfl rfl Try.func47 (by kernel_rfl) rfl #[.pointer (some ⟨gn, 0, none⟩), .int .u8 c] rfl (by (try simp only [List.map_toArray, List.map_cons, List.map_nil]); rfl) ?_; refine (token_Number_Put.calls gn f10 f11 f12 f13 f14 f15 c q1 q2 q3 q4 q5 q6 q7 w0 _ HN.out HB.out HQ.out).mono ?_; rintro e w2 ⟨rfl, hI2, hB2, hK2⟩; refine ⟨_, rfl, ?_⟩; have hb2 := KeepBut.blk hK2 HBK.out HNE.out (by simp); have hcz2_9 : w2.cell? ⟨g, 9, none⟩ = some (.pointer (some ⟨gn, 0, none⟩)) := (blk_cell hb2 9).trans rfl; have hfz2_9 := blk_frozen hb2 9; have HI2 := Aside0.mk hI2; have HB2 := Aside0.mk hB2; have HBK2 := Aside0.mk hb2; have HL2 := Aside0.mk (HdKeep.keep hK2 HN.out.1 (.inr rfl)); clear hI2 hB2 hK2 hb2 hcz9))
      go_ret
      exact ⟨(by rw [← HS0.out]; rfl), ⟨gn, HBK2.out, HG.out, fun _ => HI2.out⟩, HB2.out, HL2.out⟩
    · rw [if_neg s0] at h
      replace h := Option.bind_eq_some_iff.mp h
      obtain ⟨⟨v1, v2, v3, v4, v5, v6, v7, v8⟩, hV, h⟩ := h
      have HV := Aside0.mk hV
      have e0 : (q1 == 0) = false := beq_eq_false_iff_ne.2 s0
      clear hV s0
      dsimp only at h
      by_cases d2 : v2 ≠ 0
      · rw [if_pos d2] at h
        simp only [Option.some.injEq, Prod.mk.injEq] at h
        obtain ⟨rfl, rfl, rfl, rfl, rfl, rfl, rfl, rfl, rfl, rfl, rfl, rfl, rfl, rfl, rfl, rfl, rfl, rfl, rfl⟩ := h
        have e2 : (v2 != 0) = true := bne_iff_ne.2 d2
        clear d2
        go_enter Try.func39, Try.ntmps39
        go_wp2_with (first | ((with_reducible refine gate_callee (f := 47) rfl ?_); refine goesL_ (some 13) rfl rfl Try.func47 (by kernel_rfl) rfl #[.pointer (some ⟨gn, 0, none⟩), .int .u8 c] rfl (by (try simp only [List.map_toArray, List.map_cons, List.map_nil]); rfl) ?_; refine (token_Number_Put.calls gn f10 f11 f12 f13 f14 f15 c q1 q2 q3 q4 q5 q6 q7 w0 _ HN.out HB.out HQ.out).mono ?_; rintro e w2 ⟨rfl, hI2, hB2, hK2⟩; refine ⟨_, rfl, ?_⟩; have hb2 := KeepBut.blk hK2 HBK.out HNE.out (by simp); have hcz2_9 : w2.cell? ⟨g, 9, none⟩ = some (.pointer (some ⟨gn, 0, none⟩)) := (blk_cell hb2 9).trans rfl; have hfz2_9 := blk_frozen hb2 9; have HI2 := Aside0.mk hI2; have HB2 := Aside0.mk hB2; have HBK2 := Aside0.mk hb2; have HL2 := Aside0.mk (HdKeep.keep hK2 HN.out.1 (.inr rfl)); clear hI2 hB2 hK2 hb2 hcz9) | ((with_reducible refine gate_callee (f := 48) rfl ?_); refine goesL_ (some 22) rfl rfl Try.func48 (by kernel_rfl) rfl #[.pointer (some ⟨gn, 0, none⟩)] rfl (by (try simp only [List.map_toArray, List.map_cons, List.map_nil]); rfl) ?_; refine (token_Number_Value.calls gn q2 q3 q4 q5 q6 q7 v1 v2 v3 v4 v5 v6 v7 v8 w0 _ HI2.out HB2.out HV.out).mono ?_; rintro e w3 ⟨rfl, hI3, hB3, hK3⟩; refine ⟨_, rfl, ?_⟩; have hb3 := KeepBut.blk hK3 HBK2.out HNE.out (by simp); have hcz3_0 : w3.cell? ⟨g, 0, none⟩ = some (.int .i64 f0) := (blk_cell hb3 0).trans rfl; have hcz3_1 : w3.cell? ⟨g, 1, none⟩ = some (.int .i64 f1) := (blk_cell hb3 1).trans rfl; have hcz3_2 : w3.cell? ⟨g, 2, none⟩ = some (.int .i64 f2) := (blk_cell hb3 2).trans rfl; have hcz3_3 : w3.cell? ⟨g, 3, none⟩ = some (.int .i64 f3) := (blk_cell hb3 3).trans rfl; have hcz3_4 : w3.cell? ⟨g, 4, none⟩ = some (.int .i64 f4) := (blk_cell hb3 4).trans rfl; have hcz3_5 : w3.cell? ⟨g, 5, none⟩ = some (.int .i64 f5) := (blk_cell hb3 5).trans rfl; have hcz3_6 : w3.cell? ⟨g, 6, none⟩ = some (.int .i64 f6) := (blk_cell hb3 6).trans rfl; have hcz3_8 : w3.cell? ⟨g, 8, none⟩ = some (.int .i64 f8) := (blk_cell hb3 8).trans rfl; have hcz3_9 : w3.cell? ⟨g, 9, none⟩ = some (.pointer (some ⟨gn, 0, none⟩)) := (blk_cell hb3 9).trans rfl; have hcz3_11 : w3.cell? ⟨g, 11, none⟩ = some (.int .i64 f17) := (blk_cell hb3 11).trans rfl; have hfz3_0 := blk_frozen hb3 0; have hfz3_1 := blk_frozen hb3 1; have hfz3_2 := blk_frozen hb3 2; have hfz3_3 := blk_frozen hb3 3; have hfz3_4 := blk_frozen hb3 4; have hfz3_5 := blk_frozen hb3 5; have hfz3_6 := blk_frozen hb3 6; have hfz3_8 := blk_frozen hb3 8; have hfz3_9 := blk_frozen hb3 9; have hfz3_11 := blk_frozen hb3 11; have HI3 := Aside0.mk hI3; have HB3 := Aside0.mk hB3; have HBK3 := Aside0.mk hb3; have HL3 := Aside0.mk (HL2.out.trans (HdKeep.keep hK3 HI2.out.1 (.inr rfl))); clear hI3 hB3 hK3 hcz2_9 hfz2_9; (try clear hb3a); clear hb3) | ((with_reducible refine gate_callee (f := 44) rfl ?_); refine goesL_ (some 30) rfl rfl Try.func44 (by kernel_rfl) rfl #[.pointer (some ⟨g, 0, none⟩), .int .i64 v2] rfl (by (try simp only [List.map_toArray, List.map_cons, List.map_nil]); rfl) ?_; refine (head_wrong.is g _ v2 _ ⟨HBK3.out, _, rfl⟩).mono ?_; rintro e w5 ⟨rfl, rfl⟩; refine ⟨_, rfl, ?_⟩))
        have hI3 : IsS77 w0 w3 g f0 f1 f2 f3 f4 f5 f6 f7 f8 true v3 v4 v5 v6 v7 v8 f16 f17 := ⟨gn, HBK3.out, HG.out, fun _ => HI3.out⟩
        go_ret
        exact ⟨rfl, hI3.set_17 v2, below_set HB3.out HG.out, HL3.out.setS hI3 11 _⟩
      · rw [if_neg d2] at h
        have e2 : (v2 != 0) = false := bne_eq_false_iff_eq.2 (by simpa using d2)
        clear d2
        by_cases d1 : v1 = 0
        · rw [if_pos d1] at h
          simp only [Option.some.injEq, Prod.mk.injEq] at h
          obtain ⟨rfl, rfl, rfl, rfl, rfl, rfl, rfl, rfl, rfl, rfl, rfl, rfl, rfl, rfl, rfl, rfl, rfl, rfl, rfl⟩ := h
          have e1 : (v1 == 0) = true := beq_iff_eq.2 d1
          clear d1
          go_enter Try.func39, Try.ntmps39
          go_wp2_with (first | ((with_reducible refine gate_callee (f := 47) rfl ?_); refine goesL_ (some 13) rfl rfl Try.func47 (by kernel_rfl) rfl #[.pointer (some ⟨gn, 0, none⟩), .int .u8 c] rfl (by (try simp only [List.map_toArray, List.map_cons, List.map_nil]); rfl) ?_; refine (token_Number_Put.calls gn f10 f11 f12 f13 f14 f15 c q1 q2 q3 q4 q5 q6 q7 w0 _ HN.out HB.out HQ.out).mono ?_; rintro e w2 ⟨rfl, hI2, hB2, hK2⟩; refine ⟨_, rfl, ?_⟩; have hb2 := KeepBut.blk hK2 HBK.out HNE.out (by simp); have hcz2_9 : w2.cell? ⟨g, 9, none⟩ = some (.pointer (some ⟨gn, 0, none⟩)) := (blk_cell hb2 9).trans rfl; have hfz2_9 := blk_frozen hb2 9; have HI2 := Aside0.mk hI2; have HB2 := Aside0.mk hB2; have HBK2 := Aside0.mk hb2; have HL2 := Aside0.mk (HdKeep.keep hK2 HN.out.1 (.inr rfl)); clear hI2 hB2 hK2 hb2 hcz9) | ((with_reducible refine gate_callee (f := 48) rfl ?_); refine goesL_ (some 22) rfl rfl Try.func48 (by kernel_rfl) rfl #[.pointer (some ⟨gn, 0, none⟩)] rfl (by (try simp only [List.map_toArray, List.map_cons, List.map_nil]); rfl) ?_; refine (token_Number_Value.calls gn q2 q3 q4 q5 q6 q7 v1 v2 v3 v4 v5 v6 v7 v8 w0 _ HI2.out HB2.out HV.out).mono ?_; rintro e w3 ⟨rfl, hI3, hB3, hK3⟩; refine ⟨_, rfl, ?_⟩; have hb3 := KeepBut.blk hK3 HBK2.out HNE.out (by simp); have hcz3_0 : w3.cell? ⟨g, 0, none⟩ = some (.int .i64 f0) := (blk_cell hb3 0).trans rfl; have hcz3_1 : w3.cell? ⟨g, 1, none⟩ = some (.int .i64 f1) := (blk_cell hb3 1).trans rfl; have hcz3_2 : w3.cell? ⟨g, 2, none⟩ = some (.int .i64 f2) := (blk_cell hb3 2).trans rfl; have hcz3_3 : w3.cell? ⟨g, 3, none⟩ = some (.int .i64 f3) := (blk_cell hb3 3).trans rfl; have hcz3_4 : w3.cell? ⟨g, 4, none⟩ = some (.int .i64 f4) := (blk_cell hb3 4).trans rfl; have hcz3_5 : w3.cell? ⟨g, 5, none⟩ = some (.int .i64 f5) := (blk_cell hb3 5).trans rfl; have hcz3_6 : w3.cell? ⟨g, 6, none⟩ = some (.int .i64 f6) := (blk_cell hb3 6).trans rfl; have hcz3_8 : w3.cell? ⟨g, 8, none⟩ = some (.int .i64 f8) := (blk_cell hb3 8).trans rfl; have hcz3_9 : w3.cell? ⟨g, 9, none⟩ = some (.pointer (some ⟨gn, 0, none⟩)) := (blk_cell hb3 9).trans rfl; have hcz3_11 : w3.cell? ⟨g, 11, none⟩ = some (.int .i64 f17) := (blk_cell hb3 11).trans rfl; have hfz3_0 := blk_frozen hb3 0; have hfz3_1 := blk_frozen hb3 1; have hfz3_2 := blk_frozen hb3 2; have hfz3_3 := blk_frozen hb3 3; have hfz3_4 := blk_frozen hb3 4; have hfz3_5 := blk_frozen hb3 5; have hfz3_6 := blk_frozen hb3 6; have hfz3_8 := blk_frozen hb3 8; have hfz3_9 := blk_frozen hb3 9; have hfz3_11 := blk_frozen hb3 11; have HI3 := Aside0.mk hI3; have HB3 := Aside0.mk hB3; have HBK3 := Aside0.mk hb3; have HL3 := Aside0.mk (HL2.out.trans (HdKeep.keep hK3 HI2.out.1 (.inr rfl))); clear hI3 hB3 hK3 hcz2_9 hfz2_9; (try clear hb3a); clear hb3) | ((with_reducible refine gate_callee (f := 44) rfl ?_); refine goesL_ (some 35) rfl rfl Try.func44 (by kernel_rfl) rfl #[.pointer (some ⟨g, 0, none⟩), .int .i64 4] rfl (by (try simp only [List.map_toArray, List.map_cons, List.map_nil]); rfl) ?_; refine (head_wrong.is g _ 4 _ ⟨HBK3.out, _, rfl⟩).mono ?_; rintro e w5 ⟨rfl, rfl⟩; refine ⟨_, rfl, ?_⟩))
          have hI3 : IsS77 w0 w3 g f0 f1 f2 f3 f4 f5 f6 f7 f8 true v3 v4 v5 v6 v7 v8 f16 f17 := ⟨gn, HBK3.out, HG.out, fun _ => HI3.out⟩
          go_ret
          exact ⟨rfl, hI3.set_17 4, below_set HB3.out HG.out, HL3.out.setS hI3 11 _⟩
        · rw [if_neg d1] at h
          have e1 : (v1 == 0) = false := beq_eq_false_iff_ne.2 d1
          clear d1
          by_cases i0 : f8 = 0
          · rw [if_pos i0] at h
            subst i0
            simp only [Option.some.injEq, Prod.mk.injEq] at h
            obtain ⟨rfl, rfl, rfl, rfl, rfl, rfl, rfl, rfl, rfl, rfl, rfl, rfl, rfl, rfl, rfl, rfl, rfl, rfl, rfl⟩ := h
            go_enter Try.func39, Try.ntmps39
            go_wp2_with (first | ((with_reducible refine gate_callee (f := 47) rfl ?_); refine goesL_ (some 13) rfl rfl Try.func47 (by kernel_rfl) rfl #[.pointer (some ⟨gn, 0, none⟩), .int .u8 c] rfl (by (try simp only [List.map_toArray, List.map_cons, List.map_nil]); rfl) ?_; refine (token_Number_Put.calls gn f10 f11 f12 f13 f14 f15 c q1 q2 q3 q4 q5 q6 q7 w0 _ HN.out HB.out HQ.out).mono ?_; rintro e w2 ⟨rfl, hI2, hB2, hK2⟩; refine ⟨_, rfl, ?_⟩; have hb2 := KeepBut.blk hK2 HBK.out HNE.out (by simp); have hcz2_9 : w2.cell? ⟨g, 9, none⟩ = some (.pointer (some ⟨gn, 0, none⟩)) := (blk_cell hb2 9).trans rfl; have hfz2_9 := blk_frozen hb2 9; have HI2 := Aside0.mk hI2; have HB2 := Aside0.mk hB2; have HBK2 := Aside0.mk hb2; have HL2 := Aside0.mk (HdKeep.keep hK2 HN.out.1 (.inr rfl)); clear hI2 hB2 hK2 hb2 hcz9) | ((with_reducible refine gate_callee (f := 48) rfl ?_); refine goesL_ (some 22) rfl rfl Try.func48 (by kernel_rfl) rfl #[.pointer (some ⟨gn, 0, none⟩)] rfl (by (try simp only [List.map_toArray, List.map_cons, List.map_nil]); rfl) ?_; refine (token_Number_Value.calls gn q2 q3 q4 q5 q6 q7 v1 v2 v3 v4 v5 v6 v7 v8 w0 _ HI2.out HB2.out HV.out).mono ?_; rintro e w3 ⟨rfl, hI3, hB3, hK3⟩; refine ⟨_, rfl, ?_⟩; have hb3 := KeepBut.blk hK3 HBK2.out HNE.out (by simp); have hcz3_0 : w3.cell? ⟨g, 0, none⟩ = some (.int .i64 f0) := (blk_cell hb3 0).trans rfl; have hcz3_1 : w3.cell? ⟨g, 1, none⟩ = some (.int .i64 f1) := (blk_cell hb3 1).trans rfl; have hcz3_2 : w3.cell? ⟨g, 2, none⟩ = some (.int .i64 f2) := (blk_cell hb3 2).trans rfl; have hcz3_3 : w3.cell? ⟨g, 3, none⟩ = some (.int .i64 f3) := (blk_cell hb3 3).trans rfl; have hcz3_4 : w3.cell? ⟨g, 4, none⟩ = some (.int .i64 f4) := (blk_cell hb3 4).trans rfl; have hcz3_5 : w3.cell? ⟨g, 5, none⟩ = some (.int .i64 f5) := (blk_cell hb3 5).trans rfl; have hcz3_6 : w3.cell? ⟨g, 6, none⟩ = some (.int .i64 f6) := (blk_cell hb3 6).trans rfl; have hcz3_8 : w3.cell? ⟨g, 8, none⟩ = some (.int .i64 0) := (blk_cell hb3 8).trans rfl; have hcz3_9 : w3.cell? ⟨g, 9, none⟩ = some (.pointer (some ⟨gn, 0, none⟩)) := (blk_cell hb3 9).trans rfl; have hcz3_11 : w3.cell? ⟨g, 11, none⟩ = some (.int .i64 f17) := (blk_cell hb3 11).trans rfl; have hfz3_0 := blk_frozen hb3 0; have hfz3_1 := blk_frozen hb3 1; have hfz3_2 := blk_frozen hb3 2; have hfz3_3 := blk_frozen hb3 3; have hfz3_4 := blk_frozen hb3 4; have hfz3_5 := blk_frozen hb3 5; have hfz3_6 := blk_frozen hb3 6; have hfz3_8 := blk_frozen hb3 8; have hfz3_9 := blk_frozen hb3 9; have hfz3_11 := blk_frozen hb3 11; have hb3a := blk_alloc hb3 (.cells #[.pointer (some ⟨g, 1, none⟩), .pointer (some ⟨g, 2, none⟩), .pointer (some ⟨g, 3, none⟩)] 84 (0, 0)); have hca_8 : (w3.alloc (.cells #[.pointer (some ⟨g, 1, none⟩), .pointer (some ⟨g, 2, none⟩), .pointer (some ⟨g, 3, none⟩)] 84)).cell? ⟨g, 8, none⟩ = some (.int .i64 0) := (blk_cell hb3a 8).trans rfl; have hfa_8 : (w3.alloc (.cells #[.pointer (some ⟨g, 1, none⟩), .pointer (some ⟨g, 2, none⟩), .pointer (some ⟨g, 3, none⟩)] 84)).frozen? ⟨g, 8, none⟩ = false := blk_frozen hb3a 8; have hca_1 : (w3.alloc (.cells #[.pointer (some ⟨g, 1, none⟩), .pointer (some ⟨g, 2, none⟩), .pointer (some ⟨g, 3, none⟩)] 84)).cell? ⟨g, 1, none⟩ = some (.int .i64 f1) := (blk_cell hb3a 1).trans rfl; have hfa_1 : (w3.alloc (.cells #[.pointer (some ⟨g, 1, none⟩), .pointer (some ⟨g, 2, none⟩), .pointer (some ⟨g, 3, none⟩)] 84)).frozen? ⟨g, 1, none⟩ = false := blk_frozen hb3a 1; have HI3 := Aside0.mk hI3; have HB3 := Aside0.mk hB3; have HBK3 := Aside0.mk hb3; have HL3 := Aside0.mk (HL2.out.trans (HdKeep.keep hK3 HI2.out.1 (.inr rfl))); clear hI3 hB3 hK3 hcz2_9 hfz2_9; (try clear hb3a); clear hb3))
            go_region
            have hI3 : IsS77 w0 w3 g f0 f1 f2 f3 f4 f5 f6 f7 0 true v3 v4 v5 v6 v7 v8 f16 f17 := ⟨gn, HBK3.out, HG.out, fun _ => HI3.out⟩
            clear hca_8 hfa_8 hca_1 hfa_1
            clear hcz3_0 hfz3_0 hcz3_1 hfz3_1 hcz3_2 hfz3_2 hcz3_3 hfz3_3 hcz3_4 hfz3_4 hcz3_5 hfz3_5 hcz3_6 hfz3_6 hcz3_8 hfz3_8 hcz3_9 hfz3_9 hcz3_11 hfz3_11
            have hS4 : IsS77 w0 ((w3.alloc (.cells #[.pointer (some ⟨g, 1, none⟩), .pointer (some ⟨g, 2, none⟩), .pointer (some ⟨g, 3, none⟩)] 84)).setCell ⟨g, 1, none⟩ (.int .i64 v1)).drew g f0 v1 f2 f3 f4 f5 f6 f7 0 true v3 v4 v5 v6 v7 v8 f16 f17 := ((hI3.alloc (.cells #[.pointer (some ⟨g, 1, none⟩), .pointer (some ⟨g, 2, none⟩), .pointer (some ⟨g, 3, none⟩)] 84)).set_1 v1).drew
            have hB4 : Below w0.heap.size w0 ((w3.alloc (.cells #[.pointer (some ⟨g, 1, none⟩), .pointer (some ⟨g, 2, none⟩), .pointer (some ⟨g, 3, none⟩)] 84)).setCell ⟨g, 1, none⟩ (.int .i64 v1)).drew := below_drew1 (below_set (below_alloc HB3.out _) HG.out)
            have hK4 : HdKeep w ((w3.alloc (.cells #[.pointer (some ⟨g, 1, none⟩), .pointer (some ⟨g, 2, none⟩), .pointer (some ⟨g, 3, none⟩)] 84)).setCell ⟨g, 1, none⟩ (.int .i64 v1)).drew := ((HL3.out.trans (HdKeep.below (below_alloc (Below.refl _ _) _))).setS (hI3.alloc (.cells #[.pointer (some ⟨g, 1, none⟩), .pointer (some ⟨g, 2, none⟩), .pointer (some ⟨g, 3, none⟩)] 84)) 1 _).trans (HdKeep.below (below_drew1 (Below.refl _ _)))
            generalize ((w3.alloc (.cells #[.pointer (some ⟨g, 1, none⟩), .pointer (some ⟨g, 2, none⟩), .pointer (some ⟨g, 3, none⟩)] 84)).setCell ⟨g, 1, none⟩ (.int .i64 v1)).drew = w4 at hS4 hB4 hK4 ⊢
            have HS4 := Aside0.mk hS4
            have HB4 := Aside0.mk hB4
            have HK4 := Aside0.mk hK4
            obtain ⟨gm4, hb4, _, _⟩ := hS4
            have hcz4_0 : w4.cell? ⟨g, 0, none⟩ = some (.int .i64 f0) := (blk_cell hb4 0).trans rfl
            have hcz4_1 : w4.cell? ⟨g, 1, none⟩ = some (.int .i64 v1) := (blk_cell hb4 1).trans rfl
            have hcz4_2 : w4.cell? ⟨g, 2, none⟩ = some (.int .i64 f2) := (blk_cell hb4 2).trans rfl
            have hcz4_3 : w4.cell? ⟨g, 3, none⟩ = some (.int .i64 f3) := (blk_cell hb4 3).trans rfl
            have hcz4_4 : w4.cell? ⟨g, 4, none⟩ = some (.int .i64 f4) := (blk_cell hb4 4).trans rfl
            have hcz4_5 : w4.cell? ⟨g, 5, none⟩ = some (.int .i64 f5) := (blk_cell hb4 5).trans rfl
            have hcz4_6 : w4.cell? ⟨g, 6, none⟩ = some (.int .i64 f6) := (blk_cell hb4 6).trans rfl
            have hcz4_8 : w4.cell? ⟨g, 8, none⟩ = some (.int .i64 0) := (blk_cell hb4 8).trans rfl
            have hcz4_9 : w4.cell? ⟨g, 9, none⟩ = some (hdV true gm4) := (blk_cell hb4 9).trans rfl
            have hcz4_11 : w4.cell? ⟨g, 11, none⟩ = some (.int .i64 f17) := (blk_cell hb4 11).trans rfl
            have hfz4_0 := blk_frozen hb4 0
            have hfz4_1 := blk_frozen hb4 1
            have hfz4_2 := blk_frozen hb4 2
            have hfz4_3 := blk_frozen hb4 3
            have hfz4_4 := blk_frozen hb4 4
            have hfz4_5 := blk_frozen hb4 5
            have hfz4_6 := blk_frozen hb4 6
            have hfz4_8 := blk_frozen hb4 8
            have hfz4_9 := blk_frozen hb4 9
            have hfz4_11 := blk_frozen hb4 11
            clear hb4 hB4 hK4
            go_wp2
            have hS7 : IsS77 w0 (w4.setCell ⟨g, 8, none⟩ (.int .i64 1)) g f0 v1 f2 f3 f4 f5 f6 f7 1 true v3 v4 v5 v6 v7 v8 f16 f17 := HS4.out.set_8 1
            have hB7 : Below w0.heap.size w0 (w4.setCell ⟨g, 8, none⟩ (.int .i64 1)) := below_set HB4.out HG.out
            have hK7 : HdKeep w (w4.setCell ⟨g, 8, none⟩ (.int .i64 1)) := HK4.out.setS HS4.out 8 _
            generalize (w4.setCell ⟨g, 8, none⟩ (.int .i64 1)) = w7 at hS7 hB7 hK7 ⊢
            have HS7 := Aside0.mk hS7
            have HB7 := Aside0.mk hB7
            have HK7 := Aside0.mk hK7
            obtain ⟨gm7, hb7, _, _⟩ := hS7
            have hcz7_0 : w7.cell? ⟨g, 0, none⟩ = some (.int .i64 f0) := (blk_cell hb7 0).trans rfl
            have hcz7_1 : w7.cell? ⟨g, 1, none⟩ = some (.int .i64 v1) := (blk_cell hb7 1).trans rfl
            have hcz7_2 : w7.cell? ⟨g, 2, none⟩ = some (.int .i64 f2) := (blk_cell hb7 2).trans rfl
            have hcz7_3 : w7.cell? ⟨g, 3, none⟩ = some (.int .i64 f3) := (blk_cell hb7 3).trans rfl
            have hcz7_4 : w7.cell? ⟨g, 4, none⟩ = some (.int .i64 f4) := (blk_cell hb7 4).trans rfl
            have hcz7_5 : w7.cell? ⟨g, 5, none⟩ = some (.int .i64 f5) := (blk_cell hb7 5).trans rfl
            have hcz7_6 : w7.cell? ⟨g, 6, none⟩ = some (.int .i64 f6) := (blk_cell hb7 6).trans rfl
            have hcz7_8 : w7.cell? ⟨g, 8, none⟩ = some (.int .i64 1) := (blk_cell hb7 8).trans rfl
            have hcz7_9 : w7.cell? ⟨g, 9, none⟩ = some (hdV true gm7) := (blk_cell hb7 9).trans rfl
            have hcz7_11 : w7.cell? ⟨g, 11, none⟩ = some (.int .i64 f17) := (blk_cell hb7 11).trans rfl
            have hfz7_0 := blk_frozen hb7 0
            have hfz7_1 := blk_frozen hb7 1
            have hfz7_2 := blk_frozen hb7 2
            have hfz7_3 := blk_frozen hb7 3
            have hfz7_4 := blk_frozen hb7 4
            have hfz7_5 := blk_frozen hb7 5
            have hfz7_6 := blk_frozen hb7 6
            have hfz7_8 := blk_frozen hb7 8
            have hfz7_9 := blk_frozen hb7 9
            have hfz7_11 := blk_frozen hb7 11
            clear hb7 hB7 hK7
            clear hcz4_0 hfz4_0 hcz4_1 hfz4_1 hcz4_2 hfz4_2 hcz4_3 hfz4_3 hcz4_4 hfz4_4 hcz4_5 hfz4_5 hcz4_6 hfz4_6 hcz4_8 hfz4_8 hcz4_9 hfz4_9 hcz4_11 hfz4_11
            have HS6 := Aside0.mk (HS7.out).drew
            have HB6 : Aside0 (Below w0.heap.size w0 w7.drew) := ⟨below_drew1 HB7.out⟩
            have HK6 : Aside0 (HdKeep w w7.drew) := ⟨HK7.out.trans (HdKeep.below (below_drew1 (Below.refl _ _)))⟩
            obtain ⟨gm6, hb6, _, _⟩ := HS6.out
            have HBK6 : Aside0 (w7.drew.heap[g]? = some (.cells #[.int .i64 f0, .int .i64 v1, .int .i64 f2, .int .i64 f3, .int .i64 f4, .int .i64 f5, .int .i64 f6, .int .i64 f7, .int .i64 1, hdV true gm6, .int .i64 f16, .int .i64 f17] 77 (0, 0))) := ⟨hb6⟩
            clear hb6
            go_region_with (go_at_call 46; refine (token_New.calls f5 0 f5 0 false 0 9 w0 _ HB6.out rfl).mono ?_; rintro e w5 ⟨g5, rfl, hI5, hB5, hb5⟩; have hk5 := blk_below HBK6.out hb5; have hcz5 : w5.cell? ⟨g, 9, none⟩ = some (hdV true gm6) := (blk_cell hk5 9).trans rfl; have hfz5 := blk_frozen hk5 9; have HI5 := Aside0.mk hI5; have HB5 := Aside0.mk hB5; have HL5 := Aside0.mk (HK6.out.trans (HdKeep.below hb5)); have HS5 := Aside0.mk (HS6.out.below hb5); clear hk5 hI5 hB5 hb5)
            all_goals (try go_wp2)
            all_goals go_ret
            all_goals exact ⟨rfl, HS5.out.set_n HI5.out, below_set HB5.out HG.out, HL5.out.setS HS5.out 9 _⟩
          · rw [if_neg i0] at h
            by_cases i1 : f8 = 1
            · rw [if_pos i1] at h
              subst i1
              by_cases hk : f0 = 1 ∨ f0 = 4
              · rw [if_pos hk] at h
                simp only [Option.some.injEq, Prod.mk.injEq] at h
                obtain ⟨rfl, rfl, rfl, rfl, rfl, rfl, rfl, rfl, rfl, rfl, rfl, rfl, rfl, rfl, rfl, rfl, rfl, rfl, rfl⟩ := h
                have HKB := Aside0.mk hk
                clear hk
                go_enter Try.func39, Try.ntmps39
                go_wp2_with (first | ((with_reducible refine gate_callee (f := 47) rfl ?_); refine goesL_ (some 13) rfl rfl Try.func47 (by kernel_rfl) rfl #[.pointer (some ⟨gn, 0, none⟩), .int .u8 c] rfl (by (try simp only [List.map_toArray, List.map_cons, List.map_nil]); rfl) ?_; refine (token_Number_Put.calls gn f10 f11 f12 f13 f14 f15 c q1 q2 q3 q4 q5 q6 q7 w0 _ HN.out HB.out HQ.out).mono ?_; rintro e w2 ⟨rfl, hI2, hB2, hK2⟩; refine ⟨_, rfl, ?_⟩; have hb2 := KeepBut.blk hK2 HBK.out HNE.out (by simp); have hcz2_9 : w2.cell? ⟨g, 9, none⟩ = some (.pointer (some ⟨gn, 0, none⟩)) := (blk_cell hb2 9).trans rfl; have hfz2_9 := blk_frozen hb2 9; have HI2 := Aside0.mk hI2; have HB2 := Aside0.mk hB2; have HBK2 := Aside0.mk hb2; have HL2 := Aside0.mk (HdKeep.keep hK2 HN.out.1 (.inr rfl)); clear hI2 hB2 hK2 hb2 hcz9) | ((with_reducible refine gate_callee (f := 48) rfl ?_); refine goesL_ (some 22) rfl rfl Try.func48 (by kernel_rfl) rfl #[.pointer (some ⟨gn, 0, none⟩)] rfl (by (try simp only [List.map_toArray, List.map_cons, List.map_nil]); rfl) ?_; refine (token_Number_Value.calls gn q2 q3 q4 q5 q6 q7 v1 v2 v3 v4 v5 v6 v7 v8 w0 _ HI2.out HB2.out HV.out).mono ?_; rintro e w3 ⟨rfl, hI3, hB3, hK3⟩; refine ⟨_, rfl, ?_⟩; have hb3 := KeepBut.blk hK3 HBK2.out HNE.out (by simp); have hcz3_0 : w3.cell? ⟨g, 0, none⟩ = some (.int .i64 f0) := (blk_cell hb3 0).trans rfl; have hcz3_1 : w3.cell? ⟨g, 1, none⟩ = some (.int .i64 f1) := (blk_cell hb3 1).trans rfl; have hcz3_2 : w3.cell? ⟨g, 2, none⟩ = some (.int .i64 f2) := (blk_cell hb3 2).trans rfl; have hcz3_3 : w3.cell? ⟨g, 3, none⟩ = some (.int .i64 f3) := (blk_cell hb3 3).trans rfl; have hcz3_4 : w3.cell? ⟨g, 4, none⟩ = some (.int .i64 f4) := (blk_cell hb3 4).trans rfl; have hcz3_5 : w3.cell? ⟨g, 5, none⟩ = some (.int .i64 f5) := (blk_cell hb3 5).trans rfl; have hcz3_6 : w3.cell? ⟨g, 6, none⟩ = some (.int .i64 f6) := (blk_cell hb3 6).trans rfl; have hcz3_8 : w3.cell? ⟨g, 8, none⟩ = some (.int .i64 1) := (blk_cell hb3 8).trans rfl; have hcz3_9 : w3.cell? ⟨g, 9, none⟩ = some (.pointer (some ⟨gn, 0, none⟩)) := (blk_cell hb3 9).trans rfl; have hcz3_11 : w3.cell? ⟨g, 11, none⟩ = some (.int .i64 f17) := (blk_cell hb3 11).trans rfl; have hfz3_0 := blk_frozen hb3 0; have hfz3_1 := blk_frozen hb3 1; have hfz3_2 := blk_frozen hb3 2; have hfz3_3 := blk_frozen hb3 3; have hfz3_4 := blk_frozen hb3 4; have hfz3_5 := blk_frozen hb3 5; have hfz3_6 := blk_frozen hb3 6; have hfz3_8 := blk_frozen hb3 8; have hfz3_9 := blk_frozen hb3 9; have hfz3_11 := blk_frozen hb3 11; have hb3a := blk_alloc hb3 (.cells #[.pointer (some ⟨g, 1, none⟩), .pointer (some ⟨g, 2, none⟩), .pointer (some ⟨g, 3, none⟩)] 84 (0, 0)); have hca_8 : (w3.alloc (.cells #[.pointer (some ⟨g, 1, none⟩), .pointer (some ⟨g, 2, none⟩), .pointer (some ⟨g, 3, none⟩)] 84)).cell? ⟨g, 8, none⟩ = some (.int .i64 1) := (blk_cell hb3a 8).trans rfl; have hfa_8 : (w3.alloc (.cells #[.pointer (some ⟨g, 1, none⟩), .pointer (some ⟨g, 2, none⟩), .pointer (some ⟨g, 3, none⟩)] 84)).frozen? ⟨g, 8, none⟩ = false := blk_frozen hb3a 8; have hca_2 : (w3.alloc (.cells #[.pointer (some ⟨g, 1, none⟩), .pointer (some ⟨g, 2, none⟩), .pointer (some ⟨g, 3, none⟩)] 84)).cell? ⟨g, 2, none⟩ = some (.int .i64 f2) := (blk_cell hb3a 2).trans rfl; have hfa_2 : (w3.alloc (.cells #[.pointer (some ⟨g, 1, none⟩), .pointer (some ⟨g, 2, none⟩), .pointer (some ⟨g, 3, none⟩)] 84)).frozen? ⟨g, 2, none⟩ = false := blk_frozen hb3a 2; have HI3 := Aside0.mk hI3; have HB3 := Aside0.mk hB3; have HBK3 := Aside0.mk hb3; have HL3 := Aside0.mk (HL2.out.trans (HdKeep.keep hK3 HI2.out.1 (.inr rfl))); clear hI3 hB3 hK3 hcz2_9 hfz2_9; (try clear hb3a); clear hb3))
                go_region
                have hI3 : IsS77 w0 w3 g f0 f1 f2 f3 f4 f5 f6 f7 1 true v3 v4 v5 v6 v7 v8 f16 f17 := ⟨gn, HBK3.out, HG.out, fun _ => HI3.out⟩
                clear hca_8 hfa_8 hca_2 hfa_2
                clear hcz3_0 hfz3_0 hcz3_1 hfz3_1 hcz3_2 hfz3_2 hcz3_3 hfz3_3 hcz3_4 hfz3_4 hcz3_5 hfz3_5 hcz3_6 hfz3_6 hcz3_8 hfz3_8 hcz3_9 hfz3_9 hcz3_11 hfz3_11
                have hS4 : IsS77 w0 ((w3.alloc (.cells #[.pointer (some ⟨g, 1, none⟩), .pointer (some ⟨g, 2, none⟩), .pointer (some ⟨g, 3, none⟩)] 84)).setCell ⟨g, 2, none⟩ (.int .i64 v1)).drew g f0 f1 v1 f3 f4 f5 f6 f7 1 true v3 v4 v5 v6 v7 v8 f16 f17 := ((hI3.alloc (.cells #[.pointer (some ⟨g, 1, none⟩), .pointer (some ⟨g, 2, none⟩), .pointer (some ⟨g, 3, none⟩)] 84)).set_2 v1).drew
                have hB4 : Below w0.heap.size w0 ((w3.alloc (.cells #[.pointer (some ⟨g, 1, none⟩), .pointer (some ⟨g, 2, none⟩), .pointer (some ⟨g, 3, none⟩)] 84)).setCell ⟨g, 2, none⟩ (.int .i64 v1)).drew := below_drew1 (below_set (below_alloc HB3.out _) HG.out)
                have hK4 : HdKeep w ((w3.alloc (.cells #[.pointer (some ⟨g, 1, none⟩), .pointer (some ⟨g, 2, none⟩), .pointer (some ⟨g, 3, none⟩)] 84)).setCell ⟨g, 2, none⟩ (.int .i64 v1)).drew := ((HL3.out.trans (HdKeep.below (below_alloc (Below.refl _ _) _))).setS (hI3.alloc (.cells #[.pointer (some ⟨g, 1, none⟩), .pointer (some ⟨g, 2, none⟩), .pointer (some ⟨g, 3, none⟩)] 84)) 2 _).trans (HdKeep.below (below_drew1 (Below.refl _ _)))
                generalize ((w3.alloc (.cells #[.pointer (some ⟨g, 1, none⟩), .pointer (some ⟨g, 2, none⟩), .pointer (some ⟨g, 3, none⟩)] 84)).setCell ⟨g, 2, none⟩ (.int .i64 v1)).drew = w4 at hS4 hB4 hK4 ⊢
                have HS4 := Aside0.mk hS4
                have HB4 := Aside0.mk hB4
                have HK4 := Aside0.mk hK4
                obtain ⟨gm4, hb4, _, _⟩ := hS4
                have hcz4_0 : w4.cell? ⟨g, 0, none⟩ = some (.int .i64 f0) := (blk_cell hb4 0).trans rfl
                have hcz4_1 : w4.cell? ⟨g, 1, none⟩ = some (.int .i64 f1) := (blk_cell hb4 1).trans rfl
                have hcz4_2 : w4.cell? ⟨g, 2, none⟩ = some (.int .i64 v1) := (blk_cell hb4 2).trans rfl
                have hcz4_3 : w4.cell? ⟨g, 3, none⟩ = some (.int .i64 f3) := (blk_cell hb4 3).trans rfl
                have hcz4_4 : w4.cell? ⟨g, 4, none⟩ = some (.int .i64 f4) := (blk_cell hb4 4).trans rfl
                have hcz4_5 : w4.cell? ⟨g, 5, none⟩ = some (.int .i64 f5) := (blk_cell hb4 5).trans rfl
                have hcz4_6 : w4.cell? ⟨g, 6, none⟩ = some (.int .i64 f6) := (blk_cell hb4 6).trans rfl
                have hcz4_8 : w4.cell? ⟨g, 8, none⟩ = some (.int .i64 1) := (blk_cell hb4 8).trans rfl
                have hcz4_9 : w4.cell? ⟨g, 9, none⟩ = some (hdV true gm4) := (blk_cell hb4 9).trans rfl
                have hcz4_11 : w4.cell? ⟨g, 11, none⟩ = some (.int .i64 f17) := (blk_cell hb4 11).trans rfl
                have hfz4_0 := blk_frozen hb4 0
                have hfz4_1 := blk_frozen hb4 1
                have hfz4_2 := blk_frozen hb4 2
                have hfz4_3 := blk_frozen hb4 3
                have hfz4_4 := blk_frozen hb4 4
                have hfz4_5 := blk_frozen hb4 5
                have hfz4_6 := blk_frozen hb4 6
                have hfz4_8 := blk_frozen hb4 8
                have hfz4_9 := blk_frozen hb4 9
                have hfz4_11 := blk_frozen hb4 11
                clear hb4 hB4 hK4
                go_wp2_with (first | (go_at_call 41; refine (head_bits.is f0 f1 v1 f3 true _ (decide_eq_true HKB.out).symm).mono ?_; rintro e w8 ⟨rfl, hb8⟩; have hS8 := (HS4.out.set_8 2).below hb8; have hB8 := below_step (below_set HB4.out HG.out) hb8; have hK8 := (HK4.out.setS HS4.out 8 _).trans (HdKeep.below hb8); clear hb8; have HS8 := Aside0.mk hS8; have HB8 := Aside0.mk hB8; have HK8 := Aside0.mk hK8; obtain ⟨gm8, hb8, _, _⟩ := hS8; have hcz8_0 : w8.cell? ⟨g, 0, none⟩ = some (.int .i64 f0) := (blk_cell hb8 0).trans rfl; have hcz8_1 : w8.cell? ⟨g, 1, none⟩ = some (.int .i64 f1) := (blk_cell hb8 1).trans rfl; have hcz8_2 : w8.cell? ⟨g, 2, none⟩ = some (.int .i64 v1) := (blk_cell hb8 2).trans rfl; have hcz8_3 : w8.cell? ⟨g, 3, none⟩ = some (.int .i64 f3) := (blk_cell hb8 3).trans rfl; have hcz8_4 : w8.cell? ⟨g, 4, none⟩ = some (.int .i64 f4) := (blk_cell hb8 4).trans rfl; have hcz8_5 : w8.cell? ⟨g, 5, none⟩ = some (.int .i64 f5) := (blk_cell hb8 5).trans rfl; have hcz8_6 : w8.cell? ⟨g, 6, none⟩ = some (.int .i64 f6) := (blk_cell hb8 6).trans rfl; have hcz8_8 : w8.cell? ⟨g, 8, none⟩ = some (.int .i64 2) := (blk_cell hb8 8).trans rfl; have hcz8_9 : w8.cell? ⟨g, 9, none⟩ = some (hdV true gm8) := (blk_cell hb8 9).trans rfl; have hcz8_11 : w8.cell? ⟨g, 11, none⟩ = some (.int .i64 f17) := (blk_cell hb8 11).trans rfl; have hfz8_0 := blk_frozen hb8 0; have hfz8_1 := blk_frozen hb8 1; have hfz8_2 := blk_frozen hb8 2; have hfz8_3 := blk_frozen hb8 3; have hfz8_4 := blk_frozen hb8 4; have hfz8_5 := blk_frozen hb8 5; have hfz8_6 := blk_frozen hb8 6; have hfz8_8 := blk_frozen hb8 8; have hfz8_9 := blk_frozen hb8 9; have hfz8_11 := blk_frozen hb8 11; clear hb8 hB8 hK8; clear hcz4_0 hfz4_0 hcz4_1 hfz4_1 hcz4_2 hfz4_2 hcz4_3 hfz4_3 hcz4_4 hfz4_4 hcz4_5 hfz4_5 hcz4_6 hfz4_6 hcz4_8 hfz4_8 hcz4_9 hfz4_9 hcz4_11 hfz4_11))
                go_ret
                exact ⟨rfl, ((HS8.out.set_3 1).set_8 3).set_17 0, below_set (below_set (below_set HB8.out HG.out) HG.out) HG.out, ((HK8.out.setS HS8.out 3 _).setS (HS8.out.set_3 1) 8 _).setS ((HS8.out.set_3 1).set_8 3) 11 _⟩
              · rw [if_neg hk] at h
                simp only [Option.some.injEq, Prod.mk.injEq] at h
                obtain ⟨rfl, rfl, rfl, rfl, rfl, rfl, rfl, rfl, rfl, rfl, rfl, rfl, rfl, rfl, rfl, rfl, rfl, rfl, rfl⟩ := h
                have HKB := Aside0.mk hk
                clear hk
                go_enter Try.func39, Try.ntmps39
                go_wp2_with (first | ((with_reducible refine gate_callee (f := 47) rfl ?_); refine goesL_ (some 13) rfl rfl Try.func47 (by kernel_rfl) rfl #[.pointer (some ⟨gn, 0, none⟩), .int .u8 c] rfl (by (try simp only [List.map_toArray, List.map_cons, List.map_nil]); rfl) ?_; refine (token_Number_Put.calls gn f10 f11 f12 f13 f14 f15 c q1 q2 q3 q4 q5 q6 q7 w0 _ HN.out HB.out HQ.out).mono ?_; rintro e w2 ⟨rfl, hI2, hB2, hK2⟩; refine ⟨_, rfl, ?_⟩; have hb2 := KeepBut.blk hK2 HBK.out HNE.out (by simp); have hcz2_9 : w2.cell? ⟨g, 9, none⟩ = some (.pointer (some ⟨gn, 0, none⟩)) := (blk_cell hb2 9).trans rfl; have hfz2_9 := blk_frozen hb2 9; have HI2 := Aside0.mk hI2; have HB2 := Aside0.mk hB2; have HBK2 := Aside0.mk hb2; have HL2 := Aside0.mk (HdKeep.keep hK2 HN.out.1 (.inr rfl)); clear hI2 hB2 hK2 hb2 hcz9) | ((with_reducible refine gate_callee (f := 48) rfl ?_); refine goesL_ (some 22) rfl rfl Try.func48 (by kernel_rfl) rfl #[.pointer (some ⟨gn, 0, none⟩)] rfl (by (try simp only [List.map_toArray, List.map_cons, List.map_nil]); rfl) ?_; refine (token_Number_Value.calls gn q2 q3 q4 q5 q6 q7 v1 v2 v3 v4 v5 v6 v7 v8 w0 _ HI2.out HB2.out HV.out).mono ?_; rintro e w3 ⟨rfl, hI3, hB3, hK3⟩; refine ⟨_, rfl, ?_⟩; have hb3 := KeepBut.blk hK3 HBK2.out HNE.out (by simp); have hcz3_0 : w3.cell? ⟨g, 0, none⟩ = some (.int .i64 f0) := (blk_cell hb3 0).trans rfl; have hcz3_1 : w3.cell? ⟨g, 1, none⟩ = some (.int .i64 f1) := (blk_cell hb3 1).trans rfl; have hcz3_2 : w3.cell? ⟨g, 2, none⟩ = some (.int .i64 f2) := (blk_cell hb3 2).trans rfl; have hcz3_3 : w3.cell? ⟨g, 3, none⟩ = some (.int .i64 f3) := (blk_cell hb3 3).trans rfl; have hcz3_4 : w3.cell? ⟨g, 4, none⟩ = some (.int .i64 f4) := (blk_cell hb3 4).trans rfl; have hcz3_5 : w3.cell? ⟨g, 5, none⟩ = some (.int .i64 f5) := (blk_cell hb3 5).trans rfl; have hcz3_6 : w3.cell? ⟨g, 6, none⟩ = some (.int .i64 f6) := (blk_cell hb3 6).trans rfl; have hcz3_8 : w3.cell? ⟨g, 8, none⟩ = some (.int .i64 1) := (blk_cell hb3 8).trans rfl; have hcz3_9 : w3.cell? ⟨g, 9, none⟩ = some (.pointer (some ⟨gn, 0, none⟩)) := (blk_cell hb3 9).trans rfl; have hcz3_11 : w3.cell? ⟨g, 11, none⟩ = some (.int .i64 f17) := (blk_cell hb3 11).trans rfl; have hfz3_0 := blk_frozen hb3 0; have hfz3_1 := blk_frozen hb3 1; have hfz3_2 := blk_frozen hb3 2; have hfz3_3 := blk_frozen hb3 3; have hfz3_4 := blk_frozen hb3 4; have hfz3_5 := blk_frozen hb3 5; have hfz3_6 := blk_frozen hb3 6; have hfz3_8 := blk_frozen hb3 8; have hfz3_9 := blk_frozen hb3 9; have hfz3_11 := blk_frozen hb3 11; have hb3a := blk_alloc hb3 (.cells #[.pointer (some ⟨g, 1, none⟩), .pointer (some ⟨g, 2, none⟩), .pointer (some ⟨g, 3, none⟩)] 84 (0, 0)); have hca_8 : (w3.alloc (.cells #[.pointer (some ⟨g, 1, none⟩), .pointer (some ⟨g, 2, none⟩), .pointer (some ⟨g, 3, none⟩)] 84)).cell? ⟨g, 8, none⟩ = some (.int .i64 1) := (blk_cell hb3a 8).trans rfl; have hfa_8 : (w3.alloc (.cells #[.pointer (some ⟨g, 1, none⟩), .pointer (some ⟨g, 2, none⟩), .pointer (some ⟨g, 3, none⟩)] 84)).frozen? ⟨g, 8, none⟩ = false := blk_frozen hb3a 8; have hca_2 : (w3.alloc (.cells #[.pointer (some ⟨g, 1, none⟩), .pointer (some ⟨g, 2, none⟩), .pointer (some ⟨g, 3, none⟩)] 84)).cell? ⟨g, 2, none⟩ = some (.int .i64 f2) := (blk_cell hb3a 2).trans rfl; have hfa_2 : (w3.alloc (.cells #[.pointer (some ⟨g, 1, none⟩), .pointer (some ⟨g, 2, none⟩), .pointer (some ⟨g, 3, none⟩)] 84)).frozen? ⟨g, 2, none⟩ = false := blk_frozen hb3a 2; have HI3 := Aside0.mk hI3; have HB3 := Aside0.mk hB3; have HBK3 := Aside0.mk hb3; have HL3 := Aside0.mk (HL2.out.trans (HdKeep.keep hK3 HI2.out.1 (.inr rfl))); clear hI3 hB3 hK3 hcz2_9 hfz2_9; (try clear hb3a); clear hb3))
                go_region
                have hI3 : IsS77 w0 w3 g f0 f1 f2 f3 f4 f5 f6 f7 1 true v3 v4 v5 v6 v7 v8 f16 f17 := ⟨gn, HBK3.out, HG.out, fun _ => HI3.out⟩
                clear hca_8 hfa_8 hca_2 hfa_2
                clear hcz3_0 hfz3_0 hcz3_1 hfz3_1 hcz3_2 hfz3_2 hcz3_3 hfz3_3 hcz3_4 hfz3_4 hcz3_5 hfz3_5 hcz3_6 hfz3_6 hcz3_8 hfz3_8 hcz3_9 hfz3_9 hcz3_11 hfz3_11
                have hS4 : IsS77 w0 ((w3.alloc (.cells #[.pointer (some ⟨g, 1, none⟩), .pointer (some ⟨g, 2, none⟩), .pointer (some ⟨g, 3, none⟩)] 84)).setCell ⟨g, 2, none⟩ (.int .i64 v1)).drew g f0 f1 v1 f3 f4 f5 f6 f7 1 true v3 v4 v5 v6 v7 v8 f16 f17 := ((hI3.alloc (.cells #[.pointer (some ⟨g, 1, none⟩), .pointer (some ⟨g, 2, none⟩), .pointer (some ⟨g, 3, none⟩)] 84)).set_2 v1).drew
                have hB4 : Below w0.heap.size w0 ((w3.alloc (.cells #[.pointer (some ⟨g, 1, none⟩), .pointer (some ⟨g, 2, none⟩), .pointer (some ⟨g, 3, none⟩)] 84)).setCell ⟨g, 2, none⟩ (.int .i64 v1)).drew := below_drew1 (below_set (below_alloc HB3.out _) HG.out)
                have hK4 : HdKeep w ((w3.alloc (.cells #[.pointer (some ⟨g, 1, none⟩), .pointer (some ⟨g, 2, none⟩), .pointer (some ⟨g, 3, none⟩)] 84)).setCell ⟨g, 2, none⟩ (.int .i64 v1)).drew := ((HL3.out.trans (HdKeep.below (below_alloc (Below.refl _ _) _))).setS (hI3.alloc (.cells #[.pointer (some ⟨g, 1, none⟩), .pointer (some ⟨g, 2, none⟩), .pointer (some ⟨g, 3, none⟩)] 84)) 2 _).trans (HdKeep.below (below_drew1 (Below.refl _ _)))
                generalize ((w3.alloc (.cells #[.pointer (some ⟨g, 1, none⟩), .pointer (some ⟨g, 2, none⟩), .pointer (some ⟨g, 3, none⟩)] 84)).setCell ⟨g, 2, none⟩ (.int .i64 v1)).drew = w4 at hS4 hB4 hK4 ⊢
                have HS4 := Aside0.mk hS4
                have HB4 := Aside0.mk hB4
                have HK4 := Aside0.mk hK4
                obtain ⟨gm4, hb4, _, _⟩ := hS4
                have hcz4_0 : w4.cell? ⟨g, 0, none⟩ = some (.int .i64 f0) := (blk_cell hb4 0).trans rfl
                have hcz4_1 : w4.cell? ⟨g, 1, none⟩ = some (.int .i64 f1) := (blk_cell hb4 1).trans rfl
                have hcz4_2 : w4.cell? ⟨g, 2, none⟩ = some (.int .i64 v1) := (blk_cell hb4 2).trans rfl
                have hcz4_3 : w4.cell? ⟨g, 3, none⟩ = some (.int .i64 f3) := (blk_cell hb4 3).trans rfl
                have hcz4_4 : w4.cell? ⟨g, 4, none⟩ = some (.int .i64 f4) := (blk_cell hb4 4).trans rfl
                have hcz4_5 : w4.cell? ⟨g, 5, none⟩ = some (.int .i64 f5) := (blk_cell hb4 5).trans rfl
                have hcz4_6 : w4.cell? ⟨g, 6, none⟩ = some (.int .i64 f6) := (blk_cell hb4 6).trans rfl
                have hcz4_8 : w4.cell? ⟨g, 8, none⟩ = some (.int .i64 1) := (blk_cell hb4 8).trans rfl
                have hcz4_9 : w4.cell? ⟨g, 9, none⟩ = some (hdV true gm4) := (blk_cell hb4 9).trans rfl
                have hcz4_11 : w4.cell? ⟨g, 11, none⟩ = some (.int .i64 f17) := (blk_cell hb4 11).trans rfl
                have hfz4_0 := blk_frozen hb4 0
                have hfz4_1 := blk_frozen hb4 1
                have hfz4_2 := blk_frozen hb4 2
                have hfz4_3 := blk_frozen hb4 3
                have hfz4_4 := blk_frozen hb4 4
                have hfz4_5 := blk_frozen hb4 5
                have hfz4_6 := blk_frozen hb4 6
                have hfz4_8 := blk_frozen hb4 8
                have hfz4_9 := blk_frozen hb4 9
                have hfz4_11 := blk_frozen hb4 11
                clear hb4 hB4 hK4
                go_wp2_with (first | (go_at_call 41; refine (head_bits.is f0 f1 v1 f3 false _ (decide_eq_false HKB.out).symm).mono ?_; rintro e w8 ⟨rfl, hb8⟩; have hS8 := (HS4.out.set_8 2).below hb8; have hB8 := below_step (below_set HB4.out HG.out) hb8; have hK8 := (HK4.out.setS HS4.out 8 _).trans (HdKeep.below hb8); clear hb8; have HS8 := Aside0.mk hS8; have HB8 := Aside0.mk hB8; have HK8 := Aside0.mk hK8; obtain ⟨gm8, hb8, _, _⟩ := hS8; have hcz8_0 : w8.cell? ⟨g, 0, none⟩ = some (.int .i64 f0) := (blk_cell hb8 0).trans rfl; have hcz8_1 : w8.cell? ⟨g, 1, none⟩ = some (.int .i64 f1) := (blk_cell hb8 1).trans rfl; have hcz8_2 : w8.cell? ⟨g, 2, none⟩ = some (.int .i64 v1) := (blk_cell hb8 2).trans rfl; have hcz8_3 : w8.cell? ⟨g, 3, none⟩ = some (.int .i64 f3) := (blk_cell hb8 3).trans rfl; have hcz8_4 : w8.cell? ⟨g, 4, none⟩ = some (.int .i64 f4) := (blk_cell hb8 4).trans rfl; have hcz8_5 : w8.cell? ⟨g, 5, none⟩ = some (.int .i64 f5) := (blk_cell hb8 5).trans rfl; have hcz8_6 : w8.cell? ⟨g, 6, none⟩ = some (.int .i64 f6) := (blk_cell hb8 6).trans rfl; have hcz8_8 : w8.cell? ⟨g, 8, none⟩ = some (.int .i64 2) := (blk_cell hb8 8).trans rfl; have hcz8_9 : w8.cell? ⟨g, 9, none⟩ = some (hdV true gm8) := (blk_cell hb8 9).trans rfl; have hcz8_11 : w8.cell? ⟨g, 11, none⟩ = some (.int .i64 f17) := (blk_cell hb8 11).trans rfl; have hfz8_0 := blk_frozen hb8 0; have hfz8_1 := blk_frozen hb8 1; have hfz8_2 := blk_frozen hb8 2; have hfz8_3 := blk_frozen hb8 3; have hfz8_4 := blk_frozen hb8 4; have hfz8_5 := blk_frozen hb8 5; have hfz8_6 := blk_frozen hb8 6; have hfz8_8 := blk_frozen hb8 8; have hfz8_9 := blk_frozen hb8 9; have hfz8_11 := blk_frozen hb8 11; clear hb8 hB8 hK8; clear hcz4_0 hfz4_0 hcz4_1 hfz4_1 hcz4_2 hfz4_2 hcz4_3 hfz4_3 hcz4_4 hfz4_4 hcz4_5 hfz4_5 hcz4_6 hfz4_6 hcz4_8 hfz4_8 hcz4_9 hfz4_9 hcz4_11 hfz4_11))
                have HS6 := Aside0.mk (HS8.out).drew
                have HB6 : Aside0 (Below w0.heap.size w0 w8.drew) := ⟨below_drew1 HB8.out⟩
                have HK6 : Aside0 (HdKeep w w8.drew) := ⟨HK8.out.trans (HdKeep.below (below_drew1 (Below.refl _ _)))⟩
                obtain ⟨gm6, hb6, _, _⟩ := HS6.out
                have HBK6 : Aside0 (w8.drew.heap[g]? = some (.cells #[.int .i64 f0, .int .i64 f1, .int .i64 v1, .int .i64 f3, .int .i64 f4, .int .i64 f5, .int .i64 f6, .int .i64 f7, .int .i64 2, hdV true gm6, .int .i64 f16, .int .i64 f17] 77 (0, 0))) := ⟨hb6⟩
                clear hb6
                go_region_with (go_at_call 46; refine (token_New.calls f6 0 f6 0 false 0 9 w0 _ HB6.out rfl).mono ?_; rintro e w5 ⟨g5, rfl, hI5, hB5, hb5⟩; have hk5 := blk_below HBK6.out hb5; have hcz5 : w5.cell? ⟨g, 9, none⟩ = some (hdV true gm6) := (blk_cell hk5 9).trans rfl; have hfz5 := blk_frozen hk5 9; have HI5 := Aside0.mk hI5; have HB5 := Aside0.mk hB5; have HL5 := Aside0.mk (HK6.out.trans (HdKeep.below hb5)); have HS5 := Aside0.mk (HS6.out.below hb5); clear hk5 hI5 hB5 hb5)
                all_goals (try go_wp2)
                all_goals go_ret
                all_goals exact ⟨rfl, HS5.out.set_n HI5.out, below_set HB5.out HG.out, HL5.out.setS HS5.out 9 _⟩
            · rw [if_neg i1] at h
              by_cases i2 : f8 = 2
              · rw [if_pos i2] at h
                subst i2
                simp only [Option.some.injEq, Prod.mk.injEq] at h
                obtain ⟨rfl, rfl, rfl, rfl, rfl, rfl, rfl, rfl, rfl, rfl, rfl, rfl, rfl, rfl, rfl, rfl, rfl, rfl, rfl⟩ := h
                go_enter Try.func39, Try.ntmps39
                go_wp2_with (first | ((with_reducible refine gate_callee (f := 47) rfl ?_); refine goesL_ (some 13) rfl rfl Try.func47 (by kernel_rfl) rfl #[.pointer (some ⟨gn, 0, none⟩), .int .u8 c] rfl (by (try simp only [List.map_toArray, List.map_cons, List.map_nil]); rfl) ?_; refine (token_Number_Put.calls gn f10 f11 f12 f13 f14 f15 c q1 q2 q3 q4 q5 q6 q7 w0 _ HN.out HB.out HQ.out).mono ?_; rintro e w2 ⟨rfl, hI2, hB2, hK2⟩; refine ⟨_, rfl, ?_⟩; have hb2 := KeepBut.blk hK2 HBK.out HNE.out (by simp); have hcz2_9 : w2.cell? ⟨g, 9, none⟩ = some (.pointer (some ⟨gn, 0, none⟩)) := (blk_cell hb2 9).trans rfl; have hfz2_9 := blk_frozen hb2 9; have HI2 := Aside0.mk hI2; have HB2 := Aside0.mk hB2; have HBK2 := Aside0.mk hb2; have HL2 := Aside0.mk (HdKeep.keep hK2 HN.out.1 (.inr rfl)); clear hI2 hB2 hK2 hb2 hcz9) | ((with_reducible refine gate_callee (f := 48) rfl ?_); refine goesL_ (some 22) rfl rfl Try.func48 (by kernel_rfl) rfl #[.pointer (some ⟨gn, 0, none⟩)] rfl (by (try simp only [List.map_toArray, List.map_cons, List.map_nil]); rfl) ?_; refine (token_Number_Value.calls gn q2 q3 q4 q5 q6 q7 v1 v2 v3 v4 v5 v6 v7 v8 w0 _ HI2.out HB2.out HV.out).mono ?_; rintro e w3 ⟨rfl, hI3, hB3, hK3⟩; refine ⟨_, rfl, ?_⟩; have hb3 := KeepBut.blk hK3 HBK2.out HNE.out (by simp); have hcz3_0 : w3.cell? ⟨g, 0, none⟩ = some (.int .i64 f0) := (blk_cell hb3 0).trans rfl; have hcz3_1 : w3.cell? ⟨g, 1, none⟩ = some (.int .i64 f1) := (blk_cell hb3 1).trans rfl; have hcz3_2 : w3.cell? ⟨g, 2, none⟩ = some (.int .i64 f2) := (blk_cell hb3 2).trans rfl; have hcz3_3 : w3.cell? ⟨g, 3, none⟩ = some (.int .i64 f3) := (blk_cell hb3 3).trans rfl; have hcz3_4 : w3.cell? ⟨g, 4, none⟩ = some (.int .i64 f4) := (blk_cell hb3 4).trans rfl; have hcz3_5 : w3.cell? ⟨g, 5, none⟩ = some (.int .i64 f5) := (blk_cell hb3 5).trans rfl; have hcz3_6 : w3.cell? ⟨g, 6, none⟩ = some (.int .i64 f6) := (blk_cell hb3 6).trans rfl; have hcz3_8 : w3.cell? ⟨g, 8, none⟩ = some (.int .i64 2) := (blk_cell hb3 8).trans rfl; have hcz3_9 : w3.cell? ⟨g, 9, none⟩ = some (.pointer (some ⟨gn, 0, none⟩)) := (blk_cell hb3 9).trans rfl; have hcz3_11 : w3.cell? ⟨g, 11, none⟩ = some (.int .i64 f17) := (blk_cell hb3 11).trans rfl; have hfz3_0 := blk_frozen hb3 0; have hfz3_1 := blk_frozen hb3 1; have hfz3_2 := blk_frozen hb3 2; have hfz3_3 := blk_frozen hb3 3; have hfz3_4 := blk_frozen hb3 4; have hfz3_5 := blk_frozen hb3 5; have hfz3_6 := blk_frozen hb3 6; have hfz3_8 := blk_frozen hb3 8; have hfz3_9 := blk_frozen hb3 9; have hfz3_11 := blk_frozen hb3 11; have hb3a := blk_alloc hb3 (.cells #[.pointer (some ⟨g, 1, none⟩), .pointer (some ⟨g, 2, none⟩), .pointer (some ⟨g, 3, none⟩)] 84 (0, 0)); have hca_8 : (w3.alloc (.cells #[.pointer (some ⟨g, 1, none⟩), .pointer (some ⟨g, 2, none⟩), .pointer (some ⟨g, 3, none⟩)] 84)).cell? ⟨g, 8, none⟩ = some (.int .i64 2) := (blk_cell hb3a 8).trans rfl; have hfa_8 : (w3.alloc (.cells #[.pointer (some ⟨g, 1, none⟩), .pointer (some ⟨g, 2, none⟩), .pointer (some ⟨g, 3, none⟩)] 84)).frozen? ⟨g, 8, none⟩ = false := blk_frozen hb3a 8; have hca_3 : (w3.alloc (.cells #[.pointer (some ⟨g, 1, none⟩), .pointer (some ⟨g, 2, none⟩), .pointer (some ⟨g, 3, none⟩)] 84)).cell? ⟨g, 3, none⟩ = some (.int .i64 f3) := (blk_cell hb3a 3).trans rfl; have hfa_3 : (w3.alloc (.cells #[.pointer (some ⟨g, 1, none⟩), .pointer (some ⟨g, 2, none⟩), .pointer (some ⟨g, 3, none⟩)] 84)).frozen? ⟨g, 3, none⟩ = false := blk_frozen hb3a 3; have HI3 := Aside0.mk hI3; have HB3 := Aside0.mk hB3; have HBK3 := Aside0.mk hb3; have HL3 := Aside0.mk (HL2.out.trans (HdKeep.keep hK3 HI2.out.1 (.inr rfl))); clear hI3 hB3 hK3 hcz2_9 hfz2_9; (try clear hb3a); clear hb3))
                go_region
                have hI3 : IsS77 w0 w3 g f0 f1 f2 f3 f4 f5 f6 f7 2 true v3 v4 v5 v6 v7 v8 f16 f17 := ⟨gn, HBK3.out, HG.out, fun _ => HI3.out⟩
                clear hca_8 hfa_8 hca_3 hfa_3
                clear hcz3_0 hfz3_0 hcz3_1 hfz3_1 hcz3_2 hfz3_2 hcz3_3 hfz3_3 hcz3_4 hfz3_4 hcz3_5 hfz3_5 hcz3_6 hfz3_6 hcz3_8 hfz3_8 hcz3_9 hfz3_9 hcz3_11 hfz3_11
                have hS4 : IsS77 w0 ((w3.alloc (.cells #[.pointer (some ⟨g, 1, none⟩), .pointer (some ⟨g, 2, none⟩), .pointer (some ⟨g, 3, none⟩)] 84)).setCell ⟨g, 3, none⟩ (.int .i64 v1)).drew g f0 f1 f2 v1 f4 f5 f6 f7 2 true v3 v4 v5 v6 v7 v8 f16 f17 := ((hI3.alloc (.cells #[.pointer (some ⟨g, 1, none⟩), .pointer (some ⟨g, 2, none⟩), .pointer (some ⟨g, 3, none⟩)] 84)).set_3 v1).drew
                have hB4 : Below w0.heap.size w0 ((w3.alloc (.cells #[.pointer (some ⟨g, 1, none⟩), .pointer (some ⟨g, 2, none⟩), .pointer (some ⟨g, 3, none⟩)] 84)).setCell ⟨g, 3, none⟩ (.int .i64 v1)).drew := below_drew1 (below_set (below_alloc HB3.out _) HG.out)
                have hK4 : HdKeep w ((w3.alloc (.cells #[.pointer (some ⟨g, 1, none⟩), .pointer (some ⟨g, 2, none⟩), .pointer (some ⟨g, 3, none⟩)] 84)).setCell ⟨g, 3, none⟩ (.int .i64 v1)).drew := ((HL3.out.trans (HdKeep.below (below_alloc (Below.refl _ _) _))).setS (hI3.alloc (.cells #[.pointer (some ⟨g, 1, none⟩), .pointer (some ⟨g, 2, none⟩), .pointer (some ⟨g, 3, none⟩)] 84)) 3 _).trans (HdKeep.below (below_drew1 (Below.refl _ _)))
                generalize ((w3.alloc (.cells #[.pointer (some ⟨g, 1, none⟩), .pointer (some ⟨g, 2, none⟩), .pointer (some ⟨g, 3, none⟩)] 84)).setCell ⟨g, 3, none⟩ (.int .i64 v1)).drew = w4 at hS4 hB4 hK4 ⊢
                have HS4 := Aside0.mk hS4
                have HB4 := Aside0.mk hB4
                have HK4 := Aside0.mk hK4
                obtain ⟨gm4, hb4, _, _⟩ := hS4
                have hcz4_0 : w4.cell? ⟨g, 0, none⟩ = some (.int .i64 f0) := (blk_cell hb4 0).trans rfl
                have hcz4_1 : w4.cell? ⟨g, 1, none⟩ = some (.int .i64 f1) := (blk_cell hb4 1).trans rfl
                have hcz4_2 : w4.cell? ⟨g, 2, none⟩ = some (.int .i64 f2) := (blk_cell hb4 2).trans rfl
                have hcz4_3 : w4.cell? ⟨g, 3, none⟩ = some (.int .i64 v1) := (blk_cell hb4 3).trans rfl
                have hcz4_4 : w4.cell? ⟨g, 4, none⟩ = some (.int .i64 f4) := (blk_cell hb4 4).trans rfl
                have hcz4_5 : w4.cell? ⟨g, 5, none⟩ = some (.int .i64 f5) := (blk_cell hb4 5).trans rfl
                have hcz4_6 : w4.cell? ⟨g, 6, none⟩ = some (.int .i64 f6) := (blk_cell hb4 6).trans rfl
                have hcz4_8 : w4.cell? ⟨g, 8, none⟩ = some (.int .i64 2) := (blk_cell hb4 8).trans rfl
                have hcz4_9 : w4.cell? ⟨g, 9, none⟩ = some (hdV true gm4) := (blk_cell hb4 9).trans rfl
                have hcz4_11 : w4.cell? ⟨g, 11, none⟩ = some (.int .i64 f17) := (blk_cell hb4 11).trans rfl
                have hfz4_0 := blk_frozen hb4 0
                have hfz4_1 := blk_frozen hb4 1
                have hfz4_2 := blk_frozen hb4 2
                have hfz4_3 := blk_frozen hb4 3
                have hfz4_4 := blk_frozen hb4 4
                have hfz4_5 := blk_frozen hb4 5
                have hfz4_6 := blk_frozen hb4 6
                have hfz4_8 := blk_frozen hb4 8
                have hfz4_9 := blk_frozen hb4 9
                have hfz4_11 := blk_frozen hb4 11
                clear hb4 hB4 hK4
                go_wp2
                go_ret
                exact ⟨rfl, (HS4.out.set_8 3).set_17 0, below_set (below_set HB4.out HG.out) HG.out, (HK4.out.setS HS4.out 8 _).setS (HS4.out.set_8 3) 11 _⟩
              · rw [if_neg i2] at h
                exact absurd h (by simp)
  · rw [if_neg c9] at h
    exact absurd h (by simp)
end Go.Proofs.Ytmimfljiighbaaa.Q
