/- A head's reader that is told a byte of the first three ones. -/
import Derived.Test.YtmimfljiighbaaaQ0
import Derived.Test.YtmimfljiighbaaaItoken_Blank
import Derived.Test.YtmimfljiighbaaaItoken_New
import Derived.Test.YtmimfljiighbaaaItoken_Number_Put
import Derived.Below
import Derived.Deep.Draws
import Derived.Deep.AppendLies
import Derived.Maps.AppendAt
import Derived.OwnWalk
import Derived.Laws.BytesArg
import Derived.Laws.MakeOwn
import Derived.Laws.OwnMore
import Derived.Deep.OwnRows
import Derived.Tactics
import Derived.Lib.ConvBytes
import Derived.Laws.Slices
import Derived.WalkKit
import Derived.KernelRfl
import Derived.RowKit3
import Derived.Deep.LoopGhost
import Derived.Deep.QuietTactic
import Derived.BigQuiet
import Derived.WideLaws
import Derived.Deep.DeepCutAuto
import Derived.Deep.CutBlock
import Derived.Deep.RegionHeld3
import Derived.Laws.Rows
import Derived.Lib.AppendStr
import Derived.ArgAppend
import Derived.Laws.IdiomCopy
import Derived.OrdersHeld
import Derived.Laws.BitsLemmas
import Derived.RowKit
import Derived.Test.YtmimfljiighbaaaMore
import Derived.Test.YtmimfljiighbaaaPeel
import Derived.Test.YtmimfljiighbaaaTok
import Derived.Test.YtmimfljiighbaaaHead
import Derived.Scope
import Derived.Test.YtmimfljiighbaaaWWords
import Derived.Test.YtmimfljiighbaaaWLast
import Derived.Test.YtmimfljiighbaaaWTab
import Derived.Test.YtmimfljiighbaaaWFour
import Derived.Test.YtmimfljiighbaaaWQPut
import Derived.Test.YtmimfljiighbaaaWApart
import Derived.Test.YtmimfljiighbaaaWArr
import Derived.Test.YtmimfljiighbaaaWZeros
import Derived.Test.YtmimfljiighbaaaWFoot
import Derived.Test.YtmimfljiighbaaaWKept
import Derived.Test.YtmimfljiighbaaaWShare
import Derived.Test.YtmimfljiighbaaaWN
import Derived.Test.YtmimfljiighbaaaWFootNe
import Derived.Test.YtmimfljiighbaaaWAt
import Derived.Test.YtmimfljiighbaaaWEqStruct
import Derived.Test.YtmimfljiighbaaaWRepsOne
import Derived.Test.YtmimfljiighbaaaWInv
import Derived.Test.YtmimfljiighbaaaWInvWords
import Derived.Test.YtmimfljiighbaaaWGuard
import Derived.Test.YtmimfljiighbaaaWNEv
import Derived.Test.YtmimfljiighbaaaWMore
import Derived.Deep.RegionWith
import Derived.StillTailTactics
namespace Go.Proofs.Ytmimfljiighbaaa.Q
open Go.RowKit Go.Proofs.YtmimfljiighbaaaW.PrintWords Go.Proofs.YtmimfljiighbaaaW.PrintLast Go.Proofs.YtmimfljiighbaaaW.PrintMore
set_option linter.unusedVariables false
set_option linter.unusedSimpArgs false
theorem token_Blank.is (c : Int) (r : Bool) (w : World) (h : token_Blank.f c = some r) : Calls Try.prog 45 #[.int .u8 c] w fun e w' => e = .returned (.bool r) ∧ w' = w := by
  unfold token_Blank.f at h
  split at h
  · rename_i hr
    obtain rfl := Option.some.inj h
    rw [← blank_index c hr.1 hr.2]
    clear h hr
    go_enter Try.func45, Try.ntmps45
    go_wp2_with (go_at_call 51; refine (strings_IndexByte.calls _ _ _).mono ?_; rintro e w' ⟨rfl, rfl⟩)
    go_ret
    exact ⟨rfl, rfl⟩
  · simp at h
theorem head_wrong.is (g : Nat) (cs : Array Value) (e : Int) (w : World) (hb : w.heap[g]? = some (.cells cs 77 (0, 0)) ∧ ∃ v, cs[11]? = some v) :
    Calls Try.prog 44 #[.pointer (some ⟨g, 0, none⟩), .int .i64 e] w fun x w' => x = .returned (.int .i64 2) ∧ w' = w.setCell ⟨g, 11, none⟩ (.int .i64 e) := by
  obtain ⟨hb, v, hv⟩ := hb
  have hcz : w.cell? ⟨g, 11, none⟩ = some v := (blk_cell hb 11).trans hv
  have hfz := blk_frozen hb 11
  have hu := Try.underlying77
  clear hb hv
  go_enter Try.func44, Try.ntmps44
  go_wp2
  go_ret
  exact ⟨rfl, rfl⟩
def head_magic.f (f0 : Int) (f1 : Int) (f2 : Int) (f3 : Int) (f4 : Int) (f5 : Int) (f6 : Int) (f7 : Int) (f8 : Int) (f9 : Bool) (f10 : Int) (f11 : Int) (f12 : Int) (f13 : Bool) (f14 : Int) (f15 : Int) (f16 : Int) (f17 : Int) (c : Int) : Option (Int × Int × Int × Int × Int × Int × Int × Int × Int × Int × Bool × Int × Int × Int × Bool × Int × Int × Int × Int) :=
  if (wrap64 (f7 + 1) = 1 ∧ c ≠ 80) ∨ (wrap64 (f7 + 1) = 2 ∧ (c < 49 ∨ c > 54)) then some (2, f0, f1, f2, f3, f4, f5, f6, wrap64 (f7 + 1), f8, f9, f10, f11, f12, f13, f14, f15, f16, 2)
  else if wrap64 (f7 + 1) = 2 then some (0, ((c - 48) % 256), f1, f2, f3, f4, f5, f6, wrap64 (f7 + 1), f8, f9, f10, f11, f12, f13, f14, f15, f16, f17)
  else if wrap64 (f7 + 1) = 3 then (token_Blank.f c).bind fun t => (if t = false ∧ c ≠ 35 then some (2, f0, f1, f2, f3, f4, f5, f6, wrap64 (f7 + 1), f8, f9, f10, f11, f12, f13, f14, f15, f16, 3) else (token_Number_Put.f 0 f4 0 false 0 9 c).bind fun q => some (0, f0, f1, f2, f3, f4, f5, f6, wrap64 (f7 + 1), f8, true, q.2.1, q.2.2.1, q.2.2.2.1, q.2.2.2.2.1, q.2.2.2.2.2.1, q.2.2.2.2.2.2, f16, f17))
  else some (0, f0, f1, f2, f3, f4, f5, f6, wrap64 (f7 + 1), f8, f9, f10, f11, f12, f13, f14, f15, f16, f17)
set_option maxRecDepth 100000 in
set_option maxHeartbeats 4000000 in
theorem head_magic.calls (g : Nat) (f0 : Int) (f1 : Int) (f2 : Int) (f3 : Int) (f4 : Int) (f5 : Int) (f6 : Int) (f7 : Int) (f8 : Int) (f9 : Bool) (f10 : Int) (f11 : Int) (f12 : Int) (f13 : Bool) (f14 : Int) (f15 : Int) (f16 : Int) (f17 : Int) (c : Int) (r0 : Int) (r1 : Int) (r2 : Int) (r3 : Int) (r4 : Int) (r5 : Int) (r6 : Int) (r7 : Int) (r8 : Int) (r9 : Int) (r10 : Bool) (r11 : Int) (r12 : Int) (r13 : Int) (r14 : Bool) (r15 : Int) (r16 : Int) (r17 : Int) (r18 : Int) (w0 w : World) (hI : IsS77 w0 w g f0 f1 f2 f3 f4 f5 f6 f7 f8 f9 f10 f11 f12 f13 f14 f15 f16 f17) (hB : Below w0.heap.size w0 w) (h : head_magic.f f0 f1 f2 f3 f4 f5 f6 f7 f8 f9 f10 f11 f12 f13 f14 f15 f16 f17 c = some (r0, r1, r2, r3, r4, r5, r6, r7, r8, r9, r10, r11, r12, r13, r14, r15, r16, r17, r18)) :
    Calls Try.prog 38 #[.pointer (some ⟨g, 0, none⟩), .int .u8 c] w fun e w' => e = .returned (.int .i64 r0) ∧ IsS77 w0 w' g r1 r2 r3 r4 r5 r6 r7 r8 r9 r10 r11 r12 r13 r14 r15 r16 r17 r18 ∧ Below w0.heap.size w0 w' ∧ HdKeep w w' := by
  unfold head_magic.f at h
  have hu := Try.underlying77
  have hu2 := Try.underlying36
  have hu3 := Try.underlying74
  have HI := Aside0.mk hI
  have HB := Aside0.mk hB
  have HG := Aside0.mk (IsS77.ge hI)
  obtain ⟨gn, hb, hg, hn⟩ := hI
  have hcz_0 : w.cell? ⟨g, 0, none⟩ = some (.int .i64 f0) := (blk_cell hb 0).trans rfl
  have hcz_4 : w.cell? ⟨g, 4, none⟩ = some (.int .i64 f4) := (blk_cell hb 4).trans rfl
  have hcz_7 : w.cell? ⟨g, 7, none⟩ = some (.int .i64 f7) := (blk_cell hb 7).trans rfl
  have hcz_9 : w.cell? ⟨g, 9, none⟩ = some (hdV f9 gn) := (blk_cell hb 9).trans rfl
  have hcz_11 : w.cell? ⟨g, 11, none⟩ = some (.int .i64 f17) := (blk_cell hb 11).trans rfl
  have hfz_0 := blk_frozen hb 0
  have hfz_4 := blk_frozen hb 4
  have hfz_7 := blk_frozen hb 7
  have hfz_9 := blk_frozen hb 9
  have hfz_11 := blk_frozen hb 11
  have HBK := Aside0.mk hb
  clear hb hg hn hB
  by_cases hA : (wrap64 (f7 + 1) = 1 ∧ c ≠ 80) ∨ (wrap64 (f7 + 1) = 2 ∧ (c < 49 ∨ c > 54))
  · rw [if_pos hA] at h
    simp only [Option.some.injEq, Prod.mk.injEq] at h
    obtain ⟨rfl, rfl, rfl, rfl, rfl, rfl, rfl, rfl, rfl, rfl, rfl, rfl, rfl, rfl, rfl, rfl, rfl, rfl, rfl⟩ := h
    rcases hA with ⟨a1, hc⟩ | ⟨a1, hc⟩
    · have e1 : (wrap64 (f7 + 1) == 1) = true := beq_iff_eq.2 a1
      have e2 : (c != 80) = true := bne_iff_ne.2 hc
      clear a1 hc
      go_enter Try.func38, Try.ntmps38
      go_wp2_with (first | ((with_reducible refine gate_callee (f := 44) rfl ?_); refine goesL_ (some 36) rfl rfl Try.func44 (by kernel_rfl) rfl #[.pointer (some ⟨g, 0, none⟩), .int .i64 2] rfl (by (try simp only [List.map_toArray, List.map_cons, List.map_nil]); rfl) ?_; refine (head_wrong.is g _ 2 _ ⟨blk_set HBK.out 7 (.int .i64 (wrap64 (f7 + 1))), _, rfl⟩).mono ?_; rintro e w5 ⟨rfl, rfl⟩; refine ⟨_, rfl, ?_⟩))
      go_ret
      exact ⟨rfl, (HI.out.set_7 (wrap64 (f7 + 1))).set_17 2, below_set (below_set HB.out HG.out) HG.out, ((HdKeep.refl w).setS HI.out 7 _).setS (HI.out.set_7 (wrap64 (f7 + 1))) 11 _⟩
    · have e1 : (wrap64 (f7 + 1) == 1) = false := beq_eq_false_iff_ne.2 (by rw [a1]; decide)
      have e2 : (wrap64 (f7 + 1) == 2) = true := beq_iff_eq.2 a1
      by_cases lt : c < 49
      · have e3 : decide (c < 49) = true := decide_eq_true lt
        clear a1 hc lt
        go_enter Try.func38, Try.ntmps38
        go_wp2_with (first | ((with_reducible refine gate_callee (f := 44) rfl ?_); refine goesL_ (some 36) rfl rfl Try.func44 (by kernel_rfl) rfl #[.pointer (some ⟨g, 0, none⟩), .int .i64 2] rfl (by (try simp only [List.map_toArray, List.map_cons, List.map_nil]); rfl) ?_; refine (head_wrong.is g _ 2 _ ⟨blk_set HBK.out 7 (.int .i64 (wrap64 (f7 + 1))), _, rfl⟩).mono ?_; rintro e w5 ⟨rfl, rfl⟩; refine ⟨_, rfl, ?_⟩))
        go_ret
        exact ⟨rfl, (HI.out.set_7 (wrap64 (f7 + 1))).set_17 2, below_set (below_set HB.out HG.out) HG.out, ((HdKeep.refl w).setS HI.out 7 _).setS (HI.out.set_7 (wrap64 (f7 + 1))) 11 _⟩
      · have e3 : decide (c < 49) = false := decide_eq_false lt
        have e4 : decide (c > 54) = true := decide_eq_true (by omega)
        have e5 : decide (54 < c) = true := decide_eq_true (by omega)
        clear a1 hc lt
        go_enter Try.func38, Try.ntmps38
        go_wp2_with (first | ((with_reducible refine gate_callee (f := 44) rfl ?_); refine goesL_ (some 36) rfl rfl Try.func44 (by kernel_rfl) rfl #[.pointer (some ⟨g, 0, none⟩), .int .i64 2] rfl (by (try simp only [List.map_toArray, List.map_cons, List.map_nil]); rfl) ?_; refine (head_wrong.is g _ 2 _ ⟨blk_set HBK.out 7 (.int .i64 (wrap64 (f7 + 1))), _, rfl⟩).mono ?_; rintro e w5 ⟨rfl, rfl⟩; refine ⟨_, rfl, ?_⟩))
        go_ret
        exact ⟨rfl, (HI.out.set_7 (wrap64 (f7 + 1))).set_17 2, below_set (below_set HB.out HG.out) HG.out, ((HdKeep.refl w).setS HI.out 7 _).setS (HI.out.set_7 (wrap64 (f7 + 1))) 11 _⟩
  · rw [if_neg hA] at h
    by_cases a2 : wrap64 (f7 + 1) = 2
    · rw [if_pos a2] at h
      simp only [Option.some.injEq, Prod.mk.injEq] at h
      obtain ⟨rfl, rfl, rfl, rfl, rfl, rfl, rfl, rfl, rfl, rfl, rfl, rfl, rfl, rfl, rfl, rfl, rfl, rfl, rfl⟩ := h
      have e1 : (wrap64 (f7 + 1) == 1) = false := beq_eq_false_iff_ne.2 (by rw [a2]; decide)
      have e2 : (wrap64 (f7 + 1) == 2) = true := beq_iff_eq.2 a2
      have e3 : decide (c < 49) = false := decide_eq_false (fun x => hA (.inr ⟨a2, .inl x⟩))
      have e4 : decide (c > 54) = false := decide_eq_false (fun x => hA (.inr ⟨a2, .inr x⟩))
      have e5 : decide (54 < c) = false := e4
      clear a2 hA
      go_enter Try.func38, Try.ntmps38
      go_wp2
      go_ret
      exact ⟨rfl, (HI.out.set_7 (wrap64 (f7 + 1))).set_0 _, below_set (below_set HB.out HG.out) HG.out, ((HdKeep.refl w).setS HI.out 7 _).setS (HI.out.set_7 (wrap64 (f7 + 1))) 0 _⟩
    · rw [if_neg a2] at h
      have e2 : (wrap64 (f7 + 1) == 2) = false := beq_eq_false_iff_ne.2 a2
      by_cases a3 : wrap64 (f7 + 1) = 3
      · rw [if_pos a3] at h
        obtain ⟨t, hT, h⟩ := Option.bind_eq_some_iff.mp h
        have HT := Aside0.mk hT
        have e1 : (wrap64 (f7 + 1) == 1) = false := beq_eq_false_iff_ne.2 (by rw [a3]; decide)
        have e3 : (wrap64 (f7 + 1) == 3) = true := beq_iff_eq.2 a3
        clear a2 a3 hA hT
        by_cases hw : t = false ∧ c ≠ 35
        · rw [if_pos hw] at h
          simp only [Option.some.injEq, Prod.mk.injEq] at h
          obtain ⟨rfl, rfl, rfl, rfl, rfl, rfl, rfl, rfl, rfl, rfl, rfl, rfl, rfl, rfl, rfl, rfl, rfl, rfl, rfl⟩ := h
          obtain ⟨rfl, hc⟩ := hw
          have e4 : (c != 35) = true := bne_iff_ne.2 hc
          clear hc
          go_enter Try.func38, Try.ntmps38
          go_wp2_with (first | ((with_reducible refine gate_callee (f := 44) rfl ?_); refine goesL_ (some 64) rfl rfl Try.func44 (by kernel_rfl) rfl #[.pointer (some ⟨g, 0, none⟩), .int .i64 3] rfl (by (try simp only [List.map_toArray, List.map_cons, List.map_nil]); rfl) ?_; refine (head_wrong.is g _ 3 _ ⟨blk_set HBK.out 7 (.int .i64 (wrap64 (f7 + 1))), _, rfl⟩).mono ?_; rintro e w5 ⟨rfl, rfl⟩; refine ⟨_, rfl, ?_⟩) | ((with_reducible refine gate_callee (f := 45) rfl ?_); refine goesL_ (some 57) rfl rfl Try.func45 (by kernel_rfl) rfl #[.int .u8 c] rfl (by (try simp only [List.map_toArray, List.map_cons, List.map_nil]); rfl) ?_; refine (token_Blank.is c false _ HT.out).mono ?_; rintro e w4 ⟨rfl, rfl⟩; refine ⟨_, rfl, ?_⟩))
          go_ret
          exact ⟨rfl, (HI.out.set_7 (wrap64 (f7 + 1))).set_17 3, below_set (below_set HB.out HG.out) HG.out, ((HdKeep.refl w).setS HI.out 7 _).setS (HI.out.set_7 (wrap64 (f7 + 1))) 11 _⟩
        · rw [if_neg hw] at h
          obtain ⟨⟨q1, q2, q3, q4, q5, q6, q7⟩, hQ, h⟩ := Option.bind_eq_some_iff.mp h
          simp only [Option.some.injEq, Prod.mk.injEq] at h
          obtain ⟨rfl, rfl, rfl, rfl, rfl, rfl, rfl, rfl, rfl, rfl, rfl, rfl, rfl, rfl, rfl, rfl, rfl, rfl, rfl⟩ := h
          have HQ := Aside0.mk hQ
          clear hQ
          cases t with
          | true =>
            clear hw
            go_enter Try.func38, Try.ntmps38
            go_wp2_with (first | ((with_reducible refine gate_callee (f := 45) rfl ?_); refine goesL_ (some 57) rfl rfl Try.func45 (by kernel_rfl) rfl #[.int .u8 c] rfl (by (try simp only [List.map_toArray, List.map_cons, List.map_nil]); rfl) ?_; refine (token_Blank.is c true _ HT.out).mono ?_; rintro e w4 ⟨rfl, rfl⟩; refine ⟨_, rfl, ?_⟩) | ((with_reducible refine gate_callee (f := 46) rfl ?_); refine goesL_ (some 71) rfl rfl Try.func46 (by kernel_rfl) rfl #[.int .i64 f4] rfl (by (try simp only [List.map_toArray, List.map_cons, List.map_nil]); rfl) ?_; refine (token_New.calls f4 0 f4 0 false 0 9 w0 _ (below_set HB.out HG.out) rfl).mono ?_; rintro e w5 ⟨g5, rfl, hI5, hB5, hb5⟩; refine ⟨_, rfl, ?_⟩; have hk5 := blk_below (blk_set HBK.out 7 (.int .i64 (wrap64 (f7 + 1)))) hb5; have hne5 : g5 ≠ g := IsS93.ne_blk hI5 hk5 (by decide); have HK5 := Aside0.mk hk5; have HI5 := Aside0.mk hI5; have HB5 := Aside0.mk hB5; have HL5 := Aside0.mk (HdKeep.below hb5); have HN5 := Aside0.mk hne5; have hcz5 : w5.cell? ⟨g, 9, none⟩ = some (hdV f9 gn) := (blk_cell HK5.out 9).trans rfl; have hfz5 := blk_frozen HK5.out 9; clear hk5 hI5 hB5 hb5 hne5) | ((with_reducible refine gate_callee (f := 47) rfl ?_); refine goesL_ (some 79) rfl rfl Try.func47 (by kernel_rfl) rfl #[.pointer (some ⟨g5, 0, none⟩), .int .u8 c] rfl (by (try simp only [List.map_toArray, List.map_cons, List.map_nil]); rfl) ?_; refine (token_Number_Put.calls g5 0 f4 0 false 0 9 c q1 q2 q3 q4 q5 q6 q7 w0 _ (HI5.out.far HN5.out _) (below_set HB5.out HG.out) HQ.out).mono ?_; rintro e w7 ⟨rfl, hI7, hB7, hK7⟩; refine ⟨_, rfl, ?_⟩; have HI7 := Aside0.mk hI7; have HB7 := Aside0.mk hB7; have HK7 := Aside0.mk hK7; clear hI7 hB7 hK7))
            have hs5 := blk_set HK5.out 9 (.pointer (some ⟨g5, 0, none⟩))
            have hne : g ≠ g5 := fun e => HN5.out e.symm
            go_ret
            exact ⟨rfl, ⟨g5, KeepBut.blk HK7.out hs5 hne (by simp), HG.out, fun _ => HI7.out⟩, HB7.out, (((HdKeep.refl w).setS HI.out 7 _).trans (HL5.out.trans (HdKeep.set_ (HdKeep.refl _) HK5.out (.inl rfl) 9 _))).trans (HdKeep.keep HK7.out (HI5.out.far HN5.out _).1 (.inr rfl))⟩
          | false =>
            have hc : c = 35 := by
              by_cases x : c = 35
              · exact x
              · exact absurd ⟨rfl, x⟩ hw
            have e4 : (c != 35) = false := bne_eq_false_iff_eq.2 hc
            clear hw hc
            go_enter Try.func38, Try.ntmps38
            go_wp2_with (first | ((with_reducible refine gate_callee (f := 45) rfl ?_); refine goesL_ (some 57) rfl rfl Try.func45 (by kernel_rfl) rfl #[.int .u8 c] rfl (by (try simp only [List.map_toArray, List.map_cons, List.map_nil]); rfl) ?_; refine (token_Blank.is c false _ HT.out).mono ?_; rintro e w4 ⟨rfl, rfl⟩; refine ⟨_, rfl, ?_⟩) | ((with_reducible refine gate_callee (f := 46) rfl ?_); refine goesL_ (some 71) rfl rfl Try.func46 (by kernel_rfl) rfl #[.int .i64 f4] rfl (by (try simp only [List.map_toArray, List.map_cons, List.map_nil]); rfl) ?_; refine (token_New.calls f4 0 f4 0 false 0 9 w0 _ (below_set HB.out HG.out) rfl).mono ?_; rintro e w5 ⟨g5, rfl, hI5, hB5, hb5⟩; refine ⟨_, rfl, ?_⟩; have hk5 := blk_below (blk_set HBK.out 7 (.int .i64 (wrap64 (f7 + 1)))) hb5; have hne5 : g5 ≠ g := IsS93.ne_blk hI5 hk5 (by decide); have HK5 := Aside0.mk hk5; have HI5 := Aside0.mk hI5; have HB5 := Aside0.mk hB5; have HL5 := Aside0.mk (HdKeep.below hb5); have HN5 := Aside0.mk hne5; have hcz5 : w5.cell? ⟨g, 9, none⟩ = some (hdV f9 gn) := (blk_cell HK5.out 9).trans rfl; have hfz5 := blk_frozen HK5.out 9; clear hk5 hI5 hB5 hb5 hne5) | ((with_reducible refine gate_callee (f := 47) rfl ?_); refine goesL_ (some 79) rfl rfl Try.func47 (by kernel_rfl) rfl #[.pointer (some ⟨g5, 0, none⟩), .int .u8 c] rfl (by (try simp only [List.map_toArray, List.map_cons, List.map_nil]); rfl) ?_; refine (token_Number_Put.calls g5 0 f4 0 false 0 9 c q1 q2 q3 q4 q5 q6 q7 w0 _ (HI5.out.far HN5.out _) (below_set HB5.out HG.out) HQ.out).mono ?_; rintro e w7 ⟨rfl, hI7, hB7, hK7⟩; refine ⟨_, rfl, ?_⟩; have HI7 := Aside0.mk hI7; have HB7 := Aside0.mk hB7; have HK7 := Aside0.mk hK7; clear hI7 hB7 hK7))
            have hs5 := blk_set HK5.out 9 (.pointer (some ⟨g5, 0, none⟩))
            have hne : g ≠ g5 := fun e => HN5.out e.symm
            go_ret
            exact ⟨rfl, ⟨g5, KeepBut.blk HK7.out hs5 hne (by simp), HG.out, fun _ => HI7.out⟩, HB7.out, (((HdKeep.refl w).setS HI.out 7 _).trans (HL5.out.trans (HdKeep.set_ (HdKeep.refl _) HK5.out (.inl rfl) 9 _))).trans (HdKeep.keep HK7.out (HI5.out.far HN5.out _).1 (.inr rfl))⟩
      · rw [if_neg a3] at h
        have e3 : (wrap64 (f7 + 1) == 3) = false := beq_eq_false_iff_ne.2 a3
        simp only [Option.some.injEq, Prod.mk.injEq] at h
        obtain ⟨rfl, rfl, rfl, rfl, rfl, rfl, rfl, rfl, rfl, rfl, rfl, rfl, rfl, rfl, rfl, rfl, rfl, rfl, rfl⟩ := h
        by_cases a1 : wrap64 (f7 + 1) = 1
        · have e1 : (wrap64 (f7 + 1) == 1) = true := beq_iff_eq.2 a1
          have e4 : (c != 80) = false := by
            by_cases x : c = 80
            · exact bne_eq_false_iff_eq.2 x
            · exact absurd (.inl ⟨a1, x⟩) hA
          clear a1 a2 a3 hA
          go_enter Try.func38, Try.ntmps38
          go_wp2
          go_ret
          exact ⟨rfl, HI.out.set_7 (wrap64 (f7 + 1)), below_set HB.out HG.out, (HdKeep.refl w).setS HI.out 7 _⟩
        · have e1 : (wrap64 (f7 + 1) == 1) = false := beq_eq_false_iff_ne.2 a1
          clear a1 a2 a3 hA
          go_enter Try.func38, Try.ntmps38
          go_wp2
          go_ret
          exact ⟨rfl, HI.out.set_7 (wrap64 (f7 + 1)), below_set HB.out HG.out, (HdKeep.refl w).setS HI.out 7 _⟩
end Go.Proofs.Ytmimfljiighbaaa.Q
