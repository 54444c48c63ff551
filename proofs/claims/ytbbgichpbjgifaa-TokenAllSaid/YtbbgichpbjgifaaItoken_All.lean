/- token.All: all numbers of a text, how many bytes they took, and the error. -/
import Derived.Test.YtbbgichpbjgifaaQ0
import Derived.Test.YtbbgichpbjgifaaItoken_New
import Derived.Test.YtbbgichpbjgifaaItoken_Number_Put
import Derived.Test.YtbbgichpbjgifaaQ6
import Derived.Below
import Derived.Deep.Draws
import Derived.Deep.AppendLies
import Derived.Maps.AppendAt
import Derived.OwnWalk
import Derived.Laws.BytesArg
import Derived.Laws.MakeOwn
import Derived.Laws.OwnMore
import Derived.Deep.OwnRows
import Derived.Tactics
import Derived.Lib.ConvBytes
import Derived.Laws.Slices
import Derived.WalkKit
import Derived.KernelRfl
import Derived.RowKit3
import Derived.Deep.LoopGhost
import Derived.Deep.QuietTactic
import Derived.BigQuiet
import Derived.WideLaws
import Derived.Deep.DeepCutAuto
import Derived.Deep.CutBlock
import Derived.Deep.RegionHeld3
import Derived.Laws.Rows
import Derived.Lib.AppendStr
import Derived.ArgAppend
import Derived.Laws.IdiomCopy
import Derived.OrdersHeld
import Derived.Laws.BitsLemmas
import Derived.RowKit
import Derived.Test.YtbbgichpbjgifaaMore
import Derived.Test.YtbbgichpbjgifaaPeel
import Derived.Test.YtbbgichpbjgifaaTok
import Derived.Scope
import Derived.Test.YtbbgichpbjgifaaWWords
import Derived.Test.YtbbgichpbjgifaaWLast
import Derived.Test.YtbbgichpbjgifaaWTab
import Derived.Test.YtbbgichpbjgifaaWFour
import Derived.Test.YtbbgichpbjgifaaWQPut
import Derived.Test.YtbbgichpbjgifaaWApart
import Derived.Test.YtbbgichpbjgifaaWArr
import Derived.Test.YtbbgichpbjgifaaWZeros
import Derived.Test.YtbbgichpbjgifaaWFoot
import Derived.Test.YtbbgichpbjgifaaWKept
import Derived.Test.YtbbgichpbjgifaaWShare
import Derived.Test.YtbbgichpbjgifaaWN
import Derived.Test.YtbbgichpbjgifaaWFootNe
import Derived.Test.YtbbgichpbjgifaaWAt
import Derived.Test.YtbbgichpbjgifaaWEqStruct
import Derived.Test.YtbbgichpbjgifaaWRepsOne
import Derived.Test.YtbbgichpbjgifaaWInv
import Derived.Test.YtbbgichpbjgifaaWInvWords
import Derived.Test.YtbbgichpbjgifaaWGuard
import Derived.Test.YtbbgichpbjgifaaWNEv
import Derived.Test.YtbbgichpbjgifaaWMore
namespace Go.Proofs.Ytbbgichpbjgifaa.Q
open Go.RowKit Go.Proofs.YtbbgichpbjgifaaW.PrintWords Go.Proofs.YtbbgichpbjgifaaW.PrintLast
set_option linter.unusedVariables false
set_option linter.unusedSimpArgs false
/-- What is told from byte i on, of a reader as it stands. -/
def tokAllL (s : ByteArray) (most : Int) : Nat → Nat → List Int → Int → Int → Int → Int → Bool → Int → Int → Option (List Int × Int × Int)
  | 0, _, out, used, m, x, n, b, l, e => (token_Number_Begun.f m x n b l e).bind fun t => some (out, used, if t.1 = true then 6 else 0)
  | d + 1, i, out, used, m, x, n, b, l, e => (token_Number_Put.f m x n b l e (bt s (i : Int))).bind fun t =>
      if t.1 = 2 then (token_Number_Value.f t.2.1 t.2.2.1 t.2.2.2.1 t.2.2.2.2.1 t.2.2.2.2.2.1 t.2.2.2.2.2.2).bind fun v => some (out, used, v.2.1)
      else if t.1 = 1 then (token_Number_Value.f t.2.1 t.2.2.1 t.2.2.2.1 t.2.2.2.2.1 t.2.2.2.2.2.1 t.2.2.2.2.2.2).bind fun v => if out.length < 17592186044416 then tokAllL s most d (i + 1) (out ++ [v.1]) ((i + 1 : Nat) : Int) 0 most 0 false 0 9 else none
      else tokAllL s most d (i + 1) out used t.2.1 t.2.2.1 t.2.2.2.1 t.2.2.2.2.1 t.2.2.2.2.2.1 t.2.2.2.2.2.2
def token_All.f (a0 : ByteArray) (a1 : Int) : Option (List Int × Int × Int) := if a0.size ≤ 140737488351232 then tokAllL a0 a1 a0.size 0 [] 0 0 a1 0 false 0 9 else none
set_option maxRecDepth 100000 in
set_option maxHeartbeats 8000000 in
theorem token_All.calls (a0 : ByteArray) (a1 : Int) (r1 : List Int) (r2 : Int) (r3 : Int) (w : World) (h : token_All.f a0 a1 = some (r1, r2, r3)) :
    Calls Try.prog 12 #[.string a0, .int .i64 a1] w fun e w' => ∃ v0_ : Value, e = .returned (.tuple #[v0_, .int .i64 r2, .int .i64 r3]) ∧ Kd.R (Kd.int .i64) 3 w' w.heap.size (fun _ => True) v0_ r1 ∧ Below w.heap.size w w' := by
  unfold token_All.f at h
  by_cases hz : a0.size ≤ 140737488351232
  · rw [if_pos hz] at h
    have HZ := Aside0.mk hz
    have H := Aside0.mk h
    have HW := Aside0.mk (Below.refl w.heap.size w)
    clear hz h
    go_enter Try.func12, Try.ntmps12
    go_wp2_with ((with_reducible refine gate_callee (f := 16) rfl ?_); refine goesL_ (some 16) rfl rfl Try.func16 (by kernel_rfl) rfl #[.int .i64 a1] rfl (by (try simp only [List.map_toArray, List.map_cons, List.map_nil]); rfl) ?_; refine (token_New.calls a1 _ _ _ _ _ _ w _ HW.out rfl).mono ?_; rintro e w1 ⟨g1, rfl, hI1, hB1, hb1⟩; refine ⟨_, rfl, ?_⟩; have HI1 := Aside0.mk hI1; have HB1 := Aside0.mk hB1; clear hI1 hB1 hb1)
    go_loopg [7, 8, 9, 19] (a0.size + 1) (fun kq v7 v8 v9 v19 w' => ∃ (x7 : List Int) (g : Nat) (x8 xi : Int) (d i : Nat) (m x n : Int) (b : Bool) (l e : Int), v8 = .int .i64 x8 ∧ v9 = .pointer (some ⟨g, 0, none⟩) ∧ v19 = .int .i64 xi ∧ Aside0 (kq = d + 1 ∧ i + d = a0.size ∧ xi = (i : Int)) ∧ Aside0 (tokAllL a0 a1 d i x7 x8 m x n b l e = some (r1, r2, r3)) ∧ Aside0 (Kd.R (Kd.int .i64) 3 w' w.heap.size (fun _ => True) v7 x7) ∧ Aside0 (IsS52 w w' g m x n b l e) ∧ Aside0 (Below w.heap.size w w'))
    case atStart => exact ⟨[], g1, 0, 0, a0.size, 0, 0, a1, 0, false, 0, 9, rfl, rfl, rfl, ⟨rfl, by omega, rfl⟩, H, ⟨Kd.R_nil _ _ _ _ _⟩, HI1, HB1⟩
    case round =>
      clear HI1 HB1
      obtain ⟨x7, g, x8, xi, d, i, m, x, n, b, l, e, rfl, rfl, rfl, HK, HQ, HO, HI, HB⟩ := hrel
      cases d with
      | zero =>
        have c0 : decide (xi < (a0.size : Int)) = false := decide_eq_false (by have := HK.out; omega)
        have hq := HQ.out
        simp only [tokAllL] at hq
        obtain ⟨⟨t1, t2, t3, t4, t5, t6, t7⟩, hT, hq⟩ := Option.bind_eq_some_iff.mp hq
        simp only [Option.some.injEq, Prod.mk.injEq] at hq
        obtain ⟨rfl, rfl, hr⟩ := hq
        have HT := Aside0.mk hT
        have HR := Aside0.mk hr
        clear hT hr HQ
        cases t1 with
        | true =>
          obtain rfl : 6 = r3 := HR.out
          go_wp2_with ((with_reducible refine gate_callee (f := 20) rfl ?_); refine goesL_ (some 54) rfl rfl Try.func20 (by kernel_rfl) rfl #[.pointer (some ⟨g, 0, none⟩)] rfl (by (try simp only [List.map_toArray, List.map_cons, List.map_nil]); rfl) ?_; refine (token_Number_Begun.calls g m x n b l e true t2 t3 t4 t5 t6 t7 w _ HI.out HB.out HT.out).mono ?_; rintro e w2 ⟨rfl, hI2, hB2, hK2⟩; refine ⟨_, rfl, ?_⟩; have HO2 := Aside0.mk (Kd.R_mono (Kd.R_keep (IsS52.apart HI.out HO.out (by decide)) hK2 (fun _ h => h.2)) (fun _ _ => trivial)); have HB2 := Aside0.mk hB2; clear hI2 hB2 hK2)
          go_ret3
          exact ⟨_, rfl, HO2.out, HB2.out⟩
        | false =>
          obtain rfl : 0 = r3 := HR.out
          go_wp2_with ((with_reducible refine gate_callee (f := 20) rfl ?_); refine goesL_ (some 54) rfl rfl Try.func20 (by kernel_rfl) rfl #[.pointer (some ⟨g, 0, none⟩)] rfl (by (try simp only [List.map_toArray, List.map_cons, List.map_nil]); rfl) ?_; refine (token_Number_Begun.calls g m x n b l e false t2 t3 t4 t5 t6 t7 w _ HI.out HB.out HT.out).mono ?_; rintro e w2 ⟨rfl, hI2, hB2, hK2⟩; refine ⟨_, rfl, ?_⟩; have HO2 := Aside0.mk (Kd.R_mono (Kd.R_keep (IsS52.apart HI.out HO.out (by decide)) hK2 (fun _ h => h.2)) (fun _ _ => trivial)); have HB2 := Aside0.mk hB2; clear hI2 hB2 hK2)
          go_ret3
          exact ⟨_, rfl, HO2.out, HB2.out⟩
      | succ d =>
        have c0 : decide (xi < (a0.size : Int)) = true := decide_eq_true (by have := HK.out; omega)
        have p1 : (0 ≤ xi) = True := eq_true (by have := HK.out; omega)
        have q1 : (xi < (a0.size : Int)) = True := eq_true (by have := HK.out; omega)
        have hx1 := bt_at a0 xi
        have hq := HQ.out
        simp only [tokAllL] at hq
        obtain ⟨⟨t1, t2, t3, t4, t5, t6, t7⟩, hT, hq⟩ := Option.bind_eq_some_iff.mp hq
        rw [← HK.out.2.2] at hT
        have HT := Aside0.mk hT
        have HS := Aside0.mk hq
        have hw1 : wrap64 (xi + 1) = ((i + 1 : Nat) : Int) := by have h1 := HK.out; have h2 := HZ.out; unfold wrap64; omega
        have HW1 := Aside0.mk hw1
        clear hT hq HQ hw1
        by_cases c2 : t1 = 2
        · have hq := HS.out
          rw [if_pos c2] at hq
          obtain ⟨⟨v1, v2, y1, y2, y3, y4, y5, y6⟩, hV, hq⟩ := Option.bind_eq_some_iff.mp hq
          simp only [Option.some.injEq, Prod.mk.injEq] at hq
          obtain ⟨rfl, rfl, rfl⟩ := hq
          have HV := Aside0.mk hV
          have c2b : (t1 == 2) = true := beq_iff_eq.2 c2
          clear hV HS c2
          go_wp2_with (first
            | ((with_reducible refine gate_callee (f := 19) rfl ?_); refine goesL_ (some 26) rfl rfl Try.func19 (by kernel_rfl) rfl #[.pointer (some ⟨g, 0, none⟩), .int .u8 (bt a0 xi)] rfl (by (try simp only [List.map_toArray, List.map_cons, List.map_nil]); rfl) ?_; refine (token_Number_Put.calls g m x n b l e (bt a0 xi) t1 t2 t3 t4 t5 t6 t7 w _ HI.out HB.out HT.out).mono ?_; rintro e w2 ⟨rfl, hI2, hB2, hK2⟩; refine ⟨_, rfl, ?_⟩; have HO2 := Aside0.mk (Kd.R_mono (Kd.R_keep (IsS52.apart HI.out HO.out (by decide)) hK2 (fun _ h => h.2)) (fun _ _ => trivial)); have HI2 := Aside0.mk hI2; have HB2 := Aside0.mk hB2; clear hI2 hB2 hK2)
            | ((with_reducible refine gate_callee (f := 23) rfl ?_); refine goesL_ (some 31) rfl rfl Try.func23 (by kernel_rfl) rfl #[.pointer (some ⟨g, 0, none⟩)] rfl (by (try simp only [List.map_toArray, List.map_cons, List.map_nil]); rfl) ?_; refine (token_Number_Value.calls g t2 t3 t4 t5 t6 t7 v1 v2 y1 y2 y3 y4 y5 y6 w _ HI2.out HB2.out HV.out).mono ?_; rintro e w3 ⟨rfl, hI3, hB3, hK3⟩; refine ⟨_, rfl, ?_⟩; have HO3 := Aside0.mk (Kd.R_mono (Kd.R_keep (IsS52.apart HI2.out HO2.out (by decide)) hK3 (fun _ h => h.2)) (fun _ _ => trivial)); have HB3 := Aside0.mk hB3; clear hI3 hB3 hK3))
          go_ret3
          exact ⟨_, rfl, HO3.out, HB3.out⟩
        · have c2b : (t1 == 2) = false := beq_eq_false_iff_ne.2 c2
          by_cases c1 : t1 = 1
          · have hq := HS.out
            rw [if_neg c2, if_pos c1] at hq
            obtain ⟨⟨v1, v2, y1, y2, y3, y4, y5, y6⟩, hV, hq⟩ := Option.bind_eq_some_iff.mp hq
            by_cases cl : x7.length < 17592186044416
            · rw [if_pos cl] at hq
              have HQ' := Aside0.mk hq
              have HL := Aside0.mk cl
              have HV := Aside0.mk hV
              have c1b : (t1 == 1) = true := beq_iff_eq.2 c1
              clear hV HS c2 c1 hq cl
              go_wp2_with (first
                | ((with_reducible refine gate_callee (f := 19) rfl ?_); refine goesL_ (some 26) rfl rfl Try.func19 (by kernel_rfl) rfl #[.pointer (some ⟨g, 0, none⟩), .int .u8 (bt a0 xi)] rfl (by (try simp only [List.map_toArray, List.map_cons, List.map_nil]); rfl) ?_; refine (token_Number_Put.calls g m x n b l e (bt a0 xi) t1 t2 t3 t4 t5 t6 t7 w _ HI.out HB.out HT.out).mono ?_; rintro e w2 ⟨rfl, hI2, hB2, hK2⟩; refine ⟨_, rfl, ?_⟩; have HO2 := Aside0.mk (Kd.R_mono (ok' := fun _ => True) (Kd.R_keep (IsS52.apart HI.out HO.out (by decide)) hK2 (fun _ h => h.2)) (fun _ _ => trivial)); have HI2 := Aside0.mk hI2; have HB2 := Aside0.mk hB2; clear hI2 hB2 hK2)
                | ((with_reducible refine gate_callee (f := 23) rfl ?_); refine goesL_ (some 41) rfl rfl Try.func23 (by kernel_rfl) rfl #[.pointer (some ⟨g, 0, none⟩)] rfl (by (try simp only [List.map_toArray, List.map_cons, List.map_nil]); rfl) ?_; refine (token_Number_Value.calls g t2 t3 t4 t5 t6 t7 v1 v2 y1 y2 y3 y4 y5 y6 w _ HI2.out HB2.out HV.out).mono ?_; rintro e w3 ⟨rfl, hI3, hB3, hK3⟩; refine ⟨_, rfl, ?_⟩; have HO3 := Aside0.mk (Kd.R_mono (ok' := fun _ => True) (Kd.R_keep (IsS52.apart HI2.out HO2.out (by decide)) hK3 (fun _ h => h.2)) (fun _ _ => trivial)); have HB3 := Aside0.mk hB3; clear hI3 hB3 hK3)
                | ((with_reducible refine gate_builtin (b := .append) (xs := #[.tmp 44, .tmp 46]) rfl ?_); at_builtin; refine Kd.R_append (Kd.int .i64) (w0 := w) w.heap.size rfl (.tmp 44) (.tmp 46) 27 3 (.int .i64 0) 8 rfl Try.underlying27 info3 rfl (by decide) (by omega) u7 x7 v1 [.int .i64 v1] (fun _ => True) (fun _ => False) rfl (by first | (go_simp; done) | (go_simp; rfl)) ?aP (fun _ hk => hk.elim) ?aF ?aO ?aB ?aS ?aL ?_; (case aP => exact rfl); (case aB => exact (by repeat (first | (with_reducible first | exact HB3.out | apply below_alloc | apply pw_below_drewN | apply below_drew1) | exact HB3.out))); (case aF => exact (fun _ _ => trivial)); (case aO => exact (by (with_reducible repeat (first | apply Kd.R_alloc | apply Kd.R_drewN | apply Kd.R_drew)); exact Kd.R_mono HO3.out (fun _ hk => trivial))); (case aS => exact (below_size (by repeat (first | (with_reducible first | exact HB3.out | apply below_alloc | apply pw_below_drewN | apply below_drew1) | exact HB3.out)))); (case aL => have := HL.out; omega); intro v4 w4 ho hb hg hat; have HO4 := Aside0.mk ho; have HB4 := Aside0.mk hb; clear ho hb hg hat)
                | ((with_reducible refine gate_callee (f := 16) rfl ?_); refine goesL_ (some 51) rfl rfl Try.func16 (by kernel_rfl) rfl #[.int .i64 a1] rfl (by (try simp only [List.map_toArray, List.map_cons, List.map_nil]); rfl) ?_; refine (token_New.calls a1 _ _ _ _ _ _ w _ HB4.out rfl).mono ?_; rintro e w5 ⟨g5, rfl, hI5, hB5, hb5⟩; refine ⟨_, rfl, ?_⟩; have HO5 := Aside0.mk (Kd.R_below HO4.out hb5); have HI5 := Aside0.mk hI5; have HB5 := Aside0.mk hB5; clear hI5 hB5 hb5))
              go_roundg (d + 1)
              case measure => have := HK.out; omega
              case rel => exact ⟨x7 ++ [v1], g5, ((i + 1 : Nat) : Int), ((i + 1 : Nat) : Int), d, i + 1, 0, a1, 0, false, 0, 9, (by rw [HW1.out]), rfl, (by rw [HW1.out]), ⟨rfl, by have := HK.out; omega, rfl⟩, HQ', HO5, HI5, HB5⟩
            · rw [if_neg cl] at hq
              exact absurd hq (by simp)
          · have hq := HS.out
            rw [if_neg c2, if_neg c1] at hq
            have HQ' := Aside0.mk hq
            have c1b : (t1 == 1) = false := beq_eq_false_iff_ne.2 c1
            clear HS c2 c1 hq
            go_wp2_with ((with_reducible refine gate_callee (f := 19) rfl ?_); refine goesL_ (some 26) rfl rfl Try.func19 (by kernel_rfl) rfl #[.pointer (some ⟨g, 0, none⟩), .int .u8 (bt a0 xi)] rfl (by (try simp only [List.map_toArray, List.map_cons, List.map_nil]); rfl) ?_; refine (token_Number_Put.calls g m x n b l e (bt a0 xi) t1 t2 t3 t4 t5 t6 t7 w _ HI.out HB.out HT.out).mono ?_; rintro e w2 ⟨rfl, hI2, hB2, hK2⟩; refine ⟨_, rfl, ?_⟩; have HO2 := Aside0.mk (Kd.R_mono (ok' := fun _ => True) (Kd.R_keep (IsS52.apart HI.out HO.out (by decide)) hK2 (fun _ h => h.2)) (fun _ _ => trivial)); have HI2 := Aside0.mk hI2; have HB2 := Aside0.mk hB2; clear hI2 hB2 hK2)
            go_roundg (d + 1)
            case measure => have := HK.out; omega
            case rel => exact ⟨x7, g, x8, ((i + 1 : Nat) : Int), d, i + 1, t2, t3, t4, t5, t6, t7, rfl, rfl, (by rw [HW1.out]), ⟨rfl, by have := HK.out; omega, rfl⟩, HQ', HO2, HI2, HB2⟩
  · rw [if_neg hz] at h
    exact absurd h (by simp)
end Go.Proofs.Ytbbgichpbjgifaa.Q
