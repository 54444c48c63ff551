/- raw.Read: all pixels of a raster, or why there are none. -/
import Derived.Test.YtdjonaajfhbfhaaQ0
import Derived.Test.YtdjonaajfhbfhaaIraw_New
import Derived.Test.YtdjonaajfhbfhaaIraw_Reader_Put
import Derived.Below
import Derived.Deep.Draws
import Derived.Deep.AppendLies
import Derived.Maps.AppendAt
import Derived.OwnWalk
import Derived.Laws.BytesArg
import Derived.Laws.MakeOwn
import Derived.Laws.OwnMore
import Derived.Deep.OwnRows
import Derived.Tactics
import Derived.Lib.ConvBytes
import Derived.Laws.Slices
import Derived.WalkKit
import Derived.KernelRfl
import Derived.RowKit3
import Derived.Deep.LoopGhost
import Derived.Deep.QuietTactic
import Derived.BigQuiet
import Derived.WideLaws
import Derived.Deep.DeepCutAuto
import Derived.Deep.CutBlock
import Derived.Deep.RegionHeld3
import Derived.Laws.Rows
import Derived.Lib.AppendStr
import Derived.ArgAppend
import Derived.Laws.IdiomCopy
import Derived.OrdersHeld
import Derived.Laws.BitsLemmas
import Derived.RowKit
import Derived.Test.YtdjonaajfhbfhaaMore
import Derived.Test.YtdjonaajfhbfhaaPeel
import Derived.Test.YtdjonaajfhbfhaaRaw
import Derived.Scope
import Derived.Test.YtdjonaajfhbfhaaWWords
import Derived.Test.YtdjonaajfhbfhaaWLast
import Derived.Test.YtdjonaajfhbfhaaWTab
import Derived.Test.YtdjonaajfhbfhaaWQPut
import Derived.Test.YtdjonaajfhbfhaaWApart
import Derived.Test.YtdjonaajfhbfhaaWArr
import Derived.Test.YtdjonaajfhbfhaaWZeros
import Derived.Test.YtdjonaajfhbfhaaWFoot
import Derived.Test.YtdjonaajfhbfhaaWKept
import Derived.Test.YtdjonaajfhbfhaaWShare
import Derived.Test.YtdjonaajfhbfhaaWN
import Derived.Test.YtdjonaajfhbfhaaWFootNe
import Derived.Test.YtdjonaajfhbfhaaWAt
import Derived.Test.YtdjonaajfhbfhaaWGuard
import Derived.Test.YtdjonaajfhbfhaaWNEv
import Derived.Test.YtdjonaajfhbfhaaWMore
import Derived.BigQuiet
import Derived.Deep.QuietTactic
namespace Go.Proofs.Ytdjonaajfhbfhaa.Q
open Go.RowKit Go.Proofs.YtdjonaajfhbfhaaW.PrintWords Go.Proofs.YtdjonaajfhbfhaaW.PrintLast Go.Proofs.YtdjonaajfhbfhaaW.PrintMore
set_option linter.unusedVariables false
set_option linter.unusedSimpArgs false
theorem goesM_ {P : Program} {ops : Array Oper} {Q : Exit → Act → World → Prop} {rest : List Oper} {oi : Oper} {a : Act} {w : World} (N : Option Tmp) (hd : oi.dst = N) (hg : oi.guard = none) {f : FuncId} {x : Operand} {fb : Array Value} {ax : Array Operand} {ts : Array TypeId}
    (hent : ∀ (args : Array Value) (w : World), (callFunc f args).run P w = .ok (.enter f args) w) (args : Array Value) (hop : oi.op = .call { callee := .value x, args := ax, argTypes := ts }) (hx : a.eval x = .func (.func f) fb #[]) (hargs : ax.map a.eval = args)
    (h : Calls P f (fb ++ args) w fun e w' => ∃ v, e = .returned v ∧ wpList P ops Q rest (a.put N v) w') : wpList P ops Q (oi :: rest) a w := by
  refine wpList_plain hg fun K hK => ?_
  have hrun : (execOp a.eval oi).run P w = .ok (.enter f (fb ++ args)) w := by
    unfold execOp
    simp [hop, hx, resolve, Deferred.ofValue, invoke, hargs, hent]
  unfold Oper.wp
  rw [hrun, Oper.upon_enter]
  refine h.mono fun e w'' hh => ?_
  obtain ⟨v, rfl, hk⟩ := hh
  subst hd
  exact hK _ _ hk
theorem raw_is_grown {w0 W w1 : World} {g : Nat} {f0 f1 f2 f3 f4 f5 f6 f7 f8 : Int} {α : Type} {d : Kd α} {e : Nat} {base : Nat} {ok : Nat → Prop} {v : Value} {xs : List α} (h : IsS71 w0 W g f0 f1 f2 f3 f4 f5 f6 f7 f8) (ho : d.R e W base ok v xs) (ht : e ≠ 71 ∧ e ≠ 5) (hg : W.grownBy w1 v.ownBlock) : IsS71 w0 w1 g f0 f1 f2 f3 f4 f5 f6 f7 f8 := by
  obtain ⟨gb, b, e2, hb, hge, hr, hok⟩ := h
  exact ⟨gb, b, e2, blk_grown hb hg (Kd.R_ne ho hb ht.1), hge, blk_grown hr hg (Kd.R_ne ho hr ht.2), hok⟩
theorem raw_c8 {w0 W : World} {g : Nat} {f0 f1 f2 f3 f4 f5 f6 f7 f8 : Int} (h : IsS71 w0 W g f0 f1 f2 f3 f4 f5 f6 f7 f8) : W.cell? ⟨g, 8, none⟩ = some (.int .i64 f8) := by
  obtain ⟨gb, b, e2, hb, hge, hr, hok⟩ := h
  exact blk_cell hb 8
/-- What is read from here on, by a reader as it stands. -/
def raw_ReadL : List Int → List Int → Int → Int → Int → Int → Int → Int → Int → Int → Int → Option (List Int × Int)
  | [], _, _, _, _, _, _, _, _, _, _ => some ([], 6)
  | c :: cs, out, f0, f1, f2, f3, f4, f5, f6, f7, f8 => (raw_Reader_Put.f f0 f1 f2 f3 f4 f5 f6 f7 f8 c).bind fun t =>
      if out.length + t.1.length ≤ 17592186044416 then
        if t.2.1 = 1 then some (out ++ t.1, 0)
        else if t.2.1 = 2 then some ([], t.2.2.2.2.2.2.2.2.2.2)
        else raw_ReadL cs (out ++ t.1) t.2.2.1 t.2.2.2.1 t.2.2.2.2.1 t.2.2.2.2.2.1 t.2.2.2.2.2.2.1 t.2.2.2.2.2.2.2.1 t.2.2.2.2.2.2.2.2.1 t.2.2.2.2.2.2.2.2.2.1 t.2.2.2.2.2.2.2.2.2.2
      else none
def raw_Read.f (l0 : List Int) (a1_0 a1_1 a1_2 a1_3 : Int) : Option (List Int × Int) := if rawMay a1_0 a1_1 a1_2 a1_3 = true then raw_ReadL l0 [] a1_0 a1_1 a1_2 a1_3 0 0 0 0 0 else some ([], 1)
theorem pixelInfo_ : (Try.prog.info? 26).map (fun i => (i.zero, i.size, i.bytes)) = some (some (.int .u64 0), 1, 8) := by kernel_rfl
set_option maxRecDepth 100000 in
set_option maxHeartbeats 8000000 in
theorem raw_Read.calls (A0 : Option Addr) (c0 : Nat) (l0 : List Int) (a1_0 a1_1 a1_2 a1_3 : Int) (r1 : List Int) (r2 : Int) (w : World) (hr0 : Kd.C (Kd.int .u8) w A0 l0.length l0) (hc0 : l0.length ≤ c0) (h : raw_Read.f l0 a1_0 a1_1 a1_2 a1_3 = some (r1, r2)) :
    Calls Try.prog 13 #[.slice A0 l0.length c0, .agg #[.int .i64 a1_0, .int .i64 a1_1, .int .i64 a1_2, .int .i64 a1_3]] w fun e w' => ∃ v0_ : Value, e = .returned (.tuple #[v0_, .int .i64 r2]) ∧ Kd.R (Kd.int .u64) 26 w' w.heap.size (fun _ => True) v0_ r1 ∧ Below w.heap.size w w' := by
  have hu := Try.underlying71
  have hu2 := Try.underlying34
  unfold raw_Read.f at h
  by_cases hmay : rawMay a1_0 a1_1 a1_2 a1_3 = true
  · rw [if_pos hmay] at h
    have HR0 := Aside0.mk hr0
    have HM := Aside0.mk (Kd.C_max hr0)
    have H := Aside0.mk h
    have HN : Aside0 (raw_New.f a1_0 a1_1 a1_2 a1_3 = some (a1_0, a1_1, a1_2, a1_3, 0, 0, 0, 0, 0, 0)) := ⟨by unfold raw_New.f; rw [if_pos hmay]⟩
    have hmf : ∀ (g : Nat) (w_ : World), (Instr.makeFunc (.func 19) #[.pointer (some ⟨g, 0, none⟩)] #[]).run Try.prog w_ = .ok (.func (.func 19) #[.pointer (some ⟨g, 0, none⟩)] #[]) w_ := fun _ _ => rfl
    clear hr0 hc0 h hmay
    go_enter Try.func13, Try.ntmps13
    go_wp2_with (first | (go_at_call 18; refine (raw_New.calls a1_0 a1_1 a1_2 a1_3 _ _ _ _ _ _ _ _ _ _ w _ (below_alloc (Below.refl _ _) _) HN.out).mono ?_; rintro e w1 ⟨g1, rfl, hI1, hB1, hb1⟩; have HI1 := Aside0.mk hI1; have HB1 := Aside0.mk hB1; clear hI1 hB1 hb1))
    go_loopg [9, 26] (l0.length + 1) (fun kq v9 v26 w' => ∃ (i : Nat) (x9 : List Int) (f0 f1 f2 f3 f4 f5 f6 f7 f8 : Int), v26 = .int .i64 (i : Int) ∧ Aside0 (kq + i = l0.length + 1) ∧ Aside0 (i ≤ l0.length) ∧ Aside0 (raw_ReadL (l0.drop i) x9 f0 f1 f2 f3 f4 f5 f6 f7 f8 = some (r1, r2)) ∧ Aside0 (Kd.R (Kd.int .u64) 26 w' w.heap.size (fun _ => True) v9 x9) ∧ Aside0 (IsS71 w w' g1 f0 f1 f2 f3 f4 f5 f6 f7 f8) ∧ Aside0 (Below w.heap.size w w'))
    case atStart => exact ⟨0, [], a1_0, a1_1, a1_2, a1_3, 0, 0, 0, 0, 0, rfl, ⟨rfl⟩, ⟨by omega⟩, H, ⟨Kd.R_nil _ _ _ _ _⟩, HI1, HB1⟩
    case round =>
      clear HI1 HB1 H HN hmf
      obtain ⟨i, x9, f0, f1, f2, f3, f4, f5, f6, f7, f8, rfl, HKQ, HIL, HQ, HO, HI, HB⟩ := hrel
      obtain ⟨k1, rfl⟩ : ∃ m, gk = m + 1 := ⟨gk - 1, by have h1 := HKQ.out; have h2 := HIL.out; omega⟩
      by_cases ci : i < l0.length
      · have c0_ : decide ((i : Int) < (l0.length : Int)) = true := decide_eq_true (by omega)
        have q0 : ((i : Int) < (l0.length : Int)) = True := eq_true (by omega)
        obtain ⟨ad, rfl, hx⟩ := Kd.at_int (Kd.C_below HR0.out HB.out) (i : Int) (by omega) (by omega)
        rw [Int.toNat_natCast] at hx
        have hrd : rd l0 (i : Int) = l0.getD i 0 := by unfold rd; rw [Int.toNat_natCast]
        rw [hrd] at hx
        have hdrop : l0.drop i = l0.getD i 0 :: l0.drop (i + 1) := by
          rw [List.drop_eq_getElem_cons ci, List.getD_eq_getElem?_getD, List.getElem?_eq_getElem ci]
          rfl
        have hq := HQ.out
        rw [hdrop] at hq
        simp only [raw_ReadL] at hq
        obtain ⟨⟨t1, t2, t3, t4, t5, t6, t7, t8, t9, t10, t11⟩, hT, hq⟩ := Option.bind_eq_some_iff.mp hq
        have HT := Aside0.mk hT
        have HW1 : Aside0 (wrap64 ((i : Int) + 1) = ((i + 1 : Nat) : Int)) := ⟨by have h1 := HM.out; unfold wrap64; omega⟩
        by_cases hlim : x9.length + t1.length ≤ 17592186044416
        · rw [if_pos hlim] at hq
          have HLIM := Aside0.mk hlim
          have HQ2 := Aside0.mk hq
          have HCI := Aside0.mk ci
          clear hrd hdrop hT hq hlim HQ
          generalize l0.getD i 0 = c at *
          by_cases h1 : t2 = 1
          · have e1 : (t2 == 1) = true := beq_iff_eq.2 h1
            have hq := HQ2.out
            rw [if_pos h1] at hq
            simp only [Option.some.injEq, Prod.mk.injEq] at hq
            obtain ⟨rfl, rfl⟩ := hq
            clear HQ2 h1
            go_wp2_with (first | ((with_reducible refine gate_dst (N := 33) rfl ?_); refine goesM_ (some 33) rfl rfl (x := .tmp 31) (fb := #[.pointer (some ⟨g1, 0, none⟩)]) (f := 19) (enters_ Try.func19 (by kernel_rfl) rfl) #[.int .u8 c] rfl rfl (by (try simp only [List.map_toArray, List.map_cons, List.map_nil]); rfl) ?_; refine (raw_Reader_Put.calls g1 f0 f1 f2 f3 f4 f5 f6 f7 f8 c t1 t2 t3 t4 t5 t6 t7 t8 t9 t10 t11 w _ HI.out HB.out HT.out).mono ?_; rintro e w5 ⟨v5, rfl, hR5, hI5, hB5, hK5⟩; refine ⟨_, rfl, ?_⟩; obtain ⟨A5, c5, rfl⟩ := Kd.R_slice hR5; have HRD := Aside0.mk (Kd.R_reads' hR5).2.2; have HO5 := Aside0.mk (raw_row_keep HI.out HO.out hK5); have HI5 := Aside0.mk hI5; have HB5 := Aside0.mk hB5; clear hR5 hI5 hB5 hK5) | ((with_reducible refine gate_builtin (b := .append) (xs := #[.tmp 36, .tmp 37]) rfl ?_); at_builtin; refine Kd.R_append_row (Value.int .u64) (0 : Int) (h1 := fun _ => rfl) (w0 := w) w.heap.size rfl (.tmp 36) (.tmp 37) 29 26 (.int .u64 0) 8 rfl Try.underlying29 pixelInfo_ rfl (by decide) _ x9 t1 A5 _ c5 (fun _ => True) rfl rfl (fun _ _ => trivial) HO5.out HRD.out HB5.out HB5.out.size (by have := HLIM.out; omega) ?_; intro v6 w6 ho6 hb6 hg6 hat6; have HO6 := Aside0.mk ho6; have HB6 := Aside0.mk hb6; have HI6 := Aside0.mk (raw_is_grown HI5.out HO5.out (by decide) hg6); clear ho6 hb6 hg6 hat6))
            go_ret2
            exact ⟨_, rfl, HO6.out, HB6.out⟩
          · have e1 : (t2 == 1) = false := beq_eq_false_iff_ne.2 h1
            by_cases h2 : t2 = 2
            · have e2 : (t2 == 2) = true := beq_iff_eq.2 h2
              have hq := HQ2.out
              rw [if_neg h1, if_pos h2] at hq
              simp only [Option.some.injEq, Prod.mk.injEq] at hq
              obtain ⟨rfl, rfl⟩ := hq
              clear HQ2 h1 h2
              go_wp2_with (first | ((with_reducible refine gate_dst (N := 33) rfl ?_); refine goesM_ (some 33) rfl rfl (x := .tmp 31) (fb := #[.pointer (some ⟨g1, 0, none⟩)]) (f := 19) (enters_ Try.func19 (by kernel_rfl) rfl) #[.int .u8 c] rfl rfl (by (try simp only [List.map_toArray, List.map_cons, List.map_nil]); rfl) ?_; refine (raw_Reader_Put.calls g1 f0 f1 f2 f3 f4 f5 f6 f7 f8 c t1 t2 t3 t4 t5 t6 t7 t8 t9 t10 t11 w _ HI.out HB.out HT.out).mono ?_; rintro e w5 ⟨v5, rfl, hR5, hI5, hB5, hK5⟩; refine ⟨_, rfl, ?_⟩; obtain ⟨A5, c5, rfl⟩ := Kd.R_slice hR5; have HRD := Aside0.mk (Kd.R_reads' hR5).2.2; have HO5 := Aside0.mk (raw_row_keep HI.out HO.out hK5); have HI5 := Aside0.mk hI5; have HB5 := Aside0.mk hB5; clear hR5 hI5 hB5 hK5) | ((with_reducible refine gate_builtin (b := .append) (xs := #[.tmp 36, .tmp 37]) rfl ?_); at_builtin; refine Kd.R_append_row (Value.int .u64) (0 : Int) (h1 := fun _ => rfl) (w0 := w) w.heap.size rfl (.tmp 36) (.tmp 37) 29 26 (.int .u64 0) 8 rfl Try.underlying29 pixelInfo_ rfl (by decide) _ x9 t1 A5 _ c5 (fun _ => True) rfl rfl (fun _ _ => trivial) HO5.out HRD.out HB5.out HB5.out.size (by have := HLIM.out; omega) ?_; intro v6 w6 ho6 hb6 hg6 hat6; have HO6 := Aside0.mk ho6; have HB6 := Aside0.mk hb6; have HI6 := Aside0.mk (raw_is_grown HI5.out HO5.out (by decide) hg6); clear ho6 hb6 hg6 hat6))
              have hc8 := raw_c8 HI6.out
              go_quiet (fail)
              go_wp2
              go_ret2
              exact ⟨.slice none 0 0, rfl, Kd.R_nil _ _ _ _ _, pw_below_drewN HB6.out _⟩
            · have e2 : (t2 == 2) = false := beq_eq_false_iff_ne.2 h2
              have hq := HQ2.out
              rw [if_neg h1, if_neg h2] at hq
              have HQ3 := Aside0.mk hq
              clear HQ2 h1 h2 hq
              go_wp2_with (first | ((with_reducible refine gate_dst (N := 33) rfl ?_); refine goesM_ (some 33) rfl rfl (x := .tmp 31) (fb := #[.pointer (some ⟨g1, 0, none⟩)]) (f := 19) (enters_ Try.func19 (by kernel_rfl) rfl) #[.int .u8 c] rfl rfl (by (try simp only [List.map_toArray, List.map_cons, List.map_nil]); rfl) ?_; refine (raw_Reader_Put.calls g1 f0 f1 f2 f3 f4 f5 f6 f7 f8 c t1 t2 t3 t4 t5 t6 t7 t8 t9 t10 t11 w _ HI.out HB.out HT.out).mono ?_; rintro e w5 ⟨v5, rfl, hR5, hI5, hB5, hK5⟩; refine ⟨_, rfl, ?_⟩; obtain ⟨A5, c5, rfl⟩ := Kd.R_slice hR5; have HRD := Aside0.mk (Kd.R_reads' hR5).2.2; have HO5 := Aside0.mk (raw_row_keep HI.out HO.out hK5); have HI5 := Aside0.mk hI5; have HB5 := Aside0.mk hB5; clear hR5 hI5 hB5 hK5) | ((with_reducible refine gate_builtin (b := .append) (xs := #[.tmp 36, .tmp 37]) rfl ?_); at_builtin; refine Kd.R_append_row (Value.int .u64) (0 : Int) (h1 := fun _ => rfl) (w0 := w) w.heap.size rfl (.tmp 36) (.tmp 37) 29 26 (.int .u64 0) 8 rfl Try.underlying29 pixelInfo_ rfl (by decide) _ x9 t1 A5 _ c5 (fun _ => True) rfl rfl (fun _ _ => trivial) HO5.out HRD.out HB5.out HB5.out.size (by have := HLIM.out; omega) ?_; intro v6 w6 ho6 hb6 hg6 hat6; have HO6 := Aside0.mk ho6; have HB6 := Aside0.mk hb6; have HI6 := Aside0.mk (raw_is_grown HI5.out HO5.out (by decide) hg6); clear ho6 hb6 hg6 hat6))
              go_roundg k1
              case measure => omega
              case rel => exact ⟨i + 1, x9 ++ t1, t3, t4, t5, t6, t7, t8, t9, t10, t11, by rw [HW1.out], ⟨by have := HKQ.out; omega⟩, ⟨HCI.out⟩, HQ3, HO6, HI6, HB6⟩
        · rw [if_neg hlim] at hq
          exact absurd hq (by simp)
      · have c0_ : decide ((i : Int) < (l0.length : Int)) = false := decide_eq_false (by omega)
        have hq := HQ.out
        rw [List.drop_of_length_le (by omega)] at hq
        simp only [raw_ReadL, Option.some.injEq, Prod.mk.injEq] at hq
        obtain ⟨rfl, rfl⟩ := hq
        have c0n : decide (i < l0.length) = false := decide_eq_false ci
        clear HQ ci
        go_wp2
        go_ret2
        exact ⟨.slice none 0 0, rfl, Kd.R_nil _ _ _ _ _, HB.out⟩
  · rw [if_neg hmay] at h
    simp only [Option.some.injEq, Prod.mk.injEq] at h
    obtain ⟨rfl, rfl⟩ := h
    have HRF := Aside0.mk (Bool.not_eq_true _ ▸ hmay : rawMay a1_0 a1_1 a1_2 a1_3 = false)
    clear hr0 hc0 hmay
    go_enter Try.func13, Try.ntmps13
    go_wp2_with (first | (go_at_call 18; refine (raw_New.refuses a1_0 a1_1 a1_2 a1_3 _ HRF.out).mono ?_; rintro e w1 ⟨rfl, hb1⟩; have HB1 := Aside0.mk hb1; clear hb1))
    go_ret2
    exact ⟨.slice none 0 0, rfl, Kd.R_nil _ _ _ _ _, below_step (below_alloc (Below.refl _ _) _) HB1.out⟩
end Go.Proofs.Ytdjonaajfhbfhaa.Q
