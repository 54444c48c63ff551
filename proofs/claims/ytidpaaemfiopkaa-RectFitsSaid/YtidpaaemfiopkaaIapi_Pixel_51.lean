/- slices.ContainsFunc at pixels, with a function value that tells a truth of each: and the one that rect.Fits hands over. -/
import Derived.Test.YtidpaaemfiopkaaQ0
import Derived.Test.YtidpaaemfiopkaaQ19
import Derived.Below
import Derived.Deep.Draws
import Derived.Deep.AppendLies
import Derived.Maps.AppendAt
import Derived.OwnWalk
import Derived.Laws.BytesArg
import Derived.Laws.MakeOwn
import Derived.Laws.OwnMore
import Derived.Deep.OwnRows
import Derived.Tactics
import Derived.Lib.ConvBytes
import Derived.Laws.Slices
import Derived.WalkKit
import Derived.KernelRfl
import Derived.RowKit3
import Derived.Deep.LoopGhost
import Derived.Deep.QuietTactic
import Derived.BigQuiet
import Derived.WideLaws
import Derived.Deep.DeepCutAuto
import Derived.Deep.CutBlock
import Derived.Deep.RegionHeld3
import Derived.Laws.Rows
import Derived.Lib.AppendStr
import Derived.ArgAppend
import Derived.Laws.IdiomCopy
import Derived.OrdersHeld
import Derived.Laws.BitsLemmas
import Derived.RowKit
import Derived.Test.YtidpaaemfiopkaaMore
import Derived.Test.YtidpaaemfiopkaaPeel
import Derived.Scope
import Derived.Test.YtidpaaemfiopkaaWWords
import Derived.Test.YtidpaaemfiopkaaWLast
import Derived.Test.YtidpaaemfiopkaaWTab
import Derived.Test.YtidpaaemfiopkaaWFour
import Derived.Test.YtidpaaemfiopkaaWQPut
import Derived.Test.YtidpaaemfiopkaaWApart
import Derived.Test.YtidpaaemfiopkaaWArr
import Derived.Test.YtidpaaemfiopkaaWZeros
import Derived.Test.YtidpaaemfiopkaaWFoot
import Derived.Test.YtidpaaemfiopkaaWKept
import Derived.Test.YtidpaaemfiopkaaWShare
import Derived.Test.YtidpaaemfiopkaaWN
import Derived.Test.YtidpaaemfiopkaaWFootNe
import Derived.Test.YtidpaaemfiopkaaWAt
import Derived.Test.YtidpaaemfiopkaaWEqStruct
import Derived.Test.YtidpaaemfiopkaaWRepsOne
import Derived.Test.YtidpaaemfiopkaaWInv
import Derived.Test.YtidpaaemfiopkaaWInvWords
import Derived.Test.YtidpaaemfiopkaaWGuard
import Derived.Test.YtidpaaemfiopkaaWNEv
import Derived.Test.YtidpaaemfiopkaaWMore
namespace Go.Proofs.Ytidpaaemfiopkaa.Q
open Go.RowKit Go.Proofs.YtidpaaemfiopkaaW.PrintWords Go.Proofs.YtidpaaemfiopkaaW.PrintLast
set_option linter.unusedVariables false
set_option linter.unusedSimpArgs false
theorem goesH_ {P : Program} {ops : Array Oper} {Q : Exit → Act → World → Prop} {rest : List Oper} {oi : Oper} {a : Act} {w : World} (N : Option Tmp) (hd : oi.dst = N) (hg : oi.guard = none) {f : FuncId} {x : Operand} {lb : Array Value} {ax : Array Operand} {ts : Array TypeId}
    (hent : ∀ (args : Array Value) (w : World), (callFunc f args).run P w = .ok (.enter f args) w) (args : Array Value) (hop : oi.op = .call { callee := .value x, args := ax, argTypes := ts }) (hx : a.eval x = .func (.func f) #[] lb) (hargs : ax.map a.eval = args)
    (h : Calls P f (args ++ lb) w fun e w' => ∃ v, e = .returned v ∧ wpList P ops Q rest (a.put N v) w') : wpList P ops Q (oi :: rest) a w := by
  refine wpList_plain hg fun K hK => ?_
  have hrun : (execOp a.eval oi).run P w = .ok (.enter f (args ++ lb)) w := by
    unfold execOp
    simp [hop, hx, resolve, Deferred.ofValue, invoke, hargs, hent]
  unfold Oper.wp
  rw [hrun, Oper.upon_enter]
  refine h.mono fun e w'' hh => ?_
  obtain ⟨v, rfl, hk⟩ := hh
  subst hd
  exact hK _ _ hk
set_option maxRecDepth 100000 in
set_option maxHeartbeats 4000000 in
theorem slices_IndexFunc_px.calls (gf : FuncId) (lb : Array Value) (G : Int → Bool) (A0 : Option Addr) (c0 : Nat) (l0 : List Int) (w : World) (hr0 : Kd.C (Kd.int .u64) w A0 l0.length l0) (hl : l0.length ≤ 4611686018427387904)
    (hent : ∀ (args : Array Value) (w : World), (callFunc gf args).run Try.prog w = .ok (.enter gf args) w)
    (hG : ∀ W, Below w.heap.size w W → ∀ n ∈ l0, Calls Try.prog gf (#[.int .u64 n] ++ lb) W fun e W' => e = .returned (.bool (G n)) ∧ Below W.heap.size W W') :
    Calls Try.prog 57 #[.slice A0 l0.length c0, .func (.func gf) #[] lb] w fun e w' => ∃ i : Int, e = .returned (.int .i64 i) ∧ decide (i ≥ 0) = l0.any G ∧ Below w.heap.size w w' := by
  have HR0 := Aside0.mk hr0
  have HL := Aside0.mk hl
  have HG := Aside0.mk hG
  clear hr0 hl hG
  go_enter Try.func57, Try.ntmps57
  go_wp2
  go_loopg [8] (l0.length + 1) (fun kq v8 w' => ∃ (i : Nat), v8 = .int .i64 (i : Int) ∧ Aside0 (kq + i = l0.length + 1) ∧ Aside0 (i ≤ l0.length) ∧ Aside0 (∀ j, j < i → G (l0.getD j 0) = false) ∧ Aside0 (Below w.heap.size w w'))
  case atStart => exact ⟨0, rfl, ⟨rfl⟩, ⟨by omega⟩, ⟨fun j hj => by omega⟩, ⟨Below.refl _ _⟩⟩
  case round =>
    obtain ⟨i, rfl, HM, HI, HN, HB⟩ := hrel
    obtain ⟨k1, rfl⟩ : ∃ m, gk = m + 1 := ⟨gk - 1, by have h1 := HM.out; have h2 := HI.out; omega⟩
    by_cases c : i < l0.length
    · have c0_ : decide ((i : Int) < (l0.length : Int)) = true := decide_eq_true (by omega)
      have q0 : ((i : Int) < (l0.length : Int)) = True := eq_true (by omega)
      obtain ⟨ad, rfl, hx⟩ := Kd.at_int (Kd.C_below HR0.out HB.out) (i : Int) (by omega) (by omega)
      rw [Int.toNat_natCast] at hx
      have hrd : rd l0 (i : Int) = l0.getD i 0 := by unfold rd; rw [Int.toNat_natCast]
      rw [hrd] at hx
      have hmem : l0.getD i 0 ∈ l0 := by rw [List.getD_eq_getElem?_getD, List.getElem?_eq_getElem c]; exact List.getElem_mem c
      have HG1 := Aside0.mk (HG.out wr HB.out _ hmem)
      have hnext : G (l0.getD i 0) = false → ∀ j, j < i + 1 → G (l0.getD j 0) = false := fun h j hj => by
        rcases Nat.lt_or_ge j i with h' | h'
        · exact HN.out j h'
        · obtain rfl : j = i := by omega
          exact h
      have hfound : G (l0.getD i 0) = true → l0.any G = true := fun h => List.any_eq_true.2 ⟨_, hmem, h⟩
      have HX := Aside0.mk hnext
      have HF := Aside0.mk hfound
      clear hmem hrd hnext hfound
      generalize l0.getD i 0 = v at *
      cases hv : G v with
      | true =>
        rw [hv] at HG1
        have HV := Aside0.mk (HF.out hv)
        clear hv
        go_wp2_with ((with_reducible refine gate_dst (N := 16) rfl ?_); refine goesH_ (some 16) rfl rfl (x := .tmp 11) (lb := lb) (f := gf) hent #[.int .u64 v] rfl rfl (by (try simp only [List.map_toArray, List.map_cons, List.map_nil]); rfl) ?_; refine HG1.out.mono ?_; rintro e w5 ⟨rfl, hb⟩; refine ⟨_, rfl, ?_⟩; have HB5 := Aside0.mk (below_step HB.out hb); clear hb)
        go_ret
        exact ⟨(i : Int), rfl, by rw [HV.out]; exact decide_eq_true (by omega), HB5.out⟩
      | false =>
        rw [hv] at HG1
        have HV := Aside0.mk (HX.out hv)
        clear hv
        go_wp2_with ((with_reducible refine gate_dst (N := 16) rfl ?_); refine goesH_ (some 16) rfl rfl (x := .tmp 11) (lb := lb) (f := gf) hent #[.int .u64 v] rfl rfl (by (try simp only [List.map_toArray, List.map_cons, List.map_nil]); rfl) ?_; refine HG1.out.mono ?_; rintro e w5 ⟨rfl, hb⟩; refine ⟨_, rfl, ?_⟩; have HB5 := Aside0.mk (below_step HB.out hb); clear hb)
        go_roundg k1
        case measure => omega
        case rel => exact ⟨i + 1, by rw [show wrap64 ((i : Int) + 1) = ((i + 1 : Nat) : Int) from (by have h1 := HI.out; have h2 := HL.out; unfold wrap64; omega)], ⟨by have := HM.out; omega⟩, ⟨c⟩, HV, HB5⟩
    · have c0_ : decide ((i : Int) < (l0.length : Int)) = false := decide_eq_false (by omega)
      have c0n : decide (i < l0.length) = false := decide_eq_false c
      have HA : Aside0 (l0.any G = false) := ⟨by
        rw [List.any_eq_false]
        intro x hx
        obtain ⟨j, hj, rfl⟩ := List.mem_iff_getElem.1 hx
        have := HN.out j (by have := HI.out; omega)
        rw [List.getD_eq_getElem?_getD, List.getElem?_eq_getElem hj] at this
        simpa using this⟩
      go_wp2
      go_ret
      exact ⟨-1, rfl, by rw [HA.out]; rfl, HB.out⟩
def slices_ContainsFunc_Fits.f (l0 : List Int) (c m : Int) : Option Bool := if l0.length ≤ 4611686018427387904 ∧ (l0.all fun p => (pix_Fits.f 10 p c m).isSome) = true then some (l0.any fun p => pix_Fits.f 10 p c m == some false) else none
set_option maxRecDepth 100000 in
set_option maxHeartbeats 4000000 in
theorem slices_ContainsFunc_Fits.calls (A0 : Option Addr) (c0 : Nat) (l0 : List Int) (c m : Int) (g : Nat) (r : Bool) (w : World) (hr0 : Kd.C (Kd.int .u64) w A0 l0.length l0) (hc0 : l0.length ≤ c0) (hb : w.heap[g]? = some (.cells #[.int .i64 c, .int .i64 m] 70 (0, 0))) (h : slices_ContainsFunc_Fits.f l0 c m = some r) :
    Calls Try.prog 51 #[.slice A0 l0.length c0, .func (.func 52) #[] #[.pointer (some ⟨g, 0, none⟩)]] w fun e w' => e = .returned (.bool r) ∧ Below w.heap.size w w' := by
  unfold slices_ContainsFunc_Fits.f at h
  split at h
  · rename_i hh
    obtain ⟨hl, hall⟩ := hh
    obtain rfl := Option.some.inj h
    clear h
    have hlt : g < w.heap.size := (Array.getElem?_eq_some_iff.1 hb).1
    have HI := Aside0.mk (slices_IndexFunc_px.calls 52 #[.pointer (some ⟨g, 0, none⟩)] (fun p => pix_Fits.f 10 p c m == some false) A0 c0 l0 w hr0 hl (enters_ Try.func52 (by kernel_rfl) rfl) (by
      intro W hW n hn
      have hbW : W.heap[g]? = some (.cells #[.int .i64 c, .int .i64 m] 70 (0, 0)) := (hW.block g hlt).trans hb
      have hc1 : W.cell? ⟨g, 0, none⟩ = some (.int .i64 c) := by simp [World.cell?, hbW]
      have hc2 : W.cell? ⟨g, 1, none⟩ = some (.int .i64 m) := by simp [World.cell?, hbW]
      have hu := Try.underlying70
      obtain ⟨b, hbb⟩ := Option.isSome_iff_exists.1 (List.all_eq_true.1 hall n hn)
      have hbv : (pix_Fits.f 10 n c m == some false) = !b := by rw [hbb]; cases b <;> rfl
      rw [hbv]
      have HBB := Aside0.mk hbb
      clear hbW hb hW hlt hr0 hc0 hl hall hn hbb hbv
      show Calls Try.prog 52 #[.int .u64 n, .pointer (some ⟨g, 0, none⟩)] W _
      go_enter Try.func52, Try.ntmps52
      go_wp2_with ((with_reducible refine gate_callee (f := 53) rfl ?_); refine goesL_ (some 6) rfl rfl Try.func53 (by kernel_rfl) rfl #[.int .u64 n, .agg #[.int .i64 c, .int .i64 m]] rfl (by (try simp only [List.map_toArray, List.map_cons, List.map_nil]); rfl) ?_; refine (pix_Fits.calls 10 n c m b _ HBB.out).mono ?_; rintro e w5 ⟨rfl, hb⟩; refine ⟨_, rfl, ?_⟩; have HB5 := Aside0.mk hb; clear hb)
      go_ret
      exact ⟨rfl, HB5.out⟩))
    clear hr0 hc0 hb hl hall hlt
    go_enter Try.func51, Try.ntmps51
    go_wp2_with ((with_reducible refine gate_dst (N := 7) rfl ?_); refine goesL_ (some 7) rfl rfl Try.func57 (by kernel_rfl) rfl #[.slice A0 l0.length c0, .func (.func 52) #[] #[.pointer (some ⟨g, 0, none⟩)]] rfl (by (try simp only [List.map_toArray, List.map_cons, List.map_nil]); rfl) ?_; refine HI.out.mono ?_; rintro e w5 ⟨i, rfl, hi, hb⟩; refine ⟨_, rfl, ?_⟩; have HB5 := Aside0.mk hb; have HII := Aside0.mk hi; clear hb hi)
    go_ret
    exact ⟨by rw [← HII.out]; rfl, HB5.out⟩
  · simp at h
end Go.Proofs.Ytidpaaemfiopkaa.Q
