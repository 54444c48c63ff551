/- pix.each: each sample of a pixel through a function value, for every function value that tells a number of each sample. -/
import Derived.Test.YtjpaabjhlaibfaaQ0
import Derived.Test.YtjpaabjhlaibfaaQ1
import Derived.Test.YtjpaabjhlaibfaaIpix_Unpack
import Derived.Test.YtjpaabjhlaibfaaIslices_Clone_int_int
import Derived.Below
import Derived.Deep.Draws
import Derived.Deep.AppendLies
import Derived.Maps.AppendAt
import Derived.OwnWalk
import Derived.Laws.BytesArg
import Derived.Laws.MakeOwn
import Derived.Laws.OwnMore
import Derived.Deep.OwnRows
import Derived.Tactics
import Derived.Lib.ConvBytes
import Derived.Laws.Slices
import Derived.WalkKit
import Derived.KernelRfl
import Derived.RowKit3
import Derived.Deep.LoopGhost
import Derived.Deep.QuietTactic
import Derived.BigQuiet
import Derived.WideLaws
import Derived.Deep.DeepCutAuto
import Derived.Deep.CutBlock
import Derived.Deep.RegionHeld3
import Derived.Laws.Rows
import Derived.Lib.AppendStr
import Derived.ArgAppend
import Derived.Laws.IdiomCopy
import Derived.OrdersHeld
import Derived.Laws.BitsLemmas
import Derived.RowKit
import Derived.Test.YtjpaabjhlaibfaaMore
import Derived.Test.YtjpaabjhlaibfaaWWords
import Derived.Test.YtjpaabjhlaibfaaWLast
import Derived.Test.YtjpaabjhlaibfaaWTab
import Derived.Test.YtjpaabjhlaibfaaWFour
import Derived.Test.YtjpaabjhlaibfaaWQPut
import Derived.Test.YtjpaabjhlaibfaaWApart
import Derived.Test.YtjpaabjhlaibfaaWArr
import Derived.Test.YtjpaabjhlaibfaaWZeros
import Derived.Test.YtjpaabjhlaibfaaWFoot
import Derived.Test.YtjpaabjhlaibfaaWKept
import Derived.Test.YtjpaabjhlaibfaaWShare
import Derived.Test.YtjpaabjhlaibfaaWN
import Derived.Test.YtjpaabjhlaibfaaWFootNe
import Derived.Test.YtjpaabjhlaibfaaWAt
import Derived.Test.YtjpaabjhlaibfaaWEqStruct
import Derived.Test.YtjpaabjhlaibfaaWRepsOne
import Derived.Test.YtjpaabjhlaibfaaWInv
import Derived.Test.YtjpaabjhlaibfaaWInvWords
import Derived.Test.YtjpaabjhlaibfaaWGuard
import Derived.Test.YtjpaabjhlaibfaaWNEv
import Derived.Test.YtjpaabjhlaibfaaWMore
namespace Go.Proofs.Ytjpaabjhlaibfaa.Q
open Go.RowKit Go.Proofs.YtjpaabjhlaibfaaW.PrintWords Go.Proofs.YtjpaabjhlaibfaaW.PrintLast
set_option linter.unusedVariables false
set_option linter.unusedSimpArgs false
theorem goesF_ {P : Program} {ops : Array Oper} {Q : Exit → Act → World → Prop} {rest : List Oper} {oi : Oper} {a : Act} {w : World} (N : Option Tmp) (hd : oi.dst = N) (hg : oi.guard = none) {f : FuncId} {x : Operand} {lb : Array Value} {ax : Array Operand} {ts : Array TypeId}
    (hent : ∀ (args : Array Value) (w : World), (callFunc f args).run P w = .ok (.enter f args) w) (args : Array Value) (hop : oi.op = .call { callee := .value x, args := ax, argTypes := ts }) (hx : a.eval x = .func (.func f) #[] lb) (hargs : ax.map a.eval = args)
    (h : Calls P f (args ++ lb) w fun e w' => ∃ v, e = .returned v ∧ wpList P ops Q rest (a.put N v) w') : wpList P ops Q (oi :: rest) a w := by
  refine wpList_plain hg fun K hK => ?_
  have hrun : (execOp a.eval oi).run P w = .ok (.enter f (args ++ lb)) w := by
    unfold execOp
    simp [hop, hx, resolve, Deferred.ofValue, invoke, hargs, hent]
  unfold Oper.wp
  rw [hrun, Oper.upon_enter]
  refine h.mono fun e w'' hh => ?_
  obtain ⟨v, rfl, hk⟩ := hh
  subst hd
  exact hK _ _ hk
theorem rd_mapped (G : Int → Int) (L : List Int) (i : Nat) (h : i < L.length) : rd ((L.take i).map G ++ L.drop i) (i : Int) = L.getD i 0 := by
  unfold rd
  rw [Int.toNat_natCast, List.getD_eq_getElem?_getD, List.getD_eq_getElem?_getD, List.getElem?_append_right (by simp; omega)]
  simp [List.length_take, Nat.min_eq_left (Nat.le_of_lt h), List.getElem?_drop]
theorem set_mapped (G : Int → Int) (L : List Int) (i : Nat) (h : i < L.length) : ((L.take i).map G ++ L.drop i).set i (G (L.getD i 0)) = (L.take (i + 1)).map G ++ L.drop (i + 1) := by
  have e : i - ((L.take i).map G).length = 0 := by simp; omega
  have e2 : L.take (i + 1) = L.take i ++ [L[i]] := by rw [List.take_add_one, List.getElem?_eq_getElem h]; rfl
  have e3 : L.getD i 0 = L[i] := by rw [List.getD_eq_getElem?_getD, List.getElem?_eq_getElem h]; rfl
  rw [List.set_append_right _ _ (by simp; omega), e, List.drop_eq_getElem_cons h, List.set_cons_zero, e2, e3, List.map_append, List.append_assoc]
  rfl
set_option maxRecDepth 100000 in
set_option maxHeartbeats 4000000 in
theorem pix_each.calls (gf : FuncId) (lb : Array Value) (G : Int → Int) (k : Nat) (p r1 r2 : Int) (L : List Int) (w : World) (hU : pix_Unpack.f p = some L) (hL : L.length ≤ 3) (hP : pix_Pack.f k (L.map G) = some (r1, r2))
    (hent : ∀ (args : Array Value) (w : World), (callFunc gf args).run Try.prog w = .ok (.enter gf args) w)
    (hG : ∀ W, Below w.heap.size w W → ∀ n ∈ L, Calls Try.prog gf (#[.int .i64 n] ++ lb) W fun e W' => e = .returned (.int .i64 (G n)) ∧ ∃ nd, W' = W.drewN nd) :
    Calls Try.prog 35 #[.int .u64 p, .func (.func gf) #[] lb] w fun e w' => e = .returned (.int .u64 r1) ∧ Below w.heap.size w w' := by
  have HL3 := Aside0.mk hL
  have hcl : slices_Clone_int_int.f L = some L := by unfold slices_Clone_int_int.f; rw [if_pos (by omega)]
  go_enter Try.func35, Try.ntmps35
  go_wp2_with (first | ((with_reducible refine gate_callee (f := 14) rfl ?_); refine goesL_ (some 11) rfl rfl Try.func14 (by kernel_rfl) rfl #[.int .u64 p] rfl (by (try simp only [List.map_toArray, List.map_cons, List.map_nil]); rfl) ?_; refine (pix_Unpack.calls p L _ hU).mono ?_; rintro e w1 ⟨v0, rfl, hV, hb⟩; refine ⟨_, rfl, ?_⟩; obtain ⟨A1, c1, rfl, hc1, hF⟩ := hV; have HF := Aside0.mk (Kd.F_now hF); have HB1 := Aside0.mk hb; clear hF hb) | ((with_reducible refine gate_callee (f := 39) rfl ?_); refine goesL_ (some 12) rfl rfl Try.func39 (by kernel_rfl) rfl #[.slice A1 L.length c1] rfl (by (try simp only [List.map_toArray, List.map_cons, List.map_nil]); rfl) ?_; refine (slices_Clone_int_int.calls A1 c1 L L _ HF.out hc1 hcl).mono ?_; rintro e w2 ⟨v2, rfl, hR, hb⟩; refine ⟨_, rfl, ?_⟩; have HR := Aside0.mk (Kd.R_lower hR HB1.out.size); have HB := Aside0.mk (below_step HB1.out hb); obtain ⟨A2, c2, rfl⟩ := Kd.R_slice hR; clear hR hb))
  go_loopg [15] (L.length + 1) (fun kq v15 w' => ∃ (i : Nat), v15 = .int .i64 (i : Int) ∧ Aside0 (kq + i = L.length + 1) ∧ Aside0 (i ≤ L.length) ∧ Aside0 (Kd.R (Kd.int .i64) 3 w' w.heap.size (fun _ => True) (.slice A2 L.length c2) ((L.take i).map G ++ L.drop i)) ∧ Aside0 (Below w.heap.size w w'))
  case atStart => exact ⟨0, rfl, ⟨rfl⟩, ⟨by omega⟩, ⟨by simpa using HR.out⟩, HB⟩
  case round =>
    clear HR HB HF HB1
    obtain ⟨i, rfl, HM, HI, HR, HB⟩ := hrel
    obtain ⟨k1, rfl⟩ : ∃ m, gk = m + 1 := ⟨gk - 1, by have h1 := HM.out; have h2 := HI.out; omega⟩
    have hlen : L.length = ((L.take i).map G ++ L.drop i).length := (Kd.R_reads' HR.out).1
    by_cases c : i < L.length
    · have c0 : decide ((i : Int) < (L.length : Int)) = true := decide_eq_true (by omega)
      obtain ⟨go, co, eo, gb, gl, cl, HG⟩ := Kd.R_form HR.out (by rw [← hlen]; omega)
      injection eo with ea en ec
      subst ea
      subst ec
      obtain ⟨hx, hf⟩ := Kd.R_celln 0 HR.out (i : Int) (by omega) (by omega)
      rw [Int.toNat_natCast] at hx hf
      have hx' : wr.cell? ⟨go, i, none⟩ = some (.int .i64 (L.getD i 0)) := hx.trans (by rw [← rd_mapped G L i c]; rfl)
      have HLEN := Aside0.mk hlen
      have HGB := Aside0.mk gb
      have HPP := Aside0.mk hP
      have HGG := Aside0.mk hG
      clear hx HG gl cl en hU hP hlen gb hL
      have hmem : L.getD i 0 ∈ L := by rw [List.getD_eq_getElem?_getD, List.getElem?_eq_getElem c]; exact List.getElem_mem c
      have hset := Aside0.mk (Kd.R_putn HR.out (i : Int) (G (L.getD i 0)))
      have hsm := set_mapped G L i c
      have q0 : ((i : Int) < (L.length : Int)) = True := eq_true (by omega)
      generalize L.getD i 0 = v at *
      have HSM := Aside0.mk hsm
      clear hsm hset
      have HG1 := Aside0.mk (hG wr HB.out _ hmem)
      clear hG hmem
      go_wp2_with ((with_reducible refine gate_dst (N := 24) rfl ?_); refine goesF_ (some 24) rfl rfl (x := .tmp 22) (lb := lb) (f := gf) hent #[.int .i64 v] rfl rfl (by (try simp only [List.map_toArray, List.map_cons, List.map_nil]); rfl) ?_; refine HG1.out.mono ?_; rintro e w5 ⟨rfl, ⟨nd, rfl⟩⟩; refine ⟨_, rfl, ?_⟩)
      go_roundg k1
      case measure => omega
      case rel =>
        have hR := Kd.R_putn (Kd.R_drewN HR.out nd) (i : Int) (G v)
        rw [Int.toNat_natCast, HSM.out] at hR
        exact ⟨i + 1, by rw [show wrap64 ((i : Int) + 1) = ((i + 1 : Nat) : Int) from (by have h1 := HI.out; have h2 := HL3.out; unfold wrap64; omega)], ⟨by have := HM.out; omega⟩, ⟨c⟩, ⟨hR⟩, ⟨below_set (pw_below_drewN HB.out _) HGB.out⟩⟩
    · have c0 : decide ((i : Int) < (L.length : Int)) = false := decide_eq_false (by omega)
      have hi : i = L.length := by have := HI.out; omega
      have hx : (L.take i).map G ++ L.drop i = L.map G := by rw [hi]; simp
      rw [hx] at HR hlen
      have HLEN := Aside0.mk hlen
      have HPP := Aside0.mk hP
      have c0n : decide (i < L.length) = false := decide_eq_false c
      clear hlen hP hU hG hx hi
      go_wp2_with (first | ((with_reducible refine gate_callee (f := 10) rfl ?_); refine goesL_ (some 29) rfl rfl Try.func10 (by kernel_rfl) rfl #[.slice A2 (L.map G).length c2] rfl (by (try simp only [List.map_toArray, List.map_cons, List.map_nil]); first | rfl | (rw [← HLEN.out]; rfl)) ?_; refine (pix_Pack.calls k A2 c2 (L.map G) r1 r2 _ (Kd.R_reads' HR.out).2.2 (by rw [← HLEN.out]; exact (Kd.R_reads' HR.out).2.1) HPP.out).mono ?_; rintro e w6 ⟨rfl, ⟨nd, rfl⟩⟩; refine ⟨_, rfl, ?_⟩))
      go_ret
      exact ⟨rfl, pw_below_drewN HB.out _⟩
def pix_each_Turned.f (a0 c m : Int) : Option Int := (pix_Unpack.f a0).bind fun L => (pix_Pack.f 10 (L.map fun n => wrap64 (m - n))).bind fun r => some r.1
def pix_each_Scaled.f (a0 t_ from_ : Int) : Option Int := (pix_Unpack.f a0).bind fun L => if from_ = 0 then none else (pix_Pack.f 10 (L.map fun n => wrap64 (Int.tdiv (wrap64 (wrap64 (n * t_) + wrap64 (Int.tdiv from_ 2))) from_))).bind fun r => some r.1
theorem pixL_len3 (p : Int) : (pixL p).length ≤ 3 := by
  unfold pixL
  split
  · simp
  · split <;> simp
set_option maxRecDepth 100000 in
set_option maxHeartbeats 4000000 in
theorem pix_each_Turned.calls (a0 c m : Int) (g : Nat) (r : Int) (w : World) (hb : w.heap[g]? = some (.cells #[.int .i64 c, .int .i64 m] 36 (0, 0))) (h : pix_each_Turned.f a0 c m = some r) :
    Calls Try.prog 35 #[.int .u64 a0, .func (.func 37) #[] #[.pointer (some ⟨g, 0, none⟩)]] w fun e w' => e = .returned (.int .u64 r) ∧ Below w.heap.size w w' := by
  unfold pix_each_Turned.f at h
  obtain ⟨L, hU, h⟩ := Option.bind_eq_some_iff.mp h
  obtain ⟨⟨r1, r2⟩, hP, h⟩ := Option.bind_eq_some_iff.mp h
  obtain rfl := Option.some.inj h
  have hL : L.length ≤ 3 := by
    unfold pix_Unpack.f at hU
    split at hU
    · obtain rfl := Option.some.inj hU
      exact pixL_len3 a0
    · simp at hU
  have hlt : g < w.heap.size := (Array.getElem?_eq_some_iff.1 hb).1
  refine pix_each.calls 37 _ (fun n => wrap64 (m - n)) 10 a0 _ r2 L w hU hL hP (enters_ Try.func37 (by kernel_rfl) rfl) ?_
  intro W hW n hn
  have hbW : W.heap[g]? = some (.cells #[.int .i64 c, .int .i64 m] 36 (0, 0)) := (hW.block g hlt).trans hb
  have hc : W.cell? ⟨g, 1, none⟩ = some (.int .i64 m) := by simp [World.cell?, hbW]
  have hu := Try.underlying36
  clear hbW hb hU hP hW hL hlt h hn
  show Calls Try.prog 37 #[.int .i64 n, .pointer (some ⟨g, 0, none⟩)] W _
  go_enter Try.func37, Try.ntmps37
  go_wp2
  go_ret
  exact ⟨rfl, 0, rfl⟩
set_option maxRecDepth 100000 in
set_option maxHeartbeats 4000000 in
theorem pix_each_Scaled.calls (a0 t_ from_ : Int) (g1 g2 : Nat) (r : Int) (w : World) (hb1 : w.heap[g1]? = some (.cells #[.int .i64 t_] 3 (0, 0))) (hb2 : w.heap[g2]? = some (.cells #[.int .i64 from_] 3 (0, 0))) (h : pix_each_Scaled.f a0 t_ from_ = some r) :
    Calls Try.prog 35 #[.int .u64 a0, .func (.func 36) #[] #[.pointer (some ⟨g1, 0, none⟩), .pointer (some ⟨g2, 0, none⟩)]] w fun e w' => e = .returned (.int .u64 r) ∧ Below w.heap.size w w' := by
  unfold pix_each_Scaled.f at h
  obtain ⟨L, hU, h⟩ := Option.bind_eq_some_iff.mp h
  split at h
  · simp at h
  rename_i hz
  obtain ⟨⟨r1, r2⟩, hP, h⟩ := Option.bind_eq_some_iff.mp h
  obtain rfl := Option.some.inj h
  have hL : L.length ≤ 3 := by
    unfold pix_Unpack.f at hU
    split at hU
    · obtain rfl := Option.some.inj hU
      exact pixL_len3 a0
    · simp at hU
  have hlt1 : g1 < w.heap.size := (Array.getElem?_eq_some_iff.1 hb1).1
  have hlt2 : g2 < w.heap.size := (Array.getElem?_eq_some_iff.1 hb2).1
  refine pix_each.calls 36 _ (fun n => wrap64 (Int.tdiv (wrap64 (wrap64 (n * t_) + wrap64 (Int.tdiv from_ 2))) from_)) 10 a0 _ r2 L w hU hL hP (enters_ Try.func36 (by kernel_rfl) rfl) ?_
  intro W hW n hn
  have hc1 : W.cell? ⟨g1, 0, none⟩ = some (.int .i64 t_) := by simp [World.cell?, (hW.block g1 hlt1).trans hb1]
  have hc2 : W.cell? ⟨g2, 0, none⟩ = some (.int .i64 from_) := by simp [World.cell?, (hW.block g2 hlt2).trans hb2]
  clear hb1 hb2 hU hP hW hL hlt1 hlt2 h hn
  show Calls Try.prog 36 #[.int .i64 n, .pointer (some ⟨g1, 0, none⟩), .pointer (some ⟨g2, 0, none⟩)] W _
  go_enter Try.func36, Try.ntmps36
  go_wp2
  go_ret
  exact ⟨rfl, 0, rfl⟩
end Go.Proofs.Ytjpaabjhlaibfaa.Q
