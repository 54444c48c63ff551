/- slices.Repeat of one number: a row of the call's own. -/
import Derived.Test.YtdjjipinmcmfeaaQ0
import Derived.Test.YtdjjipinmcmfeaaQ10
import Derived.Below
import Derived.Deep.Draws
import Derived.Deep.AppendLies
import Derived.Maps.AppendAt
import Derived.OwnWalk
import Derived.Laws.BytesArg
import Derived.Laws.MakeOwn
import Derived.Laws.OwnMore
import Derived.Deep.OwnRows
import Derived.Tactics
import Derived.Lib.ConvBytes
import Derived.Laws.Slices
import Derived.WalkKit
import Derived.KernelRfl
import Derived.RowKit3
import Derived.Deep.LoopGhost
import Derived.Deep.QuietTactic
import Derived.BigQuiet
import Derived.WideLaws
import Derived.Deep.DeepCutAuto
import Derived.Deep.CutBlock
import Derived.Deep.RegionHeld3
import Derived.Laws.Rows
import Derived.Lib.AppendStr
import Derived.ArgAppend
import Derived.Laws.IdiomCopy
import Derived.OrdersHeld
import Derived.Laws.BitsLemmas
import Derived.RowKit
import Derived.Test.YtdjjipinmcmfeaaMore
import Derived.Test.YtdjjipinmcmfeaaWWords
import Derived.Test.YtdjjipinmcmfeaaWLast
import Derived.Test.YtdjjipinmcmfeaaWTab
import Derived.Test.YtdjjipinmcmfeaaWFour
import Derived.Test.YtdjjipinmcmfeaaWQPut
import Derived.Test.YtdjjipinmcmfeaaWApart
import Derived.Test.YtdjjipinmcmfeaaWArr
import Derived.Test.YtdjjipinmcmfeaaWZeros
import Derived.Test.YtdjjipinmcmfeaaWFoot
import Derived.Test.YtdjjipinmcmfeaaWKept
import Derived.Test.YtdjjipinmcmfeaaWShare
import Derived.Test.YtdjjipinmcmfeaaWN
import Derived.Test.YtdjjipinmcmfeaaWFootNe
import Derived.Test.YtdjjipinmcmfeaaWAt
import Derived.Test.YtdjjipinmcmfeaaWEqStruct
import Derived.Test.YtdjjipinmcmfeaaWRepsOne
import Derived.Test.YtdjjipinmcmfeaaWInv
import Derived.Test.YtdjjipinmcmfeaaWInvWords
import Derived.Test.YtdjjipinmcmfeaaWGuard
import Derived.Test.YtdjjipinmcmfeaaWNEv
import Derived.Test.YtdjjipinmcmfeaaWMore
import Derived.Laws.BitsLemmas
import Derived.Laws.CopyOwn
import Derived.Deep.RegionLaw
namespace Go.Proofs.Ytdjjipinmcmfeaa.Q
open Go.RowKit Go.Proofs.YtdjjipinmcmfeaaW.PrintWords Go.Proofs.YtdjjipinmcmfeaaW.PrintLast
set_option linter.unusedVariables false
set_option linter.unusedSimpArgs false
def slices_Repeat_int_int.f (l0 : List Int) (a1 : Int) : Option (List Int) := if l0.length = 1 ∧ 0 ≤ a1 ∧ a1 ≤ 4096 then some (List.replicate a1.toNat (l0.getD 0 0)) else none
theorem u64w (n : Int) (h0 : 0 ≤ n) (h1 : n < 2 ^ 64) : IntKind.u64.wrap n = n := by
  simp [IntKind.wrap, IntKind.bits, IntKind.signed]
  omega
theorem mul_one_ (n : Int) (h0 : 0 ≤ n) (h1 : n ≤ 4096) : bits_Mul.f 1 n = some (0, n) := by
  have m1 : Go.bits .and .u64 1 4294967295 = 1 := bits_mask .u64 64 (by decide) u64w 32 (by decide) 1 (by omega) (by omega)
  have m2 : Go.bits .and .u64 n 4294967295 = n % 4294967296 := bits_mask .u64 64 (by decide) u64w 32 (by decide) n h0 (by omega)
  have m3 : Go.bits .and .u64 0 4294967295 = 0 := bits_mask .u64 64 (by decide) u64w 32 (by decide) 0 (by omega) (by omega)
  have e1 : n % 4294967296 = n := by omega
  have e2 : n / 4294967296 = 0 := by omega
  have e3 : (1 : Int) / 4294967296 = 0 := by decide
  have w0 : IntKind.u64.wrap 0 = 0 := u64w 0 (by omega) (by omega)
  have wn : IntKind.u64.wrap n = n := u64w n h0 (by omega)
  unfold bits_Mul.f bits_Mul64.f
  simp only [m1, m2, e1, e2, e3, Int.zero_mul, Int.mul_zero, Int.one_mul, w0, wn, Int.add_zero, Int.zero_add, m3, Option.bind_some, Int.zero_ediv]
theorem R_of_block {W : World} {base g cap : Nat} {cur : List Value} (v : Int) (n : Nat) (hg : W.heap[g]? = some (.cells cur.toArray 3 (0, 0))) (hb : base ≤ g) (hn : n ≤ cap) (hm : cap ≤ maxLen) (hc : cur.length = cap) (hv : ∀ j, j < n → cur[j]? = some (.int .i64 v)) :
    Kd.R (Kd.int .i64) 3 W base (fun _ => True) (.slice (some ⟨g, 0, none⟩) n cap) (List.replicate n v) := by
  have ht : cur.take n = List.replicate n (.int .i64 v) := by
    apply List.ext_getElem?
    intro j
    by_cases hj : j < n
    · rw [List.getElem?_take_of_lt hj, hv j hj, List.getElem?_replicate, if_pos hj]
    · rw [List.getElem?_eq_none (by simp; omega), List.getElem?_eq_none (by simp; omega)]
  refine ⟨fun _ _ => trivial, List.replicate n (.int .i64 v), ?_, ?_⟩
  · have h3 : W.ownsRow base 3 1 (.slice (some ⟨g, 0, none⟩) n cap) n (List.replicate n (.int .i64 v)) := ⟨by simp, .inr ⟨g, cap, cur.toArray, rfl, hb, hg, hn, hm, by simp [hc], by simpa using ht⟩⟩
    rw [List.length_replicate]
    exact h3
  · have : Reps (Kd.M (Kd.int .i64) W base (fun _ => True)) 1 (List.replicate n v) (List.replicate n (.int .i64 v)) := by
      refine ⟨by simp, fun j p hj => ?_⟩
      obtain ⟨hjl, hp⟩ := List.getElem?_eq_some_iff.1 hj
      have hjn : j < n := by simpa using hjl
      have hp' : v = p := by simpa using hp
      subst hp'
      show ((List.replicate n (Value.int .i64 v)).drop (j * 1)).take 1 = [.int .i64 v]
      have : 1 ≤ n - j := by omega
      simp [List.take_replicate, Nat.min_eq_left this]
    exact this
theorem R_parts {W : World} {base : Nat} {ok : Nat → Prop} {v : Value} {xs : List Int} (h : Kd.R (Kd.int .i64) 3 W base ok v xs) (hp : 0 < xs.length) :
    ∃ (g cap : Nat) (cur : List Value), v = .slice (some ⟨g, 0, none⟩) xs.length cap ∧ base ≤ g ∧ W.heap[g]? = some (.cells cur.toArray 3 (0, 0)) ∧ xs.length ≤ cap ∧ cap ≤ maxLen ∧ cur.length = cap := by
  obtain ⟨_, inner, ho, _⟩ := h
  have ho' : W.ownsRow base 3 1 v xs.length inner := ho
  rcases ho'.2 with ⟨_, h0⟩ | ⟨g, cap, cur, hv, hb, hg, hn, hm, hs, _⟩
  · omega
  · exact ⟨g, cap, cur.toList, hv, hb, by simpa using hg, hn, hm, by simpa using hs⟩
theorem splice_get {α : Type} (cur : List α) (m c : Nat) (x : α) (h : m + c ≤ cur.length) (hv : ∀ j, j < m → cur[j]? = some x) : ∀ j, j < m + c → (splice cur m (List.replicate c x))[j]? = some x := by
  intro j hj
  unfold splice
  by_cases h1 : j < m
  · rw [List.getElem?_append_left (by simp; omega), List.getElem?_take_of_lt h1, hv j h1]
  · rw [List.getElem?_append_right (by simp; omega)]
    have e : j - (cur.take m).length = j - m := by simp; omega
    rw [e, List.getElem?_append_left (by simp; omega), List.getElem?_replicate, if_pos (by omega)]
theorem slices_Repeat_int_int.info : (Try.prog.info? 3).map (fun i => (i.zero, i.size, i.bytes)) = some (some (.int .i64 0), 1, 8) := by kernel_rfl
theorem slices_Repeat_int_int.size1 : (Try.prog.info? 3).map (·.size) = some 1 := by kernel_rfl
set_option maxRecDepth 100000 in
set_option maxHeartbeats 4000000 in
theorem slices_Repeat_int_int.calls (A0 : Option Addr) (c0 : Nat) (l0 : List Int) (a1 : Int) (r : List Int) (w : World) (hr0 : Kd.C (Kd.int .i64) w A0 l0.length l0) (hc0 : l0.length ≤ c0) (h : slices_Repeat_int_int.f l0 a1 = some r) :
    Calls Try.prog 33 #[.slice A0 l0.length c0, .int .i64 a1] w fun e w' => ∃ v0_ : Value, e = .returned (v0_) ∧ Kd.R (Kd.int .i64) 3 w' w.heap.size (fun _ => True) v0_ r ∧ Below w.heap.size w w' := by
  unfold slices_Repeat_int_int.f at h
  split at h
  · rename_i hh
    obtain ⟨hl, ha0, ha1⟩ := hh
    obtain rfl := Option.some.inj h
    clear h
    obtain ⟨n, rfl⟩ : ∃ n : Nat, a1 = (n : Int) := ⟨a1.toNat, by omega⟩
    obtain ⟨ad, rfl, hcell⟩ := Kd.at_int hr0 0 (by omega) (by omega)
    have hl1 : (l0.length : Int) = 1 := by omega
    have hrd : rd l0 0 = l0.getD 0 0 := rfl
    rw [hrd] at hcell
    generalize l0.getD 0 0 = v at *
    have hcell' : w.cell? (ad.add 0) = some (.int .i64 v) := hcell
    rw [hl] at hc0 ⊢
    clear hl1 hrd hr0 hl hcell
    have HA0 := Aside0.mk ha1
    have HMUL := Aside0.mk (mul_one_ (n : Int) (by omega) ha1)
    have wn : IntKind.u64.wrap (n : Int) = (n : Int) := u64w n (by omega) (by omega)
    have wn2 : IntKind.i64.wrap (n : Int) = (n : Int) := by simp [IntKind.wrap, IntKind.bits, IntKind.signed]; omega
    have wn3 : wrap64 (n : Int) = (n : Int) := by clear wn wn2; unfold wrap64; omega
    have q0 : decide ((n : Int) < 0) = false := decide_eq_false (by omega)
    have q1 : decide ((n : Int) > 9223372036854775807) = false := decide_eq_false (by omega)
    have q2 : decide (9223372036854775807 < (n : Int)) = false := decide_eq_false (by omega)
    have HB := Aside0.mk (Below.refl w.heap.size w)
    clear ha0 ha1
    rw [Int.toNat_natCast]
    by_cases hn0 : n = 0
    · subst hn0
      go_enter Try.func33, Try.ntmps33
      go_wp2_with (first | ((with_reducible refine gate_callee (f := 35) rfl ?_); refine goesL_ (some 18) rfl rfl Try.func35 (by kernel_rfl) rfl #[.int .u64 1, .int .u64 ((0 : Nat) : Int)] rfl (by (try simp only [List.map_toArray, List.map_cons, List.map_nil]); rfl) ?_; refine (bits_Mul.calls 1 ((0 : Nat) : Int) 0 ((0 : Nat) : Int) _ HMUL.out).mono ?_; rintro e w1 ⟨rfl, ⟨nd, rfl⟩⟩; refine ⟨_, rfl, ?_⟩) | ((with_reducible refine gate_dst (N := 30) rfl ?_); refine Kd.R_make (Kd.int .i64) (w0 := w) w.heap.size 3 rfl rfl 28 (.tmp 29) (.tmp 29) rfl ((0 : Nat) : Int) rfl rfl Try.underlying28 (.int .i64 0) 8 slices_Repeat_int_int.info rfl (by decide) (by decide) (0 : Int) (ok := fun _ => True) (okp := fun _ => True) rfl (fun _ h => h) trivial (by omega) (by have := HA0.out; omega) (pw_below_drewN HB.out _) (Nat.le_refl _) ?_; intro v1 w2 hR hb hg hbl; have HR := Aside0.mk hR; have HB2 := Aside0.mk hb; clear hR hb hg hbl; obtain ⟨A1, c1, rfl⟩ := Kd.R_slice HR.out) | ((with_reducible refine gate_dst (N := 33) rfl ?_); refine wpList_copy_nothing rfl (.tmp 31) (.tmp 32) 28 28 rfl 3 Try.underlying28 slices_Repeat_int_int.size1 _ _ _ _ _ _ rfl rfl (by simp) ?_))
      refine wp_loop_rounds 1 ?_
      rw [rounds_succ]
      go_wp2
      go_ret
      exact ⟨_, rfl, HR.out, HB2.out⟩
    · have hn1 : 1 ≤ n := by omega
      go_enter Try.func33, Try.ntmps33
      go_wp2_with (first | ((with_reducible refine gate_callee (f := 35) rfl ?_); refine goesL_ (some 18) rfl rfl Try.func35 (by kernel_rfl) rfl #[.int .u64 1, .int .u64 (n : Int)] rfl (by (try simp only [List.map_toArray, List.map_cons, List.map_nil]); rfl) ?_; refine (bits_Mul.calls 1 (n : Int) 0 (n : Int) _ HMUL.out).mono ?_; rintro e w1 ⟨rfl, ⟨nd, rfl⟩⟩; refine ⟨_, rfl, ?_⟩) | ((with_reducible refine gate_dst (N := 30) rfl ?_); refine Kd.R_make (Kd.int .i64) (w0 := w) w.heap.size 3 rfl rfl 28 (.tmp 29) (.tmp 29) rfl (n : Int) rfl rfl Try.underlying28 (.int .i64 0) 8 slices_Repeat_int_int.info rfl (by decide) (by decide) (0 : Int) (ok := fun _ => True) (okp := fun _ => True) rfl (fun _ h => h) trivial (by omega) (by have := HA0.out; omega) (pw_below_drewN HB.out _) (Nat.le_refl _) ?_; intro v1 w2 hR hb hg hbl; rw [Int.toNat_natCast] at hR; obtain ⟨g1, cap, cur, ev, hgb, hgc, hcn, hcm, hcl⟩ := R_parts hR (by rw [List.length_replicate]; exact hn1); rw [List.length_replicate] at ev hcn; subst ev; have HGC := Aside0.mk hgc; have HGB := Aside0.mk hgb; have HCN := Aside0.mk hcn; have HCM := Aside0.mk hcm; have HCL := Aside0.mk hcl; have HB2 := Aside0.mk hb; have HCE := Aside0.mk ((hb.cell (World.block_lt_of_cell? w _ hcell')).trans hcell'); have HN := Aside0.mk (show ([.int .i64 v] : List Value).length = Nat.min 1 n from by rw [show Nat.min 1 n = 1 from Nat.min_eq_left hn1]; rfl); have HP := Aside0.mk (show ∀ (j : Nat) (u : Value), ([.int .i64 v] : List Value)[j]? = some u → w2.cell? (ad.add j) = some u from fun j u hj => (by obtain ⟨hj1, hj2⟩ := List.getElem?_eq_some_iff.1 hj; obtain rfl : j = 0 := (by simpa using hj1); obtain rfl : .int .i64 v = u := hj2; exact HCE.out)); have HF := Aside0.mk (show 0 + ([.int .i64 v] : List Value).length ≤ cur.length from by have h1 := HCN.out; have h2 := HCL.out; simp; omega); have H1 := Aside0.mk (show ∀ u ∈ ([.int .i64 v] : List Value), u.oneCell' = true from by intro u hu; simp at hu; subst hu; rfl); clear hR hb hg hbl hgb hgc hcn hcm hcl) | ((with_reducible refine gate_dst (N := 33) rfl ?_); refine wpList_copy_splice rfl (.tmp 31) (.tmp 32) 28 28 rfl 3 Try.underlying28 slices_Repeat_int_int.size1 (some ⟨g1, 0, none⟩) (some ad) n cap 1 c0 rfl rfl g1 0 cur 3 HGC.out [.int .i64 v] HN.out (fun _ => ⟨rfl, ad, rfl, HP.out⟩) HF.out H1.out w.heap.size w HB2.out HGB.out ?_; intro w3 hg3 hb3; have HG3 := Aside0.mk hg3; have HB3 := Aside0.mk hb3; clear hg3 hb3))
      go_loopg [8] (n + 1) (fun kq v8 w' => ∃ (m : Nat) (cu : List Value), v8 = .int .i64 (m : Int) ∧ Aside0 (n + 1 ≤ kq + m) ∧ Aside0 (1 ≤ m ∧ m ≤ n) ∧ Aside0 (w'.heap[g1]? = some (.cells cu.toArray 3 (0, 0))) ∧ Aside0 (cu.length = cap) ∧ Aside0 (∀ j, j < m → cu[j]? = some (.int .i64 v)) ∧ Aside0 (Below w.heap.size w w'))
      case atStart => exact ⟨1, _, rfl, ⟨by omega⟩, ⟨by omega⟩, HG3, ⟨by rw [length_splice _ _ _ (by have h1 := HCN.out; have h2 := HCL.out; simp; omega)]; exact HCL.out⟩, ⟨splice_get cur 0 1 _ (by have h1 := HCN.out; have h2 := HCL.out; omega) (fun j hj => by omega)⟩, HB3⟩
      case round =>
        obtain ⟨m, cu, rfl, HM, HR, HG, HL, HV, HB⟩ := hrel
        obtain ⟨k1, rfl⟩ : ∃ q, gk = q + 1 := ⟨gk - 1, by have h1 := HM.out; have h2 := HR.out; omega⟩
        by_cases hmn : m < n
        · have c0 : decide ((m : Int) < (n : Int)) = true := decide_eq_true (by omega)
          have hmc : m < cap := by have := HCN.out; omega
          have HSP := Aside0.mk (show m + (List.replicate (min m (n - m)) (Value.int .i64 v)).length ≤ cu.length from by have h1 := HL.out; have h2 := HCN.out; rw [List.length_replicate, h1]; omega)
          have HN2 := Aside0.mk (show (List.replicate (min m (n - m)) (Value.int .i64 v)).length = Nat.min m (n - m) from List.length_replicate)
          have HP2 := Aside0.mk (show ∀ (j : Nat) (u : Value), (List.replicate (min m (n - m)) (Value.int .i64 v))[j]? = some u → wr.cell? ((⟨g1, 0, none⟩ : Addr).add j) = some u from fun j u hj => (by
            obtain ⟨hj1, hj2⟩ := List.getElem?_eq_some_iff.1 hj
            rw [List.length_replicate] at hj1
            rw [List.getElem_replicate] at hj2
            subst hj2
            have e := HV.out j (by omega)
            have ea : (⟨g1, 0, none⟩ : Addr).add j = ⟨g1, j, none⟩ := by unfold Addr.add; split <;> simp_all
            rw [ea]
            simp [World.cell?, HG.out, e]))
          have H12 := Aside0.mk (show ∀ u ∈ List.replicate (min m (n - m)) (Value.int .i64 v), u.oneCell' = true from by intro u hu; obtain ⟨_, rfl⟩ := List.mem_replicate.1 hu; rfl)
          have hmn' : m ≤ n := by omega
          have hcne : ¬ cap = m := by omega
          have hmc' : m ≤ cap := by omega
          have HB4 := Aside0.mk (below_drew1 HB.out)
          have HG4 := Aside0.mk (blk_drew HG.out)
          go_wp2
          go_region_law (refine step_copy_splice rfl (.tmp 41) (.tmp 44) 28 28 rfl 3 Try.underlying28 slices_Repeat_int_int.size1 (some ⟨g1, m, none⟩) (some ⟨g1, 0, none⟩) (n - m) (cap - m) m cap (by simp [Act.eval, Act.put]) (by simp [Act.eval, Act.put]) g1 m cu 3 HG4.out (List.replicate (min m (n - m)) (Value.int .i64 v)) HN2.out (fun _ => ⟨rfl, _, rfl, HP2.out⟩) HSP.out H12.out w.heap.size w HB4.out HGB.out ?_; intro w5 hg5 hb5)
          go_wp2
          go_roundg k1
          case measure => omega
          case rel =>
            have hl : (List.replicate (min m (n - m)) (Value.int .i64 v)).length = min m (n - m) := List.length_replicate
            refine ⟨m + min m (n - m), _, ?_, ⟨by have h1 := HM.out; have h2 := HR.out; omega⟩, ⟨by have h2 := HR.out; omega⟩, ⟨hg5⟩, ⟨by rw [length_splice _ _ _ HSP.out]; exact HL.out⟩, ⟨splice_get cu m _ _ (by have h1 := HSP.out; rw [hl] at h1; exact h1) HV.out⟩, ⟨hb5⟩⟩
            have h1 := HA0.out
            have hw : wrap64 ((m : Int) + ((min m (n - m) : Nat) : Int)) = ((m + min m (n - m) : Nat) : Int) := by clear hl; unfold wrap64; omega
            rw [← hw]
            simp [i64_w]
        · have c0 : decide ((m : Int) < (n : Int)) = false := decide_eq_false (by omega)
          have c0n : decide (m < n) = false := decide_eq_false hmn
          have hmn' : m = n := by have := HR.out; omega
          have HRR := Aside0.mk (R_of_block (base := w.heap.size) v n HG.out HGB.out HCN.out HCM.out HL.out (by rw [← hmn']; exact HV.out))
          clear hmn'
          go_wp2
          go_ret
          exact ⟨_, rfl, HRR.out, HB.out⟩
  · simp at h
end Go.Proofs.Ytdjjipinmcmfeaa.Q
