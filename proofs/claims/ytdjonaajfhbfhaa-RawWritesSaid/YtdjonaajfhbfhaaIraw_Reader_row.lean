/- A raster's reader: the pixels of the row that is told. -/
import Derived.Test.YtdjonaajfhbfhaaQ0
import Derived.Test.YtdjonaajfhbfhaaQ4
import Derived.Test.YtdjonaajfhbfhaaIraw_Reader_sample
import Derived.Test.YtdjonaajfhbfhaaIbits_Unpack
import Derived.Test.YtdjonaajfhbfhaaQ17
import Derived.Below
import Derived.Deep.Draws
import Derived.Deep.AppendLies
import Derived.Maps.AppendAt
import Derived.OwnWalk
import Derived.Laws.BytesArg
import Derived.Laws.MakeOwn
import Derived.Laws.OwnMore
import Derived.Deep.OwnRows
import Derived.Tactics
import Derived.Lib.ConvBytes
import Derived.Laws.Slices
import Derived.WalkKit
import Derived.KernelRfl
import Derived.RowKit3
import Derived.Deep.LoopGhost
import Derived.Deep.QuietTactic
import Derived.BigQuiet
import Derived.WideLaws
import Derived.Deep.DeepCutAuto
import Derived.Deep.CutBlock
import Derived.Deep.RegionHeld3
import Derived.Laws.Rows
import Derived.Lib.AppendStr
import Derived.ArgAppend
import Derived.Laws.IdiomCopy
import Derived.OrdersHeld
import Derived.Laws.BitsLemmas
import Derived.RowKit
import Derived.Test.YtdjonaajfhbfhaaMore
import Derived.Test.YtdjonaajfhbfhaaPeel
import Derived.Test.YtdjonaajfhbfhaaRaw
import Derived.Scope
import Derived.Test.YtdjonaajfhbfhaaWWords
import Derived.Test.YtdjonaajfhbfhaaWLast
import Derived.Test.YtdjonaajfhbfhaaWTab
import Derived.Test.YtdjonaajfhbfhaaWQPut
import Derived.Test.YtdjonaajfhbfhaaWApart
import Derived.Test.YtdjonaajfhbfhaaWArr
import Derived.Test.YtdjonaajfhbfhaaWZeros
import Derived.Test.YtdjonaajfhbfhaaWFoot
import Derived.Test.YtdjonaajfhbfhaaWKept
import Derived.Test.YtdjonaajfhbfhaaWShare
import Derived.Test.YtdjonaajfhbfhaaWN
import Derived.Test.YtdjonaajfhbfhaaWFootNe
import Derived.Test.YtdjonaajfhbfhaaWAt
import Derived.Test.YtdjonaajfhbfhaaWGuard
import Derived.Test.YtdjonaajfhbfhaaWNEv
import Derived.Test.YtdjonaajfhbfhaaWMore
import Derived.Deep.Cut
import Derived.Deep.RegionWith
import Derived.StillTailTactics
import Derived.Test.YtdjonaajfhbfhaaChunk
import Derived.ControlIn
import Derived.RangeFuncCalls
namespace Go.Proofs.Ytdjonaajfhbfhaa.Q
open Go.RowKit Go.Shelf Go.Proofs.YtdjonaajfhbfhaaW.PrintWords Go.Proofs.YtdjonaajfhbfhaaW.PrintLast Go.Proofs.YtdjonaajfhbfhaaW.PrintMore Go.Proofs.Ytdjonaajfhbfhaa.Rg Go.Proofs.Ytdjonaajfhbfhaa.Ck
attribute [local go_sem] Oper.semAt_some
set_option linter.unusedVariables false
set_option linter.unusedSimpArgs false
/-- Sample i of a row's bytes. -/
def sampV (h3 : Int) (b : List Int) (i : Nat) : Int := if h3 ≤ 255 then b.getD i 0 else b.getD (2 * i) 0 * 256 + b.getD (2 * i + 1) 0
theorem raw_sample.is (g : Nat) (h0 h1 h2 h3 : Int) (A : Option Addr) (c : Nat) (b : List Int) (n rows last e : Int) (i : Nat) (w : World) (hb : w.heap[g]? = some (rawObj h0 h1 h2 h3 A b.length c n rows last e)) (hr : Kd.C (Kd.int .u8) w A b.length b) (hl : b.length ≤ 1000000) (hi : sampW h3 * (i + 1) ≤ b.length) (hx : ∀ x ∈ b, 0 ≤ x ∧ x ≤ 255) :
    Calls Try.prog 45 #[.pointer (some ⟨g, 0, none⟩), .int .i64 (i : Int)] w fun e_ w' => e_ = .returned (.int .i64 (sampV h3 b i)) ∧ Below w.heap.size w w' := by
  have hg : ∀ j, j < b.length → 0 ≤ b.getD j 0 ∧ b.getD j 0 ≤ 255 := fun j hj => by
    rw [List.getD_eq_getElem?_getD, List.getElem?_eq_getElem hj]
    exact hx _ (List.getElem_mem hj)
  unfold sampV
  unfold sampW at hi
  by_cases h : h3 ≤ 255
  · rw [if_pos h] at hi ⊢
    exact raw_sample.narrow g h0 h1 h2 h3 A c b n rows last e i w hb hr hl h (by omega) (hg i (by omega))
  · rw [if_neg h] at hi ⊢
    exact raw_sample.wide g h0 h1 h2 h3 A c b n rows last e i w hb hr hl h (by omega) (hg _ (by omega)) (hg _ (by omega))
/-- The samples of a row. -/
def rowL (h0 h1 h3 : Int) (b : List Int) : List Int := if h0 = 4 then bits_row b h1.toNat else (List.range (b.length / sampW h3)).map (sampV h3 b)
/-- Part k of a row. -/
def partL (l : List Int) (d k : Nat) : List Int := (l.drop (k * d)).take d
theorem partL_len {l : List Int} {d k N : Nat} (h : l.length = N * d) (hk : k < N) : (partL l d k).length = d := by
  have := Nat.mul_le_mul_right d (show k + 1 ≤ N from hk)
  rw [Nat.succ_mul] at this
  simp [partL]
  omega
theorem C_part {W : World} {A : Option Addr} {l : List Int} {d k N : Nat} (h : Kd.C (Kd.int .i64) W A (N * d) l) (hk : k < N) (hd : 1 ≤ d) : Kd.C (Kd.int .i64) W (A.map (fun x => x.add (k * d))) d (partL l d k) := by
  obtain ⟨h1, h2, h3⟩ := Kd.reads_of_C (d := (0 : Int)) h
  have hm := Nat.mul_le_mul_right d (show k + 1 ≤ N from hk)
  rw [Nat.succ_mul] at hm
  obtain ⟨ad, rfl, hc⟩ := h3 (by omega)
  refine Kd.C_of_reads (d := (0 : Int)) ⟨partL_len h1 hk, by omega, fun _ => ⟨ad.add (k * d), rfl, fun i hi => ?_⟩⟩
  rw [Addr.add_add, hc (k * d + i) (by omega)]
  congr 2
  unfold partL
  rw [List.getD_eq_getElem?_getD, List.getD_eq_getElem?_getD, List.getElem?_take, if_pos hi, List.getElem?_drop]
theorem pack_part {A : Option Addr} {d : Nat} {l : List Int} {r1 r2 : Int} {W : World} (hl : l.length = d) (hr : Kd.C (Kd.int .i64) W A d l) (h : pix_Pack.f 10 l = some (r1, r2)) :
    Calls Try.prog 62 #[.slice A d d] W fun e w' => e = .returned (.tuple #[.int .u64 r1, .int .i64 r2]) ∧ Drawn0 W w' := by
  subst hl
  exact pix_Pack.calls 10 A _ l r1 r2 W hr (Nat.le_refl _) h
theorem R_putObj_r {α : Type} {d : Kd α} {e : Nat} {W : World} {base : Nat} {ok : Nat → Prop} {v : Value} {xs : List α} (h : d.R e W base ok v xs) {l : Nat} {o : Obj} (o' : Obj) (hl : W.heap[l]? = some o) (ho : o.isCells = false) : d.R e (W.putObj l o') base ok v xs :=
  Kd.R_mono (Kd.R_grown (Kd.R_bound h) (grownBy_putObj' W l o') (fun k hk e' => by
    obtain ⟨_, _, _, q, _, cells, hc⟩ := hk
    obtain rfl : k = l := by simpa using e'
    rw [hl] at hc; cases hc; cases ho)) (fun k hk => hk.1)
/-- What a walk comes to, where it comes to no panic. -/
def np (Q : Exit → Act → World → Prop) : Exit → Act → World → Prop
  | .panic _, _, _ => False
  | .normal, a, w => Q .normal a w
  | .exit i, a, w => Q (.exit i) a w
  | .goto l, a, w => Q (.goto l) a w
  | .ret, a, w => Q .ret a w
  | .outgrown, a, w => Q .outgrown a w
theorem wp_np {P : Program} {c : Code} {Q : Exit → Act → World → Prop} {a : Act} {w : World} (h : c.wp P (np Q) a w) : c.wp P Q a w := wp_mono h (fun e a w h => by
  cases e with
  | panic ch => exact h.elim
  | normal => exact h
  | exit i => exact h
  | goto l => exact h
  | ret => exact h
  | outgrown => exact h)
theorem raw_mixed : Try.prog.follows .mixedOrders = true := by kernel_rfl
theorem pixelInfo : (Try.prog.info? 26).map (fun i => (i.zero, i.size, i.bytes)) = some (some (.int .u64 0), 1, 8) := by kernel_rfl
def wideV (h3 : Int) : Int := if h3 > 255 then 2 else 1
set_option maxRecDepth 100000 in
set_option maxHeartbeats 8000000 in
theorem raw_row.is (g : Nat) (h0 h1 h2 h3 : Int) (A : Option Addr) (c : Nat) (b : List Int) (n rows last e : Int) (w : World) (hb : w.heap[g]? = some (rawObj h0 h1 h2 h3 A b.length c n rows last e)) (hr : Kd.C (Kd.int .u8) w A b.length b) (hc : b.length ≤ c) (hl : b.length ≤ 100000) (hx : ∀ x ∈ b, 0 ≤ x ∧ x ≤ 255)
    (hk : h0 = 4 → 1 ≤ h1 ∧ h1 ≤ 4096 ∧ (h1 + 7) / 8 ≤ b.length) (d N : Nat) (hd : head_Format.f h0 h1 h2 h3 = some ((d : Int), h3)) (hd1 : 1 ≤ d ∧ d ≤ 3) (hN : (rowL h0 h1 h3 b).length = N * d) (hNd : N * d ≤ 100000) (px : Nat → Int) (hp : ∀ k, k < N → ∃ r2, pix_Pack.f 10 (partL (rowL h0 h1 h3 b) d k) = some (px k, r2)) :
    Calls Try.prog 46 #[.pointer (some ⟨g, 0, none⟩)] w fun e_ w' => ∃ v, e_ = .returned v ∧ Kd.R (Kd.int .u64) 26 w' w.heap.size (fun _ => True) v ((List.range N).map px) ∧ Below w.heap.size w w' := by
  have hu := Try.underlying71
  have hu2 := Try.underlying34
  have BK := Aside0.mk hb
  have HR := Aside0.mk hr
  have HLB := Aside0.mk hl
  have HX := Aside0.mk hx
  have HK := Aside0.mk hk
  have HND := Aside0.mk hNd
  have HD := Aside0.mk hd
  have HD1 := Aside0.mk hd1
  have HC := Aside0.mk hc
  unfold rawObj at hb
  have hcz_0 := bc_ (v := .int .i64 h0) hb 0
  have hcz_1 := bc_ (v := .int .i64 h1) hb 1
  have hcz_2 := bc_ (v := .int .i64 h2) hb 2
  have hcz_3 := bc_ (v := .int .i64 h3) hb 3
  have hcz_4 := bc_ (v := .slice A b.length c) hb 4
  have HB := Aside0.mk (Below.refl w.heap.size w)
  obtain ⟨l, hL⟩ : ∃ l, l = rowL h0 h1 h3 b := ⟨_, rfl⟩
  rw [← hL] at hN hp
  have HP := Aside0.mk hp
  have HL := Aside0.mk hL
  have HN := Aside0.mk hN
  clear hL hN hb hr hl hx hk hd hd1 hc hp hNd
  refine (callsIn_wide (n := 3)).1 ?_
  refine callsIn_of_wp_marks Try.func46 rfl trivial ?_ rfl
  simp only [Try.ntmps46, List.size_toArray, List.length_cons, List.length_nil, Nat.reduceAdd, Nat.reduceSub, Array.replicate_succ, Array.replicate_zero, List.push_toArray, List.append_toArray, List.nil_append, List.cons_append]
  refine wpIn_wide.2 (wp_np ?_)
  go_upto_if 14 with (fail)
  go_cut [3] from 4 (fun s3 wc => ∃ (A3 : Option Addr) (c3 : Nat), s3 = .slice A3 l.length c3 ∧ Aside0 (Kd.R (Kd.int .i64) 3 wc w.heap.size (fun _ => True) s3 l) ∧ Aside0 (Below w.heap.size w wc))
  case first =>
    by_cases hk4 : h0 = 4
    · have e0 : (h0 == 4) = true := beq_iff_eq.2 hk4
      have hU : bits_Unpack.f b h1 = some (l, 0) := by
        obtain ⟨k1, k2, k3⟩ := HK.out hk4
        have hok : bits_okU b = true := List.all_eq_true.2 (fun x hx' => by have := HX.out x hx'; simp [this])
        unfold bits_Unpack.f
        rw [if_neg (by omega), if_neg (by omega), if_neg (by omega), if_pos hok, HL.out]
        unfold rowL
        rw [if_pos hk4]
      have HU := Aside0.mk hU
      clear hk4 hU
      go_wp2
      go_region_with (first | (go_at_call 60; refine (bits_Unpack.calls A c b h1 l 0 _ (cp_ HR.out) HC.out HU.out).mono ?_; rintro e w2 ⟨v0, rfl, hR, hB⟩; obtain ⟨A3, c3, rfl⟩ := Kd.R_slice hR; have HR2 := Aside0.mk hR; have HB2 := Aside0.mk hB; clear hR hB))
      all_goals (try go_wp2)
      all_goals go_meet
      all_goals exact ⟨A3, c3, rfl, ⟨HR2.out⟩, ⟨below_step (below_drew1 HB.out) HB2.out⟩⟩
    · have e0 : (h0 == 4) = false := beq_eq_false_iff_ne.2 hk4
      have hW : raw_wide.f h0 h1 h2 h3 = some (wideV h3) := by unfold raw_wide.f wideV; split <;> rfl
      have hL : l = (List.range (b.length / sampW h3)).map (sampV h3 b) := by rw [HL.out]; unfold rowL; rw [if_neg hk4]
      have hsw : (wideV h3 == 0) = false := by unfold wideV; split <;> rfl
      have hsn : (wideV h3 = 0) = False := by unfold wideV; split <;> simp
      have hq : Int.tdiv (b.length : Int) (wideV h3) = ((b.length / sampW h3 : Nat) : Int) := by
        unfold wideV sampW
        by_cases h : h3 > 255
        · rw [if_pos h, if_neg (by omega), Int.tdiv_eq_ediv_of_nonneg (by omega)]; omega
        · rw [if_neg h, if_pos (by omega), Int.tdiv_eq_ediv_of_nonneg (by omega)]; omega
      have HW := Aside0.mk hW
      have HL2 := Aside0.mk hL
      clear hk4 hW hL
      generalize wideV h3 = sw at *
      obtain ⟨q, hqq⟩ : ∃ q, q = b.length / sampW h3 := ⟨_, rfl⟩
      rw [← hqq] at hq
      have HQ := Aside0.mk hqq
      clear hqq
      have hqw : wrap64 (q : Int) = (q : Int) := by have h1 := HQ.out; have h2 := HLB.out; have h3 : q ≤ b.length := by rw [h1]; exact Nat.div_le_self _ _
                                                    unfold wrap64; omega
      have hqv : IntKind.i64.wrap (q : Int) = (q : Int) := (i64_w _).trans hqw
      go_upto_region 4 with (fail)
      go_cut [14, 38, 39] from 28 (fun s14 s38 s39 wx => s14 = .bool false ∧ s38 = .int .i64 (q : Int) ∧ s39 = .int .i64 0 ∧ Aside0 (Below w.heap.size w wx))
      case first =>
        go_wp2
        go_region_with (first | (go_at_call 38; refine (raw_wide.calls h0 h1 h2 h3 sw _ HW.out).mono ?_; rintro e w2 ⟨rfl, hb2⟩; have BK2 := Aside0.mk (blk_below (blk_drew BK.out) hb2); have hc2_4 := bc_ (v := .slice A b.length c) BK2.out 4; have HB2 := Aside0.mk hb2; clear hb2))
        all_goals (try go_wp2)
        all_goals go_meet
        all_goals exact ⟨rfl, rfl, rfl, ⟨below_step (below_drew1 HB.out) HB2.out⟩⟩
      case rest =>
        obtain ⟨rfl, rfl, rfl, HBX⟩ := hcut
        clear hq hqw hqv hsw hsn
        go_wp2
        go_loopg [3, 39] (q + 1) (fun kq v3 v39 w' => ∃ (i : Nat) (x : List Int), v39 = .int .i64 (i : Int) ∧ Aside0 (kq + i = q + 1) ∧ Aside0 (i ≤ q) ∧ Aside0 (x = (List.range i).map (sampV h3 b)) ∧ Aside0 (Kd.R (Kd.int .i64) 3 w' w.heap.size (fun _ => True) v3 x) ∧ Aside0 (Below w.heap.size w w'))
        case atStart => exact ⟨0, [], rfl, ⟨rfl⟩, ⟨by omega⟩, ⟨rfl⟩, ⟨Kd.R_nil _ _ _ _ _⟩, HBX⟩
        case round =>
          clear HBX
          obtain ⟨i, x, rfl, HM, HI, HXX, HO, HBW⟩ := hrel
          obtain ⟨k1, rfl⟩ : ∃ m, gk = m + 1 := ⟨gk - 1, by have h1 := HM.out; have h2 := HI.out; omega⟩
          by_cases ci : i < q
          · have c0 : decide ((i : Int) < (q : Int)) = true := decide_eq_true (by omega)
            have BKW := Aside0.mk (blk_below BK.out HBW.out)
            have HRW := Aside0.mk (Kd.C_below HR.out HBW.out)
            have hsi : sampW h3 * (i + 1) ≤ b.length := by
              have h1 := HQ.out
              have h2 : i + 1 ≤ b.length / sampW h3 := by omega
              have h3 := Nat.mul_le_mul_left (sampW h3) h2
              exact Nat.le_trans h3 (Nat.mul_div_le _ _)
            have HSI := Aside0.mk hsi
            have hxl : x.length = i := by rw [HXX.out]; simp
            have HXL := Aside0.mk hxl
            have hxs : x ++ [sampV h3 b i] = (List.range (i + 1)).map (sampV h3 b) := by rw [HXX.out, List.range_succ, List.map_append]; rfl
            have HXS := Aside0.mk hxs
            have HS := Aside0.mk (raw_sample.is g h0 h1 h2 h3 A c b n rows last e i _ BKW.out HRW.out (Nat.le_trans HLB.out (by decide)) HSI.out HX.out)
            clear hsi hxl hxs
            generalize sampV h3 b i = sv at *
            go_wp2_with (first
              | ((with_reducible refine gate_callee (f := 45) rfl ?_); refine goesL_ (some 45) rfl rfl Try.func45 (by kernel_rfl) rfl #[.pointer (some ⟨g, 0, none⟩), .int .i64 (i : Int)] rfl (by (try simp only [List.map_toArray, List.map_cons, List.map_nil]); rfl) ?_; refine HS.out.mono ?_; rintro e w5 ⟨rfl, hb5⟩; refine ⟨_, rfl, ?_⟩; have HO5 := Aside0.mk (Kd.R_below HO.out hb5); have HB5 := Aside0.mk (below_step HBW.out hb5); clear hb5)
              | ((with_reducible refine gate_builtin (b := .append) (xs := #[.tmp 42, .tmp 46]) rfl ?_); at_builtin; refine Kd.R_append (Kd.int .i64) (w0 := w) w.heap.size rfl (.tmp 42) (.tmp 46) 24 3 (.int .i64 0) 8 rfl Try.underlying24 info3 rfl (by decide) (by omega) u3 x sv [.int .i64 sv] (fun _ => True) (fun _ => False) rfl (by first | (go_simp; done) | (go_simp; rfl)) ?aP (fun _ hk => hk.elim) ?aF ?aO ?aB ?aS ?aL ?_; (case aP => exact rfl); (case aB => exact (by repeat (first | (with_reducible first | exact HB5.out | apply below_alloc | apply pw_below_drewN | apply below_drew1) | exact HB5.out))); (case aF => exact (fun _ _ => trivial)); (case aO => exact (by (with_reducible repeat (first | apply Kd.R_alloc | apply Kd.R_drewN | apply Kd.R_drew)); exact Kd.R_mono HO5.out (fun _ hk => trivial))); (case aS => exact (below_size (by repeat (first | (with_reducible first | exact HB5.out | apply below_alloc | apply pw_below_drewN | apply below_drew1) | exact HB5.out)))); (case aL => have := HXL.out; have := HI.out; have := HQ.out; have := HLB.out; have h4 := Nat.div_le_self b.length (sampW h3); omega); intro v4 w4 ho hb hg hat; have HO4 := Aside0.mk ho; have HB4 := Aside0.mk hb; clear ho hb hg hat))
            go_roundg k1
            case measure => omega
            case rel => exact ⟨i + 1, _, by rw [show wrap64 ((i : Int) + 1) = ((i + 1 : Nat) : Int) from (by have e1 := HI.out; have e2 := HQ.out; have e3 := HLB.out; have e4 := Nat.div_le_self b.length (sampW h3); unfold wrap64; omega)], ⟨by have := HM.out; omega⟩, ⟨ci⟩, HXS, HO4, HB4⟩
          · have c0 : decide ((i : Int) < (q : Int)) = false := decide_eq_false (by omega)
            have hxe : x = l := by
              have h1 := HXX.out
              have h2 := HI.out
              rw [show i = q by omega] at h1
              rw [h1, HL2.out, HQ.out]
            clear HXX
            subst hxe
            go_wp2
            go_meet
            obtain ⟨A3, c3, rfl⟩ := Kd.R_slice HO.out
            exact ⟨A3, c3, rfl, HO, HBW⟩
  case rest =>
    clear hcz_0 hcz_1 hcz_2 hcz_3 hcz_4
    obtain ⟨A3, c3, rfl, HO, HBC⟩ := hcut
    have hb1 := blk_alloc (blk_below BK.out HBC.out) (.cells #[.slice none 0 0] 29)
    unfold rawObj at hb1
    have hcy_0 := bc_ (v := .int .i64 h0) hb1 0
    have hcy_1 := bc_ (v := .int .i64 h1) hb1 1
    have hcy_2 := bc_ (v := .int .i64 h2) hb1 2
    have hcy_3 := bc_ (v := .int .i64 h3) hb1 3
    clear hb1
    rw [HN.out]
    go_wp2_with (first | (go_at_call 31; refine (head_Format.calls h0 h1 h2 h3 _ _ _ HD.out).mono ?_; rintro e w2 ⟨rfl, hb2⟩; have HF := Aside0.mk hb2; clear hb2) | (go_at_call 61; refine (callsIn_wide.1 (chunk_in Fence.wide 1 trivial rfl A3 _ c3 d HD1.out.1 _)).mono ?_; rintro e w3 ⟨rfl, rfl⟩))
    clear hcy_0 hcy_1 hcy_2 hcy_3 hu hu2
    obtain ⟨i0, hi, hz⟩ := Option.map_eq_some_iff.1 pixelInfo
    simp only [Prod.mk.injEq] at hz
    obtain ⟨hz0, hz1, hz2⟩ := hz
    obtain ⟨hl1, hl2, hl3⟩ := Kd.R_reads' HO.out
    rw [HN.out] at hl2 hl3
    have hd1 := HD1.out.1
    have hNd := HND.out
    have hsz2 := HF.out.size
    rw [World.size_alloc] at hsz2
    have hs1 : (w2.alloc (.cells #[.slice A3 (N * d) c3] 24)).heap.size = w2.heap.size + 1 := World.size_alloc w2 _
    have hs2 : ((w2.alloc (.cells #[.slice A3 (N * d) c3] 24)).alloc (.cells #[.int .i64 (d : Int)] 3)).heap.size = w2.heap.size + 1 + 1 := by rw [World.size_alloc, hs1]
    have hBw2 : Below wc.heap.size wc w2 := below_step (below_alloc (Below.refl _ _) _) HF.out
    let I0 : Nat → World → Prop := fun k W => CollB wc.heap.size wc wc.heap.size wc.heap.size 29 26 [(w2.heap.size, 24, .slice A3 (N * d) c3), (w2.heap.size + 1, 3, .int .i64 (d : Int))] (encs (Value.int .u64) ((List.range k).map px)) W
    have hoth : ∀ x ∈ ([(w2.heap.size, 24, .slice A3 (N * d) c3), (w2.heap.size + 1, 3, .int .i64 (d : Int))] : List (Nat × TypeId × Value)), (x.2.1 ≠ 26 ∨ x.1 < wc.heap.size) ∧ x.1 ≠ wc.heap.size := by
      intro x hx
      simp only [List.mem_cons, List.not_mem_nil, or_false] at hx
      rcases hx with rfl | rfl
      · exact ⟨.inl (by show (24 : Nat) ≠ 26; decide), by simp only; omega⟩
      · exact ⟨.inl (by show (3 : Nat) ≠ 26; decide), by simp only; omega⟩
    have hst : ∀ f : Nat → Nat, SteadyB ((w2.alloc (.cells #[.slice A3 (N * d) c3] 24)).alloc (.cells #[.int .i64 (d : Int)] 3)).heap.size (fun k W => I0 (f k) W) :=
      fun f => ⟨fun k W W' h hb => CollB.new h (Nat.le_refl _) hb, fun k W l o o' hl ho hc h => CollB.putObj h (Nat.le_refl _) o' (by rw [hs2] at hl; omega) ho hc⟩
    have h00 : I0 0 ((w2.alloc (.cells #[.slice A3 (N * d) c3] 24)).alloc (.cells #[.int .i64 (d : Int)] 3)) := by
      refine ⟨⟨.slice none 0 0, ?_, World.ownsRow_nil _ _ _ _⟩, ?_, below_alloc (below_alloc hBw2 _) _⟩
      · have h1 : Boxed w2 wc.heap.size 29 (.slice none 0 0) := blk_below (Boxed.new wc 29 (.slice none 0 0)) HF.out
        exact (h1.alloc _).alloc _
      · intro x hx
        simp only [List.mem_cons, List.not_mem_nil, or_false] at hx
        rcases hx with rfl | rfl
        · exact (Boxed.new w2 24 (.slice A3 (N * d) c3)).alloc _
        · have := Boxed.new (w2.alloc (.cells #[.slice A3 (N * d) c3] 24)) 3 (.int .i64 (d : Int))
          rw [hs1] at this
          exact this
    have hheld : ∀ m W, I0 m W → HeldC w2.heap.size (w2.heap.size + 1) A3 (N * d) c3 d W := fun m W h =>
      ⟨(h.o (w2.heap.size, 24, .slice A3 (N * d) c3) (by simp)).cell, (h.o (w2.heap.size + 1, 3, .int .i64 (d : Int)) (by simp)).cell⟩
    have HM := Aside0.mk raw_mixed
    refine (wpIn_wide (n := 3)).1 ?_
    refine rangeAllB rfl (by omega) (gf := 67) (lb := #[.pointer (some ⟨w2.heap.size, 0, none⟩), .pointer (some ⟨w2.heap.size + 1, 0, none⟩)]) rfl trivial (enters_of Try.func67 (by kernel_rfl) rfl) (encs := fun x : Value => #[x]) (fun _ => rfl)
      (fun k => partV A3 d k) N (fun k W => I0 k W) (fun k W => I0 (k + 1) W)
      (chunk_give Fence.wide 2 trivial rfl (by omega) HM.out w2.heap.size (w2.heap.size + 1) A3 c3 d N hd1 hl2 (by omega) _ _ (fun k W h => hheld _ W h) (fun k W h => hheld _ W h))
      (fun k W _ h => h) (hst fun k => k) (hst fun k => k + 1) h00
      (fun x => { tmps := #[.pointer (some ⟨g, 0, none⟩), undef, .slice none 0 0, .slice A3 (N * d) c3, u4, .pointer (some ⟨wc.heap.size, 0, none⟩), x, u7, u8, u9, u10, u11, u12, u13, u14, u15, u16, u17, u18, u19, u20, u21, u22, u23, u24, u25, u26, u27, u28, u29, u30, u31, u32, u33, u34, u35, u36, u37, u38, u39, u40, u41, u42, u43, u44, u45, u46, u47, u48, .slice A3 (N * d) c3, .pointer (some ⟨g, 0, none⟩), .pointer (some ⟨g, 0, none⟩), .pointer (some ⟨g, 0, none⟩), .agg #[.int .i64 h0, .int .i64 h1, .int .i64 h2, .int .i64 h3], .agg #[.int .i64 (d : Int), .int .i64 h3], .int .i64 (d : Int), .func (.func 67) #[] #[.pointer (some ⟨w2.heap.size, 0, none⟩), .pointer (some ⟨w2.heap.size + 1, 0, none⟩)], x, u58, u59, u60, u61, u62, u63, u64, u65, u66, u67], defers := [] }) ?assign ?body ?done
    case assign =>
      intro l x W K hK
      gi_wp2
      exact hK
    case body =>
      intro lp k W hk hC
      have hC : I0 k W := hC
      obtain ⟨r2, hpk⟩ := HP.out k hk
      have hrd := C_part (Kd.C_below hl3 hC.below) hk hd1
      have HPK := Aside0.mk hpk
      have HRD := Aside0.mk hrd
      have HPL := Aside0.mk (partL_len HN.out hk)
      have hsucc : encs (Value.int .u64) ((List.range (k + 1)).map px) = encs (Value.int .u64) ((List.range k).map px) ++ [.int .u64 (px k)] := by simp [encs, List.range_succ]
      obtain ⟨v, hv, hrow⟩ := hC.v
      have hsz := hC.below.size
      have hcv := hv.cell
      have hlen : (encs (Value.int .u64) ((List.range k).map px)).length = k := by simp [encs]
      have hkN : k ≤ 100000 := by have := Nat.mul_le_mul_left N hd1; omega
      have HL2 := Aside0.mk hlen
      have HS := Aside0.mk hsucc
      clear hst h00 hheld hrd hpk hsucc hlen hl1 hl3
      show Code.wpIn _ _ _ _ (Exit.then (fun _ W' => KeepsFrom _ W W' ∧ I0 (k + 1) W') _) _ _
      generalize px k = y at *
      gi_wp2_with (first | (refine ⟨trivial, ?_⟩; gi_at_call 62; refine (CallsIn.inRound lp (callsIn_wide.2 (pack_part HPL.out HRD.out HPK.out))).mono ?_; rintro e w5 ⟨rfl, ⟨nd, rfl⟩⟩; have hC5 := Aside0.mk (CollB.new hC (Nat.le_refl _) (pw_below_drewN (Below.refl W.heap.size W) nd)); have HK5 : Aside0 (∀ B, KeepsFrom B W (W.drewN nd)) := ⟨fun B => ⟨Nat.le_refl _, fun i o _ hi _ => hi⟩⟩; have hv5 : Boxed (W.drewN nd) wc.heap.size 29 v := hv; have hrow5 := Aside0.mk (show (W.drewN nd).ownsRow wc.heap.size 26 1 v (encs (Value.int .u64) ((List.range k).map px)).length (encs (Value.int .u64) ((List.range k).map px)) from hrow); have hcv5 := hv5.cell; have hsz5 : wc.heap.size ≤ (W.drewN nd).heap.size := hsz; clear hcv hv hrow hC HRD HPK; generalize W.drewN nd = W5 at *) | (gi_at_builtin; refine wpListIn_append_own _ rfl _ _ 29 rfl wc.heap.size 26 i0 (.int .u64 0) 1 8 Try.underlying29 hi hz0 hz1 hz2 rfl (by decide) _ _ _ rfl (hrow5.out.alloc _) ⟨W5.heap.size, 0, none⟩ 1 1 [.int .u64 y] rfl rfl (cell_one_new _ _ _) (by simp [Value.oneCell']) (by rw [HL2.out]; simp only [maxLen]; omega) (by rw [HL2.out]; omega) (by simp; omega) ?_; intro v' w1 hown' hgrow _; obtain ⟨g', cap', rfl⟩ := ownsRow_succ hown'; obtain ⟨hb1, hb2, hb3⟩ := CollB.append hC5.out (Nat.le_refl _) (Nat.le_refl _) (by decide) hoth hv5 hrow5.out hown' hgrow (w2.heap.size + 1 + 1); have hb4 := KeepsFrom.trans (HK5.out _) hb2; have hc1 := hb1.cell; have hf1 := hb1.frozen))
      rw [hs2]
      refine ⟨hb4, ?_⟩
      show CollB _ _ _ _ _ _ _ (encs (Value.int .u64) ((List.range (k + 1)).map px)) _
      rw [HS.out]
      exact hb3
    case done =>
      rintro D W hD he hK
      have hC : I0 N W := by
        rcases he with ⟨hz, h⟩ | ⟨k, hk, h⟩
        · rw [hz]; exact h
        · rw [hk]; exact h
      obtain ⟨v, hv, hrow⟩ := hC.v
      have hc := hv.cell
      have hR : (Kd.int .u64).R 26 W w.heap.size (fun _ => True) v ((List.range N).map px) := Kd.R_lower (Kd.R_of_own (by simpa [encs] using hrow) (fun _ _ => trivial)) HBC.out.size
      have hBW := below_step HBC.out hC.below
      clear hst h00 hheld
      go_wp2
      refine ⟨by simp, .inl ⟨_, _, rfl, run_takeDeferred hK, ?_⟩⟩
      refine ⟨_, results_tmp rfl _ _ _, _, rfl, R_putObj_r hR _ hK rfl, ?_⟩
      have hszw := HBC.out.size
      exact hBW.trans (belowK_b (w := w) (Nat.le_refl _) _ D _ _ (by rw [hs2] at hD; omega) hK rfl rfl)
end Go.Proofs.Ytdjonaajfhbfhaa.Q
