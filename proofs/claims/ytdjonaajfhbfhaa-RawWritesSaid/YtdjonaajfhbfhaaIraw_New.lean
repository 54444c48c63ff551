/- raw.New: a raster's reader that was told nothing, or why there is none. -/
import Derived.Test.YtdjonaajfhbfhaaQ0
import Derived.Test.YtdjonaajfhbfhaaQ4
import Derived.Test.YtdjonaajfhbfhaaIhead_May
import Derived.Below
import Derived.Deep.Draws
import Derived.Deep.AppendLies
import Derived.Maps.AppendAt
import Derived.OwnWalk
import Derived.Laws.BytesArg
import Derived.Laws.MakeOwn
import Derived.Laws.OwnMore
import Derived.Deep.OwnRows
import Derived.Tactics
import Derived.Lib.ConvBytes
import Derived.Laws.Slices
import Derived.WalkKit
import Derived.KernelRfl
import Derived.RowKit3
import Derived.Deep.LoopGhost
import Derived.Deep.QuietTactic
import Derived.BigQuiet
import Derived.WideLaws
import Derived.Deep.DeepCutAuto
import Derived.Deep.CutBlock
import Derived.Deep.RegionHeld3
import Derived.Laws.Rows
import Derived.Lib.AppendStr
import Derived.ArgAppend
import Derived.Laws.IdiomCopy
import Derived.OrdersHeld
import Derived.Laws.BitsLemmas
import Derived.RowKit
import Derived.Test.YtdjonaajfhbfhaaMore
import Derived.Test.YtdjonaajfhbfhaaPeel
import Derived.Test.YtdjonaajfhbfhaaRaw
import Derived.Scope
import Derived.Test.YtdjonaajfhbfhaaWWords
import Derived.Test.YtdjonaajfhbfhaaWLast
import Derived.Test.YtdjonaajfhbfhaaWTab
import Derived.Test.YtdjonaajfhbfhaaWQPut
import Derived.Test.YtdjonaajfhbfhaaWApart
import Derived.Test.YtdjonaajfhbfhaaWArr
import Derived.Test.YtdjonaajfhbfhaaWZeros
import Derived.Test.YtdjonaajfhbfhaaWFoot
import Derived.Test.YtdjonaajfhbfhaaWKept
import Derived.Test.YtdjonaajfhbfhaaWShare
import Derived.Test.YtdjonaajfhbfhaaWN
import Derived.Test.YtdjonaajfhbfhaaWFootNe
import Derived.Test.YtdjonaajfhbfhaaWAt
import Derived.Test.YtdjonaajfhbfhaaWGuard
import Derived.Test.YtdjonaajfhbfhaaWNEv
import Derived.Test.YtdjonaajfhbfhaaWMore
import Derived.Deep.RegionWith
import Derived.StillTailTactics
namespace Go.Proofs.Ytdjonaajfhbfhaa.Q
open Go.RowKit Go.Proofs.YtdjonaajfhbfhaaW.PrintWords Go.Proofs.YtdjonaajfhbfhaaW.PrintLast Go.Proofs.YtdjonaajfhbfhaaW.PrintMore
set_option linter.unusedVariables false
set_option linter.unusedSimpArgs false
def raw_New.f (a0_0 a0_1 a0_2 a0_3 : Int) : Option (Int × Int × Int × Int × Int × Int × Int × Int × Int × Int) := if rawMay a0_0 a0_1 a0_2 a0_3 = true then some (a0_0, a0_1, a0_2, a0_3, 0, 0, 0, 0, 0, 0) else none
theorem raw_may_raw {k w h m : Int} (e : rawMay k w h m = true) : head_May.f k w h m = some true ∧ head_Raw.f k w h m = some true := by
  have h1 := rawMay_is e
  refine ⟨?_, ?_⟩
  · unfold head_May.f
    rw [decide_eq_true (by omega)]
  · unfold head_Raw.f
    rw [if_pos (by omega), decide_eq_true (by omega)]
theorem raw_stride_is {k w h m : Int} (e : rawMay k w h m = true) : raw_Stride.f k w h m = some ((rawS k w m : Nat) : Int) := by
  have h1 := rawMay_is e
  unfold raw_Stride.f
  rw [(raw_may_raw e).2, Option.bind_some, if_pos rfl]
  unfold rawS sampW
  by_cases h4 : k = 4
  · rw [if_pos h4, if_pos h4]
    unfold bits_Bytes.f bits_sized.f
    rw [if_pos (by omega), Option.bind_some, decide_eq_true (by omega), if_pos rfl, Option.bind_some]
    have e1 : wrap64 (wrap64 (w + 8) - 1) = w + 7 := by unfold wrap64; omega
    rw [e1, Int.tdiv_eq_ediv_of_nonneg (by omega)]
    congr 1
    unfold wrap64
    omega
  · rw [if_neg h4, if_neg h4]
    unfold head_Format.f raw_wide.f
    by_cases h6 : k = 6
    · rw [if_pos (by subst h6; rfl), Option.bind_some, if_pos h6]
      by_cases hm : m ≤ 255
      · rw [if_neg (by omega), Option.bind_some, if_pos hm]
        congr 1
        unfold wrap64
        omega
      · rw [if_pos (by omega), Option.bind_some, if_neg hm]
        congr 1
        unfold wrap64
        omega
    · have h5 : k = 5 := by omega
      rw [if_neg (by subst h5; decide), Option.bind_some, if_neg h6]
      by_cases hm : m ≤ 255
      · rw [if_neg (by omega), Option.bind_some, if_pos hm]
        congr 1
        unfold wrap64
        omega
      · rw [if_pos (by omega), Option.bind_some, if_neg hm]
        congr 1
        unfold wrap64
        omega
theorem raw_byteInfo : (Try.prog.info? 5).map (fun i => (i.zero, i.size, i.bytes)) = some (some (.int .u8 0), 1, 1) := by kernel_rfl
theorem raw_blank (n : Nat) : madeCells #[Value.int .u8 0] n = ((List.replicate n (0 : Int)).map (Value.int .u8)).toArray := by
  unfold madeCells
  apply Array.ext
  · simp
  · intro i h1 h2
    have e : i % #[Value.int IntKind.u8 0].size = 0 := Nat.mod_one i
    simp [Nat.mod_one]
set_option maxRecDepth 100000 in
set_option maxHeartbeats 4000000 in
theorem raw_New.refuses (a0_0 a0_1 a0_2 a0_3 : Int) (w : World) (h : rawMay a0_0 a0_1 a0_2 a0_3 = false) :
    Calls Try.prog 18 #[.agg #[.int .i64 a0_0, .int .i64 a0_1, .int .i64 a0_2, .int .i64 a0_3]] w fun e w' => e = .returned (.tuple #[.pointer none, .int .i64 1]) ∧ Below w.heap.size w w' := by
  obtain ⟨m, hm⟩ : ∃ m, head_May.f a0_0 a0_1 a0_2 a0_3 = some m := ⟨_, rfl⟩
  obtain ⟨r, hr⟩ : ∃ r, head_Raw.f a0_0 a0_1 a0_2 a0_3 = some r := by unfold head_Raw.f; split <;> exact ⟨_, rfl⟩
  have hmr : (m && r) = false := by
    cases m with
    | false => rfl
    | true =>
      cases r with
      | false => rfl
      | true =>
        exfalso
        have h1 := of_decide_eq_true (Option.some.inj hm)
        unfold head_Raw.f at hr
        split at hr
        · have h2 := of_decide_eq_true (Option.some.inj hr)
          have h3 := of_decide_eq_false h
          omega
        · simp at hr
  have hu := Try.underlying34
  have HM := Aside0.mk hm
  have HR := Aside0.mk hr
  clear h hm hr
  go_enter Try.func18, Try.ntmps18
  cases m with
  | false =>
    clear hmr
    go_wp2_with (first | (go_at_call 43; refine (head_May.calls _ _ _ _ false _ HM.out).mono ?_; rintro e w2 ⟨rfl, hb⟩; have HB2 := Aside0.mk hb; clear hb))
    go_ret2
    exact ⟨rfl, below_step (below_alloc (Below.refl _ _) _) HB2.out⟩
  | true =>
    have hr2 : r = false := by simpa using hmr
    subst hr2
    clear hmr
    go_wp2_with (first | (go_at_call 43; refine (head_May.calls _ _ _ _ true _ HM.out).mono ?_; rintro e w2 ⟨rfl, hb⟩; have HB2 := Aside0.mk hb; have BK2 := Aside0.mk (blk_below (blk_new w (.cells #[.int .i64 a0_0, .int .i64 a0_1, .int .i64 a0_2, .int .i64 a0_3] 34)) hb); clear hb; have hc_0 := bc_ (v := .int .i64 a0_0) BK2.out 0; have hc_1 := bc_ (v := .int .i64 a0_1) BK2.out 1; have hc_2 := bc_ (v := .int .i64 a0_2) BK2.out 2; have hc_3 := bc_ (v := .int .i64 a0_3) BK2.out 3) | (go_at_call 44; refine (head_Raw.calls _ _ _ _ false _ HR.out).mono ?_; rintro e w3 ⟨rfl, hb⟩; have HB3 := Aside0.mk hb; clear hb))
    go_ret2
    exact ⟨rfl, below_step (below_step (below_alloc (Below.refl _ _) _) HB2.out) HB3.out⟩
set_option maxRecDepth 100000 in
set_option maxHeartbeats 4000000 in
theorem raw_New.calls2 (a0_0 a0_1 a0_2 a0_3 : Int) (r1 r2 r3 r4 r5 r6 r7 r8 r9 r10 : Int) (w0 w : World) (hB : Below w0.heap.size w0 w) (h : raw_New.f a0_0 a0_1 a0_2 a0_3 = some (r1, r2, r3, r4, r5, r6, r7, r8, r9, r10)) :
    Calls Try.prog 18 #[.agg #[.int .i64 a0_0, .int .i64 a0_1, .int .i64 a0_2, .int .i64 a0_3]] w fun e w' => ∃ g_ : Nat, e = .returned (.tuple #[.pointer (some ⟨g_, 0, none⟩), .int .i64 r10]) ∧ IsS71 w0 w' g_ r1 r2 r3 r4 r5 r6 r7 r8 r9 ∧ Below w0.heap.size w0 w' ∧ Below w.heap.size w w' ∧ w.heap.size < g_ := by
  unfold raw_New.f at h
  by_cases hok : rawMay a0_0 a0_1 a0_2 a0_3 = true
  · rw [if_pos hok] at h
    simp only [Option.some.injEq, Prod.mk.injEq] at h
    obtain ⟨rfl, rfl, rfl, rfl, rfl, rfl, rfl, rfl, rfl, rfl⟩ := h
    have HM := Aside0.mk (raw_may_raw hok).1
    have HR := Aside0.mk (raw_may_raw hok).2
    have HS := Aside0.mk (raw_stride_is hok)
    have HSB := Aside0.mk (rawS_bound hok)
    have HOK := Aside0.mk hok
    have HB := Aside0.mk hB
    clear hB hok
    have hu := Try.underlying34
    have hu2 := Try.underlying71
    obtain ⟨S, hS⟩ : ∃ S, S = rawS a0_0 a0_1 a0_3 := ⟨_, rfl⟩
    rw [← hS] at HS HSB
    have HSE := Aside0.mk hS
    clear hS
    have hmk := print_make (P := Try.prog) 27 5 .u8 1 Try.underlying27 raw_byteInfo (by decide) S (by have := HSB.out.2; omega)
    go_enter Try.func18, Try.ntmps18
    go_upto_region 3 with (first | (go_at_call 43; refine (head_May.calls _ _ _ _ true _ HM.out).mono ?_; rintro e w2 ⟨rfl, hb⟩; have HB2 := Aside0.mk hb; have BK2 := Aside0.mk (blk_below (blk_new w (.cells #[.int .i64 a0_0, .int .i64 a0_1, .int .i64 a0_2, .int .i64 a0_3] 34)) hb); clear hb; have hc_0 := bc_ (v := .int .i64 a0_0) BK2.out 0; have hc_1 := bc_ (v := .int .i64 a0_1) BK2.out 1; have hc_2 := bc_ (v := .int .i64 a0_2) BK2.out 2; have hc_3 := bc_ (v := .int .i64 a0_3) BK2.out 3) | (go_at_call 44; refine (head_Raw.calls _ _ _ _ true _ HR.out).mono ?_; rintro e w3 ⟨rfl, hb⟩; have HB3 := Aside0.mk hb; have BK3 := Aside0.mk (blk_below BK2.out hb); clear hb hc_0 hc_1 hc_2 hc_3; have hc_0 := bc_ (v := .int .i64 a0_0) BK3.out 0; have hc_1 := bc_ (v := .int .i64 a0_1) BK3.out 1; have hc_2 := bc_ (v := .int .i64 a0_2) BK3.out 2; have hc_3 := bc_ (v := .int .i64 a0_3) BK3.out 3))
    go_region_with (first | (go_at_call 26; refine (raw_Stride.calls _ _ _ _ _ _ HS.out).mono ?_; rintro e w4 ⟨rfl, hb⟩; have HB4 := Aside0.mk hb; have BK4 := Aside0.mk (blk_below (blk_drew BK3.out) hb); clear hb; have hd_0 := bc_ (v := .int .i64 a0_0) BK4.out 0; have hd_1 := bc_ (v := .int .i64 a0_1) BK4.out 1; have hd_2 := bc_ (v := .int .i64 a0_2) BK4.out 2; have hd_3 := bc_ (v := .int .i64 a0_3) BK4.out 3; have BK5 := Aside0.mk (blk_alloc BK4.out (.cells (madeCells #[.int .u8 0] S) 5)); have hy_0 := bc_ (v := .int .i64 a0_0) BK5.out 0; have hy_1 := bc_ (v := .int .i64 a0_1) BK5.out 1; have hy_2 := bc_ (v := .int .i64 a0_2) BK5.out 2; have hy_3 := bc_ (v := .int .i64 a0_3) BK5.out 3))
    all_goals (try go_wp2)
    all_goals (
      have hsz : (w4.alloc (.cells (madeCells #[.int .u8 0] S) 5)).heap.size = w4.heap.size + 1 := World.size_alloc w4 _
      have hobj := blk_new (w4.alloc (.cells (madeCells #[.int .u8 0] S) 5)) (rawObj a0_0 a0_1 a0_2 a0_3 (some ⟨w4.heap.size, 0, none⟩) S S 0 0 0 0)
      rw [hsz] at hobj
      have hrow := blk_alloc (blk_new w4 (.cells (madeCells #[.int .u8 0] S) 5)) (rawObj a0_0 a0_1 a0_2 a0_3 (some ⟨w4.heap.size, 0, none⟩) S S 0 0 0 0)
      rw [raw_blank] at hrow
      rw [raw_blank] at hobj
      have hbw : Below w.heap.size w w4 := below_step (below_drew1 (below_step (below_step (below_alloc (Below.refl _ _) _) HB2.out) HB3.out)) HB4.out
      have hbn : Below w.heap.size w ((w4.alloc (.cells (madeCells #[.int .u8 0] S) 5)).alloc (rawObj a0_0 a0_1 a0_2 a0_3 (some ⟨w4.heap.size, 0, none⟩) S S 0 0 0 0)) := below_alloc (below_alloc hbw _) _
      have hmay := rawMay_is HOK.out
      have hsb := HSB.out.1
      have hIs : IsS71 w0 ((w4.alloc (.cells (madeCells #[.int .u8 0] S) 5)).alloc (rawObj a0_0 a0_1 a0_2 a0_3 (some ⟨w4.heap.size, 0, none⟩) S S 0 0 0 0)) (w4.heap.size + 1) a0_0 a0_1 a0_2 a0_3 0 0 0 0 0 := by
        rw [raw_blank]
        refine ⟨w4.heap.size, List.replicate S 0, rfl, by rw [List.length_replicate]; exact hobj, Nat.le_trans HB.out.size hbw.size, hrow, ?_⟩
        exact ⟨HOK.out, by rw [List.length_replicate]; exact HSE.out, fun x hx => by rw [List.eq_of_mem_replicate hx]; omega, by omega, by rw [List.length_replicate]; omega, rfl, by omega, by omega, fun _ => ⟨by rw [List.length_replicate]; omega, by omega⟩⟩
      go_ret2
      exact ⟨w4.heap.size + 1, rfl, hIs, below_step HB.out hbn, hbn, Nat.lt_succ_of_le hbw.size⟩)
  · rw [if_neg hok] at h
    exact absurd h (by simp)
theorem raw_New.calls (a0_0 a0_1 a0_2 a0_3 : Int) (r1 r2 r3 r4 r5 r6 r7 r8 r9 r10 : Int) (w0 w : World) (hB : Below w0.heap.size w0 w) (h : raw_New.f a0_0 a0_1 a0_2 a0_3 = some (r1, r2, r3, r4, r5, r6, r7, r8, r9, r10)) :
    Calls Try.prog 18 #[.agg #[.int .i64 a0_0, .int .i64 a0_1, .int .i64 a0_2, .int .i64 a0_3]] w fun e w' => ∃ g_ : Nat, e = .returned (.tuple #[.pointer (some ⟨g_, 0, none⟩), .int .i64 r10]) ∧ IsS71 w0 w' g_ r1 r2 r3 r4 r5 r6 r7 r8 r9 ∧ Below w0.heap.size w0 w' ∧ Below w.heap.size w w' :=
  (raw_New.calls2 a0_0 a0_1 a0_2 a0_3 r1 r2 r3 r4 r5 r6 r7 r8 r9 r10 w0 w hB h).mono (fun e w' ⟨g, h1, h2, h3, h4, _⟩ => ⟨g, h1, h2, h3, h4⟩)
def rawMayI (k w h m : Int) : Int := if rawMay k w h m = true then 1 else 0
def raw_NewNil.f (a0_0 a0_1 a0_2 a0_3 : Int) : Option Int := if rawMayI a0_0 a0_1 a0_2 a0_3 = 1 then none else some 1
theorem raw_NewNil.calls (a0_0 a0_1 a0_2 a0_3 : Int) (r : Int) (w : World) (h : raw_NewNil.f a0_0 a0_1 a0_2 a0_3 = some r) :
    Calls Try.prog 18 #[.agg #[.int .i64 a0_0, .int .i64 a0_1, .int .i64 a0_2, .int .i64 a0_3]] w fun e w' => e = .returned (.tuple #[.pointer none, .int .i64 r]) ∧ Below w.heap.size w w' := by
  unfold raw_NewNil.f rawMayI at h
  by_cases hm : rawMay a0_0 a0_1 a0_2 a0_3 = true
  · rw [if_pos hm, if_pos rfl] at h
    exact absurd h (by simp)
  · rw [if_neg hm, if_neg (by decide)] at h
    obtain rfl := Option.some.inj h
    exact raw_New.refuses a0_0 a0_1 a0_2 a0_3 w (by simpa using hm)
theorem keep_cell_r {w W : World} {g r : Nat} (h : KeepBut w W g (some r)) {a : Addr} {v : Value} (hc : w.cell? a = some v) (hne : a.block ≠ g) (hr : a.block ≠ r) : W.cell? a = some v := by
  have := h.2 a.block (World.block_lt_of_cell? w a hc) hne (by simpa using hr)
  simpa [World.cell?, this] using hc
theorem raw_row_ne {w0 W : World} {g : Nat} {f0 f1 f2 f3 f4 f5 f6 f7 f8 : Int} {α : Type} {d : Kd α} {e : Nat} {base : Nat} {ok : Nat → Prop} {v : Value} {xs : List α} (h : IsS71 w0 W g f0 f1 f2 f3 f4 f5 f6 f7 f8) (ho : d.R e W base ok v xs) (ht : e ≠ 5) : some (g - 1) ≠ v.ownBlock := by
  obtain ⟨gb, b, e2, hb, hg, hr, _⟩ := h
  have e3 : g - 1 = gb := by omega
  rw [e3]
  exact Kd.R_ne ho hr ht
/-- Bytes that were there before a reader was made. -/
theorem raw_bytes_apart {W W1 : World} {g : Nat} {α : Type} {d : Kd α} {e : Nat} {base : Nat} {ok : Nat → Prop} {v : Value} {xs : List α} (ho : d.R e W base ok v xs) (hb : Below W.heap.size W W1) (hg : W.heap.size < g) : d.R e W1 base (fun k_ => k_ ≠ g ∧ k_ ≠ g - 1) v xs :=
  Kd.R_mono (Kd.R_below (Kd.R_bound ho) hb) (fun k hk => ⟨by have := hk.2.2.1; omega, by have := hk.2.2.1; omega⟩)
theorem raw_bytes_keep {W W1 : World} {g : Nat} {α : Type} {d : Kd α} {e : Nat} {base : Nat} {v : Value} {xs : List α} (ho : d.R e W base (fun k_ => k_ ≠ g ∧ k_ ≠ g - 1) v xs) (hk : KeepBut W W1 g (some (g - 1))) : d.R e W1 base (fun k_ => k_ ≠ g ∧ k_ ≠ g - 1) v xs :=
  Kd.R_step ho (fun k hok hlt => hk.2 k hlt hok.1 (fun e => hok.2 (Option.some.inj e)))
end Go.Proofs.Ytdjonaajfhbfhaa.Q
