/- bits.Unpack: a row's pixels, or why there are none, for all bytes and widths. -/
import Derived.Test.YtdjonaajfhbfhaaQ0
import Derived.Test.YtdjonaajfhbfhaaQ4
import Derived.Below
import Derived.Deep.Draws
import Derived.Deep.AppendLies
import Derived.Maps.AppendAt
import Derived.OwnWalk
import Derived.Laws.BytesArg
import Derived.Laws.MakeOwn
import Derived.Laws.OwnMore
import Derived.Deep.OwnRows
import Derived.Tactics
import Derived.Lib.ConvBytes
import Derived.Laws.Slices
import Derived.WalkKit
import Derived.KernelRfl
import Derived.RowKit3
import Derived.Deep.LoopGhost
import Derived.Deep.QuietTactic
import Derived.BigQuiet
import Derived.WideLaws
import Derived.Deep.DeepCutAuto
import Derived.Deep.CutBlock
import Derived.Deep.RegionHeld3
import Derived.Laws.Rows
import Derived.Lib.AppendStr
import Derived.ArgAppend
import Derived.Laws.IdiomCopy
import Derived.OrdersHeld
import Derived.Laws.BitsLemmas
import Derived.RowKit
import Derived.Test.YtdjonaajfhbfhaaMore
import Derived.Test.YtdjonaajfhbfhaaPeel
import Derived.Test.YtdjonaajfhbfhaaRaw
import Derived.Scope
import Derived.Test.YtdjonaajfhbfhaaWWords
import Derived.Test.YtdjonaajfhbfhaaWLast
import Derived.Test.YtdjonaajfhbfhaaWTab
import Derived.Test.YtdjonaajfhbfhaaWQPut
import Derived.Test.YtdjonaajfhbfhaaWApart
import Derived.Test.YtdjonaajfhbfhaaWArr
import Derived.Test.YtdjonaajfhbfhaaWZeros
import Derived.Test.YtdjonaajfhbfhaaWFoot
import Derived.Test.YtdjonaajfhbfhaaWKept
import Derived.Test.YtdjonaajfhbfhaaWShare
import Derived.Test.YtdjonaajfhbfhaaWN
import Derived.Test.YtdjonaajfhbfhaaWFootNe
import Derived.Test.YtdjonaajfhbfhaaWAt
import Derived.Test.YtdjonaajfhbfhaaWGuard
import Derived.Test.YtdjonaajfhbfhaaWNEv
import Derived.Test.YtdjonaajfhbfhaaWMore
import Derived.Test.YtdjonaajfhbfhaaBits
namespace Go.Proofs.Ytdjonaajfhbfhaa.Q
open Go.RowKit Go.Shelf Go.Proofs.YtdjonaajfhbfhaaW.PrintWords Go.Proofs.YtdjonaajfhbfhaaW.PrintLast Go.Proofs.Ytdjonaajfhbfhaa.Rg Go.Proofs.Ytdjonaajfhbfhaa.Bt
attribute [local go_sem] Oper.semAt_some
set_option linter.unusedVariables false
set_option linter.unusedSimpArgs false

def bits_okU (l : List Int) : Bool := l.all fun x => decide (0 ≤ x) && decide (x ≤ 255)
theorem bits_okU_of {l : List Int} (h : bits_okU l = true) : ∀ x ∈ l, 0 ≤ x ∧ x ≤ 255 := by
  intro x hx
  have := List.all_eq_true.1 h x hx
  simpa using this
/-- The first m bits of bytes. -/
def bits_row (l : List Int) (m : Nat) : List Int := (List.range m).map fun i => bitB (l.getD (i / 8) 0) (i % 8)
def bits_Unpack.f (l0 : List Int) (a1 : Int) : Option (List Int × Int) :=
  if a1 < -9223372036854775808 ∨ 9223372036854775807 < a1 then none else if a1 < 1 ∨ 4096 < a1 then some ([], 1) else if (l0.length : Int) < (a1 + 7) / 8 then some ([], 6) else if bits_okU l0 = true then some (bits_row l0 a1.toNat, 0) else none

theorem R_putObj_' {α : Type} {d : Kd α} {e : Nat} {W : World} {base : Nat} {ok : Nat → Prop} {v : Value} {xs : List α} (h : d.R e W base ok v xs) {l : Nat} {o : Obj} (o' : Obj) (hl : W.heap[l]? = some o) (ho : o.isCells = false) : d.R e (W.putObj l o') base ok v xs :=
  Kd.R_mono (Kd.R_grown (Kd.R_bound h) (grownBy_putObj' W l o') (fun k hk e' => by
    obtain ⟨_, _, _, q, _, cells, hc⟩ := hk
    obtain rfl : k = l := by simpa using e'
    rw [hl] at hc; cases hc; cases ho)) (fun k hk => hk.1)
theorem bits_UnpackInfo : (Try.prog.info? 3).map (fun i => (i.zero, i.size, i.bytes)) = some (some (.int .i64 0), 1, 8) := by kernel_rfl
theorem bits_BytesIs (a : Int) (h0 : -9223372036854775808 ≤ a) (h1 : a ≤ 9223372036854775807) : bits_Bytes.f a = some (if a < 1 ∨ 4096 < a then 0 else (a + 7) / 8) := by
  unfold bits_Bytes.f bits_sized.f
  by_cases c1 : a ≥ 1
  · rw [if_pos c1, Option.bind_some]
    by_cases c2 : a ≤ 4096
    · rw [decide_eq_true c2, if_pos rfl, if_neg (by omega)]
      have e : wrap64 (wrap64 (a + 8) - 1) = a + 7 := by unfold wrap64; omega
      rw [e, Int.tdiv_eq_ediv_of_nonneg (by omega)]
      congr 1
      unfold wrap64
      omega
    · rw [decide_eq_false c2, if_neg (by decide), if_pos (by omega)]
  · rw [if_neg c1, Option.bind_some, if_neg (by decide), if_pos (by omega)]
theorem bits_row_succ (l : List Int) (m : Nat) : bits_row l (m + 1) = bits_row l m ++ [bitB (l.getD (m / 8) 0) (m % 8)] := by unfold bits_row; rw [List.range_succ, List.map_append]; rfl
theorem bits_row_len (l : List Int) (m : Nat) : (bits_row l m).length = m := by simp [bits_row]

set_option maxRecDepth 100000 in
set_option maxHeartbeats 4000000 in
theorem bits_Unpack.refuses (A0 : Option Addr) (c0 : Nat) (l0 : List Int) (a1 : Int) (w : World) (h0 : -9223372036854775808 ≤ a1) (h1 : a1 ≤ 9223372036854775807) (h : a1 < 1 ∨ 4096 < a1) :
    Calls Try.prog 60 #[.slice A0 l0.length c0, .int .i64 a1] w fun e w' => ∃ v0_ : Value, e = .returned (.tuple #[v0_, .int .i64 1]) ∧ Kd.R (Kd.int .i64) 3 w' w.heap.size (fun _ => True) v0_ [] ∧ Below w.heap.size w w' := by
  have hB := bits_BytesIs a1 h0 h1
  rw [if_pos h] at hB
  have HB := Lib.hid hB
  clear hB h
  go_enter Try.func60, Try.ntmps60
  go_wp2_with (go_at_call 50; refine (bits_Bytes.calls a1 0 _ HB.out).mono ?_; rintro e w' ⟨rfl, ⟨nd, rfl⟩⟩)
  go_ret2
  exact ⟨_, rfl, Kd.R_nil _ _ _ _ _, pw_below_drewN (below_alloc (Below.refl _ _) _) nd⟩

set_option maxRecDepth 100000 in
set_option maxHeartbeats 4000000 in
theorem bits_Unpack.short (A0 : Option Addr) (c0 : Nat) (l0 : List Int) (a1 : Int) (w : World) (h0 : 1 ≤ a1) (h1 : a1 ≤ 4096) (h : (l0.length : Int) < (a1 + 7) / 8) :
    Calls Try.prog 60 #[.slice A0 l0.length c0, .int .i64 a1] w fun e w' => ∃ v0_ : Value, e = .returned (.tuple #[v0_, .int .i64 6]) ∧ Kd.R (Kd.int .i64) 3 w' w.heap.size (fun _ => True) v0_ [] ∧ Below w.heap.size w w' := by
  have hB := bits_BytesIs a1 (by omega) (by omega)
  rw [if_neg (by omega)] at hB
  have hn : 1 ≤ (a1 + 7) / 8 := by omega
  generalize (a1 + 7) / 8 = q at *
  have HB := Lib.hid hB
  have hq : (q == 0) = false := beq_eq_false_iff_ne.2 (by omega)
  have hd : decide ((l0.length : Int) < q) = true := decide_eq_true h
  clear hB
  go_enter Try.func60, Try.ntmps60
  go_wp2_with (go_at_call 50; refine (bits_Bytes.calls a1 q _ HB.out).mono ?_; rintro e w' ⟨rfl, ⟨nd, rfl⟩⟩)
  go_ret2
  exact ⟨_, rfl, Kd.R_nil _ _ _ _ _, pw_below_drewN (below_alloc (Below.refl _ _) _) nd⟩

set_option maxRecDepth 100000 in
set_option maxHeartbeats 4000000 in
theorem bits_Unpack.is (A0 : Option Addr) (c0 : Nat) (l0 : List Int) (u : Nat) (w : World) (hr0 : Kd.C (Kd.int .u8) w A0 l0.length l0) (hc0 : l0.length ≤ c0) (h0 : 1 ≤ u) (h1 : u ≤ 4096) (h : (u + 7) / 8 ≤ l0.length) (hb : ∀ x ∈ l0, 0 ≤ x ∧ x ≤ 255) :
    CallsIn Fence.wide 3 Try.prog 60 #[.slice A0 l0.length c0, .int .i64 (u : Int)] w fun e w' => ∃ v0_ : Value, e = .returned (.tuple #[v0_, .int .i64 0]) ∧ Kd.R (Kd.int .i64) 3 w' w.heap.size (fun _ => True) v0_ (bits_row l0 u) ∧ Below w.heap.size w w' := by
  have hB := bits_BytesIs (u : Int) (by omega) (by omega)
  rw [if_neg (by omega)] at hB
  have hm := Kd.C_max hr0
  have e7 : ((u : Int) + 7) / 8 = (((u + 7) / 8 : Nat) : Int) := by omega
  rw [e7] at hB
  clear e7
  obtain ⟨i0, hi, hz⟩ := Option.map_eq_some_iff.1 bits_UnpackInfo
  simp only [Prod.mk.injEq] at hz
  obtain ⟨hz0, hz1, hz2⟩ := hz
  have hn : 1 ≤ (u + 7) / 8 := by omega
  have hn8 : u ≤ 8 * ((u + 7) / 8) := by omega
  have hn9 : (u + 7) / 8 ≤ 600 := by omega
  generalize (u + 7) / 8 = q at *
  have HB := Lib.hid hB
  have hq : ((q : Int) == 0) = false := beq_eq_false_iff_ne.2 (by omega)
  have hd : decide ((l0.length : Int) < (q : Int)) = false := decide_eq_false (by omega)
  clear hB
  refine callsIn_of_wp_marks Try.func60 rfl trivial ?_ rfl
  simp only [Try.ntmps60, List.size_toArray, List.length_cons, List.length_nil, Nat.reduceAdd, Nat.reduceSub, Array.replicate_succ, Array.replicate_zero, List.push_toArray, List.append_toArray, List.nil_append, List.cons_append]
  gi_wp2_with (first | (refine ⟨trivial, ?_⟩; gi_at_call 50; refine (callsIn_wide.2 (bits_Bytes.calls (u : Int) q _ HB.out)).mono ?_; rintro e w' ⟨rfl, ⟨nd, rfl⟩⟩) | (refine ⟨trivial, ?_⟩; gi_at_call 66; refine (all_in Fence.wide _ trivial rfl _ _ _ _).mono ?_; rintro e w' ⟨rfl, rfl⟩))
  have hwl1 : ((w.alloc (.cells #[.int .i64 (u : Int)] 3)).drewN nd).heap.size = w.heap.size + 1 := World.size_alloc w _
  have hwl : (((w.alloc (.cells #[.int .i64 (u : Int)] 3)).drewN nd).alloc (.cells #[.slice none 0 0] 24)).heap.size = w.heap.size + 1 + 1 := by rw [World.size_alloc, hwl1]
  have hB0 : Below w.heap.size w ((((w.alloc (.cells #[.int .i64 (u : Int)] 3)).drewN nd).alloc (.cells #[.slice none 0 0] 24)).alloc (.cells #[.slice A0 q c0] 27)) :=
    below_alloc (below_alloc (pw_below_drewN (below_alloc (Below.refl _ _) _) nd) _) _
  have hu0 : min 0 u = 0 := by omega
  have hlq : (l0.take q).length = q := by rw [List.length_take]; omega
  have hrows : ∀ i, i < q → ∃ ad, A0 = some ad ∧ w.cell? (ad.add i) = some (.int .u8 ((l0.take q).getD i 0)) := by
    intro i hi'
    obtain ⟨_, _, hrd⟩ := Kd.reads_of_C (d := (0 : Int)) hr0
    obtain ⟨ad, hA, hc⟩ := hrd (by omega)
    refine ⟨ad, hA, ?_⟩
    rw [hc i (by omega)]
    congr 2
    rw [List.getD_eq_getElem?_getD, List.getD_eq_getElem?_getD, List.getElem?_take, if_pos hi']
  have hbt : ∀ x ∈ l0.take q, 0 ≤ x ∧ x ≤ 255 := fun x hx => hb x (List.mem_of_mem_take hx)
  have hgd : ∀ i, i < q → (l0.take q).getD i 0 = l0.getD i 0 := by
    intro i hi'
    rw [List.getD_eq_getElem?_getD, List.getD_eq_getElem?_getD, List.getElem?_take, if_pos hi']
  have hoth : ∀ x ∈ ([(w.heap.size, 3, .int .i64 (u : Int)), (w.heap.size + 1 + 1, 27, .slice A0 q c0)] : List (Nat × TypeId × Value)), (x.2.1 ≠ 3 ∨ x.1 < w.heap.size + 1) ∧ x.1 ≠ w.heap.size + 1 := by
    intro x hx
    simp only [List.mem_cons, List.not_mem_nil, or_false] at hx
    rcases hx with rfl | rfl
    · exact ⟨.inr (Nat.lt_succ_self _), by simp only; omega⟩
    · exact ⟨.inl (by show (27 : Nat) ≠ 3; decide), by simp only; omega⟩
  let I0 : Nat → World → Prop := fun m W => CollB w.heap.size w (w.heap.size + 1) (w.heap.size + 1) 24 3 [(w.heap.size, 3, .int .i64 (u : Int)), (w.heap.size + 1 + 1, 27, .slice A0 q c0)] (encs (Value.int .i64) (bits_row l0 m)) W
  have hst : ∀ f : Nat → Nat, SteadyB ((((w.alloc (.cells #[.int .i64 (u : Int)] 3)).drewN nd).alloc (.cells #[.slice none 0 0] 24)).alloc (.cells #[.slice A0 q c0] 27)).heap.size (fun k W => I0 (f k) W) :=
    fun f => ⟨fun k W W' h hb => CollB.new h (Nat.le_refl _) hb, fun k W l o o' hl ho hc h => CollB.putObj h (Nat.le_refl _) o' (by rw [World.size_alloc, hwl] at hl; omega) ho hc⟩
  have h00 : I0 0 ((((w.alloc (.cells #[.int .i64 (u : Int)] 3)).drewN nd).alloc (.cells #[.slice none 0 0] 24)).alloc (.cells #[.slice A0 q c0] 27)) := by
    refine ⟨⟨.slice none 0 0, ?_, World.ownsRow_nil _ _ _ _⟩, ?_, hB0⟩
    · have := (Boxed.new ((w.alloc (.cells #[.int .i64 (u : Int)] 3)).drewN nd) 24 (.slice none 0 0)).alloc (.cells #[.slice A0 q c0] 27)
      rw [hwl1] at this
      exact this
    · intro x hx
      simp only [List.mem_cons, List.not_mem_nil, or_false] at hx
      rcases hx with rfl | rfl
      · have h1 : Boxed ((w.alloc (.cells #[.int .i64 (u : Int)] 3)).drewN nd) w.heap.size 3 (.int .i64 (u : Int)) := Boxed.new w 3 (.int .i64 (u : Int))
        exact (h1.alloc _).alloc _
      · have := Boxed.new (((w.alloc (.cells #[.int .i64 (u : Int)] 3)).drewN nd).alloc (.cells #[.slice none 0 0] 24)) 27 (.slice A0 q c0)
        rw [hwl] at this
        exact this
  have hheld : ∀ m W, I0 m W → HeldB (w.heap.size + 1 + 1) A0 c0 (l0.take q) W := by
    intro m W h
    refine ⟨?_, ?_⟩
    · rw [hlq]
      exact (h.o (w.heap.size + 1 + 1, 27, .slice A0 q c0) (by simp)).cell
    · rw [hlq]
      intro i hi'
      obtain ⟨ad, hA, hc⟩ := hrows i hi'
      exact ⟨ad, hA, (World.cell?_of_block (h.below.block _ (World.block_lt_of_cell? w _ hc))).trans hc⟩
  refine rangeAllB rfl (by omega) (gf := 68) (lb := #[.pointer (some ⟨w.heap.size + 1 + 1, 0, none⟩)]) rfl trivial (enters_of Try.func68 (by kernel_rfl) rfl) (encs := fun x : Int × Int => #[Value.int .i64 x.1, Value.int .i64 x.2]) (fun _ => rfl)
    (fun k => ((k : Int), bitB ((l0.take q).getD (k / 8) 0) (k % 8))) (8 * (l0.take q).length)
    (fun k W => I0 (min k u) W) (fun k W => I0 (min (k + 1) u) W)
    (all_give Fence.wide _ trivial trivial rfl (by omega) _ A0 c0 (l0.take q) (by omega) hbt _ _ (fun k W h => hheld _ W h))
    (fun k W _ h => h) (hst fun k => min k u) (hst fun k => min (k + 1) u) (by rw [hu0]; exact h00)
    (fun x => { tmps := #[.slice A0 l0.length c0, .int .i64 (u : Int), undef, .pointer (some ⟨w.heap.size, 0, none⟩), .slice none 0 0, .int .i64 0, .int .i64 (q : Int), .pointer (some ⟨w.heap.size + 1, 0, none⟩), .int .i64 x.1, .int .i64 x.2,
      .int .i64 (u : Int), .int .i64 (q : Int), .bool false, .int .i64 (q : Int), .bool false, .bool false, .slice A0 l0.length c0, .int .i64 (l0.length : Int), .int .i64 (q : Int), .bool false, .slice A0 l0.length c0, .int .i64 (q : Int), .slice A0 q c0,
      .func (.func 68) #[] #[.pointer (some ⟨w.heap.size + 1 + 1, 0, none⟩)], .int .i64 x.1, .int .i64 x.2, undef, undef, undef, undef, undef, undef, undef, undef], defers := [] }) ?assign ?body ?done
  case assign =>
    intro l x W K hK
    gi_wp2
    exact hK
  case body =>
    intro l k W hk hC
    rw [hlq] at hk
    have hC : I0 (min k u) W := hC
    have hcu := (hC.o (w.heap.size, 3, .int .i64 (u : Int)) (by simp)).cell
    rw [hgd (k / 8) (by omega)]
    obtain ⟨v, hv, hrow⟩ := hC.v
    have hsz := hC.below.size
    have hcv := hv.cell
    by_cases hku : k < u
    · have hmin : min k u = k := by omega
      have hmin' : min (k + 1) u = k + 1 := by omega
      have hd : decide ((k : Int) < (u : Int)) = true := decide_eq_true (by omega)
      have hsucc := bits_row_succ l0 k
      generalize bitB (l0.getD (k / 8) 0) (k % 8) = y at *
      show Code.wpIn _ _ _ _ (Exit.then (fun _ W' => KeepsFrom _ W W' ∧ I0 (min (k + 1) u) W') _) _ _
      rw [hmin] at hC hrow
      rw [hmin']
      have hlen : (encs (Value.int .i64) (bits_row l0 k)).length = k := by simp [encs, bits_row_len]
      have HL := Lib.hid hlen
      have HS := Lib.hid hsucc
      clear hlen hsucc hmin hmin' hst h00 hheld hrows hbt hgd
      gi_wp2_with (gi_at_builtin; refine wpListIn_append_own _ rfl _ _ 24 rfl (w.heap.size + 1) 3 i0 (.int .i64 0) 1 8 Try.underlying24 hi hz0 hz1 hz2 rfl (by decide) _ _ _ rfl (hrow.alloc _) ⟨W.heap.size, 0, none⟩ 1 1 [.int .i64 y] rfl rfl (cell_one_new _ _ _) (by simp [Value.oneCell']) (by rw [HL.out]; simp only [maxLen]; omega) (by rw [HL.out]; omega) (by simp; omega) ?_; intro v' w1 hown' hgrow _; obtain ⟨g', cap', rfl⟩ := ownsRow_succ hown'; obtain ⟨hb1, hb2, hb3⟩ := CollB.append hC (by omega) (by omega) (by decide) hoth hv hrow hown' hgrow (w.heap.size + 1 + 1 + 1); have hc1 := hb1.cell; have hf1 := hb1.frozen)
      show CollB _ _ _ _ _ _ _ (encs (Value.int .i64) (bits_row l0 (k + 1))) _
      rw [HS.out]
      have : encs (Value.int .i64) (bits_row l0 k ++ [y]) = encs (Value.int .i64) (bits_row l0 k) ++ [.int .i64 y] := by simp [encs]
      rw [this]
      exact hb3
    · have hmin : min (k + 1) u = min k u := by omega
      have hd : decide ((k : Int) < (u : Int)) = false := decide_eq_false (by omega)
      show Code.wpIn _ _ _ _ (Exit.then (fun _ W' => KeepsFrom _ W W' ∧ I0 (min (k + 1) u) W') _) _ _
      rw [hmin]
      gi_wp2
      exact ⟨KeepsFrom.refl _ _, hC⟩
  case done =>
    rintro D W hD he hK
    have hC : I0 u W := by
      rcases he with ⟨hz, h⟩ | ⟨k, hk, h⟩
      · rw [hlq] at hz; omega
      · have e : min (k + 1) u = u := by rw [hlq] at hk; omega
        have h : I0 (min (k + 1) u) W := h
        rw [e] at h
        exact h
    obtain ⟨v, hv, hrow⟩ := hC.v
    have hc := hv.cell
    have hR : (Kd.int .i64).R 3 W w.heap.size (fun _ => True) v (bits_row l0 u) := Kd.R_lower (Kd.R_of_own (by simpa [encs] using hrow) (fun _ _ => trivial)) (by omega)
    have hBW := hC.below
    clear hst h00 hheld hrows hbt hgd
    gi_wp2
    refine ⟨by simp, .inl ⟨_, _, rfl, run_takeDeferred hK, ?_⟩⟩
    exact ⟨_, results_tmp2 rfl _ _ _, _, rfl, R_putObj_' hR _ hK rfl, hBW.trans (belowK_b (w := w) (Nat.le_refl _) _ D _ _ (by rw [World.size_alloc, hwl] at hD; omega) hK rfl rfl)⟩
theorem bits_Unpack.calls (A0 : Option Addr) (c0 : Nat) (l0 : List Int) (a1 : Int) (r1 : List Int) (r2 : Int) (w : World) (hr0 : Kd.C (Kd.int .u8) w A0 l0.length l0) (hc0 : l0.length ≤ c0) (h : bits_Unpack.f l0 a1 = some (r1, r2)) :
    Calls Try.prog 60 #[.slice A0 l0.length c0, .int .i64 a1] w fun e w' => ∃ v0_ : Value, e = .returned (.tuple #[v0_, .int .i64 r2]) ∧ Kd.R (Kd.int .i64) 3 w' w.heap.size (fun _ => True) v0_ r1 ∧ Below w.heap.size w w' := by
  unfold bits_Unpack.f at h
  by_cases hx : a1 < -9223372036854775808 ∨ 9223372036854775807 < a1
  · rw [if_pos hx] at h; simp at h
  rw [if_neg hx] at h
  by_cases hy : a1 < 1 ∨ 4096 < a1
  · rw [if_pos hy] at h
    simp only [Option.some.injEq, Prod.mk.injEq] at h
    obtain ⟨rfl, rfl⟩ := h
    exact bits_Unpack.refuses A0 c0 l0 a1 w (by omega) (by omega) hy
  rw [if_neg hy] at h
  by_cases hz : (l0.length : Int) < (a1 + 7) / 8
  · rw [if_pos hz] at h
    simp only [Option.some.injEq, Prod.mk.injEq] at h
    obtain ⟨rfl, rfl⟩ := h
    exact bits_Unpack.short A0 c0 l0 a1 w (by omega) (by omega) hz
  rw [if_neg hz] at h
  split at h
  · rename_i hok
    simp only [Option.some.injEq, Prod.mk.injEq] at h
    obtain ⟨rfl, rfl⟩ := h
    obtain ⟨u, rfl⟩ := Int.eq_ofNat_of_zero_le (show 0 ≤ a1 by omega)
    exact (callsIn_wide (n := 3)).1 (bits_Unpack.is A0 c0 l0 u w hr0 hc0 (by omega) (by omega) (by omega) (bits_okU_of hok))
  · simp at h
end Go.Proofs.Ytdjonaajfhbfhaa.Q
