/- num.Put: a number's bytes, as a list, for every number. -/
import Derived.Test.YtkkcjhnhbddooaaQ0
import Derived.Below
import Derived.Deep.Draws
import Derived.Deep.AppendLies
import Derived.Maps.AppendAt
import Derived.OwnWalk
import Derived.Laws.BytesArg
import Derived.Laws.MakeOwn
import Derived.Laws.OwnMore
import Derived.Deep.OwnRows
import Derived.Tactics
import Derived.Lib.ConvBytes
import Derived.Laws.Slices
import Derived.WalkKit
import Derived.KernelRfl
import Derived.RowKit3
import Derived.Deep.LoopGhost
import Derived.Deep.QuietTactic
import Derived.BigQuiet
import Derived.WideLaws
import Derived.Deep.DeepCutAuto
import Derived.Deep.CutBlock
import Derived.Deep.RegionHeld3
import Derived.Laws.Rows
import Derived.Lib.AppendStr
import Derived.ArgAppend
import Derived.Laws.IdiomCopy
import Derived.OrdersHeld
import Derived.Laws.BitsLemmas
import Derived.RowKit
import Derived.Test.YtkkcjhnhbddooaaMore
import Derived.Test.YtkkcjhnhbddooaaWWords
import Derived.Test.YtkkcjhnhbddooaaWLast
import Derived.Test.YtkkcjhnhbddooaaWTab
import Derived.Test.YtkkcjhnhbddooaaWFour
import Derived.Test.YtkkcjhnhbddooaaWQPut
import Derived.Test.YtkkcjhnhbddooaaWApart
import Derived.Test.YtkkcjhnhbddooaaWArr
import Derived.Test.YtkkcjhnhbddooaaWZeros
import Derived.Test.YtkkcjhnhbddooaaWFoot
import Derived.Test.YtkkcjhnhbddooaaWKept
import Derived.Test.YtkkcjhnhbddooaaWShare
import Derived.Test.YtkkcjhnhbddooaaWN
import Derived.Test.YtkkcjhnhbddooaaWFootNe
import Derived.Test.YtkkcjhnhbddooaaWAt
import Derived.Test.YtkkcjhnhbddooaaWEqStruct
import Derived.Test.YtkkcjhnhbddooaaWRepsOne
import Derived.Test.YtkkcjhnhbddooaaWInv
import Derived.Test.YtkkcjhnhbddooaaWInvWords
import Derived.Test.YtkkcjhnhbddooaaWGuard
import Derived.Test.YtkkcjhnhbddooaaWNEv
import Derived.Test.YtkkcjhnhbddooaaWMore
import Derived.Test.YtkkcjhnhbddooaaDigits
namespace Go.Proofs.Ytkkcjhnhbddooaa.Q
open Go.RowKit Go.Shelf Go.Proofs.YtkkcjhnhbddooaaW.PrintWords Go.Proofs.YtkkcjhnhbddooaaW.PrintLast Go.Proofs.Ytkkcjhnhbddooaa.Rg Go.Proofs.Ytkkcjhnhbddooaa.Dg
attribute [local go_sem] Oper.semAt_some
set_option linter.unusedVariables false
set_option linter.unusedSimpArgs false

/-- The bytes: seven digits each, the lowest first; all but the last have 128 more. -/
def num_putL (u : Nat) : List Int := if h : u < 128 then [(u : Int)] else ((u % 128 + 128 : Nat) : Int) :: num_putL (u / 128)
termination_by u
decreasing_by exact Nat.div_lt_self (by omega) (by omega)
def num_Put.f (a0 : Int) : Option (List Int × Int) := if a0 < 0 ∨ a0 > 4611686018427387903 then some ([], 1) else some (num_putL a0.toNat, 0)

theorem num_putInfo : (Try.prog.info? 5).map (fun i => (i.zero, i.size, i.bytes)) = some (some (.int .u8 0), 1, 1) := by kernel_rfl

theorem u8_or128' : ∀ x : Fin 128, Go.bits .or .u8 ((x.val : Nat) : Int) 128 = ((x.val + 128 : Nat) : Int) := by decide
theorem u8_not128 : ∀ x : Fin 128, Go.bits .andNot .u8 ((x.val + 128 : Nat) : Int) 128 = ((x.val : Nat) : Int) := by decide

/-- What has been collected behind k rounds. -/
def num_putI (u : Nat) (k : Nat) : List Int := (List.range k).map fun j => ((vD u 128 j % 128 + 128 : Nat) : Int)
def num_putPre (u : Nat) (k : Nat) : List Value := encs (Value.int .u8) (num_putI u k)
theorem num_putPre_succ (u k : Nat) : num_putPre u (k + 1) = num_putPre u k ++ [.int .u8 ((vD u 128 k % 128 + 128 : Nat) : Int)] := by simp [num_putPre, num_putI, List.range_succ, encs]
theorem num_putI_len (u k : Nat) : (num_putI u k).length = k := by simp [num_putI]
theorem num_putPre_len (u k : Nat) : (num_putPre u k).length = k := by simp [num_putPre, encs, num_putI_len]
theorem num_putL_of : ∀ (u k : Nat), nD 128 u = k + 1 → (num_putI u (k + 1)).set k ((vD u 128 k : Nat) : Int) = num_putL u := by
  intro u
  induction u using Nat.strongRecOn with
  | _ u ih =>
    intro k hk
    unfold nD at hk
    unfold num_putL
    by_cases h : u < 128
    · rw [dif_pos (Or.inl h)] at hk
      obtain rfl : k = 0 := by omega
      rw [dif_pos h]
      simp [num_putI, vD_zero]
    · rw [dif_neg (by omega)] at hk
      rw [dif_neg h]
      cases k with
      | zero => have := nD_pos 128 (u / 128); omega
      | succ k =>
        have := ih (u / 128) (Nat.div_lt_self (by omega) (by omega)) k (by omega)
        rw [← this]
        have e : ∀ j, vD u 128 (j + 1) = vD (u / 128) 128 j := fun j => by unfold vD; rw [Nat.div_div_eq_div_mul, ← Nat.pow_succ']
        unfold num_putI
        rw [List.range_succ_eq_map (n := k + 1), List.map_cons, List.map_map, List.set_cons_succ]
        simp only [vD_zero, e]
        congr 2
        apply List.map_congr_left
        intro j _
        simp only [Function.comp_apply, Nat.succ_eq_add_one, e]
theorem R_putObj' {α : Type} {d : Kd α} {e : Nat} {W : World} {base : Nat} {ok : Nat → Prop} {v : Value} {xs : List α} (h : d.R e W base ok v xs) {l : Nat} {o : Obj} (o' : Obj) (hl : W.heap[l]? = some o) (ho : o.isCells = false) : d.R e (W.putObj l o') base ok v xs :=
  Kd.R_mono (Kd.R_grown (Kd.R_bound h) (grownBy_putObj' W l o') (fun k hk e' => by
    obtain ⟨_, _, _, q, _, cells, hc⟩ := hk
    obtain rfl : k = l := by simpa using e'
    rw [hl] at hc; cases hc; cases ho)) (fun k hk => hk.1)

theorem nD_le_64 (u : Nat) (hu : u ≤ 18446744073709551615) : nD 128 u ≤ 64 := by
  apply Nat.le_of_not_lt
  intro h
  have h1 := nD_more 128 (by omega) u 63 (by omega)
  have h2 : vD u 128 63 ≤ u / 18446744073709551616 := by
    unfold vD
    exact Nat.div_le_div_left (by decide) (by decide)
  omega

set_option maxRecDepth 100000 in
set_option maxHeartbeats 4000000 in
theorem num_Put.calls_in (F : Fence) (n : Nat) (hf : F.fn 15) (hd : F.fn 28) (hd1 : F.fn 32) (hro : F.round = none) (hn : 3 ≤ n) (a0 : Int) (h0 : 0 ≤ a0) (h1 : a0 ≤ 4611686018427387903) (w : World) :
    CallsIn F n Try.prog 15 #[.int .i64 a0] w fun e w' => ∃ v0_ : Value, e = .returned (.tuple #[v0_, .int .i64 0]) ∧ Kd.R (Kd.int .u8) 5 w' w.heap.size (fun _ => True) v0_ (num_putL a0.toNat) ∧ Below w.heap.size w w' := by
  have hn1 : 1 ≤ n := by omega
  obtain ⟨i0, hi, hz⟩ := Option.map_eq_some_iff.1 num_putInfo
  simp only [Prod.mk.injEq] at hz
  obtain ⟨hz0, hz1, hz2⟩ := hz
  obtain ⟨u, rfl⟩ := Int.eq_ofNat_of_zero_le h0
  have hc1 : decide ((u : Int) < 0) = false := decide_eq_false (by omega)
  have hc2 : decide (4611686018427387903 < (u : Int)) = false := decide_eq_false (by omega)
  refine callsIn_of_wp_marks Try.func15 rfl hf ?_ hro
  simp only [Try.ntmps15, List.size_toArray, List.length_cons, List.length_nil, Nat.reduceAdd, Nat.reduceSub, Array.replicate_succ, Array.replicate_zero, List.push_toArray, List.append_toArray, List.nil_append, List.cons_append]
  gi_wp2_with (gi_at_call 28; refine (digits_in F (n - 1) hd hro _ _ _).mono ?_; rintro e w' ⟨rfl, rfl⟩)
  have hB0 : Below w.heap.size w (((w.alloc (.cells #[.slice none 0 0] 29)).alloc (.cells #[.int .u64 (u : Int)] 48)).alloc (.cells #[.int .u64 128] 48)) :=
    (((Below.refl _ w).alloc (Nat.le_refl _) _).alloc (by simp) _).alloc (by simp; omega) _
  have hC0 : Coll w.heap.size w 29 5 48 (vD u 128 0) 128 (num_putPre u 0) (((w.alloc (.cells #[.slice none 0 0] 29)).alloc (.cells #[.int .u64 (u : Int)] 48)).alloc (.cells #[.int .u64 128] 48)) := by
    refine ⟨⟨.slice none 0 0, ((Boxed.new w _ _).alloc _).alloc _, World.ownsRow_nil _ _ _ _⟩, ?_, ?_, hB0⟩
    · rw [vD_zero]
      have := (Boxed.new (w.alloc (.cells #[.slice none 0 0] 29)) 48 (.int .u64 (u : Int))).alloc (.cells #[.int .u64 128] 48)
      rwa [World.size_alloc] at this
    · have := Boxed.new ((w.alloc (.cells #[.slice none 0 0] 29)).alloc (.cells #[.int .u64 (u : Int)] 48)) 48 (.int .u64 ((128 : Nat) : Int))
      rwa [World.size_alloc, World.size_alloc] at this
  refine rangeAll hro hn1 (gf := 32) (lb := #[.pointer (some ⟨w.heap.size + 1, 0, none⟩), .pointer (some ⟨w.heap.size + 1 + 1, 0, none⟩)]) rfl hd1 (enters_of Try.func32 (by kernel_rfl) rfl) (encs := fun x : Int => #[Value.int .u8 x]) (fun _ => rfl)
    (fun k => ((vD u 128 k % 128 : Nat) : Int)) (nD 128 u) (fun k W => W.setCell ⟨w.heap.size + 1, 0, none⟩ (.int .u64 (vD u 128 (k + 1) : Nat)))
    (fun k W => Coll w.heap.size w 29 5 48 (vD u 128 k) 128 (num_putPre u k) W) (fun k W => Coll w.heap.size w 29 5 48 (vD u 128 k) 128 (num_putPre u (k + 1)) W)
    (digits_give F (n - 1) hd1 hro (by omega) _ _ u 128 (by omega) (by omega) (by omega) (by omega) _ _ (fun k W h => ⟨h.n.cell, h.n.frozen, h.b.cell⟩) (fun k W h => ⟨h.n.cell, h.n.frozen, h.b.cell⟩))
    (fun k W l hl => Below.heap_setCell _ _ _ _ (by simp at hl; simp; omega)) (fun k W _ h => h.step (Nat.le_refl _) (by decide) _)
    ⟨fun k W o h => h.alloc (Nat.le_refl _) o, fun k W l o o' hl ho hc h => h.putObj (Nat.le_refl _) o' (by simp at hl; omega) ho hc⟩
    ⟨fun k W o h => h.alloc (Nat.le_refl _) o, fun k W l o o' hl ho hc h => h.putObj (Nat.le_refl _) o' (by simp at hl; omega) ho hc⟩
    hC0
    (fun x => { tmps := #[.int .i64 (u : Int), undef, .slice none 0 0, .int .i64 0, .pointer (some ⟨w.heap.size, 0, none⟩), .int .u8 x, .int .i64 (u : Int), .bool false, .bool false, .int .i64 (u : Int), .bool false, .bool false, .int .i64 (u : Int), .int .u64 (u : Int), .func (.func 32) #[] #[.pointer (some ⟨w.heap.size + 1, 0, none⟩), .pointer (some ⟨w.heap.size + 1 + 1, 0, none⟩)], .int .u8 x, undef, undef, undef, undef, undef, undef, undef, undef, undef, undef, undef, undef, undef, undef], defers := [] }) ?assign ?body ?done
  case assign =>
    intro l x W K hK
    gi_wp2
    exact hK
  case body =>
    intro l k W hk hC
    obtain ⟨v, hv, hrow⟩ := hC.v
    have hc := hv.cell
    have hsz := hC.below.size
    generalize hx : vD u 128 k % 128 = x
    have hx1 : x < 128 := by omega
    have hor : Go.bits .or .u8 (x : Int) 128 = ((x + 128 : Nat) : Int) := u8_or128' ⟨x, hx1⟩
    have HX := Lib.hid hx
    clear hx
    have hkN := nD_le_64 u (by omega)
    have hlen := num_putPre_len u k
    have HL := Lib.hid hlen
    clear hlen
    gi_wp2_with (gi_at_builtin; refine wpListIn_append_own _ rfl _ _ 29 rfl w.heap.size 5 i0 (.int .u8 0) 1 1 Try.underlying29 hi hz0 hz1 hz2 rfl (by decide) _ _ _ rfl (hrow.alloc _) ⟨W.heap.size, 0, none⟩ 1 1 [.int .u8 ((x + 128 : Nat) : Int)] rfl rfl (cell_one_new _ _ _) (by simp [Value.oneCell']) (by rw [HL.out]; simp only [maxLen]; omega) (by rw [HL.out]; omega) (by simp; omega) ?_; intro v' w1 hown' hgrow _; obtain ⟨g', cap', rfl⟩ := ownsRow_succ hown'; obtain ⟨hb1, hb2, hb3⟩ := hC.append (Nat.le_refl _) (by decide) (by decide) hv hrow hown' hgrow (((w.alloc (Obj.cells #[Value.slice none 0 0] 29)).alloc (Obj.cells #[Value.int IntKind.u64 (u : Int)] 48)).alloc (Obj.cells #[Value.int IntKind.u64 128] 48)).heap.size; have hc1 := hb1.cell; have hf1 := hb1.frozen)
    refine ⟨hb2, ?_⟩
    rw [num_putPre_succ, HX.out]
    exact hb3
  case done =>
    rintro D W hD he hK
    obtain ⟨hn0, _⟩ | ⟨k, hk, hC⟩ := he
    · have := nD_pos 128 u; omega
    obtain ⟨v, hv, hrow⟩ := hC.v
    have hc := hv.cell
    rw [num_putPre_len] at hrow
    obtain ⟨g, cap, rfl⟩ := ownsRow_succ hrow
    have hx1 : vD u 128 k < 128 := nD_last 128 (by omega) u k hk
    have hq : W.cell? ⟨g, k, none⟩ = some (.int .u8 ((vD u 128 k + 128 : Nat) : Int)) := by
      rw [hrow.cellAt k (by omega), num_putPre_succ, List.getElem?_append_right (by rw [num_putPre_len]; omega), num_putPre_len, Nat.mod_eq_of_lt hx1]; simp
    have hfr : W.frozen? ⟨g, k, none⟩ = false := hrow.frozenAt k
    have hR : (Kd.int .u8).R 5 W w.heap.size (fun _ => True) (.slice (some ⟨g, 0, none⟩) (k + 1) cap) (num_putI u (k + 1)) := Kd.R_of_own (by rw [num_putI_len]; exact hrow) (fun _ _ => trivial)
    have hnot : Go.bits .andNot .u8 (((vD u 128 k : Nat) : Int) + 128) 128 = ((vD u 128 k : Nat) : Int) := u8_not128 ⟨_, hx1⟩
    have hgne : w.heap.size ≠ g := fun e => hv.not_row (by decide) hrow (by simp [Value.ownBlock, e])
    have hk63 : k ≤ 63 := by have := nD_le_64 u (by omega); omega
    obtain ⟨cells, hgc⟩ := own_typed hrow g rfl
    have HL := Lib.hid (num_putL_of u k hk)
    have hBW := hC.below
    have hgB : w.heap.size ≤ g := hrow.lt g rfl |>.1
    generalize vD u 128 k = x at *
    clear hrow hC hv
    have hdef : (W.setCell ⟨g, k, none⟩ (.int .u8 (x : Int))).heap[D]? = some (.deferred (some [])) := by
      rw [Below.heap_setCell _ _ _ _ ?_]
      · exact hK
      · rintro rfl
        have := hK.symm.trans hgc
        cases this
    have HK := Lib.hid hk
    have hR2 := (show (Kd.int .u8).R 5 (W.setCell ⟨g, k, none⟩ (.int .u8 (x : Int))) w.heap.size (fun _ => True) (.slice (some ⟨g, 0, none⟩) (k + 1) cap) ((num_putI u (k + 1)).set k (x : Int)) from Kd.R_putn hR (k : Int) (x : Int))
    have hc2 : (W.setCell ⟨g, k, none⟩ (.int .u8 (x : Int))).cell? ⟨w.heap.size, 0, none⟩ = some (.slice (some ⟨g, 0, none⟩) (k + 1) cap) := (World.cell?_of_block (Below.heap_setCell _ _ _ _ hgne)).trans hc
    rw [HL.out] at hR2
    clear hk hR hgc
    gi_wp2
    refine ⟨by simp, .inl ⟨_, _, rfl, run_takeDeferred hdef, ?_⟩⟩
    exact ⟨_, results_tmp2 rfl _ _ _, _, rfl, R_putObj' hR2 _ hdef rfl, (hBW.setCell (p := ⟨g, k, none⟩) hgB _).trans (belowK_b (w := w) (Nat.le_refl _) _ D _ _ (by simp at hD; omega) hdef rfl rfl)⟩

set_option maxRecDepth 100000 in
set_option maxHeartbeats 4000000 in
theorem num_Put.refuses (a0 : Int) (h : a0 < 0 ∨ a0 > 4611686018427387903) (w : World) :
    Calls Try.prog 15 #[.int .i64 a0] w fun e w' => ∃ v0_ : Value, e = .returned (.tuple #[v0_, .int .i64 1]) ∧ Kd.R (Kd.int .u8) 5 w' w.heap.size (fun _ => True) v0_ [] ∧ Below w.heap.size w w' := by
  by_cases h0 : a0 < 0
  · have hc1 : decide (a0 < 0) = true := decide_eq_true h0
    clear h0 h
    go_enter Try.func15, Try.ntmps15
    go_wp2
    go_ret2
    exact ⟨_, rfl, Kd.R_nil _ _ _ _ _, Below.refl _ _⟩
  · have hc1 : decide (a0 < 0) = false := decide_eq_false h0
    have hc2 : decide (4611686018427387903 < a0) = true := decide_eq_true (by omega)
    clear h0 h
    go_enter Try.func15, Try.ntmps15
    go_wp2
    go_ret2
    exact ⟨_, rfl, Kd.R_nil _ _ _ _ _, Below.refl _ _⟩

theorem num_Put.calls (a0 : Int) (r1 : List Int) (r2 : Int) (w : World) (h : num_Put.f a0 = some (r1, r2)) :
    Calls Try.prog 15 #[.int .i64 a0] w fun e w' => ∃ v0_ : Value, e = .returned (.tuple #[v0_, .int .i64 r2]) ∧ Kd.R (Kd.int .u8) 5 w' w.heap.size (fun _ => True) v0_ r1 ∧ Below w.heap.size w w' := by
  unfold num_Put.f at h
  split at h
  · rename_i hc
    simp only [Option.some.injEq, Prod.mk.injEq] at h
    obtain ⟨rfl, rfl⟩ := h
    exact num_Put.refuses a0 hc w
  · rename_i hc
    simp only [Option.some.injEq, Prod.mk.injEq] at h
    obtain ⟨rfl, rfl⟩ := h
    exact (callsIn_wide (n := 3)).1 (num_Put.calls_in Fence.wide 3 trivial trivial trivial rfl (by omega) a0 (by omega) (by omega) w)
end Go.Proofs.Ytkkcjhnhbddooaa.Q
