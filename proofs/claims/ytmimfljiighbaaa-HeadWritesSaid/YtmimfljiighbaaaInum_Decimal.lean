/- num.Decimal: a number's digits, for every number. -/
import Derived.Test.YtmimfljiighbaaaQ0
import Derived.Test.YtmimfljiighbaaaQ29
import Derived.Below
import Derived.Deep.Draws
import Derived.Deep.AppendLies
import Derived.Maps.AppendAt
import Derived.OwnWalk
import Derived.Laws.BytesArg
import Derived.Laws.MakeOwn
import Derived.Laws.OwnMore
import Derived.Deep.OwnRows
import Derived.Tactics
import Derived.Lib.ConvBytes
import Derived.Laws.Slices
import Derived.WalkKit
import Derived.KernelRfl
import Derived.RowKit3
import Derived.Deep.LoopGhost
import Derived.Deep.QuietTactic
import Derived.BigQuiet
import Derived.WideLaws
import Derived.Deep.DeepCutAuto
import Derived.Deep.CutBlock
import Derived.Deep.RegionHeld3
import Derived.Laws.Rows
import Derived.Lib.AppendStr
import Derived.ArgAppend
import Derived.Laws.IdiomCopy
import Derived.OrdersHeld
import Derived.Laws.BitsLemmas
import Derived.RowKit
import Derived.Test.YtmimfljiighbaaaMore
import Derived.Test.YtmimfljiighbaaaPeel
import Derived.Test.YtmimfljiighbaaaTok
import Derived.Test.YtmimfljiighbaaaHead
import Derived.Scope
import Derived.Test.YtmimfljiighbaaaWWords
import Derived.Test.YtmimfljiighbaaaWLast
import Derived.Test.YtmimfljiighbaaaWTab
import Derived.Test.YtmimfljiighbaaaWFour
import Derived.Test.YtmimfljiighbaaaWQPut
import Derived.Test.YtmimfljiighbaaaWApart
import Derived.Test.YtmimfljiighbaaaWArr
import Derived.Test.YtmimfljiighbaaaWZeros
import Derived.Test.YtmimfljiighbaaaWFoot
import Derived.Test.YtmimfljiighbaaaWKept
import Derived.Test.YtmimfljiighbaaaWShare
import Derived.Test.YtmimfljiighbaaaWN
import Derived.Test.YtmimfljiighbaaaWFootNe
import Derived.Test.YtmimfljiighbaaaWAt
import Derived.Test.YtmimfljiighbaaaWEqStruct
import Derived.Test.YtmimfljiighbaaaWRepsOne
import Derived.Test.YtmimfljiighbaaaWInv
import Derived.Test.YtmimfljiighbaaaWInvWords
import Derived.Test.YtmimfljiighbaaaWGuard
import Derived.Test.YtmimfljiighbaaaWNEv
import Derived.Test.YtmimfljiighbaaaWMore
import Derived.Test.YtmimfljiighbaaaDigits
namespace Go.Proofs.Ytmimfljiighbaaa.Q
open Go.RowKit Go.Shelf Go.Proofs.YtmimfljiighbaaaW.PrintWords Go.Proofs.YtmimfljiighbaaaW.PrintLast Go.Proofs.Ytmimfljiighbaaa.Rg Go.Proofs.Ytmimfljiighbaaa.Dg
attribute [local go_sem] Oper.semAt_some
set_option linter.unusedVariables false
set_option linter.unusedSimpArgs false

/-- The digits of a number that is not below nought, the lowest first, as bytes. -/
def num_decR (u : Nat) : List Int := if h : u < 10 then [((48 + u : Nat) : Int)] else ((48 + u % 10 : Nat) : Int) :: num_decR (u / 10)
termination_by u
decreasing_by exact Nat.div_lt_self (by omega) (by omega)
def num_decL (a0 : Int) : List Int := (num_decR a0.natAbs ++ if a0 < 0 then [45] else []).reverse
def num_Decimal.f (a0 : Int) : Option ByteArray := if -9223372036854775808 ≤ a0 ∧ a0 ≤ 9223372036854775807 then some (strOfNums (num_decL a0)) else none

theorem num_decInfo : (Try.prog.info? 5).map (fun i => (i.zero, i.size, i.bytes)) = some (some (.int .u8 0), 1, 1) := by kernel_rfl

/-- What has been collected behind k rounds. -/
def num_decI (u : Nat) (k : Nat) : List Int := (List.range k).map fun j => ((48 + vD u 10 j % 10 : Nat) : Int)
def num_decPre (u : Nat) (k : Nat) : List Value := encs (Value.int .u8) (num_decI u k)
theorem num_decPre_succ (u k : Nat) : num_decPre u (k + 1) = num_decPre u k ++ [.int .u8 ((48 + vD u 10 k % 10 : Nat) : Int)] := by simp [num_decPre, num_decI, List.range_succ, encs]
theorem num_decI_len (u k : Nat) : (num_decI u k).length = k := by simp [num_decI]
theorem num_decPre_len (u k : Nat) : (num_decPre u k).length = k := by simp [num_decPre, encs, num_decI_len]
theorem num_decI_of : ∀ (u k : Nat), nD 10 u = k + 1 → num_decI u (k + 1) = num_decR u := by
  intro u
  induction u using Nat.strongRecOn with
  | _ u ih =>
    intro k hk
    unfold nD at hk
    unfold num_decR
    by_cases h : u < 10
    · rw [dif_pos (Or.inl h)] at hk
      obtain rfl : k = 0 := by omega
      rw [dif_pos h]
      simp [num_decI, vD_zero]
      omega
    · rw [dif_neg (by omega)] at hk
      rw [dif_neg h]
      cases k with
      | zero => have := nD_pos 10 (u / 10); omega
      | succ k =>
        have := ih (u / 10) (Nat.div_lt_self (by omega) (by omega)) k (by omega)
        rw [← this]
        have e : ∀ j, vD u 10 (j + 1) = vD (u / 10) 10 j := fun j => by unfold vD; rw [Nat.div_div_eq_div_mul, ← Nat.pow_succ']
        unfold num_decI
        rw [List.range_succ_eq_map (n := k + 1), List.map_cons, List.map_map]
        simp only [vD_zero]
        congr 1
        apply List.map_congr_left
        intro j _
        simp only [Function.comp_apply, Nat.succ_eq_add_one, e]
theorem nD_10_le (u : Nat) (hu : u ≤ 18446744073709551615) : nD 10 u ≤ 64 := by
  apply Nat.le_of_not_lt
  intro h
  have h1 := nD_more 10 (by omega) u 63 (by omega)
  have h2 : vD u 10 63 ≤ u / 18446744073709551616 := by
    unfold vD
    exact Nat.div_le_div_left (by decide) (by decide)
  omega
theorem num_R_nums {e : Nat} {W : World} {base : Nat} {ok : Nat → Prop} {v : Value} {xs : List Int} (h : (Kd.int .u8).R e W base ok v xs) : W.ownsRow base e 1 v xs.length (nums .u8 xs) := by
  obtain ⟨_, inner, ho, hr⟩ := h
  rw [Kd.reps_encs hr] at ho
  exact ho
theorem slices_Reverse_byte_byte.go (xs : List Int) (hn : xs.length ≤ 9223372036854775807) : ∀ (d k i : Nat) (c : List Int), c.length = xs.length → 2 * i ≤ xs.length → xs.length - 2 * i ≤ d → d < k →
    (∀ m, c[m]? = if m < i ∨ xs.length ≤ m + i then xs.reverse[m]? else xs[m]?) → slices_Reverse_byte_byte.l0 k c (i : Int) ((xs.length : Int) - 1 - i) = some xs.reverse := by
  intro d
  induction d with
  | zero =>
    intro k i c hc hi hd hk hm
    obtain ⟨k, rfl⟩ : ∃ m, k = m + 1 := ⟨k - 1, by omega⟩
    simp only [slices_Reverse_byte_byte.l0]
    rw [if_neg (by omega)]
    congr 1
    apply List.ext_getElem?
    intro m
    rw [hm m, if_pos (by omega)]
  | succ d ih =>
    intro k i c hc hi hd hk hm
    obtain ⟨k, rfl⟩ : ∃ m, k = m + 1 := ⟨k - 1, by omega⟩
    simp only [slices_Reverse_byte_byte.l0]
    by_cases hlt : (i : Int) < (xs.length : Int) - 1 - i
    · rw [if_pos hlt, if_pos (by omega), if_pos (by omega), if_pos (by omega), if_pos (by omega)]
      have w1 : wrap64 ((i : Int) + 1) = ((i + 1 : Nat) : Int) := by unfold wrap64; omega
      have w2 : wrap64 ((xs.length : Int) - 1 - i - 1) = (xs.length : Int) - 1 - ((i + 1 : Nat) : Int) := by unfold wrap64; omega
      have e1 : (i : Int).toNat = i := by omega
      have e2 : ((xs.length : Int) - 1 - i).toNat = xs.length - 1 - i := by omega
      rw [w1, w2, e1, e2]
      have r1 : rd c (i : Int) = (xs[i]?).getD 0 := by unfold rd; rw [e1, List.getD_eq_getElem?_getD, hm i, if_neg (by omega)]
      have r2 : rd c ((xs.length : Int) - 1 - i) = (xs[xs.length - 1 - i]?).getD 0 := by unfold rd; rw [e2, List.getD_eq_getElem?_getD, hm _, if_neg (by omega)]
      rw [r1, r2]
      apply ih k (i + 1)
      · simp [hc]
      · omega
      · omega
      · omega
      · intro m
        rw [List.getElem?_set, List.getElem?_set]
        simp only [List.length_set, hc]
        by_cases h1 : xs.length - 1 - i = m
        · subst h1
          rw [if_pos rfl, if_pos (by omega), if_pos (by omega), List.getElem?_reverse (by omega)]
          have : xs.length - 1 - (xs.length - 1 - i) = i := by omega
          rw [this, List.getElem?_eq_getElem (by omega)]
          rfl
        · rw [if_neg h1]
          by_cases h2 : i = m
          · subst h2
            rw [if_pos rfl, if_pos (by omega), if_pos (by omega), List.getElem?_reverse (by omega), List.getElem?_eq_getElem (by omega)]
            rfl
          · rw [if_neg h2, hm m]
            by_cases h3 : m < i ∨ xs.length ≤ m + i
            · rw [if_pos h3, if_pos (by omega)]
            · rw [if_neg h3, if_neg (by omega)]
    · rw [if_neg hlt]
      congr 1
      apply List.ext_getElem?
      intro m
      rw [hm m]
      by_cases h3 : m < i ∨ xs.length ≤ m + i
      · rw [if_pos h3]
      · rw [if_neg h3, List.getElem?_reverse (by omega)]
        congr 1
        omega
theorem slices_Reverse_byte_byte.rev (xs : List Int) (hn : xs.length ≤ 9223372036854775807) : slices_Reverse_byte_byte.f (xs.length + 1) xs = some xs.reverse := by
  unfold slices_Reverse_byte_byte.f
  have : wrap64 ((xs.length : Int) - 1) = (xs.length : Int) - 1 - ((0 : Nat) : Int) := by unfold wrap64; omega
  rw [this]
  exact slices_Reverse_byte_byte.go xs hn xs.length _ 0 xs rfl (by omega) (by omega) (by omega) (fun m => by
    by_cases h : xs.length ≤ m
    · rw [if_pos (by omega), List.getElem?_eq_none h, List.getElem?_eq_none (by simp; omega)]
    · rw [if_neg (by omega)])

theorem num_neg_row {W : World} {B e u k g cap : Nat} (hdi : num_decI u (k + 1) = num_decR u) (h : W.ownsRow B e 1 (.slice (some ⟨g, 0, none⟩) (k + 1 + 1) cap) (k + 1 + 1) (num_decPre u (k + 1) ++ [.int .u8 45])) :
    (Kd.int .u8).R e W B (fun j => j = g) (.slice (some ⟨g, 0, none⟩) (k + 1 + 1) cap) (num_decR u ++ [45]) := by
  have hl : (num_decR u).length = k + 1 := by rw [← hdi, num_decI_len]
  refine Kd.R_of_own ?_ (fun j hj => by simpa [Value.ownBlock] using hj.symm)
  rw [List.length_append, hl, ← hdi]
  simpa [encs, num_decPre] using h
theorem num_apart {W : World} {B e s n D g cap : Nat} {xs : List Value} (h : W.ownsRow B e s (.slice (some ⟨g, 0, none⟩) n cap) n xs) (hK : W.heap[D]? = some (.deferred (some []))) : ¬ (D = g) := by
  rintro rfl
  obtain ⟨cells, hgc⟩ := own_typed h D rfl
  have := hK.symm.trans hgc
  cases this
theorem num_neg_rev {u k : Nat} (hdi : num_decI u (k + 1) = num_decR u) (hk : k ≤ 63) : slices_Reverse_byte_byte.f ((num_decR u ++ [45]).length + 1) (num_decR u ++ [45]) = some (num_decR u ++ [45]).reverse :=
  slices_Reverse_byte_byte.rev _ (by rw [List.length_append, ← hdi, num_decI_len]; simp; omega)
theorem num_negu (a0 : Int) (h : a0 < 0) (h1 : -9223372036854775808 ≤ a0) : IntKind.u64.wrap (-IntKind.u64.wrap a0) = (a0.natAbs : Int) := by
  simp [IntKind.wrap, IntKind.bits, IntKind.signed]
  omega

set_option maxRecDepth 100000 in
set_option maxHeartbeats 8000000 in
theorem num_Decimal.above (a0 : Int) (h0 : 0 ≤ a0) (h1 : a0 ≤ 9223372036854775807) (w : World) :
    CallsIn Fence.wide 3 Try.prog 40 #[.int .i64 a0] w fun e w' => e = .returned (.string (strOfNums (num_decL a0))) ∧ Below w.heap.size w w' := by
  obtain ⟨i0, hi, hz⟩ := Option.map_eq_some_iff.1 num_decInfo
  simp only [Prod.mk.injEq] at hz
  obtain ⟨hz0, hz1, hz2⟩ := hz
  have HN := Lib.hid h0
  obtain ⟨u, rfl⟩ := Int.eq_ofNat_of_zero_le h0
  have hle : u ≤ 9223372036854775808 := by omega
  have hL : num_decL u = (num_decR u).reverse := by unfold num_decL; rw [if_neg (by omega), List.append_nil, Int.natAbs_natCast]
  have hc1 : decide ((u : Int) < 0) = false := decide_eq_false (by omega)
  have HLL := Lib.hid hL
  clear hL
  refine callsIn_of_wp_marks Try.func40 rfl trivial ?_ rfl
  simp only [Try.ntmps40, List.size_toArray, List.length_cons, List.length_nil, Nat.reduceAdd, Nat.reduceSub, Array.replicate_succ, Array.replicate_zero, List.push_toArray, List.append_toArray, List.nil_append, List.cons_append]
  gi_wp2_with (refine ⟨trivial, ?_⟩; gi_at_call 49; refine (digits_in Fence.wide 2 trivial rfl _ _ _).mono ?_; rintro e w' ⟨rfl, rfl⟩)
  have hB0 : Below w.heap.size w (((w.alloc (.cells #[.slice none 0 0] 33)).alloc (.cells #[.int .u64 (u : Int)] 86)).alloc (.cells #[.int .u64 10] 86)) :=
    (((Below.refl _ w).alloc (Nat.le_refl _) _).alloc (by simp) _).alloc (by simp; omega) _
  have hC0 : Coll w.heap.size w 33 5 86 (vD u 10 0) 10 (num_decPre u 0) (((w.alloc (.cells #[.slice none 0 0] 33)).alloc (.cells #[.int .u64 (u : Int)] 86)).alloc (.cells #[.int .u64 10] 86)) := by
    refine ⟨⟨.slice none 0 0, ((Boxed.new w _ _).alloc _).alloc _, World.ownsRow_nil _ _ _ _⟩, ?_, ?_, hB0⟩
    · rw [vD_zero]
      have := (Boxed.new (w.alloc (.cells #[.slice none 0 0] 33)) 86 (.int .u64 (u : Int))).alloc (.cells #[.int .u64 10] 86)
      rwa [World.size_alloc] at this
    · have := Boxed.new ((w.alloc (.cells #[.slice none 0 0] 33)).alloc (.cells #[.int .u64 (u : Int)] 86)) 86 (.int .u64 ((10 : Nat) : Int))
      rwa [World.size_alloc, World.size_alloc] at this
  refine rangeAll rfl (by omega) (gf := 53) (lb := #[.pointer (some ⟨w.heap.size + 1, 0, none⟩), .pointer (some ⟨w.heap.size + 1 + 1, 0, none⟩)]) rfl trivial (enters_of Try.func53 (by kernel_rfl) rfl) (encs := fun x : Int => #[Value.int .u8 x]) (fun _ => rfl)
    (fun k => ((vD u 10 k % 10 : Nat) : Int)) (nD 10 u) (fun k W => W.setCell ⟨w.heap.size + 1, 0, none⟩ (.int .u64 (vD u 10 (k + 1) : Nat)))
    (fun k W => Coll w.heap.size w 33 5 86 (vD u 10 k) 10 (num_decPre u k) W) (fun k W => Coll w.heap.size w 33 5 86 (vD u 10 k) 10 (num_decPre u (k + 1)) W)
    (digits_give Fence.wide (3 - 1) trivial rfl (by omega) _ _ u 10 (by omega) (by omega) (by omega) (by omega) _ _ (fun k W h => ⟨h.n.cell, h.n.frozen, h.b.cell⟩) (fun k W h => ⟨h.n.cell, h.n.frozen, h.b.cell⟩))
    (fun k W l hl => Below.heap_setCell _ _ _ _ (by simp at hl; simp; omega)) (fun k W _ h => h.step (Nat.le_refl _) (by decide) _)
    ⟨fun k W o h => h.alloc (Nat.le_refl _) o, fun k W l o o' hl ho hc h => h.putObj (Nat.le_refl _) o' (by simp at hl; omega) ho hc⟩
    ⟨fun k W o h => h.alloc (Nat.le_refl _) o, fun k W l o o' hl ho hc h => h.putObj (Nat.le_refl _) o' (by simp at hl; omega) ho hc⟩
    hC0
    (fun x => { tmps := #[.int .i64 (u : Int), undef, .string { data := #[] }, .int .u64 (u : Int), .pointer (some ⟨w.heap.size, 0, none⟩), .int .u8 x, .int .i64 (u : Int), .int .u64 (u : Int), .int .i64 (u : Int), .bool false, undef, undef, .int .u64 (u : Int), .func (.func 53) #[] #[.pointer (some ⟨w.heap.size + 1, 0, none⟩), .pointer (some ⟨w.heap.size + 1 + 1, 0, none⟩)], .int .u8 x, undef, undef, undef, undef, undef, undef, undef, undef, undef, undef, undef, undef, undef, undef], defers := [] }) ?assign ?body ?done
  case assign =>
    intro l x W K hK
    gi_wp2
    exact hK
  case body =>
    intro l k W hk hC
    obtain ⟨v, hv, hrow⟩ := hC.v
    have hc := hv.cell
    have hsz := hC.below.size
    generalize hx : vD u 10 k % 10 = x
    have hx1 : x < 10 := by omega
    have HX := Lib.hid hx
    clear hx
    have hkN := nD_10_le u (by omega)
    have hlen := num_decPre_len u k
    have HL := Lib.hid hlen
    clear hlen
    gi_wp2_with (gi_at_builtin; refine wpListIn_append_own _ rfl _ _ 33 rfl w.heap.size 5 i0 (.int .u8 0) 1 1 Try.underlying33 hi hz0 hz1 hz2 rfl (by decide) _ _ _ rfl (hrow.alloc _) ⟨W.heap.size, 0, none⟩ 1 1 [.int .u8 ((48 + x : Nat) : Int)] rfl rfl (cell_one_new _ _ _) (by simp [Value.oneCell']) (by rw [HL.out]; simp only [maxLen]; omega) (by rw [HL.out]; omega) (by simp; omega) ?_; intro v' w1 hown' hgrow _; obtain ⟨g', cap', rfl⟩ := ownsRow_succ hown'; obtain ⟨hb1, hb2, hb3⟩ := hC.append (Nat.le_refl _) (by decide) (by decide) hv hrow hown' hgrow (((w.alloc (Obj.cells #[Value.slice none 0 0] 33)).alloc (Obj.cells #[Value.int IntKind.u64 (u : Int)] 86)).alloc (Obj.cells #[Value.int IntKind.u64 10] 86)).heap.size; have hc1 := hb1.cell; have hf1 := hb1.frozen)
    refine ⟨hb2, ?_⟩
    rw [num_decPre_succ, HX.out]
    exact hb3
  case done =>
    rintro D W hD he hK
    obtain ⟨hn0, _⟩ | ⟨k, hk, hC⟩ := he
    · have := nD_pos 10 u; omega
    obtain ⟨v, hv, hrow⟩ := hC.v
    have hc := hv.cell
    have hBW := hC.below
    have hsz := hBW.size
    have hk63 : k ≤ 63 := by have := nD_10_le u (by omega); omega
    rw [num_decPre_len] at hrow
    have hdi := num_decI_of u k hk
    have HK := Lib.hid hk
    clear hk
    obtain ⟨g, cap, rfl⟩ := ownsRow_succ hrow
    have hR : (Kd.int .u8).R 5 W w.heap.size (fun j => j = g) (.slice (some ⟨g, 0, none⟩) (k + 1) cap) (num_decR u) := by
      rw [← hdi]
      exact Kd.R_of_own (by rw [num_decI_len]; exact hrow) (fun j hj => by simpa [Value.ownBlock] using hj.symm)
    have hgne : ¬ (w.heap.size = g) := fun e => hv.not_row (by decide) hrow (by simp [Value.ownBlock, e])
    have hgD : ¬ (D = g) := by
      rintro rfl
      obtain ⟨cells, hgc⟩ := own_typed hrow D rfl
      have := hK.symm.trans hgc
      cases this
    have hlen : (num_decR u).length = k + 1 := by rw [← hdi, num_decI_len]
    have hrev := slices_Reverse_byte_byte.rev (num_decR u) (by omega)
    have HDI := Lib.hid hdi
    have HLE := Lib.hid hlen
    clear hdi hlen
    gi_wp2_with (refine ⟨trivial, ?_⟩; gi_at_call 50; refine (callsIn_wide.2 (slices_Reverse_byte_byte.calls _ (fun j => j = g) _ (num_decR u) (num_decR u).reverse w _ hBW hR hrev)).mono ?_; rintro e W3 ⟨rfl, hR3, hB3, hK3⟩; have hc3 := Go.Proofs.YtmimfljiighbaaaW.PrintWords.cell_kept hc hK3 hgne; have hd3 := blk_kept hK hK3 hgD; have hstr := own_string Try.underlying33 Try.underlying5 Try.underlying9 (num_R_nums hR3))
    refine ⟨by simp, .inl ⟨_, _, rfl, run_takeDeferred hd3, ?_⟩⟩
    exact ⟨_, results_tmp rfl _ _ _, by rw [HLL.out]; rfl, hB3.trans (belowK_b (w := w) (Nat.le_refl _) _ D _ _ (by simp at hD; omega) hd3 rfl rfl)⟩

set_option maxRecDepth 100000 in
set_option maxHeartbeats 8000000 in
theorem num_Decimal.below (a0 : Int) (h0 : a0 < 0) (h1 : -9223372036854775808 ≤ a0) (w : World) :
    CallsIn Fence.wide 3 Try.prog 40 #[.int .i64 a0] w fun e w' => e = .returned (.string (strOfNums (num_decL a0))) ∧ Below w.heap.size w w' := by
  obtain ⟨i0, hi, hz⟩ := Option.map_eq_some_iff.1 num_decInfo
  simp only [Prod.mk.injEq] at hz
  obtain ⟨hz0, hz1, hz2⟩ := hz
  have HN := Lib.hid h0
  have hu := num_negu a0 h0 h1
  have hle : a0.natAbs ≤ 9223372036854775808 := by omega
  have hL : num_decL a0 = 45 :: (num_decR a0.natAbs).reverse := by unfold num_decL; rw [if_pos h0, List.reverse_append]; rfl
  have hc1 : decide (a0 < 0) = true := decide_eq_true h0
  generalize a0.natAbs = u at *
  have HLL := Lib.hid hL
  clear hL
  refine callsIn_of_wp_marks Try.func40 rfl trivial ?_ rfl
  simp only [Try.ntmps40, List.size_toArray, List.length_cons, List.length_nil, Nat.reduceAdd, Nat.reduceSub, Array.replicate_succ, Array.replicate_zero, List.push_toArray, List.append_toArray, List.nil_append, List.cons_append]
  gi_wp2_with (refine ⟨trivial, ?_⟩; gi_at_call 49; refine (digits_in Fence.wide 2 trivial rfl _ _ _).mono ?_; rintro e w' ⟨rfl, rfl⟩)
  clear hu
  have hB0 : Below w.heap.size w (((w.alloc (.cells #[.slice none 0 0] 33)).alloc (.cells #[.int .u64 (u : Int)] 86)).alloc (.cells #[.int .u64 10] 86)) :=
    (((Below.refl _ w).alloc (Nat.le_refl _) _).alloc (by simp) _).alloc (by simp; omega) _
  have hC0 : Coll w.heap.size w 33 5 86 (vD u 10 0) 10 (num_decPre u 0) (((w.alloc (.cells #[.slice none 0 0] 33)).alloc (.cells #[.int .u64 (u : Int)] 86)).alloc (.cells #[.int .u64 10] 86)) := by
    refine ⟨⟨.slice none 0 0, ((Boxed.new w _ _).alloc _).alloc _, World.ownsRow_nil _ _ _ _⟩, ?_, ?_, hB0⟩
    · rw [vD_zero]
      have := (Boxed.new (w.alloc (.cells #[.slice none 0 0] 33)) 86 (.int .u64 (u : Int))).alloc (.cells #[.int .u64 10] 86)
      rwa [World.size_alloc] at this
    · have := Boxed.new ((w.alloc (.cells #[.slice none 0 0] 33)).alloc (.cells #[.int .u64 (u : Int)] 86)) 86 (.int .u64 ((10 : Nat) : Int))
      rwa [World.size_alloc, World.size_alloc] at this
  refine rangeAll rfl (by omega) (gf := 53) (lb := #[.pointer (some ⟨w.heap.size + 1, 0, none⟩), .pointer (some ⟨w.heap.size + 1 + 1, 0, none⟩)]) rfl trivial (enters_of Try.func53 (by kernel_rfl) rfl) (encs := fun x : Int => #[Value.int .u8 x]) (fun _ => rfl)
    (fun k => ((vD u 10 k % 10 : Nat) : Int)) (nD 10 u) (fun k W => W.setCell ⟨w.heap.size + 1, 0, none⟩ (.int .u64 (vD u 10 (k + 1) : Nat)))
    (fun k W => Coll w.heap.size w 33 5 86 (vD u 10 k) 10 (num_decPre u k) W) (fun k W => Coll w.heap.size w 33 5 86 (vD u 10 k) 10 (num_decPre u (k + 1)) W)
    (digits_give Fence.wide (3 - 1) trivial rfl (by omega) _ _ u 10 (by omega) (by omega) (by omega) (by omega) _ _ (fun k W h => ⟨h.n.cell, h.n.frozen, h.b.cell⟩) (fun k W h => ⟨h.n.cell, h.n.frozen, h.b.cell⟩))
    (fun k W l hl => Below.heap_setCell _ _ _ _ (by simp at hl; simp; omega)) (fun k W _ h => h.step (Nat.le_refl _) (by decide) _)
    ⟨fun k W o h => h.alloc (Nat.le_refl _) o, fun k W l o o' hl ho hc h => h.putObj (Nat.le_refl _) o' (by simp at hl; omega) ho hc⟩
    ⟨fun k W o h => h.alloc (Nat.le_refl _) o, fun k W l o o' hl ho hc h => h.putObj (Nat.le_refl _) o' (by simp at hl; omega) ho hc⟩
    hC0
    (fun x => { tmps := #[.int .i64 a0, undef, .string { data := #[] }, .int .u64 (u : Int), .pointer (some ⟨w.heap.size, 0, none⟩), .int .u8 x, .int .i64 a0, .int .u64 (IntKind.u64.wrap a0), .int .i64 a0, .bool true, .int .u64 (IntKind.u64.wrap a0), .int .u64 (u : Int), .int .u64 (u : Int), .func (.func 53) #[] #[.pointer (some ⟨w.heap.size + 1, 0, none⟩), .pointer (some ⟨w.heap.size + 1 + 1, 0, none⟩)], .int .u8 x, undef, undef, undef, undef, undef, undef, undef, undef, undef, undef, undef, undef, undef, undef], defers := [] }) ?assign ?body ?done
  case assign =>
    intro l x W K hK
    gi_wp2
    exact hK
  case body =>
    intro l k W hk hC
    obtain ⟨v, hv, hrow⟩ := hC.v
    have hc := hv.cell
    have hsz := hC.below.size
    generalize hx : vD u 10 k % 10 = x
    have hx1 : x < 10 := by omega
    have HX := Lib.hid hx
    clear hx
    have hkN := nD_10_le u (by omega)
    have hlen := num_decPre_len u k
    have HL := Lib.hid hlen
    clear hlen
    gi_wp2_with (gi_at_builtin; refine wpListIn_append_own _ rfl _ _ 33 rfl w.heap.size 5 i0 (.int .u8 0) 1 1 Try.underlying33 hi hz0 hz1 hz2 rfl (by decide) _ _ _ rfl (hrow.alloc _) ⟨W.heap.size, 0, none⟩ 1 1 [.int .u8 ((48 + x : Nat) : Int)] rfl rfl (cell_one_new _ _ _) (by simp [Value.oneCell']) (by rw [HL.out]; simp only [maxLen]; omega) (by rw [HL.out]; omega) (by simp; omega) ?_; intro v' w1 hown' hgrow _; obtain ⟨g', cap', rfl⟩ := ownsRow_succ hown'; obtain ⟨hb1, hb2, hb3⟩ := hC.append (Nat.le_refl _) (by decide) (by decide) hv hrow hown' hgrow (((w.alloc (Obj.cells #[Value.slice none 0 0] 33)).alloc (Obj.cells #[Value.int IntKind.u64 (u : Int)] 86)).alloc (Obj.cells #[Value.int IntKind.u64 10] 86)).heap.size; have hc1 := hb1.cell; have hf1 := hb1.frozen)
    refine ⟨hb2, ?_⟩
    rw [num_decPre_succ, HX.out]
    exact hb3
  case done =>
    rintro D W hD he hK
    obtain ⟨hn0, _⟩ | ⟨k, hk, hC⟩ := he
    · have := nD_pos 10 u; omega
    obtain ⟨v, hv, hrow⟩ := hC.v
    have hc := hv.cell
    have hBW := hC.below
    have hsz := hBW.size
    have hk63 : k ≤ 63 := by have := nD_10_le u (by omega); omega
    rw [num_decPre_len] at hrow
    have hdi := num_decI_of u k hk
    have HK := Lib.hid hk
    clear hk
    have HDI := Lib.hid hdi
    clear hdi
    gi_wp2_with (gi_at_builtin; refine wpListIn_append_own _ rfl _ _ 33 rfl w.heap.size 5 i0 (.int .u8 0) 1 1 Try.underlying33 hi hz0 hz1 hz2 rfl (by decide) _ _ _ rfl (hrow.alloc _) ⟨W.heap.size, 0, none⟩ 1 1 [.int .u8 45] rfl rfl (cell_one_new _ _ _) (by simp [Value.oneCell']) (by simp only [maxLen]; omega) (by omega) (by simp; omega) ?_; intro v' w1 hown' hgrow _; obtain ⟨g', cap', rfl⟩ := ownsRow_succ hown'; obtain ⟨hb1, hv2, hr2, hk2, hb2⟩ := hv.appended (by decide) hrow hsz (Nat.le_refl _) hown' hgrow; have hc1 := hb1.cell; have hf1 := hb1.frozen; have hR : (Kd.int .u8).R 5 (w1.setCell ⟨w.heap.size, 0, none⟩ (.slice (some ⟨g', 0, none⟩) (k + 1 + 1) cap')) w.heap.size (fun j => j = g') (.slice (some ⟨g', 0, none⟩) (k + 1 + 1) cap') (num_decR u ++ [45]) := num_neg_row HDI.out hr2; have hgne : ¬ (w.heap.size = g') := (fun e => hv2.not_row (by decide) hr2 (by simp [Value.ownBlock, e])); have hc2 := hv2.cell; have hK2 := hk2.same _ _ hK rfl; have hgD : ¬ (D = g') := num_apart hr2 hK2; have HR := Lib.hid (num_neg_rev HDI.out (by omega)); have hBW2 := hBW.trans hb2)
    refine ⟨trivial, ?_⟩
    refine (callsIn_wide.2 (slices_Reverse_byte_byte.calls _ (fun j => j = g') _ _ _ w _ hBW2 hR HR.out)).mono ?_
    rintro e W3 ⟨rfl, hR3, hB3, hK3⟩
    have hc3 := Go.Proofs.YtmimfljiighbaaaW.PrintWords.cell_kept hc2 hK3 hgne
    have hd3 := blk_kept hK2 hK3 hgD
    have hstr := own_string Try.underlying33 Try.underlying5 Try.underlying9 (num_R_nums hR3)
    have hlen : (num_decR u ++ [45]).reverse.length = k + 1 + 1 := by rw [List.length_reverse, List.length_append, ← HDI.out, num_decI_len]; rfl
    gi_wp2
    refine ⟨by simp, .inl ⟨_, _, rfl, run_takeDeferred hd3, ?_⟩⟩
    exact ⟨_, results_tmp rfl _ _ _, by rw [HLL.out]; rfl, hB3.trans (belowK_b (w := w) (Nat.le_refl _) _ D _ _ (by simp at hD; omega) hd3 rfl rfl)⟩

theorem num_Decimal.calls (a0 : Int) (r : ByteArray) (w : World) (h : num_Decimal.f a0 = some r) :
    Calls Try.prog 40 #[.int .i64 a0] w fun e w' => e = .returned (.string r) ∧ Below w.heap.size w w' := by
  unfold num_Decimal.f at h
  split at h
  · rename_i hc
    obtain rfl := Option.some.inj h
    by_cases h0 : a0 < 0
    · exact callsIn_wide.1 (num_Decimal.below a0 h0 hc.1 w)
    · exact callsIn_wide.1 (num_Decimal.above a0 (by omega) hc.2 w)
  · cases h

end Go.Proofs.Ytmimfljiighbaaa.Q
