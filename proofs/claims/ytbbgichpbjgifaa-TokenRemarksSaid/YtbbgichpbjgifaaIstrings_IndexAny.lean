/- strings.IndexAny over newline and return, at every string: the library's own text is walked; its bodies are the shelf's. -/
import Derived.Test.YtbbgichpbjgifaaQ0
import Derived.Below
import Derived.Deep.Draws
import Derived.Deep.AppendLies
import Derived.Maps.AppendAt
import Derived.OwnWalk
import Derived.Laws.BytesArg
import Derived.Laws.MakeOwn
import Derived.Laws.OwnMore
import Derived.Deep.OwnRows
import Derived.Tactics
import Derived.Lib.ConvBytes
import Derived.Laws.Slices
import Derived.WalkKit
import Derived.KernelRfl
import Derived.RowKit3
import Derived.Deep.LoopGhost
import Derived.Deep.QuietTactic
import Derived.BigQuiet
import Derived.WideLaws
import Derived.Deep.DeepCutAuto
import Derived.Deep.CutBlock
import Derived.Deep.RegionHeld3
import Derived.Laws.Rows
import Derived.Lib.AppendStr
import Derived.ArgAppend
import Derived.Laws.IdiomCopy
import Derived.OrdersHeld
import Derived.Laws.BitsLemmas
import Derived.RowKit
import Derived.Test.YtbbgichpbjgifaaMore
import Derived.Test.YtbbgichpbjgifaaPeel
import Derived.Test.YtbbgichpbjgifaaTok
import Derived.Scope
import Derived.Test.YtbbgichpbjgifaaWWords
import Derived.Test.YtbbgichpbjgifaaWLast
import Derived.Test.YtbbgichpbjgifaaWTab
import Derived.Test.YtbbgichpbjgifaaWFour
import Derived.Test.YtbbgichpbjgifaaWQPut
import Derived.Test.YtbbgichpbjgifaaWApart
import Derived.Test.YtbbgichpbjgifaaWArr
import Derived.Test.YtbbgichpbjgifaaWZeros
import Derived.Test.YtbbgichpbjgifaaWFoot
import Derived.Test.YtbbgichpbjgifaaWKept
import Derived.Test.YtbbgichpbjgifaaWShare
import Derived.Test.YtbbgichpbjgifaaWN
import Derived.Test.YtbbgichpbjgifaaWFootNe
import Derived.Test.YtbbgichpbjgifaaWAt
import Derived.Test.YtbbgichpbjgifaaWEqStruct
import Derived.Test.YtbbgichpbjgifaaWRepsOne
import Derived.Test.YtbbgichpbjgifaaWInv
import Derived.Test.YtbbgichpbjgifaaWInvWords
import Derived.Test.YtbbgichpbjgifaaWGuard
import Derived.Test.YtbbgichpbjgifaaWNEv
import Derived.Test.YtbbgichpbjgifaaWMore
import Derived.Shelf.Small.Strs
import Derived.Shelf.Small.Utf8
import Derived.Laws.Runes
import Derived.Shelf.Strings.Runes
import Derived.Shelf.Strings.IndexAnyAll
import Derived.Lib.OthersKept
import Derived.Lib.QuoteLoop
import Derived.WalkMore
import Derived.Handy
import Derived.Shelf.RegionOpenPlain
namespace Go.Proofs.Ytbbgichpbjgifaa.Q
open Go.Shelf Go.RowKit Go.Lib
set_option linter.unusedVariables false
set_option linter.unusedSimpArgs false
section
variable {P : Program} {ρ : Ren}
theorem T.dec_high (s : ByteArray) (i : Nat) (h : i < s.size) (hb : 128 ≤ (s.get! i).toNat) : 128 ≤ (Utf8.decode s i).1 ∧ 1 ≤ (Utf8.decode s i).2 ∧ i + (Utf8.decode s i).2 ≤ s.size ∧ ∀ j, i ≤ j → j < i + (Utf8.decode s i).2 → 128 ≤ (s.get! j).toNat := by
  have c0 : ∀ j, i ≤ j → j < i + 1 → 128 ≤ (s.get! j).toNat := fun j h1 h2 => by rw [show j = i by omega]; exact hb
  have one : 128 ≤ Utf8.runeError := by decide
  unfold Utf8.decode
  simp only [Nat.add_zero]
  rw [if_neg (by omega)]
  by_cases a2 : ((s.get! i).toNat / 32 == 6 && (decide (i + 1 < s.size) && (s.get! (i + 1)).toNat / 64 == 2)) = true
  · rw [if_pos a2]
    simp only [Bool.and_eq_true, decide_eq_true_eq, beq_iff_eq] at a2
    split
    · exact ⟨by assumption, by show 1 ≤ 2; decide, by show i + 2 ≤ s.size; omega, fun j h1 h2 => by rcases (by omega : j = i ∨ j = i + 1) with rfl | rfl <;> omega⟩
    · exact ⟨one, by decide, by omega, c0⟩
  rw [if_neg a2]
  clear a2
  by_cases a3 : ((s.get! i).toNat / 16 == 14 && (decide (i + 1 < s.size) && (s.get! (i + 1)).toNat / 64 == 2) && (decide (i + 2 < s.size) && (s.get! (i + 2)).toNat / 64 == 2)) = true
  · rw [if_pos a3]
    simp only [Bool.and_eq_true, decide_eq_true_eq, beq_iff_eq] at a3
    split
    · rename_i hc
      simp only [Bool.and_eq_true, decide_eq_true_eq] at hc
      exact ⟨by have := hc.1; omega, by show 1 ≤ 3; decide, by show i + 3 ≤ s.size; omega, fun j h1 h2 => by rcases (by omega : j = i ∨ j = i + 1 ∨ j = i + 2) with rfl | rfl | rfl <;> omega⟩
    · exact ⟨one, by decide, by omega, c0⟩
  rw [if_neg a3]
  clear a3
  by_cases a4 : ((s.get! i).toNat / 8 == 30 && (decide (i + 1 < s.size) && (s.get! (i + 1)).toNat / 64 == 2) && (decide (i + 2 < s.size) && (s.get! (i + 2)).toNat / 64 == 2) && (decide (i + 3 < s.size) && (s.get! (i + 3)).toNat / 64 == 2)) = true
  · rw [if_pos a4]
    simp only [Bool.and_eq_true, decide_eq_true_eq, beq_iff_eq] at a4
    split
    · rename_i hc
      simp only [Bool.and_eq_true, decide_eq_true_eq] at hc
      exact ⟨by have := hc.1; omega, by show 1 ≤ 4; decide, by show i + 4 ≤ s.size; omega, fun j h1 h2 => by rcases (by omega : j = i ∨ j = i + 1 ∨ j = i + 2 ∨ j = i + 3) with rfl | rfl | rfl | rfl <;> omega⟩
    · exact ⟨one, by decide, by omega, c0⟩
  rw [if_neg a4]
  exact ⟨one, by decide, by omega, c0⟩
set_option maxHeartbeats 2000000 in
set_option maxRecDepth 1000000 in
theorem T.rune_err (L : Lays.n152 P ρ) (s : ByteArray) (hs : s = ⟨#[10, 13]⟩) (w : World) :
    Calls P (ρ.f 152) #[.string s, .int .i32 65533] w fun e w' => e = .returned (.int .i64 (-1)) ∧ ∃ pos, w' = w.iter s pos := by
  have t3 := L.t3; have a3 := L.a3; have z3 := L.z3; have v3 := L.v3
  have t4 := L.t4; have a4 := L.a4; have z4 := L.z4; have v4 := L.v4
  have t5 := L.t5; have a5 := L.a5; have z5 := L.z5; have v5 := L.v5
  have t9 := L.t9; have a9 := L.a9; have z9 := L.z9; have v9 := L.v9
  have t21 := L.t21; have a21 := L.a21; have z21 := L.z21; have v21 := L.v21
  have hsz : s.size = 2 := by rw [hs]; rfl
  have h0 : ∀ ty, Sem.run P (Instr.next (Value.pointer (some { block := w.heap.size, off := 0 })) true ty) (w.iter s 0) = Result.ok (Value.tuple #[Value.bool true, Value.int IntKind.i64 (0 : Nat), Value.int IntKind.i32 10]) (w.iter s 1) := fun ty => by
    have := run_next_ascii (P := P) w s 0 ty (by omega) (by subst hs; show (10 : UInt8).toNat < 128; decide)
    rw [this]; subst hs; rfl
  have h1 : ∀ ty, Sem.run P (Instr.next (Value.pointer (some { block := w.heap.size, off := 0 })) true ty) (w.iter s 1) = Result.ok (Value.tuple #[Value.bool true, Value.int IntKind.i64 (1 : Nat), Value.int IntKind.i32 13]) (w.iter s 2) := fun ty => by
    have := run_next_ascii (P := P) w s 1 ty (by omega) (by subst hs; show (13 : UInt8).toNat < 128; decide)
    rw [this]; subst hs; rfl
  have h2 := run_next_end (P := P) w s 2
  clear hs
  go_enter L.f152, Body.n152_ntmps ρ
  go_wp2
  go_loopg [5, 6] 2 (fun g _ _ wx => ∃ i : Nat, i + g = 2 ∧ wx = w.iter s i)
  case atStart => exact ⟨0, rfl, rfl⟩
  case round =>
    obtain ⟨i, hig, rfl⟩ := hrel
    cases gk with
    | zero =>
      obtain rfl : i = 2 := by omega
      replace h2 := fun ty => h2 ty (by omega)
      go_wp2
      go_ret
      exact ⟨rfl, _, rfl⟩
    | succ g =>
      cases g with
      | zero =>
        obtain rfl : i = 1 := by omega
        go_wp2
        go_roundg 0
        case measure => omega
        case rel => exact ⟨2, rfl, rfl⟩
      | succ g =>
        obtain rfl : i = 0 := by omega
        go_wp2
        go_roundg 1
        case measure => omega
        case rel => exact ⟨1, rfl, rfl⟩
set_option maxHeartbeats 2000000 in
set_option maxRecDepth 1000000 in
theorem T.rune_far (L : Lays.n152 P ρ) (s : ByteArray) (hs : s = ⟨#[10, 13]⟩) (r : Int) (h0 : 128 ≤ r) (h1 : r ≠ 65533) (hv : Lib.validRune r = true) (w : World) (h2 : (Utf8.encode r).size = 2) :
    Calls P (ρ.f 152) #[.string s, .int .i32 r] w fun e w' => e = .returned (.int .i64 (-1)) ∧ ∃ n, w' = w.drewN n := by
  have t3 := L.t3; have a3 := L.a3; have z3 := L.z3; have v3 := L.v3
  have t4 := L.t4; have a4 := L.a4; have z4 := L.z4; have v4 := L.v4
  have t5 := L.t5; have a5 := L.a5; have z5 := L.z5; have v5 := L.v5
  have t9 := L.t9; have a9 := L.a9; have z9 := L.z9; have v9 := L.v9
  have t21 := L.t21; have a21 := L.a21; have z21 := L.z21; have v21 := L.v21
  have mixed := L.mixed
  have e119 : ∀ args w, (callFunc (ρ.f 119) args).run P w = .ok (.enter (ρ.f 119) args) w := enters_of L.f119 (by kernel_rfl) rfl
  have e137 : ∀ args w, (callFunc (ρ.f 137) args).run P w = .ok (.enter (ρ.f 137) args) w := enters_of L.f137 (by kernel_rfl) rfl
  have k0 : decide (0 ≤ r) = true := decide_eq_true (by omega)
  have k1 : decide (r < 128) = false := decide_eq_false (by omega)
  have k2 : (r == 65533) = false := beq_eq_false_iff_ne.2 h1
  have hsz : s.size = 2 := by rw [hs]; rfl
  have cv : ∀ n w, (convert (ρ.t 21) (ρ.t 9) (.int .i32 n)).run P w = .ok (.string (Utf8.encode n)) w := fun n w => run_convert_int_string w _ _ _ n (by rw [t21]; rfl) t9
  have hl : 128 ≤ ((Utf8.encode r)[1]'(by omega)).toNat := by
    have := (encode_facts r (by rw [validRune_eq]; exact hv) h0).2.2 (by omega)
    simpa [h2] using this
  clear h0 h1
  have hw1 : wrap64 (((Utf8.encode r).size : Int) - 1) = 1 := by rw [h2]; unfold wrap64; omega
  obtain ⟨b, hb⟩ : ∃ b, Utf8.encode r = b := ⟨_, rfl⟩
  simp only [hb] at h2 hl hw1
  have hne : (((s[1]'(by omega)).toNat : Int) != ((b[1]'(by omega)).toNat : Int)) = true := by
    have h13 : (s[1]'(by omega)).toNat = 13 := by subst hs; rfl
    rw [bne_iff_ne]; omega
  have hex : ∀ c, Lib.indexByte (s.extract 2 2).data.toList c = -1 := by subst hs; intro c; rfl
  have hem : ∀ c, Lib.indexByte [] c = -1 := fun c => rfl
  have hk2 : IntKind.i64.wrap 2 = 2 := wrap_small 2 (by omega) (by omega)
  have hk3 : wrap64 2 = 2 := by unfold wrap64; omega
  clear hs
  go_enter L.f152, Body.n152_ntmps ρ
  go_wp2_with (go_at_fn (ρ.f 119); refine (Any.utf8_ValidRune { L with } _ _).mono ?_; rintro e w' ⟨rfl, hw⟩; rw [hw, hv])
  refine wp_scope_straight ?_
  go_wp2_with (go_at_fn (ρ.f 137); refine (Any.strings_IndexByte { L with } _ _ _).mono ?_; rintro e w' ⟨rfl, hw⟩; rw [hw])
  refine wp_loop_rounds 1 ?_; rw [rounds_succ]
  go_wp2_with (go_at_fn (ρ.f 137); refine (Any.strings_IndexByte { L with } _ _ _).mono ?_; rintro e w' ⟨rfl, hw⟩; rw [hw])
  refine wp_scope_straight ?_
  go_wp2_with (go_at_fn (ρ.f 137); refine (Any.strings_IndexByte { L with } _ _ _).mono ?_; rintro e w' ⟨rfl, hw⟩; rw [hw])
  go_quiet_o (fail)
  go_wp2
  generalize hW : w.drewN nq = W
  go_quiet_o (first | (go_at_fn (ρ.f 137); refine Calls.quiet_of_same (Any.strings_IndexByte { L with } _ _ _)))
  go_wp2
  simp only [Exit.noGoto]
  go_wp2
  simp only [Exit.noGoto]
  go_ret
  exact ⟨rfl, _, by rw [← hW, World.drewN_drewN]⟩
set_option maxHeartbeats 2000000 in
set_option maxRecDepth 1000000 in
theorem T.rune_wide (L : Lays.n152 P ρ) (s : ByteArray) (hs : s.size = 2) (r : Int) (h0 : 128 ≤ r) (h1 : r ≠ 65533) (hv : Lib.validRune r = true) (w : World) (h2 : 3 ≤ (Utf8.encode r).size) (h4 : (Utf8.encode r).size ≤ 4) :
    Calls P (ρ.f 152) #[.string s, .int .i32 r] w fun e w' => e = .returned (.int .i64 (-1)) ∧ w' = w := by
  have t3 := L.t3; have a3 := L.a3; have z3 := L.z3; have v3 := L.v3
  have t4 := L.t4; have a4 := L.a4; have z4 := L.z4; have v4 := L.v4
  have t5 := L.t5; have a5 := L.a5; have z5 := L.z5; have v5 := L.v5
  have t9 := L.t9; have a9 := L.a9; have z9 := L.z9; have v9 := L.v9
  have t21 := L.t21; have a21 := L.a21; have z21 := L.z21; have v21 := L.v21
  have mixed := L.mixed
  have e119 : ∀ args w, (callFunc (ρ.f 119) args).run P w = .ok (.enter (ρ.f 119) args) w := enters_of L.f119 (by kernel_rfl) rfl
  have k0 : decide (0 ≤ r) = true := decide_eq_true (by omega)
  have k1 : decide (r < 128) = false := decide_eq_false (by omega)
  have k2 : (r == 65533) = false := beq_eq_false_iff_ne.2 h1
  have cv : ∀ n w, (convert (ρ.t 21) (ρ.t 9) (.int .i32 n)).run P w = .ok (.string (Utf8.encode n)) w := fun n w => run_convert_int_string w _ _ _ n (by rw [t21]; rfl) t9
  clear h0 h1
  obtain ⟨m, hm⟩ : ∃ m : Int, wrap64 (((Utf8.encode r).size : Int) - 1) = m := ⟨_, rfl⟩
  have hm2 : decide (m < 2) = false := decide_eq_false (by rw [← hm]; unfold wrap64; omega)
  obtain ⟨b, hb⟩ : ∃ b, Utf8.encode r = b := ⟨_, rfl⟩
  simp only [hb] at h2 hm
  clear h2 h4
  go_enter L.f152, Body.n152_ntmps ρ
  go_wp2_with (go_at_fn (ρ.f 119); refine (Any.utf8_ValidRune { L with } _ _).mono ?_; rintro e w' ⟨rfl, hw⟩; rw [hw, hv])
  refine wp_scope_straight ?_
  go_wp2
  refine wp_loop_rounds 1 ?_; rw [rounds_succ]
  go_wp2
  simp only [Exit.noGoto]
  go_ret
  exact ⟨rfl, rfl⟩

theorem T.rune_nl (L : Lays.n152 P ρ) (s : ByteArray) (hs : s = ⟨#[10, 13]⟩) (r : Int) (h0 : 128 ≤ r) (hv : Lib.validRune r = true) (w : World) :
    Calls P (ρ.f 152) #[.string s, .int .i32 r] w fun e w' => e = .returned (.int .i64 (-1)) ∧ Below w.heap.size w w' := by
  by_cases h1 : r = 65533
  · subst h1
    refine (T.rune_err L s hs w).mono fun e w' ⟨h, pos, h2⟩ => ⟨h, ?_⟩
    rw [h2]; exact (Below.refl _ _).alloc (Nat.le_refl _) _
  have he := encode_facts r (by rw [validRune_eq]; exact hv) h0
  by_cases h2 : (Utf8.encode r).size = 2
  · refine (T.rune_far L s hs r h0 h1 hv w h2).mono fun e w' ⟨h, n, h2⟩ => ⟨h, ?_⟩
    rw [h2]; exact ⟨rfl, rfl, rfl, Nat.le_refl _, fun _ _ => rfl⟩
  · refine (T.rune_wide L s (by rw [hs]; rfl) r h0 h1 hv w (by omega) he.2.1).mono fun e w' ⟨h, h2⟩ => ⟨h, ?_⟩
    rw [h2]; exact Below.refl _ _
theorem T.get_at (s : ByteArray) (i : Nat) (h : i < s.size) : s.get! i = s[i]'h := by
  cases s with | mk d => exact getElem!_pos d i h
theorem T.noAny_far {s chars : List UInt8} {i j : Nat} (h : Lib.NoAny s chars i) (hb : ∀ k b, i ≤ k → k < j → s[k]? = some b → chars.contains b = false) : Lib.NoAny s chars j := fun k b hk hs => by
  by_cases h1 : k < i
  · exact h k b h1 hs
  · exact hb k b (by omega) hk hs
set_option maxHeartbeats 8000000 in
set_option maxRecDepth 1000000 in
theorem T.any_nl (L : Lays.n153 P ρ) (s chars : ByteArray) (w : World) (hc : chars = ⟨#[10, 13]⟩) (h8 : s.size ≤ 8) :
    Calls P (ρ.f 153) #[.string s, .string chars] w fun e w' => e = .returned (.int .i64 (Lib.indexAny s.data.toList chars.data.toList)) ∧ Below w.heap.size w w' := by
  have HC : Aside (chars = ⟨#[10, 13]⟩) := hc
  have h2 : chars.size = 2 := by rw [hc]; rfl
  have hemp : chars.toList.isEmpty = false := by
    rw [Lib.toList_data, hc]; rfl
  clear hc
  have hn1 : ((chars.size : Int) == 1) = false := beq_eq_false_iff_ne.2 (by omega)
  have h8z : decide ((8 : Int) < (s.size : Int)) = false := decide_eq_false (by omega)
  have t3 := L.t3; have a3 := L.a3; have z3 := L.z3; have v3 := L.v3
  have t4 := L.t4; have a4 := L.a4; have z4 := L.z4; have v4 := L.v4
  have t5 := L.t5; have a5 := L.a5; have z5 := L.z5; have v5 := L.v5
  have t9 := L.t9; have a9 := L.a9; have z9 := L.z9; have v9 := L.v9
  have t21 := L.t21; have a21 := L.a21; have z21 := L.z21; have v21 := L.v21
  have e152 : ∀ args w, (callFunc (ρ.f 152) args).run P w = .ok (.enter (ρ.f 152) args) w := enters_of L.f152 (by kernel_rfl) rfl
  have e226 : ∀ args w, (callFunc (ρ.f 226) args).run P w = .ok (.enter (ρ.f 226) args) w := enters_of L.f226 (by kernel_rfl) rfl
  go_enter L.f153, Body.n153_ntmps ρ
  go_wp2_with (go_at_fn (ρ.f 226); refine (Any.strings_shouldUseASCIISet { L with } _ _).mono ?_; rintro e w' ⟨rfl, hw⟩; rw [hw, h8z])
  go_loopg [9, 10] s.size (fun g _ _ wx => ∃ i : Nat, i + g = s.size ∧ wx.heap[w.heap.size]? = some (.stringIter s i) ∧ Below w.heap.size w wx ∧ Lib.NoAny s.data.toList chars.data.toList i)
  case atStart => exact ⟨0, by omega, World.iter_heap w s 0, (Below.refl _ _).alloc (Nat.le_refl _) _, Lib.NoAny.zero _ _⟩
  case round =>
    obtain ⟨i, hig, hit, hbw, hno⟩ := hrel
    have HN : Aside (Lib.NoAny s.data.toList chars.data.toList i) := hno
    have HB : Aside (Below w.heap.size w wr) := hbw
    have HT : Aside (wr.heap[w.heap.size]? = some (.stringIter s i)) := hit
    clear hno hbw
    cases gk with
    | zero =>
      obtain rfl : i = s.size := by omega
      have hnx := fun ty => Lib.run_next_end_at (P := P) wr w.heap.size s s.size ty hit (by omega)
      clear hit
      go_wp2
      go_ret
      exact ⟨by rw [Lib.indexAny_none (by rw [← Lib.size_eq]; exact HN.out)]; rfl, HB.out⟩
    | succ g =>
      have hi : i < s.size := by omega
      obtain ⟨x, hx⟩ : ∃ x : UInt8, s[i]'hi = x := ⟨_, rfl⟩
      have hxl : s.data.toList[i]? = some x := by rw [← hx]; exact Lib.data_getElem? s i hi
      have Hx : Aside (s.data.toList[i]? = some x) := hxl
      clear hxl
      by_cases hx128 : x.toNat < 128
      · have hnx := fun ty => Lib.run_next_ascii_at (P := P) wr w.heap.size s i ty hit hi (by rw [hx]; exact hx128)
        rw [hx] at hnx
        obtain ⟨W1, hW1⟩ : ∃ W1, W1 = wr.iterAt w.heap.size s (i + 1) := ⟨_, rfl⟩
        have HT2 : Aside (W1.heap[w.heap.size]? = some (.stringIter s (i + 1))) := by rw [hW1]; exact Lib.iterAt_heap wr w.heap.size s i (i + 1) hit
        have HB2 : Aside (Below w.heap.size w W1) := by rw [hW1]; exact Lib.below_iterAt HB.out (k := w.heap.size) (Nat.le_refl _) s (i + 1)
        rw [← hW1] at hnx
        clear hW1 hit hx
        have hcon := Lib.contains_iff_indexByte chars.data.toList x
        have hback : ((x.toNat : Int)).toNat.toUInt8 = x := by simp
        cases hin : chars.data.toList.contains x
        · rw [hin] at hcon
          have hlt : ¬ ((0 : Int) ≤ Lib.indexByte chars.data.toList x) := of_decide_eq_false hcon.symm
          clear hcon
          go_wp2_with (go_at_fn (ρ.f 152); refine (Any.strings_IndexRune_ascii { L with } _ _ _ (by omega) (by omega)).mono ?_; rintro e w' ⟨rfl, hw⟩; rw [hw, hback])
          go_roundg g
          case measure => omega
          case rel => exact ⟨i + 1, by omega, HT2.out, HB2.out, HN.out.succ Hx.out hin⟩
        · rw [hin] at hcon
          have hge : (0 : Int) ≤ Lib.indexByte chars.data.toList x := of_decide_eq_true hcon.symm
          clear hcon
          go_wp2_with (go_at_fn (ρ.f 152); refine (Any.strings_IndexRune_ascii { L with } _ _ _ (by omega) (by omega)).mono ?_; rintro e w' ⟨rfl, hw⟩; rw [hw, hback])
          go_ret
          exact ⟨by rw [Lib.indexAny_hit HN.out Hx.out hin]; rfl, HB2.out⟩
      · have hnx := fun ty => Lib.run_next_any_at (P := P) wr w.heap.size s i ty hit hi
        have hd := T.dec_high s i hi (by rw [T.get_at s i hi, hx]; omega)
        have hv : Lib.validRune ((Utf8.decode s i).1 : Int) = true := by
          have h := Lib.decodeN_valid (s.size - i) (s.get! i).toNat (s.get! (i + 1)).toNat (s.get! (i + 2)).toNat (s.get! (i + 3)).toNat (UInt8.toNat_lt _)
          rw [← Lib.decode_at] at h
          simp only [Lib.validRune, decide_eq_true_eq]
          omega
        generalize hdr : Utf8.decode s i = dr at hnx hd hv
        obtain ⟨rr, kk⟩ := dr
        dsimp only at hnx hd hv
        have HNN : Aside (Lib.NoAny s.data.toList chars.data.toList (i + kk)) := by
          refine T.noAny_far HN.out fun k b h1 h3 hb => ?_
          have h5 := hd.2.2.2 k h1 h3
          have hks : k < s.size := by omega
          rw [T.get_at s k hks] at h5
          rw [Lib.data_getElem? s k hks, Option.some.injEq] at hb
          rw [hb] at h5
          rw [HC.out]
          show ([10, 13] : List UInt8).contains b = false
          simp only [List.contains_cons, List.contains_nil, Bool.or_false, Bool.or_eq_false_iff, beq_eq_false_iff_ne]
          exact ⟨fun e => by rw [e] at h5; exact absurd h5 (by decide), fun e => by rw [e] at h5; exact absurd h5 (by decide)⟩
        obtain ⟨W1, hW1⟩ : ∃ W1, W1 = wr.iterAt w.heap.size s (i + kk) := ⟨_, rfl⟩
        have HT2 : Aside (W1.heap[w.heap.size]? = some (.stringIter s (i + kk))) := by rw [hW1]; exact Lib.iterAt_heap wr w.heap.size s i (i + kk) hit
        have HB2 : Aside (Below w.heap.size w W1) := by rw [hW1]; exact Lib.below_iterAt HB.out (k := w.heap.size) (Nat.le_refl _) s (i + kk)
        rw [← hW1] at hnx
        have h1 := hd.1; have h3 := hd.2.1; have h4 := hd.2.2.1
        clear hW1 hit hx hd hx128
        have hlt : ∃ W2, W1.heap.size = W2 := ⟨_, rfl⟩
        go_wp2_with (go_at_fn (ρ.f 152); refine (T.rune_nl { L with } _ HC.out _ (by omega) hv _).mono ?_; rintro e w' ⟨rfl, hw⟩; have HW : Aside (Below W1.heap.size W1 w') := hw; clear hw)
        go_roundg (g + 1 - kk)
        case measure => omega
        case rel => exact ⟨i + kk, by omega, by rw [HW.out.block _ (lt_of_block HT2.out)]; exact HT2.out, HB2.out.trans (HW.out.mono HB2.out.size), HNN.out⟩
theorem T.any_all (L : Lays.n153 P ρ) (h116 : (P.info? (ρ.t 116)).map (fun i => (i.zero, i.size)) = some (some (.agg (Array.replicate 256 (.bool false))), 256)) (s chars : ByteArray) (w : World) (hc : chars = ⟨#[10, 13]⟩) (hs : s.size < 4294967281) :
    Calls P (ρ.f 153) #[.string s, .string chars] w fun e w' => e = .returned (.int .i64 (Lib.indexAny s.data.toList chars.data.toList)) ∧ Below w.heap.size w w' := by
  by_cases h8 : s.size ≤ 8
  · exact T.any_nl L s chars w hc h8
  · refine (Any.strings_IndexAny_long L (zero_of_info h116).1 (zero_of_info h116).2 s chars w (by rw [hc]; decide) (by omega) hs (by rw [hc]; decide) (by rw [hc]; intro j b hb; match j, hb with | 0, hb => (simp at hb; subst hb; decide) | 1, hb => (simp at hb; subst hb; decide) | j + 2, hb => simp at hb)).mono fun e w' ⟨h1, h2⟩ => ⟨h1, ?_⟩
    rw [h2]
    exact ((Below.refl _ _).alloc (Nat.le_refl _) _).alloc (by simp) _
end
def T.lays_ren : Go.Shelf.Ren := ⟨fun | 153 => 27 | 152 => 31 | 226 => 32 | 227 => 33 | 228 => 34 | 137 => 30 | 119 => 38 | 224 => 39 | 225 => 40 | 217 => 37 | 266 => 44 | n => n, fun | 9 => 9 | 3 => 3 | 4 => 4 | 5 => 5 | 21 => 21 | 117 => 59 | 116 => 58 | 0 => 0 | 46 => 62 | 124 => 63 | n => n, fun | n => n⟩
theorem T.lays : Go.Proofs.Lays.n153 Try.prog T.lays_ren := {
  mixed := by kernel_rfl,
  f119 := Try.func38.trans (congrArg some (by kernel_rfl)),
  f137 := Try.func30.trans (congrArg some (by kernel_rfl)),
  f152 := Try.func31.trans (congrArg some (by kernel_rfl)),
  f153 := Try.func27.trans (congrArg some (by kernel_rfl)),
  f217 := Try.func37.trans (congrArg some (by kernel_rfl)),
  f224 := Try.func39.trans (congrArg some (by kernel_rfl)),
  f225 := Try.func40.trans (congrArg some (by kernel_rfl)),
  f226 := Try.func32.trans (congrArg some (by kernel_rfl)),
  f227 := Try.func33.trans (congrArg some (by kernel_rfl)),
  f228 := Try.func34.trans (congrArg some (by kernel_rfl)),
  f266 := Try.func44.trans (congrArg some (by kernel_rfl)),
  t0 := Try.underlying0,
  a0 := Try.isAgg0,
  z0 := Try.sizeOf0,
  v0 := Try.zeroValue0,
  t3 := Try.underlying3,
  a3 := Try.isAgg3,
  z3 := Try.sizeOf3,
  v3 := Try.zeroValue3,
  t4 := Try.underlying4,
  a4 := Try.isAgg4,
  z4 := Try.sizeOf4,
  v4 := Try.zeroValue4,
  t5 := Try.underlying5,
  a5 := Try.isAgg5,
  z5 := Try.sizeOf5,
  v5 := Try.zeroValue5,
  t9 := Try.underlying9,
  a9 := Try.isAgg9,
  z9 := Try.sizeOf9,
  v9 := Try.zeroValue9,
  t21 := Try.underlying21,
  a21 := Try.isAgg21,
  z21 := Try.sizeOf21,
  v21 := Try.zeroValue21,
  t46 := Try.underlying62,
  a46 := Try.isAgg62,
  z46 := Try.sizeOf62,
  v46 := Try.zeroValue62,
  t116 := Try.underlying58,
  a116 := Try.isAgg58,
  z116 := Try.sizeOf58,
  t117 := Try.underlying59,
  a117 := Try.isAgg59,
  z117 := Try.sizeOf59,
  v117 := Try.zeroValue59,
  t124 := Try.underlying63,
  a124 := Try.isAgg63,
  z124 := Try.sizeOf63,
  v124 := Try.zeroValue63 }
theorem strings_IndexAny.calls (s : ByteArray) (w : World) (hs : s.size < 4294967281) :
    Calls Try.prog 27 #[.string s, .string ⟨#[10, 13]⟩] w fun e w' => e = .returned (.int .i64 (Lib.indexAny s.data.toList [10, 13])) ∧ Below w.heap.size w w' :=
  T.any_all T.lays (by kernel_rfl) s ⟨#[10, 13]⟩ w rfl hs
end Go.Proofs.Ytbbgichpbjgifaa.Q
