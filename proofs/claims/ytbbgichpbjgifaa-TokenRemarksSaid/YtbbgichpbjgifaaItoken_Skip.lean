/- token.Skip: how many bytes are left out; strings.IndexAny beneath it. -/
import Derived.Test.YtbbgichpbjgifaaQ0
import Derived.Test.YtbbgichpbjgifaaItoken_Blank
import Derived.Test.YtbbgichpbjgifaaIstrings_IndexAny
import Derived.Below
import Derived.Deep.Draws
import Derived.Deep.AppendLies
import Derived.Maps.AppendAt
import Derived.OwnWalk
import Derived.Laws.BytesArg
import Derived.Laws.MakeOwn
import Derived.Laws.OwnMore
import Derived.Deep.OwnRows
import Derived.Tactics
import Derived.Lib.ConvBytes
import Derived.Laws.Slices
import Derived.WalkKit
import Derived.KernelRfl
import Derived.RowKit3
import Derived.Deep.LoopGhost
import Derived.Deep.QuietTactic
import Derived.BigQuiet
import Derived.WideLaws
import Derived.Deep.DeepCutAuto
import Derived.Deep.CutBlock
import Derived.Deep.RegionHeld3
import Derived.Laws.Rows
import Derived.Lib.AppendStr
import Derived.ArgAppend
import Derived.Laws.IdiomCopy
import Derived.OrdersHeld
import Derived.Laws.BitsLemmas
import Derived.RowKit
import Derived.Test.YtbbgichpbjgifaaMore
import Derived.Test.YtbbgichpbjgifaaPeel
import Derived.Test.YtbbgichpbjgifaaTok
import Derived.Scope
import Derived.Test.YtbbgichpbjgifaaWWords
import Derived.Test.YtbbgichpbjgifaaWLast
import Derived.Test.YtbbgichpbjgifaaWTab
import Derived.Test.YtbbgichpbjgifaaWFour
import Derived.Test.YtbbgichpbjgifaaWQPut
import Derived.Test.YtbbgichpbjgifaaWApart
import Derived.Test.YtbbgichpbjgifaaWArr
import Derived.Test.YtbbgichpbjgifaaWZeros
import Derived.Test.YtbbgichpbjgifaaWFoot
import Derived.Test.YtbbgichpbjgifaaWKept
import Derived.Test.YtbbgichpbjgifaaWShare
import Derived.Test.YtbbgichpbjgifaaWN
import Derived.Test.YtbbgichpbjgifaaWFootNe
import Derived.Test.YtbbgichpbjgifaaWAt
import Derived.Test.YtbbgichpbjgifaaWEqStruct
import Derived.Test.YtbbgichpbjgifaaWRepsOne
import Derived.Test.YtbbgichpbjgifaaWInv
import Derived.Test.YtbbgichpbjgifaaWInvWords
import Derived.Test.YtbbgichpbjgifaaWGuard
import Derived.Test.YtbbgichpbjgifaaWNEv
import Derived.Test.YtbbgichpbjgifaaWMore
import Derived.Shelf.Strings.IndexAnyAll
namespace Go.Proofs.Ytbbgichpbjgifaa.Q
open Go.RowKit Go.Proofs.YtbbgichpbjgifaaW.PrintWords Go.Proofs.YtbbgichpbjgifaaW.PrintLast
set_option linter.unusedVariables false
set_option linter.unusedSimpArgs false
/-- How many bytes are left out, from byte i on; in a remark or not. -/
def skipL (s : ByteArray) : Nat → Bool → Nat → Nat
  | 0, _, _ => s.size
  | d + 1, true, i => if bt s (i : Int) = 10 ∨ bt s (i : Int) = 13 then skipL s d false (i + 1) else skipL s d true (i + 1)
  | d + 1, false, i => if bt s (i : Int) = 35 then skipL s d true (i + 1) else if bt s (i : Int) = 32 ∨ (9 ≤ bt s (i : Int) ∧ bt s (i : Int) ≤ 13) then skipL s d false (i + 1) else i
def token_Skip.f (a0 : ByteArray) : Option Int := if a0.size < 4294967281 then some (skipL a0 a0.size false 0 : Nat) else none
theorem sk_drop (s : ByteArray) (i : Nat) : (s.extract i s.size).data.toList = s.data.toList.drop i := by
  rw [ByteArray.data_extract, Array.toList_extract]
  show List.take (s.size - i) (List.drop i s.data.toList) = _
  refine List.take_of_length_le ?_
  rw [List.length_drop, Array.length_toList]
  exact Nat.le_refl _
theorem sk_nl (s : ByteArray) : ∀ (d i : Nat), i + d = s.size → skipL s d true i = if Lib.indexAny (s.data.toList.drop i) [10, 13] < 0 then s.size else skipL s (d - (Lib.indexAny (s.data.toList.drop i) [10, 13]).toNat - 1) false (i + (Lib.indexAny (s.data.toList.drop i) [10, 13]).toNat + 1)
  | 0, i, h => by
    have : s.data.toList.drop i = [] := List.drop_eq_nil_of_le (by rw [Array.length_toList]; show s.size ≤ i; omega)
    rw [this]
    rfl
  | d + 1, i, h => by
    have hi : i < s.data.toList.length := by rw [Array.length_toList]; show i < s.size; omega
    have hb : bt s (i : Int) = ((s.data.toList[i]'hi).toNat : Int) := by
      rw [← bt_at s (i : Int) (by show i < s.size; omega)]
      rfl
    have ih := sk_nl s d (i + 1) (by omega)
    have hge := Lib.indexAny_ge [10, 13] (s.data.toList.drop (i + 1))
    rw [List.drop_eq_getElem_cons hi]
    generalize s.data.toList[i]'hi = x at hb ⊢
    generalize s.data.toList.drop (i + 1) = l at ih hge ⊢
    rw [skipL, Lib.indexAny]
    by_cases hx : ([10, 13] : List UInt8).contains x = true
    · rw [if_pos hx]
      have h2 : bt s (i : Int) = 10 ∨ bt s (i : Int) = 13 := by
        simp only [List.contains_cons, List.contains_nil, Bool.or_false, Bool.or_eq_true, beq_iff_eq] at hx
        rcases hx with rfl | rfl
        · exact Or.inl hb
        · exact Or.inr hb
      rw [if_pos h2, if_neg (by decide)]
      rfl
    · rw [if_neg hx]
      have h2 : ¬ (bt s (i : Int) = 10 ∨ bt s (i : Int) = 13) := by
        simp only [List.contains_cons, List.contains_nil, Bool.or_false, Bool.or_eq_true, beq_iff_eq] at hx
        rintro (h | h)
        · exact hx (Or.inl (UInt8.toNat_inj.mp (by have : x.toNat = 10 := by omega
                                                   exact this)))
        · exact hx (Or.inr (UInt8.toNat_inj.mp (by have : x.toNat = 13 := by omega
                                                   exact this)))
      rw [if_neg h2, ih]
      by_cases h3 : Lib.indexAny l [10, 13] = -1
      · rw [h3, if_pos (by decide), if_pos (by rw [if_pos (by decide)]; decide)]
      · rw [if_neg (by omega), if_neg (show ¬ ((Lib.indexAny l [10, 13] == -1) = true) from fun h => h3 (beq_iff_eq.1 h)), if_neg (by omega)]
        rw [show d - (Lib.indexAny l [10, 13]).toNat - 1 = d + 1 - (Lib.indexAny l [10, 13] + 1).toNat - 1 by omega, show i + 1 + (Lib.indexAny l [10, 13]).toNat + 1 = i + (Lib.indexAny l [10, 13] + 1).toNat + 1 by omega]
theorem sk_lt : ∀ (l : List UInt8), Lib.indexAny l [10, 13] < (l.length : Int) ∨ l = []
  | [] => Or.inr rfl
  | x :: l => by
    left
    have hge := Lib.indexAny_ge [10, 13] l
    rw [Lib.indexAny, List.length_cons]
    split
    · omega
    · split
      · omega
      · rcases sk_lt l with h1 | h1
        · omega
        · subst h1
          rename_i h
          exact absurd rfl h
set_option maxRecDepth 100000 in
set_option maxHeartbeats 8000000 in
theorem token_Skip.calls (a0 : ByteArray) (r : Int) (w : World) (h : token_Skip.f a0 = some r) :
    Calls Try.prog 14 #[.string a0] w fun e w' => e = .returned (.int .i64 r) ∧ Below w.heap.size w w' := by
  unfold token_Skip.f at h
  by_cases hz : a0.size < 4294967281
  · rw [if_pos hz] at h
    have hr := Option.some.inj h
    have HZ := Aside0.mk hz
    have HR := Aside0.mk hr
    clear hz h hr
    go_enter Try.func14, Try.ntmps14
    go_wp2
    go_loopg [3] (a0.size + 1) (fun kq v3 w' => ∃ (xi : Int) (d i : Nat), v3 = .int .i64 xi ∧ Aside0 (kq = d + 1 ∧ i + d = a0.size ∧ xi = (i : Int)) ∧ Aside0 (skipL a0 d false i = r) ∧ Aside0 (Below w.heap.size w w'))
    case atStart => exact ⟨0, a0.size, 0, rfl, ⟨rfl, by omega, rfl⟩, ⟨HR.out⟩, ⟨Below.refl _ _⟩⟩
    case round =>
      clear HR
      obtain ⟨xi, d, i, rfl, HK, HQ, HB⟩ := hrel
      cases d with
      | zero =>
        have c0 : decide (xi < (a0.size : Int)) = false := decide_eq_false (by have := HK.out; omega)
        have hr : r = (a0.size : Int) := by have := HQ.out; rw [skipL] at this; omega
        have HR := Aside0.mk hr
        clear hr
        go_wp2
        go_ret
        exact ⟨by rw [HR.out]; rfl, HB.out⟩
      | succ d =>
        have c0 : decide (xi < (a0.size : Int)) = true := decide_eq_true (by have := HK.out; omega)
        have p1 : (0 ≤ xi) = True := eq_true (by have := HK.out; omega)
        have q1 : (xi < (a0.size : Int)) = True := eq_true (by have := HK.out; omega)
        have q2 : (xi ≤ (a0.size : Int)) = True := eq_true (by have := HK.out; omega)
        have hx1 := bt_at a0 xi
        have hw1 : wrap64 (xi + 1) = ((i + 1 : Nat) : Int) := by have h1 := HK.out; have h2 := HZ.out; unfold wrap64; omega
        have HW1 := Aside0.mk hw1
        have hti : xi.toNat = i := by have := HK.out; omega
        have HTI := Aside0.mk hti
        clear hw1 hti
        by_cases c35 : bt a0 xi = 35
        · have cb : (bt a0 xi == 35) = true := beq_iff_eq.2 c35
          have hq := HQ.out
          rw [skipL, ← HK.out.2.2, if_pos c35] at hq
          have hq2 := sk_nl a0 (d + 1) i (by have := HK.out; omega)
          rw [skipL, ← HK.out.2.2, if_neg (by omega)] at hq2
          rw [hq2] at hq
          have hge := Lib.indexAny_ge [10, 13] (a0.data.toList.drop i)
          have hlt := sk_lt (a0.data.toList.drop i)
          have hln : (a0.data.toList.drop i).length = a0.size - i := by rw [List.length_drop, Array.length_toList]; rfl
          obtain ⟨k, hk⟩ : ∃ k, Lib.indexAny (a0.data.toList.drop i) [10, 13] = k := ⟨_, rfl⟩
          rw [hk] at hq hge hlt
          have hex : Lib.indexAny (a0.extract xi.toNat a0.size).data.toList [10, 13] = k := by rw [HTI.out, sk_drop, hk]
          have HEX := Aside0.mk hex
          have hkl : k < (a0.size : Int) - i := by
            rcases hlt with h1 | h1
            · have := HK.out; omega
            · rw [h1] at hln; have := HK.out; simp at hln; omega
          have HKL := Aside0.mk (And.intro hge hkl)
          have HQ2 := Aside0.mk hq
          clear hq hq2 hk hex hge hlt hln hkl c35 HQ
          by_cases ck : k < 0
          · have ckb : decide (k < 0) = true := decide_eq_true ck
            have hr : r = (a0.size : Int) := by have := HQ2.out; rw [if_pos ck] at this; omega
            have HR := Aside0.mk hr
            clear hr ck
            go_wp2_with (go_at_call 27; refine (strings_IndexAny.calls _ _ (by show _ < _; rw [ByteArray.size_extract]; have := HZ.out; omega)).mono ?_; rintro e w1 ⟨rfl, hb⟩; rw [HEX.out]; have HB1 := Aside0.mk (HB.out.trans (Below.mono hb HB.out.size)); clear hb)
            go_ret
            exact ⟨by rw [HR.out]; rfl, HB1.out⟩
          · have ckb : decide (k < 0) = false := decide_eq_false ck
            have hq := HQ2.out
            rw [if_neg ck] at hq
            have HQ := Aside0.mk hq
            have hw2 : wrap64 (wrap64 (xi + k) + 1) = ((i + k.toNat + 1 : Nat) : Int) := by have h1 := HK.out; have h2 := HZ.out; have h3 := HKL.out; unfold wrap64; omega
            have HW2 := Aside0.mk hw2
            clear hq HQ2 ck hw2
            go_wp2_with (go_at_call 27; refine (strings_IndexAny.calls _ _ (by show _ < _; rw [ByteArray.size_extract]; have := HZ.out; omega)).mono ?_; rintro e w1 ⟨rfl, hb⟩; rw [HEX.out]; have HB1 := Aside0.mk (HB.out.trans (Below.mono hb HB.out.size)); clear hb)
            go_roundg (d - k.toNat + 1)
            case measure => have := HK.out; have := HKL.out; omega
            case rel => exact ⟨((i + k.toNat + 1 : Nat) : Int), d - k.toNat, i + k.toNat + 1, (by rw [HW2.out]), ⟨rfl, by have := HK.out; have := HKL.out; omega, rfl⟩, ⟨by rw [show d - k.toNat = d + 1 - k.toNat - 1 by omega]; exact HQ.out⟩, HB1⟩
        · have cb : (bt a0 xi == 35) = false := beq_eq_false_iff_ne.2 c35
          have hq := HQ.out
          rw [skipL, ← HK.out.2.2, if_neg c35] at hq
          have hrg := bt_range a0 xi
          by_cases cl : bt a0 xi = 32 ∨ (9 ≤ bt a0 xi ∧ bt a0 xi ≤ 13)
          · rw [if_pos cl] at hq
            have hbl : token_Blank.f (bt a0 xi) = some true := by rw [token_Blank.f, if_pos hrg, decide_eq_true cl]
            have HBL := Aside0.mk hbl
            have HQ' := Aside0.mk hq
            clear hq HQ c35 cl hrg hbl
            go_wp2_with (go_at_call 21; refine (token_Blank.calls _ _ _ HBL.out).mono ?_; rintro e w1 ⟨rfl, hb⟩; have HB1 := Aside0.mk (HB.out.trans (Below.mono hb.below HB.out.size)); clear hb)
            go_roundg (d + 1)
            case measure => have := HK.out; omega
            case rel => exact ⟨((i + 1 : Nat) : Int), d, i + 1, (by rw [HW1.out]), ⟨rfl, by have := HK.out; omega, rfl⟩, HQ', HB1⟩
          · rw [if_neg cl] at hq
            have hbl : token_Blank.f (bt a0 xi) = some false := by rw [token_Blank.f, if_pos hrg, decide_eq_false cl]
            have HBL := Aside0.mk hbl
            have hr : r = xi := by have := HK.out; omega
            have HR := Aside0.mk hr
            clear hq HQ c35 cl hrg hbl hr
            go_wp2_with (go_at_call 21; refine (token_Blank.calls _ _ _ HBL.out).mono ?_; rintro e w1 ⟨rfl, hb⟩; have HB1 := Aside0.mk (HB.out.trans (Below.mono hb.below HB.out.size)); clear hb)
            go_ret
            exact ⟨by rw [HR.out]; rfl, HB1.out⟩
  · rw [if_neg hz] at h
    exact absurd h (by simp)
end Go.Proofs.Ytbbgichpbjgifaa.Q
