/- num.Parse: the number of a text, for every text: each byte a digit's step; a byte beyond ASCII is refused where it stands. -/
import Derived.Test.YtkkcjhnhbddooaaQ0
import Derived.Test.YtkkcjhnhbddooaaQ1
import Derived.Below
import Derived.Deep.Draws
import Derived.Deep.AppendLies
import Derived.Maps.AppendAt
import Derived.OwnWalk
import Derived.Laws.BytesArg
import Derived.Laws.MakeOwn
import Derived.Laws.OwnMore
import Derived.Deep.OwnRows
import Derived.Tactics
import Derived.Lib.ConvBytes
import Derived.Laws.Slices
import Derived.WalkKit
import Derived.KernelRfl
import Derived.RowKit3
import Derived.Deep.LoopGhost
import Derived.Deep.QuietTactic
import Derived.BigQuiet
import Derived.WideLaws
import Derived.Deep.DeepCutAuto
import Derived.Deep.CutBlock
import Derived.Deep.RegionHeld3
import Derived.Laws.Rows
import Derived.Lib.AppendStr
import Derived.ArgAppend
import Derived.Laws.IdiomCopy
import Derived.OrdersHeld
import Derived.Laws.BitsLemmas
import Derived.RowKit
import Derived.Test.YtkkcjhnhbddooaaMore
import Derived.Test.YtkkcjhnhbddooaaWWords
import Derived.Test.YtkkcjhnhbddooaaWLast
import Derived.Test.YtkkcjhnhbddooaaWTab
import Derived.Test.YtkkcjhnhbddooaaWFour
import Derived.Test.YtkkcjhnhbddooaaWQPut
import Derived.Test.YtkkcjhnhbddooaaWApart
import Derived.Test.YtkkcjhnhbddooaaWArr
import Derived.Test.YtkkcjhnhbddooaaWZeros
import Derived.Test.YtkkcjhnhbddooaaWFoot
import Derived.Test.YtkkcjhnhbddooaaWKept
import Derived.Test.YtkkcjhnhbddooaaWShare
import Derived.Test.YtkkcjhnhbddooaaWN
import Derived.Test.YtkkcjhnhbddooaaWFootNe
import Derived.Test.YtkkcjhnhbddooaaWAt
import Derived.Test.YtkkcjhnhbddooaaWEqStruct
import Derived.Test.YtkkcjhnhbddooaaWRepsOne
import Derived.Test.YtkkcjhnhbddooaaWInv
import Derived.Test.YtkkcjhnhbddooaaWInvWords
import Derived.Test.YtkkcjhnhbddooaaWGuard
import Derived.Test.YtkkcjhnhbddooaaWNEv
import Derived.Test.YtkkcjhnhbddooaaWMore
import Derived.Laws.RangeAny
import Derived.LoopTactic
import Derived.Lib.Hide
namespace Go.Proofs.Ytkkcjhnhbddooaa.Q
open Go.RowKit Go.Proofs.YtkkcjhnhbddooaaW.PrintWords Go.Proofs.YtkkcjhnhbddooaaW.PrintLast
set_option linter.unusedVariables false
set_option linter.unusedSimpArgs false

def num_parseL (most : Int) : List UInt8 → Int → Option (Int × Int)
  | [], n => some (n, 0)
  | c :: r, n => (num_Step.f 1 n (c.toNat : Int) most).bind fun t => if t.2 = 0 then num_parseL most r t.1 else some (0, t.2)
def num_Parse.f (a0 : ByteArray) (a1 : Int) : Option (Int × Int) := if a0.size = 0 then some (0, 3) else num_parseL a1 a0.data.toList 0

theorem num_Step.one (n c m : Int) : ∃ x e, num_Step.f 1 n c m = some (x, e) := by
  unfold num_Step.f
  split <;> simp only [num_Step.j0] <;> repeat' split
  all_goals exact ⟨_, _, rfl⟩
theorem num_Step.ascii (n m x : Int) (c : Nat) (hc : c < 256) (h : num_Step.f 1 n c m = some (x, 0)) : c < 128 := by
  have w1 : wrap64 ((wrap64 ((c : Nat) : Int)) - 48) = (c : Int) - 48 := by unfold wrap64; omega
  unfold num_Step.f at h
  rw [w1] at h
  split at h
  · omega
  · simp only [num_Step.j0] at h
    split at h
    · simp at h
    · rename_i h2
      simp at h2
      omega
theorem drew_iter (w : World) (s : ByteArray) (p m n : Nat) : ((w.drewN m).iter s p).drewN n = (w.drewN (m + n)).iter s p := by
  have := World.drewN_drewN w m n
  rw [← this]
  rfl

set_option maxRecDepth 100000 in
set_option maxHeartbeats 8000000 in
theorem num_Parse.calls (a0 : ByteArray) (a1 : Int) (r1 : Int) (r2 : Int) (w : World) (h : num_Parse.f a0 a1 = some (r1, r2)) :
    Calls Try.prog 26 #[.string a0, .int .i64 a1] w fun e w' => e = .returned (.tuple #[.int .i64 r1, .int .i64 r2]) ∧ Below w.heap.size w w' := by
  unfold num_Parse.f at h
  split at h
  · rename_i hz
    obtain ⟨d⟩ := a0
    have hd : d.toList = [] := by simpa [ByteArray.size] using hz
    obtain ⟨rfl⟩ : d = #[] := by cases d; simp at hd; rw [hd]
    simp only [Option.some.injEq, Prod.mk.injEq] at h
    obtain ⟨rfl, rfl⟩ := h
    clear hz hd
    go_enter Try.func26, Try.ntmps26
    go_wp2
    go_ret2
    exact ⟨rfl, Below.refl _ _⟩
  · rename_i hz
    have he : a0.toList.isEmpty = false := by
      rw [ByteArray.toList_eq]
      cases h2 : a0.data.toList with
      | nil => exact absurd (by rw [ByteArray.size, ← Array.length_toList, h2]; rfl) hz
      | cons x r => rfl
    have he2 : (!a0.toList.isEmpty) = true := by rw [he]; rfl
    have H := Lib.hid h
    clear h hz
    go_enter Try.func26, Try.ntmps26
    go_wp2
    go_loopw [6] (fun n w' => ∃ (pos m : Nat) (x : Int), w' = (w.drewN m).iter a0 pos ∧ n = .int .i64 x ∧ Hid (num_parseL a1 (a0.data.toList.drop pos) x = some (r1, r2)) ∧ Hid (pos ≤ a0.size)) (fun _ w' => a0.size - w'.iterPos w.heap.size)
    case atStart => exact ⟨0, 0, 0, rfl, rfl, Lib.hid (by simpa using H.out), Lib.hid (Nat.zero_le _)⟩
    case round =>
      obtain ⟨pos, m, x, rfl, rfl, hl, hle⟩ := hrel
      by_cases hp : pos < a0.size
      · have hnx : ∀ ty, (Instr.next (.pointer (some ⟨w.heap.size, 0, none⟩)) true ty).run Try.prog ((w.drewN m).iter a0 pos) = _ := fun ty => run_next_any (w.drewN m) a0 pos ty hp
        obtain ⟨y, e, hs⟩ := num_Step.one x ((a0[pos]'hp).toNat : Int) a1
        have hd : a0.data.toList.drop pos = a0[pos]'hp :: a0.data.toList.drop (pos + 1) := by
          have hp' : pos < a0.data.toList.length := by rw [Array.length_toList]; exact hp
          rw [List.drop_eq_getElem_cons hp']
          rfl
        have hl2 := hl.out
        rw [hd] at hl2
        simp only [num_parseL, hs, Option.bind_some] at hl2
        have HS := Lib.hid hs
        clear hd
        have hb1 := (a0[pos]'hp).toNat_lt
        by_cases he0 : e = 0
        · subst he0
          rw [if_pos rfl] at hl2
          have ha := num_Step.ascii x a1 y _ hb1 hs
          have hde := decode_ascii a0 pos hp ha
          rw [hde] at hnx
          have HL2 := Lib.hid hl2
          clear hs hl2 hl hde
          go_wp2_with (go_at_call 12; refine (num_Step.calls 1 x _ a1 y 0 _ HS.out).mono ?_; rintro e w' ⟨rfl, ⟨nd, rfl⟩⟩)
          go_roundw
          case rel => exact ⟨pos + 1, m + nd, y, drew_iter _ _ _ _ _, rfl, HL2, Lib.hid (by omega)⟩
          case measure =>
            show _ - (((w.drewN m).iter a0 (pos + 1)).drewN nd).iterPos (w.drewN m).heap.size < _ - ((w.drewN m).iter a0 pos).iterPos (w.drewN m).heap.size
            rw [drew_iter]
            have e1 := World.iterPos_iter (w.drewN (m + nd)) a0 (pos + 1)
            have e2 := World.iterPos_iter (w.drewN m) a0 pos
            have : (w.drewN (m + nd)).heap.size = (w.drewN m).heap.size := rfl
            rw [this] at e1
            rw [e1, e2]
            omega
        · rw [if_neg he0] at hl2
          simp only [Option.some.injEq, Prod.mk.injEq] at hl2
          obtain ⟨rfl, rfl⟩ := hl2
          have hc1 : (e == 0) = false := beq_eq_false_iff_ne.2 he0
          have hc2 : (e != 0) = true := bne_iff_ne.2 he0
          clear hs hl
          go_wp2_with (go_at_call 12; refine (num_Step.calls 1 x _ a1 y e _ HS.out).mono ?_; rintro e w' ⟨rfl, ⟨nd, rfl⟩⟩)
          go_ret2
          exact ⟨rfl, pw_below_drewN (below_alloc (pw_below_drewN (Below.refl _ _) m) _) nd⟩
      · have hnx : ∀ ty, (Instr.next (.pointer (some ⟨w.heap.size, 0, none⟩)) true ty).run Try.prog ((w.drewN m).iter a0 pos) = _ := fun ty => run_next_end (w.drewN m) a0 pos ty hp
        have hl2 := hl.out
        rw [List.drop_of_length_le (by have : a0.data.toList.length = a0.size := Array.length_toList
                                       omega)] at hl2
        simp only [num_parseL, Option.some.injEq, Prod.mk.injEq] at hl2
        obtain ⟨rfl, rfl⟩ := hl2
        clear hl
        go_wp2
        go_ret2
        exact ⟨rfl, below_alloc (pw_below_drewN (Below.refl _ _) m) _⟩
end Go.Proofs.Ytkkcjhnhbddooaa.Q
