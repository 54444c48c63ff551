/- slices.Concat at rows of pixels: a row of the call's own that holds all of them; slices.Grow beneath it, at nil. -/
import Derived.Test.YtidpaaemfiopkaaQ0
import Derived.Below
import Derived.Deep.Draws
import Derived.Deep.AppendLies
import Derived.Maps.AppendAt
import Derived.OwnWalk
import Derived.Laws.BytesArg
import Derived.Laws.MakeOwn
import Derived.Laws.OwnMore
import Derived.Deep.OwnRows
import Derived.Tactics
import Derived.Lib.ConvBytes
import Derived.Laws.Slices
import Derived.WalkKit
import Derived.KernelRfl
import Derived.RowKit3
import Derived.Deep.LoopGhost
import Derived.Deep.QuietTactic
import Derived.BigQuiet
import Derived.WideLaws
import Derived.Deep.DeepCutAuto
import Derived.Deep.CutBlock
import Derived.Deep.RegionHeld3
import Derived.Laws.Rows
import Derived.Lib.AppendStr
import Derived.ArgAppend
import Derived.Laws.IdiomCopy
import Derived.OrdersHeld
import Derived.Laws.BitsLemmas
import Derived.RowKit
import Derived.Test.YtidpaaemfiopkaaMore
import Derived.Test.YtidpaaemfiopkaaPeel
import Derived.Scope
import Derived.Test.YtidpaaemfiopkaaWWords
import Derived.Test.YtidpaaemfiopkaaWLast
import Derived.Test.YtidpaaemfiopkaaWTab
import Derived.Test.YtidpaaemfiopkaaWFour
import Derived.Test.YtidpaaemfiopkaaWQPut
import Derived.Test.YtidpaaemfiopkaaWApart
import Derived.Test.YtidpaaemfiopkaaWArr
import Derived.Test.YtidpaaemfiopkaaWZeros
import Derived.Test.YtidpaaemfiopkaaWFoot
import Derived.Test.YtidpaaemfiopkaaWKept
import Derived.Test.YtidpaaemfiopkaaWShare
import Derived.Test.YtidpaaemfiopkaaWN
import Derived.Test.YtidpaaemfiopkaaWFootNe
import Derived.Test.YtidpaaemfiopkaaWAt
import Derived.Test.YtidpaaemfiopkaaWEqStruct
import Derived.Test.YtidpaaemfiopkaaWRepsOne
import Derived.Test.YtidpaaemfiopkaaWInv
import Derived.Test.YtidpaaemfiopkaaWInvWords
import Derived.Test.YtidpaaemfiopkaaWGuard
import Derived.Test.YtidpaaemfiopkaaWNEv
import Derived.Test.YtidpaaemfiopkaaWMore
import Derived.WalkSpells
import Derived.Test.YtidpaaemfiopkaaWZeros
namespace Go.Proofs.Ytidpaaemfiopkaa.Q
open Go.RowKit Go.Proofs.YtidpaaemfiopkaaW.PrintWords Go.Proofs.YtidpaaemfiopkaaW.PrintLast
set_option linter.unusedVariables false
set_option linter.unusedSimpArgs false
theorem api_Pixel_55.info : (Try.prog.info? 46).map (fun i => (i.zero, i.size, i.bytes)) = some (some (.int .u64 0), 1, 8) := by kernel_rfl
set_option maxRecDepth 100000 in
set_option maxHeartbeats 4000000 in
theorem slices_Grow_nil (n : Int) (h0 : 0 ≤ n) (h1 : n ≤ 10000000000) (w : World) :
    Calls Try.prog 63 #[.slice none 0 0, .int .i64 n] w fun e w' => ∃ v0_ : Value, e = .returned v0_ ∧ Kd.R (Kd.int .u64) 46 w' w.heap.size (fun _ => True) v0_ [] ∧ Below w.heap.size w w' := by
  have c0 : decide (n < 0) = false := decide_eq_false (by omega)
  have w1 : wrap64 n = n := by unfold wrap64; omega
  have HN := Aside0.mk (And.intro h0 h1)
  clear h0 h1
  by_cases c : n > 0
  · have c1 : decide (n > 0) = true := decide_eq_true c
    have c2 : decide (0 < n) = true := decide_eq_true c
    clear c
    go_enter Try.func63, Try.ntmps63
    go_wp2_with ((with_reducible refine gate_builtin (b := .append) (xs := #[.tmp 20, .tmp 21]) rfl ?_); at_builtin; refine Kd.R_append_zeros (Kd.int .u64) (w0 := w) w.heap.size rfl (.tmp 20) (.tmp 21) 22 3 46 (.int .u64 0) 8 rfl Try.underlying22 Try.underlying3 api_Pixel_55.info rfl (by decide) (by omega) (.slice none 0 0) [] 0 (kx := .i64) n (fun _ => True) rfl (by first | rfl | (go_simp; done) | (go_simp; rfl)) ?aM ?aF ?aO (HN.out.1) ?aB ?aS ?aL ?_; (case aM => exact rfl); (case aO => exact Kd.R_nil _ _ _ _ _); (case aF => exact fun _ _ => trivial); (case aB => exact Below.refl _ _); (case aS => exact Nat.le_refl _); (case aL => (have := HN.out.2; simp only [List.length_nil, Nat.zero_add]; omega)); intro v1 w1_ ho hb hg hat; have HO := Aside0.mk ho; have HB := Aside0.mk hb; clear ho hb hg hat; obtain ⟨A1, cc1, hv1⟩ := Kd.R_slice HO.out; subst hv1; have hm_ := (Kd.R_reads' HO.out).2.1; have hq_ : (0 : Int) ≤ (cc1 : Int) := Int.natCast_nonneg _; have hq2_ : (0 ≤ cc1) := Nat.zero_le _)
    go_ret
    exact ⟨_, rfl, Kd.R_take HO.out (Nat.zero_le _), HB.out⟩
  · have c1 : decide (n > 0) = false := decide_eq_false c
    have c2 : decide (0 < n) = false := decide_eq_false c
    clear c
    go_enter Try.func63, Try.ntmps63
    go_wp2
    go_ret
    exact ⟨_, rfl, Kd.R_nil _ _ _ _ _, Below.refl _ _⟩
def api_Pixel_55.f (l0 : List (List Int)) : Option (List Int) := if l0.flatten.length ≤ 1000000000 ∧ l0.length ≤ 1000000000 then some l0.flatten else none
theorem flat_take (l : List (List Int)) (i : Nat) (h : i < l.length) : (l.take (i + 1)).flatten = (l.take i).flatten ++ rd_L2 l (i : Int) := by
  have e : rd_L2 l (i : Int) = l[i] := by unfold rd_L2; rw [Int.toNat_natCast, List.getD_eq_getElem?_getD, List.getElem?_eq_getElem h]; rfl
  rw [e, List.take_add_one, List.getElem?_eq_getElem h, List.flatten_append]
  simp
theorem flat_le (l : List (List Int)) (i : Nat) : (l.take i).flatten.length ≤ l.flatten.length := by
  have : l.flatten = (l.take i).flatten ++ (l.drop i).flatten := by rw [← List.flatten_append, List.take_append_drop]
  rw [this, List.length_append]
  omega
set_option maxRecDepth 100000 in
set_option maxHeartbeats 4000000 in
theorem api_Pixel_55.calls (A0 : Option Addr) (c0 : Nat) (l0 : List (List Int)) (r : List Int) (w : World) (hr0 : Kd.C (Kd.slice 46 (Kd.int .u64)) w A0 l0.length l0) (hc0 : l0.length ≤ c0) (h : api_Pixel_55.f l0 = some r) :
    Calls Try.prog 55 #[.slice A0 l0.length c0] w fun e w' => ∃ v0_ : Value, e = .returned (v0_) ∧ Kd.R (Kd.int .u64) 46 w' w.heap.size (fun _ => True) v0_ r ∧ Below w.heap.size w w' := by
  unfold api_Pixel_55.f at h
  split at h
  · rename_i hl
    obtain rfl := Option.some.inj h
    have HL := Aside0.mk hl
    have HR := Aside0.mk hr0
    clear h hl hr0
    go_enter Try.func55, Try.ntmps55
    go_wp2
    go_loopg [3, 11] (l0.length + 1) (fun kq v3 v11 w' => ∃ (i : Nat) (sz : Int), v3 = .int .i64 sz ∧ v11 = .int .i64 (i : Int) ∧ w = w' ∧ Aside0 (kq + i = l0.length + 1 ∧ i ≤ l0.length ∧ sz = (((l0.take i).flatten.length : Nat) : Int)))
    case atStart => exact ⟨0, 0, rfl, rfl, rfl, ⟨rfl, Nat.zero_le _, rfl⟩⟩
    case round =>
      obtain ⟨i, sz, rfl, rfl, rfl, HI⟩ := hrel
      obtain ⟨k1, rfl⟩ : ∃ m, gk = m + 1 := ⟨gk - 1, by have h1 := HI.out; omega⟩
      by_cases c : i < l0.length
      · have c0_ : decide ((i : Int) < (l0.length : Int)) = true := decide_eq_true (by omega)
        have q0 : ((i : Int) < (l0.length : Int)) = True := eq_true (by omega)
        obtain ⟨ad, A1, c1, rfl, hx, _, _⟩ := at_L2 HR.out (i : Int) (by omega) (by omega)
        rw [Int.toNat_natCast] at hx
        have hfl := flat_take l0 i c
        have hle := flat_le l0 (i + 1)
        rw [hfl, List.length_append] at hle
        obtain ⟨s2, hs2⟩ : ∃ s2 : Int, s2 = (((l0.take (i + 1)).flatten.length : Nat) : Int) := ⟨_, rfl⟩
        have hw : wrap64 (sz + ((rd_L2 l0 (i : Int)).length : Int)) = s2 := by
          rw [hs2, hfl, List.length_append, HI.out.2.2]
          have := HL.out
          unfold wrap64
          omega
        have hpos : decide (s2 < 0) = false := decide_eq_false (by rw [hs2]; omega)
        have HS2 := Aside0.mk hs2
        have HW3 := Aside0.mk hw
        clear hs2
        have hw2 : wrap64 ((i : Int) + 1) = ((i + 1 : Nat) : Int) := by have := HL.out; clear hw; unfold wrap64; omega
        have HW2 := Aside0.mk hw2
        have HC := Aside0.mk c
        clear hfl hle hw2 c
        go_wp2
        go_roundg k1
        case measure => omega
        case rel => exact ⟨i + 1, s2, (by first | rfl | rw [HW3.out]), by rw [HW2.out], rfl, ⟨by have := HI.out; omega, HC.out, HS2.out⟩⟩
      · have c0_ : decide ((i : Int) < (l0.length : Int)) = false := decide_eq_false (by omega)
        have hi : i = l0.length := by have := HI.out; omega
        have ht : l0.take i = l0 := List.take_of_length_le (by omega)
        have hsz : sz = (l0.flatten.length : Int) := by have := HI.out.2.2; rw [ht] at this; exact this
        have HSZ := Aside0.mk hsz
        subst hi
        clear ht c HI hsz
        go_wp2_with ((with_reducible refine gate_callee (f := 63) rfl ?_); refine goesL_ (some 24) rfl rfl Try.func63 (by kernel_rfl) rfl #[.slice none 0 0, .int .i64 sz] rfl (by (try simp only [List.map_toArray, List.map_cons, List.map_nil]); rfl) ?_; refine (slices_Grow_nil sz (by have := HSZ.out; omega) (by have h1 := HL.out; have h2 := HSZ.out; omega) _).mono ?_; rintro e w1 ⟨v1, rfl, ho, hb⟩; refine ⟨_, rfl, ?_⟩; have HO := Aside0.mk ho; have HB := Aside0.mk hb; clear ho hb)
        go_loopg [6, 27] (l0.length + 1) (fun kq v6 v27 w' => ∃ (i : Nat), v27 = .int .i64 (i : Int) ∧ Aside0 (kq + i = l0.length + 1 ∧ i ≤ l0.length) ∧ Aside0 (Kd.R (Kd.int .u64) 46 w' w.heap.size (fun _ => True) v6 ((l0.take i).flatten)) ∧ Aside0 (Below w.heap.size w w'))
        case atStart => exact ⟨0, rfl, ⟨rfl, Nat.zero_le _⟩, HO, HB⟩
        case round =>
          clear HO HB
          obtain ⟨i, rfl, HI, HO, HB⟩ := hrel
          obtain ⟨k2, rfl⟩ : ∃ m, gk = m + 1 := ⟨gk - 1, by have h1 := HI.out; omega⟩
          by_cases c : i < l0.length
          · have c0_ : decide ((i : Int) < (l0.length : Int)) = true := decide_eq_true (by omega)
            have q0 : ((i : Int) < (l0.length : Int)) = True := eq_true (by omega)
            obtain ⟨ad, A1, c1, rfl, hx, _, hin⟩ := at_L2 (Kd.C_below HR.out HB.out) (i : Int) (by omega) (by omega)
            rw [Int.toNat_natCast] at hx
            have HIN := Aside0.mk hin
            have hfl := flat_take l0 i c
            have hle := flat_le l0 (i + 1)
            rw [hfl, List.length_append] at hle
            have HF := Aside0.mk hfl
            have HLE := Aside0.mk hle
            have hw2 : wrap64 ((i : Int) + 1) = ((i + 1 : Nat) : Int) := by have := HL.out; unfold wrap64; omega
            have HW2 := Aside0.mk hw2
            have HC := Aside0.mk c
            have hx' : w.cell? = w.cell? := rfl
            clear hfl hle hw2 hin hx'
            go_wp2_with ((with_reducible refine gate_builtin (b := .append) (xs := #[.tmp 31, .tmp 32]) rfl ?_); at_builtin; refine Kd.R_append_rows (Kd.int .u64) (w0 := w) w.heap.size rfl (.tmp 31) (.tmp 32) 22 46 (.int .u64 0) 8 rfl Try.underlying22 api_Pixel_55.info rfl (by decide) (by omega) _ ((l0.take i).flatten) (rd_L2 l0 (i : Int)) _ _ _ (fun _ => True) (fun _ => False) rfl rfl ?aO ?aR (fun _ _ h => h) (fun _ h => h.elim) ?aF ?aB ?aS ?aL ?_; (case aO => exact HO.out); (case aR => exact HIN.out); (case aF => exact fun _ _ => trivial); (case aB => exact HB.out); (case aS => exact HB.out.size); (case aL => have h1 := HLE.out; have h2 := HL.out; omega); intro v2 w2 ho hb hg hat; have HO2 := Aside0.mk ho; have HB2 := Aside0.mk hb; clear ho hb hg hat)
            go_roundg k2
            case measure => omega
            case rel => exact ⟨i + 1, by rw [HW2.out], ⟨by have := HI.out; omega, HC.out⟩, ⟨by rw [HF.out]; exact HO2.out⟩, HB2⟩
          · have c0_ : decide ((i : Int) < (l0.length : Int)) = false := decide_eq_false (by omega)
            have ht : l0.take i = l0 := List.take_of_length_le (by have := HI.out; omega)
            have HT := Aside0.mk ht
            clear ht
            go_wp2
            go_ret
            exact ⟨_, rfl, by have := HO.out; rw [HT.out] at this; exact this, HB.out⟩
  · simp at h
end Go.Proofs.Ytidpaaemfiopkaa.Q
