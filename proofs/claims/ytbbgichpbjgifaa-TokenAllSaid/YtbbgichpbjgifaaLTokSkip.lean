/- How many bytes are left out; all numbers of a text as the document reads them: told of the text's bytes. -/
import Derived.Test.YtbbgichpbjgifaaItoken_Skip
import Derived.Test.YtbbgichpbjgifaaLDecRef
import Derived.Test.YtbbgichpbjgifaaLTokAll
import Derived.Test.YtbbgichpbjgifaaLTokRef
import Derived.Test.YtbbgichpbjgifaaLToken
import Derived.Test.YtbbgichpbjgifaaQ13
import Derived.Test.YtbbgichpbjgifaaQ17
import Derived.Test.YtbbgichpbjgifaaQ18
namespace Go.Proofs.Ytbbgichpbjgifaa.Q
open Go.RowKit Go.Proofs.YtbbgichpbjgifaaW.PrintWords Go.Proofs.YtbbgichpbjgifaaW.PrintLast
set_option linter.unusedVariables false
theorem str_nums (s : ByteArray) : ∃ L : List Int, byteL L ∧ s = strOfNums L ∧ L.length = s.size := by
  refine ⟨s.data.toList.map fun b => (b.toNat : Int), ?_, ?_, ?_⟩
  · intro x hx
    obtain ⟨b, _, rfl⟩ := List.mem_map.1 hx
    have := b.toNat_lt
    omega
  · apply ByteArray.ext
    apply Array.toList_inj.1
    rw [strOfNums_data, List.map_map]
    symm
    rw [List.map_congr_left (g := id)]
    · exact List.map_id _
    · intro b _
      show UInt8.ofNat ((b.toNat : Int)).toNat = b
      rw [Int.toNat_natCast, UInt8.ofNat_toNat]
  · rw [List.length_map]
    exact Array.length_toList
def skS : List Int → Bool → Int → Int
  | [], _, i => i
  | c :: r, true, i => if c = 10 ∨ c = 13 then skS r false (i + 1) else skS r true (i + 1)
  | c :: r, false, i => if c = 35 then skS r true (i + 1) else if c = 32 ∨ (9 ≤ c ∧ c ≤ 13) then skS r false (i + 1) else i
theorem skipL_is : ∀ (suf pre : List Int) (q : Bool), byteL (pre ++ suf) → ((skipL (strOfNums (pre ++ suf)) suf.length q pre.length : Nat) : Int) = skS suf q (pre.length : Int) := by
  intro suf
  induction suf with
  | nil =>
    intro pre q hb
    rw [List.append_nil]
    cases q <;> (show ((strOfNums pre).size : Int) = _; rw [strOfNums_size]; rfl)
  | cons c r ih =>
    intro pre q hb
    have e2 : pre ++ c :: r = (pre ++ [c]) ++ r := by simp
    have hl1 : (pre ++ [c]).length = pre.length + 1 := by simp
    have hi : (pre.length : Int) + 1 = ((pre ++ [c]).length : Int) := by rw [hl1]; omega
    have ih' := fun q => ih (pre ++ [c]) q (e2 ▸ hb)
    have hbt := bt_mid pre r c hb
    cases q with
    | true =>
      rw [List.length_cons, skipL, hbt, skS, hi]
      by_cases h : c = 10 ∨ c = 13
      · rw [if_pos h, if_pos h, e2, ← hl1]; exact ih' false
      · rw [if_neg h, if_neg h, e2, ← hl1]; exact ih' true
    | false =>
      rw [List.length_cons, skipL, hbt, skS, hi]
      by_cases h : c = 35
      · rw [if_pos h, if_pos h, e2, ← hl1]; exact ih' true
      · rw [if_neg h, if_neg h]
        by_cases h2 : c = 32 ∨ (9 ≤ c ∧ c ≤ 13)
        · rw [if_pos h2, if_pos h2, e2, ← hl1]; exact ih' false
        · rw [if_neg h2, if_neg h2]
theorem skip_is (L : List Int) (hb : byteL L) (hl : L.length ≤ 1000000) : token_Skip.f (strOfNums L) = some (skS L false 0) := by
  unfold token_Skip.f
  rw [strOfNums_size, if_pos (by omega)]
  exact congrArg some (skipL_is L [] false hb)
theorem refskip_go : ∀ (suf pre : List Int) (q : Bool) (k : Nat), byteL (pre ++ suf) → (pre ++ suf).length ≤ 1000000 → suf.length < k → chequerref05_Skip.l0 k (strOfNums (pre ++ suf)) q (pre.length : Int) = some (skS suf q (pre.length : Int)) := by
  intro suf
  induction suf with
  | nil =>
    intro pre q k hb hl hk
    obtain ⟨k, rfl⟩ : ∃ m, k = m + 1 := ⟨k - 1, by omega⟩
    rw [chequerref05_Skip.l0, List.append_nil, strOfNums_size, if_neg (by omega)]
    rfl
  | cons c r ih =>
    intro pre q k hb hl hk
    obtain ⟨k, rfl⟩ : ∃ m, k = m + 1 := ⟨k - 1, by omega⟩
    have e2 : pre ++ c :: r = (pre ++ [c]) ++ r := by simp
    have hl1 : (pre ++ [c]).length = pre.length + 1 := by simp
    have hlr : (pre ++ c :: r).length = pre.length + (r.length + 1) := by simp
    have hi : (pre.length : Int) + 1 = ((pre ++ [c]).length : Int) := by rw [hl1]; omega
    have hw : wrap64 ((pre.length : Int) + 1) = ((pre ++ [c]).length : Int) := by rw [hl1]; unfold wrap64; omega
    have hk' : r.length < k := by rw [List.length_cons] at hk; omega
    have ih' := fun q => ih (pre ++ [c]) q k (e2 ▸ hb) (e2 ▸ hl) hk'
    have hbt := bt_mid pre r c hb
    have hsz : (pre.length : Int) < ((strOfNums (pre ++ c :: r)).size : Int) := by rw [strOfNums_size]; omega
    have h0 : (0 : Int) ≤ (pre.length : Int) := by omega
    rw [chequerref05_Skip.l0, if_pos hsz, hbt, hw]
    cases q with
    | true =>
      rw [if_pos rfl, if_pos h0, skS, hi]
      by_cases h10 : c = 10
      · rw [if_pos h10, if_pos (.inl h10), e2]; exact ih' false
      · rw [if_neg h10]
        by_cases h13 : c = 13
        · rw [if_pos h13, if_pos (.inr h13), e2]; exact ih' false
        · rw [if_neg h13, if_neg (fun h => h.elim h10 h13), e2]; exact ih' true
    | false =>
      rw [if_neg (by decide), if_pos h0, skS, hi]
      by_cases h35 : c = 35
      · rw [if_pos h35, if_pos h35, e2]; exact ih' true
      · rw [if_neg h35, if_neg h35, refblank_is, Option.bind_some]
        by_cases h2 : blankP c
        · rw [decide_eq_true h2, if_pos rfl, if_pos (show c = 32 ∨ (9 ≤ c ∧ c ≤ 13) from h2), e2]; exact ih' false
        · rw [decide_eq_false h2, if_neg (by decide), if_neg (show ¬ (c = 32 ∨ (9 ≤ c ∧ c ≤ 13)) from h2)]
theorem refskip_is (L : List Int) (hb : byteL L) (hl : L.length ≤ 1000000) (k : Nat) (hk : L.length < k) : chequerref05_Skip.f k (strOfNums L) = some (skS L false 0) :=
  refskip_go L [] false k hb hl hk
theorem refall_go (m : Int) (hm0 : 0 ≤ m) (hm : m ≤ 4611686018427387904) : ∀ (suf pre out : List Int) (used a n e : Int) (k : Nat), byteL (pre ++ suf) → (pre ++ suf).length ≤ 1000000 → out.length ≤ pre.length → (0 ≤ a ∧ a ≤ 3) → tkOk a n m e → suf.length + 4 ≤ k →
    chequerref05_All.l0 k (strOfNums (pre ++ suf)) m out used (pre.length : Int) a n m e = some (allS m suf (pre.length : Int) out used a n e) := by
  intro suf
  induction suf with
  | nil =>
    intro pre out used a n e k hb hl ho ha hO hk
    obtain ⟨k, rfl⟩ : ∃ q, k = q + 1 := ⟨k - 1, by omega⟩
    rw [chequerref05_All.l0, List.append_nil, strOfNums_size, if_neg (by omega), allS]
    by_cases h : 2 ≤ a
    · rw [if_pos (by omega), if_pos h]
    · rw [if_neg (by omega), if_neg h]
  | cons c r ih =>
    intro pre out used a n e k hb hl ho ha hO hk
    obtain ⟨k, rfl⟩ : ∃ q, k = q + 4 := ⟨k - 4, by omega⟩
    have hc : 0 ≤ c ∧ c ≤ 255 := hb c (List.mem_append_right _ (List.mem_cons_self ..))
    have e2 : pre ++ c :: r = (pre ++ [c]) ++ r := by simp
    have hl1 : (pre ++ [c]).length = pre.length + 1 := by simp
    have hlr : (pre ++ c :: r).length = pre.length + (r.length + 1) := by simp
    have hi : (pre.length : Int) + 1 = ((pre ++ [c]).length : Int) := by rw [hl1]; omega
    have hk' : r.length + 4 ≤ k + 3 := by rw [List.length_cons] at hk; omega
    have hsz : (pre.length : Int) < ((strOfNums (pre ++ c :: r)).size : Int) := by rw [strOfNums_size]; omega
    have hO' := hO
    obtain ⟨h05, hn, hnm, he⟩ := hO'
    have hO2 := tkS_ok a n m e c hO
    have hT := tkS_told a n m e c hO ha.2
    have hge : 0 ≤ (tkS a n m e c).1 := hO2.1.1
    have hw : wrap64 ((pre.length : Int) + 1) = ((pre ++ [c]).length : Int) := by rw [hl1]; unfold wrap64; omega
    have hp := refput_is k a n m e c h05 hn hnm hm hc.1 hc.2
    have h0 : (0 : Int) ≤ (pre.length : Int) := Int.natCast_nonneg _
    rw [chequerref05_All.l0, if_pos hsz, if_pos h0, bt_mid pre r c hb, hw, hp, Option.bind_some]
    clear hw hp
    dsimp only
    rw [allS, hi]
    generalize tkS a n m e c = t at *
    by_cases h2 : t.2.2.2 = 2
    · rw [if_pos h2, if_pos h2]
    · rw [if_neg h2, if_neg h2]
      by_cases h1 : t.2.2.2 = 1
      · rw [if_pos h1, if_pos h1, if_pos (by omega)]
        unfold chequerref05_New.f
        rw [Option.bind_some, e2]
        exact ih (pre ++ [c]) (out ++ [t.2.1]) _ 0 0 9 (k + 3) (e2 ▸ hb) (e2 ▸ hl) (by simp; omega) (by omega) ⟨by omega, by omega, hm0, .inl ⟨by omega, rfl⟩⟩ hk'
      · rw [if_neg h1, if_neg h1, e2]
        exact ih (pre ++ [c]) out used t.1 t.2.1 t.2.2.1 (k + 3) (e2 ▸ hb) (e2 ▸ hl) (by omega) (by omega) hO2 hk'
theorem refall_is (m : Int) (hm0 : 0 ≤ m) (hm : m ≤ 4611686018427387904) (L : List Int) (hb : byteL L) (hl : L.length ≤ 1000000) (k : Nat) (hk : L.length + 4 ≤ k) : chequerref05_All.f k (strOfNums L) m = some (allS m L 0 [] 0 0 0 9) := by
  unfold chequerref05_All.f chequerref05_New.f
  rw [Option.bind_some]
  exact refall_go m hm0 hm L [] [] 0 0 0 9 k hb hl (Nat.le_refl _) (by omega) ⟨by omega, by omega, hm0, .inl ⟨by omega, rfl⟩⟩ hk
theorem allS_len (m : Int) : ∀ (suf : List Int) (i : Int) (out : List Int) (used a n e : Int), (allS m suf i out used a n e).1.length ≤ out.length + suf.length
  | [], _, _, _, _, _, _ => by rw [allS]; exact Nat.le_refl _
  | c :: r, i, out, used, a, n, e => by
    rw [allS]
    split
    · dsimp only; omega
    · split
      · have := allS_len m r (i + 1) (out ++ [(tkS a n m e c).2.1]) (i + 1) 0 0 9
        simp only [List.length_append, List.length_cons, List.length_nil] at this ⊢
        omega
      · have := allS_len m r (i + 1) out used (tkS a n m e c).1 (tkS a n m e c).2.1 (tkS a n m e c).2.2.1
        simp only [List.length_cons] at this ⊢
        omega
end Go.Proofs.Ytbbgichpbjgifaa.Q
