/- All numbers of a text, told of its bytes. -/
import Derived.Test.YtbbgichpbjgifaaItoken_All
import Derived.Test.YtbbgichpbjgifaaLDecRef
import Derived.Test.YtbbgichpbjgifaaLStep
import Derived.Test.YtbbgichpbjgifaaLToken
import Derived.Test.YtbbgichpbjgifaaQ6
namespace Go.Proofs.Ytbbgichpbjgifaa.Q
open Go.RowKit Go.Proofs.YtbbgichpbjgifaaW.PrintWords Go.Proofs.YtbbgichpbjgifaaW.PrintLast
set_option linter.unusedVariables false
def allS (m : Int) : List Int → Int → List Int → Int → Int → Int → Int → List Int × Int × Int
  | [], _, out, used, a, _, _ => (out, used, if 2 ≤ a then 6 else 0)
  | c :: r, i, out, used, a, n, e =>
    if (tkS a n m e c).2.2.2 = 2 then (out, used, (tkS a n m e c).2.2.1)
    else if (tkS a n m e c).2.2.2 = 1 then allS m r (i + 1) (out ++ [(tkS a n m e c).2.1]) (i + 1) 0 0 9
    else allS m r (i + 1) out used (tkS a n m e c).1 (tkS a n m e c).2.1 (tkS a n m e c).2.2.1
theorem tkS_told (a n m e c : Int) (h : tkOk a n m e) (ha : a ≤ 3) : ((tkS a n m e c).2.2.2 = 2 ∧ (tkS a n m e c).1 = 5) ∨ ((tkS a n m e c).2.2.2 = 1 ∧ (tkS a n m e c).1 = 4) ∨ ((tkS a n m e c).2.2.2 = 0 ∧ (tkS a n m e c).1 ≤ 3 ∧ (2 ≤ a → 2 ≤ (tkS a n m e c).1)) := by
  obtain ⟨⟨h0, h5⟩, _⟩ := h
  unfold tkS
  repeat' split
  all_goals (dsimp only; omega)
theorem allL_is (m : Int) (hm : m ≤ 4611686018427387904) : ∀ (suf pre out : List Int) (used md a n e : Int), byteL (pre ++ suf) → (pre ++ suf).length ≤ 1000000 → out.length ≤ pre.length → tkR a md 0 → tkOk a n m e →
    tokAllL (strOfNums (pre ++ suf)) m suf.length pre.length out used md m n (decide (2 ≤ a)) 0 e = some (allS m suf (pre.length : Int) out used a n e) := by
  intro suf
  induction suf with
  | nil =>
    intro pre out used md a n e hb hl ho hR hO
    show (token_Number_Begun.f _ _ _ _ _ _).bind _ = _
    unfold token_Number_Begun.f
    rw [Option.bind_some]
    show some (out, used, if decide (2 ≤ a) = true then (6 : Int) else 0) = some (out, used, if 2 ≤ a then (6 : Int) else 0)
    by_cases h : 2 ≤ a
    · rw [decide_eq_true h, if_pos rfl, if_pos h]
    · rw [decide_eq_false h, if_neg (by decide), if_neg h]
  | cons c r ih =>
    intro pre out used md a n e hb hl ho hR hO
    have hc : 0 ≤ c ∧ c ≤ 255 := hb c (List.mem_append_right _ (List.mem_cons_self ..))
    have ha : a ≤ 3 := by
      rcases hR with h | h | h <;> omega
    have hO' := hO
    obtain ⟨h05, hn, hnm, he⟩ := hO'
    obtain ⟨md', eq, hR'⟩ := put_is a n m e c md 0 (decide (2 ≤ a)) hR (fun h => decide_eq_false (by omega)) (fun h => decide_eq_true h.1) hn hnm hm hc.1 hc.2
    have hO2 := tkS_ok a n m e c hO
    have hT := tkS_told a n m e c hO ha
    have e2 : pre ++ c :: r = (pre ++ [c]) ++ r := by simp
    have hl1 : (pre ++ [c]).length = pre.length + 1 := by simp
    have hlr : (pre ++ c :: r).length = pre.length + (r.length + 1) := by simp
    have hi : (pre.length : Int) + 1 = ((pre ++ [c]).length : Int) := by rw [hl1]; omega
    rw [List.length_cons, tokAllL, bt_mid pre r c hb, eq, Option.bind_some]
    dsimp only
    rw [allS]
    generalize tkS a n m e c = t at *
    by_cases h2 : t.2.2.2 = 2
    · rw [if_pos h2, if_pos h2]
      unfold token_Number_Value.f
      rw [if_neg (by omega), Option.bind_some]
    · rw [if_neg h2, if_neg h2]
      by_cases h1 : t.2.2.2 = 1
      · rw [if_pos h1, if_pos h1]
        unfold token_Number_Value.f
        rw [if_pos h1, Option.bind_some]
        dsimp only
        rw [if_pos (by omega), e2, hi, ← hl1]
        have := ih (pre ++ [c]) (out ++ [t.2.1]) (((pre ++ [c]).length : Nat) : Int) 0 0 0 9 (e2 ▸ hb) (e2 ▸ hl) (by simp; omega) (.inl ⟨rfl, rfl, by omega, by omega⟩) ⟨by omega, by omega, by omega, .inl ⟨by omega, rfl⟩⟩
        rw [show decide (2 ≤ (0 : Int)) = false from rfl] at this
        exact this
      · have h0 : t.2.2.2 = 0 := by omega
        rw [if_neg h1, if_neg h1, e2, hi, ← hl1, h0]
        rw [h0] at hR'
        have := ih (pre ++ [c]) out used md' t.1 t.2.1 t.2.2.1 (e2 ▸ hb) (e2 ▸ hl) (by omega) hR' hO2
        rw [show (decide (2 ≤ a) || decide (2 ≤ t.1 ∧ t.1 ≤ 4)) = decide (2 ≤ t.1) from by
          rw [Bool.eq_iff_iff, Bool.or_eq_true, decide_eq_true_iff, decide_eq_true_iff, decide_eq_true_iff]
          omega]
        exact this
theorem all_is (m : Int) (hm0 : 0 ≤ m) (hm : m ≤ 4611686018427387904) (L : List Int) (hb : byteL L) (hl : L.length ≤ 1000000) : token_All.f (strOfNums L) m = some (allS m L 0 [] 0 0 0 9) := by
  unfold token_All.f
  rw [strOfNums_size, if_pos (by omega)]
  exact allL_is m hm L [] [] 0 0 0 0 9 hb hl (Nat.le_refl _) (.inl ⟨rfl, rfl, by omega, by omega⟩) ⟨by omega, by omega, hm0, .inl ⟨by omega, rfl⟩⟩
theorem tkS_dig (a n m c : Int) (ha : a = 0 ∨ a = 2) (hc : 48 ≤ c ∧ c ≤ 57) (hv : 10 * n + (c - 48) ≤ m) : tkS a n m 9 c = (2, 10 * n + (c - 48), 9, 0) := by
  have hs : stepS n c m = (10 * n + (c - 48), 0) := by
    unfold stepS
    rw [if_neg (by omega), if_neg (by omega)]
  have hb : ¬ blankP c := by unfold blankP; omega
  unfold tkS
  rw [if_neg (by omega), if_neg (by omega), if_neg (by omega), if_neg (by omega), if_neg (by omega), if_neg hb, hs, if_pos rfl]
/-- Digits are read. -/
theorem allS_digs (m : Int) : ∀ (suf rest : List Int) (i : Int) (out : List Int) (used a n : Int), digs suf → (a = 0 ∨ a = 2) → 0 ≤ n → valL n suf ≤ m → suf ≠ [] → allS m (suf ++ rest) i out used a n 9 = allS m rest (i + suf.length) out used 2 (valL n suf) 9
  | [], _, _, _, _, _, _, _, _, _, _, h => absurd rfl h
  | [c], rest, i, out, used, a, n, hd, ha, hn, hv, _ => by
    have hc := hd c (List.mem_cons_self ..)
    rw [List.cons_append, allS, tkS_dig a n m c ha hc hv]
    rfl
  | c :: c' :: r, rest, i, out, used, a, n, hd, ha, hn, hv, _ => by
    have hc := hd c (List.mem_cons_self ..)
    have hr : digs (c' :: r) := fun x hx => hd x (List.mem_cons_of_mem _ hx)
    rw [valL] at hv
    have hge := valL_ge (c' :: r) (10 * n + (c - 48)) (by omega) hr
    rw [List.cons_append, allS, tkS_dig a n m c ha hc (by omega)]
    dsimp only
    rw [if_neg (by decide), if_neg (by decide), allS_digs m (c' :: r) rest (i + 1) out used 2 (10 * n + (c - 48)) hr (.inr rfl) (by omega) hv (by simp), valL, List.length_cons (a := c)]
    congr 1
    push_cast
    omega
theorem allS_blank (m : Int) (c : Int) (hb : blankP c) (rest : List Int) (i : Int) (out : List Int) (used n e : Int) : allS m (c :: rest) i out used 2 n e = allS m rest (i + 1) (out ++ [n]) (i + 1) 0 0 9 := by
  have e35 : ¬ (c = 35) := by unfold blankP at hb; omega
  have hS : tkS 2 n m e c = (4, n, 0, 1) := by simp [tkS, hb, e35]
  rw [allS, hS]
  rfl
/-- A number, and a blank. -/
theorem allS_num (m : Int) (u : Nat) (hu : (u : Int) ≤ m) (c : Int) (hb : blankP c) (rest : List Int) (i : Int) (out : List Int) (used : Int) : allS m (dg u ++ c :: rest) i out used 0 0 9 = allS m rest (i + (dg u).length + 1) (out ++ [(u : Int)]) (i + (dg u).length + 1) 0 0 9 := by
  have hne : dg u ≠ [] := fun h => by have := dg_ne u; rw [h] at this; simp at this
  rw [allS_digs m (dg u) (c :: rest) i out used 0 0 (dg_digs u) (.inl rfl) (by omega) (by rw [valL_dg]; exact hu) hne, valL_dg, allS_blank m c hb]
end Go.Proofs.Ytbbgichpbjgifaa.Q
