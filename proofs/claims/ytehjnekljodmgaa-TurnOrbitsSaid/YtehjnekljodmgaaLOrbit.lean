/- All ways to lay a matrix that are not the same: both texts answer the same. -/
import Derived.Test.YtehjnekljodmgaaIchequerref04_Lay
import Derived.Test.YtehjnekljodmgaaIrect_Matrix
import Derived.Test.YtehjnekljodmgaaLTab
import Derived.Test.YtehjnekljodmgaaQ11
import Derived.Test.YtehjnekljodmgaaQ13
import Derived.Test.YtehjnekljodmgaaQ14
import Derived.Test.YtehjnekljodmgaaQ3
import Derived.Test.YtehjnekljodmgaaQ6
namespace Go.Proofs.Ytehjnekljodmgaa.Q
open Go.RowKit Go.Proofs.YtehjnekljodmgaaW.PrintWords Go.Proofs.YtehjnekljodmgaaW.PrintLast
set_option linter.unusedVariables false
theorem o_samerow_loop (a b : List Int) (hab : a.length = b.length) (hl : a.length ≤ 1000000) : ∀ (d i k : Nat), a.length - i ≤ d → i ≤ a.length → d < k → chequerref03_SameRow.l0 k a b (i : Int) = some (decide (∀ j, j < a.length → i ≤ j → a[j]? = b[j]?)) := by
  intro d
  induction d with
  | zero =>
    intro i k hd hi hk
    obtain ⟨k, rfl⟩ : ∃ m, k = m + 1 := ⟨k - 1, by omega⟩
    rw [chequerref03_SameRow.l0, if_neg (by omega), decide_eq_true (fun j h1 h2 => by omega)]
  | succ d ih =>
    intro i k hd hi hk
    obtain ⟨k, rfl⟩ : ∃ m, k = m + 1 := ⟨k - 1, by omega⟩
    by_cases c : i < a.length
    · have ea : a[i]? = some (rd a (i : Int)) := by unfold rd; rw [Int.toNat_natCast, List.getD_eq_getElem?_getD, List.getElem?_eq_getElem c]; rfl
      have eb : b[i]? = some (rd b (i : Int)) := by unfold rd; rw [Int.toNat_natCast, List.getD_eq_getElem?_getD, List.getElem?_eq_getElem (by omega)]; rfl
      rw [chequerref03_SameRow.l0, if_pos (by omega), if_pos (by omega), if_pos (by omega), tw ((i : Int) + 1) (by omega) (by omega)]
      by_cases e : rd a (i : Int) = rd b (i : Int)
      · rw [if_pos e]
        have := ih (i + 1) k (by omega) (by omega) (by omega)
        rw [show ((i + 1 : Nat) : Int) = (i : Int) + 1 from by omega] at this
        rw [this]
        congr 1
        apply decide_eq_decide.2
        constructor
        · intro g j h1 h2
          by_cases z : j = i
          · subst z
            rw [ea, eb, e]
          · exact g j h1 (by omega)
        · exact fun g j h1 h2 => g j h1 (by omega)
      · rw [if_neg e, decide_eq_false]
        intro g
        have := g i c (Nat.le_refl _)
        rw [ea, eb] at this
        exact e (Option.some.inj this)
    · exact ih i (k + 1) (by omega) hi (by omega)
theorem o_ext_all (a b : List Int) (hab : a.length = b.length) : (∀ j, j < a.length → 0 ≤ j → a[j]? = b[j]?) ↔ a = b := by
  constructor
  · intro g
    apply List.ext_getElem?
    intro i
    by_cases c : i < a.length
    · exact g i c (by omega)
    · rw [List.getElem?_eq_none (by omega), List.getElem?_eq_none (by omega)]
  · intro e j _ _
    rw [e]
theorem o_samerow_is (k : Nat) (a b : List Int) (hl : a.length ≤ 1000000) (hk : a.length < k) : chequerref03_SameRow.f k a b = some (decide (a = b)) := by
  unfold chequerref03_SameRow.f
  by_cases c : a.length = b.length
  · rw [if_pos (by omega)]
    have := o_samerow_loop a b c hl a.length 0 k (by omega) (by omega) hk
    rw [show ((0 : Nat) : Int) = 0 from rfl] at this
    rw [this]
    congr 1
    exact decide_eq_decide.2 (o_ext_all a b c)
  · rw [if_neg (by omega), decide_eq_false (fun e => c (by rw [e]))]
theorem o_equal_loop (a b : List Int) (hab : a.length = b.length) (hl : a.length ≤ 1000000) : ∀ (d i k : Nat), a.length - i ≤ d → i ≤ a.length → d < k → api_Pixel.l0 k a b (a.length : Int) (i : Int) = some (decide (∀ j, j < a.length → i ≤ j → a[j]? = b[j]?)) := by
  intro d
  induction d with
  | zero =>
    intro i k hd hi hk
    obtain ⟨k, rfl⟩ : ∃ m, k = m + 1 := ⟨k - 1, by omega⟩
    rw [api_Pixel.l0, if_neg (by omega), decide_eq_true (fun j h1 h2 => by omega)]
  | succ d ih =>
    intro i k hd hi hk
    obtain ⟨k, rfl⟩ : ∃ m, k = m + 1 := ⟨k - 1, by omega⟩
    by_cases c : i < a.length
    · have ea : a[i]? = some (rd a (i : Int)) := by unfold rd; rw [Int.toNat_natCast, List.getD_eq_getElem?_getD, List.getElem?_eq_getElem c]; rfl
      have eb : b[i]? = some (rd b (i : Int)) := by unfold rd; rw [Int.toNat_natCast, List.getD_eq_getElem?_getD, List.getElem?_eq_getElem (by omega)]; rfl
      rw [api_Pixel.l0, if_pos (by omega), if_pos (by omega), if_pos (by omega), if_pos (by omega), tw ((i : Int) + 1) (by omega) (by omega)]
      by_cases e : rd a (i : Int) = rd b (i : Int)
      · rw [if_pos e]
        have := ih (i + 1) k (by omega) (by omega) (by omega)
        rw [show ((i + 1 : Nat) : Int) = (i : Int) + 1 from by omega] at this
        rw [this]
        congr 1
        apply decide_eq_decide.2
        constructor
        · intro g j h1 h2
          by_cases z : j = i
          · subst z
            rw [ea, eb, e]
          · exact g j h1 (by omega)
        · exact fun g j h1 h2 => g j h1 (by omega)
      · rw [if_neg e, decide_eq_false]
        intro g
        have := g i c (Nat.le_refl _)
        rw [ea, eb] at this
        exact e (Option.some.inj this)
    · exact ih i (k + 1) (by omega) hi (by omega)
theorem o_equal_is (k : Nat) (a b : List Int) (hl : a.length ≤ 1000000) (hk : a.length < k) : api_Pixel.f k a b = some (decide (a = b)) := by
  unfold api_Pixel.f
  by_cases c : a.length = b.length
  · rw [if_pos (by omega)]
    have := o_equal_loop a b c hl a.length 0 k (by omega) (by omega) hk
    rw [show ((0 : Nat) : Int) = 0 from rfl] at this
    rw [this]
    congr 1
    exact decide_eq_decide.2 (o_ext_all a b c)
  · rw [if_neg (by omega), decide_eq_false (fun e => c (by rw [e]))]
/-- Is one table's part another one? -/
abbrev TM := Int × Int × List Int
theorem tm_eq (s x : TM) : s = x ↔ s.1 = x.1 ∧ s.2.1 = x.2.1 ∧ s.2.2 = x.2.2 := by
  obtain ⟨a, b, c⟩ := s
  obtain ⟨d, e, f⟩ := x
  simp
theorem rsame_is (k : Nat) (s x : TM) (hl : s.2.2.length ≤ 1000000) (hk : s.2.2.length < k) : rect_Same.f k s.1 s.2.1 s.2.2 x.1 x.2.1 x.2.2 = some (decide (s = x)) := by
  unfold rect_Same.f
  by_cases h1 : s.1 = x.1
  · rw [if_pos h1]
    by_cases h2 : s.2.1 = x.2.1
    · rw [if_pos h2, o_equal_is k _ _ hl hk, Option.bind_some]
      congr 1
      exact decide_eq_decide.2 ⟨fun h => (tm_eq s x).2 ⟨h1, h2, h⟩, fun h => ((tm_eq s x).1 h).2.2⟩
    · rw [if_neg h2, decide_eq_false (fun h => h2 ((tm_eq s x).1 h).2.1)]
  · rw [if_neg h1, decide_eq_false (fun h => h1 ((tm_eq s x).1 h).1)]
theorem refsame_is (k : Nat) (s x : TM) (hl : s.2.2.length ≤ 1000000) (hk : s.2.2.length < k) : chequerref03_Same.f k s.1 s.2.1 s.2.2 x.1 x.2.1 x.2.2 = some (decide (s = x)) := by
  unfold chequerref03_Same.f
  by_cases h1 : s.1 = x.1
  · rw [if_pos h1]
    by_cases h2 : s.2.1 = x.2.1
    · rw [if_pos h2, o_samerow_is k _ _ hl hk, Option.bind_some]
      congr 1
      exact decide_eq_decide.2 ⟨fun h => (tm_eq s x).2 ⟨h1, h2, h⟩, fun h => ((tm_eq s x).1 h).2.2⟩
    · rw [if_neg h2, decide_eq_false (fun h => h2 ((tm_eq s x).1 h).2.1)]
  · rw [if_neg h1, decide_eq_false (fun h => h1 ((tm_eq s x).1 h).1)]
/-- Where the first one stands that is the same. -/
def findT (x : TM) : Nat → List TM → Int
  | _, [] => -1
  | i, s :: r => if s = x then (i : Int) else findT x (i + 1) r
def orbS (M : Nat → TM) : List Int → List TM → List Int → List TM × List Int
  | [], out, wh => (out, wh)
  | g :: r, out, wh =>
    if 0 ≤ g ∧ g ≤ 7 then (if findT (M g.toNat) 0 out < 0 then orbS M r (out ++ [M g.toNat]) (wh ++ [(out.length : Int)]) else orbS M r out (wh ++ [findT (M g.toNat) 0 out]))
    else orbS M r out (wh ++ [-1])
def mkP (s : TM) : S26 := ⟨s.1, s.2.1, s.2.2⟩
def mkR (s : TM) : S24 := ⟨s.1, s.2.1, s.2.2⟩
theorem findT_ge (x : TM) : ∀ (l : List TM) (i : Nat), -1 ≤ findT x i l
  | [], _ => Int.le_refl _
  | s :: r, i => by
    have := findT_ge x r (i + 1)
    rw [findT]
    split <;> omega
theorem idx_find (x : TM) (N : Nat) (hN : N ≤ 100000) (hx : x.2.2.length = N) : ∀ (l : List TM) (i : Nat), (∀ s ∈ l, s.2.2.length = N) → idxSame x.1 x.2.1 x.2.2 i (l.map mkP) = some (findT x i l)
  | [], _, _ => rfl
  | s :: r, i, h => by
    have hs := h s (List.mem_cons_self ..)
    have ih := idx_find x N hN hx r (i + 1) (fun z hz => h z (List.mem_cons_of_mem _ hz))
    rw [List.map_cons, idxSame]
    show (rect_Same.f (x.2.2.length + 5) s.1 s.2.1 s.2.2 x.1 x.2.1 x.2.2).bind _ = _
    rw [rsame_is _ s x (by omega) (by omega), Option.bind_some, findT]
    by_cases c : s = x
    · rw [decide_eq_true c, if_pos rfl, if_pos c]
    · rw [decide_eq_false c, if_neg (by decide), if_neg c, ih]
theorem rd_mkR (l : List TM) (i : Nat) (hi : i < l.length) : rd_T24 (l.map mkR) (i : Int) = mkR l[i] := by
  unfold rd_T24
  rw [Int.toNat_natCast, List.getD_eq_getElem?_getD, List.getElem?_map, List.getElem?_eq_getElem hi]
  rfl
theorem reforb_in (N : Nat) (hN : N ≤ 100000) (w h : Int) (L : List Int) (x : TM) (hx : x.2.2.length = N) (turns : List Int) (i : Int) (wh : List Int) (R : List S24 × List Int) (out : List TM) (ho : out.length ≤ 1000) (hs : ∀ s ∈ out, s.2.2.length = N) (K : Nat) (hK : N + 20 ≤ K)
    (hnew : ∀ k, K ≤ k → findT x 0 out < 0 → chequerref04_Orbit.l0 k turns (out.map mkR ++ [mkR x]) (wh ++ [(out.length : Int)]) (wrap64 (i + 1)) w h L = some R) (hold : ∀ k, K ≤ k → ¬ findT x 0 out < 0 → chequerref04_Orbit.l0 k turns (out.map mkR) (wh ++ [findT x 0 out]) (wrap64 (i + 1)) w h L = some R) (hwh : wh.length ≤ 1000) :
    ∀ (d j k : Nat) (at_ : Int), j + d = out.length → K + d < k → (at_ < 0 → findT x 0 out = findT x j (out.drop j)) → (¬ at_ < 0 → at_ = findT x 0 out) →
      chequerref04_Orbit.l1 k turns (out.map mkR) wh i at_ (j : Int) w h L x.1 x.2.1 x.2.2 = some R := by
  have hlen : (out.map mkR).length = out.length := List.length_map ..
  intro d
  induction d with
  | zero =>
    intro j k at_ hd hk h1 h2
    obtain ⟨k, rfl⟩ : ∃ m, k = m + 1 := ⟨k - 1, by omega⟩
    rw [chequerref04_Orbit.l1, if_neg (by omega)]
    by_cases c : at_ < 0
    · have hf := h1 c
      rw [List.drop_eq_nil_of_le (by omega)] at hf
      rw [if_pos c, if_pos (by omega), if_pos (by omega), hlen]
      exact hnew k (by omega) (by rw [hf]; show (-1 : Int) < 0; decide)
    · rw [if_neg c, if_pos (by omega)]
      have hf := h2 c
      rw [hf]
      exact hold k (by omega) (by omega)
  | succ d ih =>
    intro j k at_ hd hk h1 h2
    obtain ⟨k, rfl⟩ : ∃ m, k = m + 1 := ⟨k - 1, by omega⟩
    have hj : j < out.length := by omega
    have w1 : wrap64 ((j : Int) + 1) = ((j + 1 : Nat) : Int) := by rw [tw _ (by omega) (by omega)]; push_cast; rfl
    rw [chequerref04_Orbit.l1, if_pos (by clear w1; omega), w1]
    clear w1
    by_cases c : at_ < 0
    · have hsj := hs out[j] (List.getElem_mem hj)
      have hf := h1 c
      rw [List.drop_eq_getElem_cons hj, findT] at hf
      rw [if_pos c, if_pos (by omega), rd_mkR out j hj]
      show (chequerref03_Same.f k out[j].1 out[j].2.1 out[j].2.2 x.1 x.2.1 x.2.2).bind _ = _
      rw [refsame_is k out[j] x (by omega) (by omega), Option.bind_some]
      by_cases e : out[j] = x
      · rw [decide_eq_true e, if_pos rfl]
        rw [if_pos e] at hf
        exact ih (j + 1) k (j : Int) (by omega) (by omega) (fun h => by omega) (fun _ => hf.symm)
      · rw [decide_eq_false e, if_neg (by decide)]
        rw [if_neg e] at hf
        exact ih (j + 1) k at_ (by omega) (by omega) (fun _ => hf) h2
    · rw [if_neg c]
      exact ih (j + 1) k at_ (by omega) (by omega) (fun h => absurd h c) h2
section
variable (M : Nat → TM) (N : Nat) (hN : N ≤ 100000) (hM : ∀ g, g < 8 → (M g).2.2.length = N) (w h : Int) (L : List Int)
include hN hM
theorem orbit_go (hlay : ∀ (g k : Nat), g < 8 → 4300 ≤ k → turn_Lay.f k w h L (g : Int) = some ((M g).1, (M g).2.1, (M g).2.2, 0)) (hno : ∀ (g : Int) (k : Nat), ¬ (0 ≤ g ∧ g ≤ 7) → turn_Lay.f k w h L g = some (0, 0, [], 1)) :
    ∀ (suf pre : List Int) (out : List TM) (wh : List Int) (k : Nat), (pre ++ suf).length ≤ 1000 → out.length ≤ pre.length → wh.length = pre.length → (∀ s ∈ out, s.2.2.length = N) → 4400 + suf.length < k →
      turn_Orbit.l0 k (out.map mkP) wh (pre ++ suf) ((pre ++ suf).length : Int) (pre.length : Int) w h L = some ((orbS M suf out wh).1.map mkP, (orbS M suf out wh).2) := by
  intro suf
  induction suf with
  | nil =>
    intro pre out wh k hl ho hw hs hk
    obtain ⟨k, rfl⟩ : ∃ m, k = m + 1 := ⟨k - 1, by omega⟩
    rw [turn_Orbit.l0, List.append_nil, if_neg (by omega), orbS]
  | cons g r ih =>
    intro pre out wh k hl ho hw hs hk
    obtain ⟨k, rfl⟩ : ∃ m, k = m + 1 := ⟨k - 1, by omega⟩
    rw [List.length_cons] at hk
    have hlr : (pre ++ g :: r).length = pre.length + (r.length + 1) := by simp
    have e2 : pre ++ g :: r = (pre ++ [g]) ++ r := by simp
    have hl1 : (pre ++ [g]).length = pre.length + 1 := by simp
    have hrd : rd (pre ++ g :: r) (pre.length : Int) = g := by unfold rd; rw [Int.toNat_natCast]; simp
    have next := fun (out' : List TM) (wh' : List Int) (a : out'.length ≤ pre.length + 1) (b : wh'.length = pre.length + 1) (c : ∀ s ∈ out', s.2.2.length = N) => ih (pre ++ [g]) out' wh' k (e2 ▸ hl) (by omega) (by omega) c (by omega)
    have w1 : wrap64 ((pre.length : Int) + 1) = ((pre ++ [g]).length : Int) := by rw [hl1, tw _ (by omega) (by omega)]; push_cast; rfl
    rw [turn_Orbit.l0, if_pos (by clear w1; omega), if_pos (by clear w1; omega), if_pos (by clear w1; omega), hrd, w1]
    clear w1
    by_cases hg : 0 ≤ g ∧ g ≤ 7
    · obtain ⟨n, rfl⟩ : ∃ n : Nat, g = (n : Int) := ⟨g.toNat, by omega⟩
      have hn : n < 8 := by omega
      have hm := hM n hn
      have hlen : (out.map mkP).length = out.length := List.length_map ..
      rw [hlay n k hn (by omega), Option.bind_some]
      dsimp only
      unfold slices_IndexFunc_Same.f
      rw [if_pos rfl, if_pos (by rw [hlen]; omega), idx_find (M n) N hN hm out 0 hs, Option.bind_some, orbS, if_pos hg, Int.toNat_natCast]
      by_cases hf : findT (M n) 0 out < 0
      · rw [if_pos hf, if_pos hf, if_pos (by rw [hlen]; omega), if_pos (by omega), hlen]
        have := next (out ++ [M n]) (wh ++ [(out.length : Int)]) (by simp; omega) (by simp; omega) (fun s hs' => by
          rcases List.mem_append.1 hs' with h | h
          · exact hs s h
          · rw [List.mem_singleton.1 h]; exact hm)
        rw [List.map_append] at this
        rw [e2]
        exact this
      · rw [if_neg hf, if_neg hf, if_pos (by omega)]
        have := next out (wh ++ [findT (M n) 0 out]) (by omega) (by simp; omega) hs
        rw [e2]
        exact this
    · rw [hno g k hg, Option.bind_some]
      dsimp only
      rw [if_neg (by decide), if_pos (by omega), orbS, if_neg hg]
      have := next out (wh ++ [-1]) (by omega) (by simp; omega) hs
      rw [e2]
      exact this
theorem reforb_go (hlay : ∀ (g k : Nat), g < 8 → 4300 ≤ k → chequerref04_Lay.f k w h L (g : Int) = some ((M g).1, (M g).2.1, (M g).2.2, 0)) (hno : ∀ (g : Int) (k : Nat), ¬ (0 ≤ g ∧ g ≤ 7) → chequerref04_Lay.f k w h L g = some (0, 0, [], 1)) :
    ∀ (suf pre : List Int) (out : List TM) (wh : List Int) (k : Nat), (pre ++ suf).length ≤ 1000 → out.length ≤ pre.length → wh.length = pre.length → (∀ s ∈ out, s.2.2.length = N) → 4400 + N + suf.length * 1010 < k →
      chequerref04_Orbit.l0 k (pre ++ suf) (out.map mkR) wh (pre.length : Int) w h L = some ((orbS M suf out wh).1.map mkR, (orbS M suf out wh).2) := by
  intro suf
  induction suf with
  | nil =>
    intro pre out wh k hl ho hw hs hk
    obtain ⟨k, rfl⟩ : ∃ m, k = m + 1 := ⟨k - 1, by omega⟩
    rw [chequerref04_Orbit.l0, List.append_nil, if_neg (by omega), orbS]
  | cons g r ih =>
    intro pre out wh k hl ho hw hs hk
    obtain ⟨k, rfl⟩ : ∃ m, k = m + 1 := ⟨k - 1, by omega⟩
    rw [List.length_cons, Nat.succ_mul] at hk
    have hk2 : 4400 + N + r.length * 1010 < k := by revert hk; generalize r.length * 1010 = B; intro hk; omega
    have hlr : (pre ++ g :: r).length = pre.length + (r.length + 1) := by simp
    have e2 : pre ++ g :: r = (pre ++ [g]) ++ r := by simp
    have hl1 : (pre ++ [g]).length = pre.length + 1 := by simp
    have hrd : rd (pre ++ g :: r) (pre.length : Int) = g := by unfold rd; rw [Int.toNat_natCast]; simp
    have next := fun (out' : List TM) (wh' : List Int) (a : out'.length ≤ pre.length + 1) (b : wh'.length = pre.length + 1) (c : ∀ s ∈ out', s.2.2.length = N) (k' : Nat) (hk' : 4400 + N + r.length * 1010 < k') => ih (pre ++ [g]) out' wh' k' (e2 ▸ hl) (by omega) (by omega) c hk'
    have w1 : wrap64 ((pre.length : Int) + 1) = ((pre ++ [g]).length : Int) := by rw [hl1, tw _ (by omega) (by omega)]; push_cast; rfl
    rw [chequerref04_Orbit.l0, if_pos (by clear w1; omega), if_pos (by clear w1; omega), hrd]
    by_cases hg : 0 ≤ g ∧ g ≤ 7
    · obtain ⟨n, rfl⟩ : ∃ n : Nat, g = (n : Int) := ⟨g.toNat, by omega⟩
      have hn : n < 8 := by clear w1; omega
      have hm := hM n hn
      rw [hlay n k hn (by clear w1; omega), Option.bind_some]
      dsimp only
      rw [if_pos rfl, orbS, if_pos hg, Int.toNat_natCast]
      have ee := e2
      refine reforb_in N hN w h L (M n) hm (pre ++ (n : Int) :: r) (pre.length : Int) wh _ out (by clear w1; omega) hs (4400 + N + r.length * 1010 + 1) (by clear w1; omega) ?_ ?_ (by clear w1; omega) out.length 0 k (-1) (by clear w1; omega) (by clear w1; omega) (fun _ => by rw [List.drop_zero]) (fun h => absurd (by decide) h)
      · intro k' hk' hf
        rw [w1, if_pos hf]
        clear w1
        have := next (out ++ [M n]) (wh ++ [(out.length : Int)]) (by simp; omega) (by simp; omega) (fun s hs' => by
          rcases List.mem_append.1 hs' with h | h
          · exact hs s h
          · rw [List.mem_singleton.1 h]; exact hm) k' hk'
        rw [List.map_append] at this
        rw [ee]
        exact this
      · intro k' hk' hf
        rw [w1, if_neg hf]
        clear w1
        have := next out (wh ++ [findT (M n) 0 out]) (by omega) (by simp; omega) hs k' hk'
        rw [ee]
        exact this
    · rw [hno g k hg, Option.bind_some]
      dsimp only
      rw [if_neg (by decide), w1]
      clear w1
      rw [if_pos (by omega), orbS, if_neg hg]
      have := next out (wh ++ [-1]) (by omega) (by simp; omega) hs k hk2
      rw [e2]
      exact this
end
end Go.Proofs.Ytehjnekljodmgaa.Q
