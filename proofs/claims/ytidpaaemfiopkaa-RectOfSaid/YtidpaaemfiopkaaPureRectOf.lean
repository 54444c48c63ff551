/- The matrix of rows is the document's, or refused; its rows and columns are: for any rows, any matrix. No condition. -/
import Derived.Test.YtidpaaemfiopkaaLAround
import Derived.Test.YtidpaaemfiopkaaLLives03
import Derived.Test.YtidpaaemfiopkaaLRect
import Derived.Test.YtidpaaemfiopkaaLSub
import Derived.Test.YtidpaaemfiopkaaLTab
import Derived.Test.YtidpaaemfiopkaaQ13
import Derived.Test.YtidpaaemfiopkaaQ15
import Derived.Test.YtidpaaemfiopkaaQ16
import Derived.Test.YtidpaaemfiopkaaQ2
import Derived.Test.YtidpaaemfiopkaaQ6
import Derived.Test.YtidpaaemfiopkaaQ7
import Derived.Test.YtidpaaemfiopkaaQ9
namespace Go.Proofs.Ytidpaaemfiopkaa.Pure
open Go.RowKit Go.Proofs.Ytidpaaemfiopkaa.Q Go.Proofs.YtidpaaemfiopkaaW.PrintWords Go.Proofs.YtidpaaemfiopkaaW.PrintLast
set_option linter.unusedVariables false
def errM : Int × Int × List Int × Int := (0, 0, [], 1)
instance (r0 : Nat) (s : List (List Int)) : Decidable (∀ x ∈ s, x.length = r0) := inferInstance
def ofP (R : List (List Int)) : Int × Int × List Int × Int :=
  if R ≠ [] ∧ 1 ≤ (R.getD 0 []).length ∧ ∀ s ∈ R, s.length = (R.getD 0 []).length then (((R.getD 0 []).length : Int), (R.length : Int), R.flatten, 0) else errM
def smallR (R : List (List Int)) : Prop := R.length ≤ 5 ∧ ∀ s ∈ R, s.length ≤ 6
theorem flat_len : ∀ (R : List (List Int)), (∀ s ∈ R, s.length ≤ 6) → R.flatten.length ≤ 6 * R.length
  | [], _ => by simp
  | s :: r, h => by
    have h1 := h s (List.mem_cons_self ..)
    have h2 := flat_len r (fun x hx => h x (List.mem_cons_of_mem _ hx))
    rw [List.flatten_cons, List.length_append, List.length_cons]
    omega
theorem flat_eq (n : Nat) : ∀ (R : List (List Int)), (∀ s ∈ R, s.length = n) → R.flatten.length = R.length * n
  | [], _ => by simp
  | s :: r, h => by
    have h1 := h s (List.mem_cons_self ..)
    have h2 := flat_eq n r (fun x hx => h x (List.mem_cons_of_mem _ hx))
    rw [List.flatten_cons, List.length_append, List.length_cons, h1, h2, Nat.succ_mul, Nat.add_comm]
theorem rdL_mid (pre r : List (List Int)) (s : List Int) : rd_L2 (pre ++ s :: r) (pre.length : Int) = s := by
  unfold rd_L2
  rw [Int.toNat_natCast]
  simp
theorem sized_small (w h : Nat) (hw : w ≤ 6) (hh : 1 ≤ h ∧ h ≤ 5) : sizedP (w : Int) (h : Int) = decide (1 ≤ w) := by
  unfold sizedP
  have hm : w * h ≤ 6 * 5 := Nat.mul_le_mul hw hh.2
  have hm' : (w : Int) * (h : Int) ≤ 30 := by rw [← Int.natCast_mul]; omega
  by_cases c : 1 ≤ w
  · rw [decide_eq_true c, decide_eq_true ⟨by omega, by omega, by omega⟩]
  · rw [decide_eq_false c, decide_eq_false (fun h => c (by have := h.1.1; omega))]
theorem of_go (R : List (List Int)) (hR : smallR R) (w h : Nat) : ∀ (suf pre : List (List Int)) (k : Nat), pre ++ suf = R → suf.length < k →
    rect_Of.l0 k R (R.length : Int) (pre.length : Int) (w : Int) (h : Int) pre.flatten = some (if ∀ s ∈ suf, s.length = w then ((w : Int), (h : Int), R.flatten, 0) else errM) := by
  intro suf
  induction suf with
  | nil =>
    intro pre k e hk
    obtain ⟨k, rfl⟩ : ∃ m, k = m + 1 := ⟨k - 1, by omega⟩
    rw [List.append_nil] at e
    subst e
    rw [rect_Of.l0, if_neg (by omega), if_pos (fun s hs => by cases hs)]
  | cons s r ih =>
    intro pre k e hk
    obtain ⟨k, rfl⟩ : ∃ m, k = m + 1 := ⟨k - 1, by omega⟩
    have e2 : (pre ++ [s]) ++ r = R := by rw [← e]; simp
    have hl1 : (pre ++ [s]).length = pre.length + 1 := by simp
    have hlr : R.length = pre.length + (r.length + 1) := by rw [← e]; simp
    have hs : s.length ≤ 6 := hR.2 s (by rw [← e]; exact List.mem_append_right _ (List.mem_cons_self ..))
    have hf := flat_len pre (fun x hx => hR.2 x (by rw [← e]; exact List.mem_append_left _ hx))
    have hr5 := hR.1
    have hrd : rd_L2 R (pre.length : Int) = s := by rw [← e]; exact rdL_mid pre r s
    have w1 : wrap64 ((pre.length : Int) + 1) = ((pre ++ [s]).length : Int) := by rw [hl1, tw _ (by omega) (by omega)]; push_cast; rfl
    rw [rect_Of.l0, if_pos (by clear w1; omega), if_pos (by clear w1; omega), if_pos (by clear w1; omega), hrd, w1]
    clear w1
    by_cases c : s.length = w
    · rw [if_pos (by omega), if_pos (by omega)]
      have := ih (pre ++ [s]) k e2 (by rw [List.length_cons] at hk; omega)
      rw [List.flatten_append, List.flatten_cons, List.flatten_nil, List.append_nil] at this
      rw [this]
      congr 1
      by_cases c2 : ∀ x ∈ r, x.length = w
      · rw [if_pos c2, if_pos (fun x hx => (List.mem_cons.1 hx).elim (fun z => z ▸ c) (c2 x))]
      · rw [if_neg c2, if_neg (fun z => c2 fun x hx => z x (List.mem_cons_of_mem _ hx))]
    · rw [if_neg (by omega), if_neg (fun z => c (z s (List.mem_cons_self ..)))]
      rfl
theorem of_is (R : List (List Int)) (hR : smallR R) (k : Nat) (hk : 20 ≤ k) : rect_Of.f k R = some (ofP R) := by
  obtain ⟨k, rfl⟩ : ∃ m, k = m + 1 := ⟨k - 1, by omega⟩
  have hr5 := hR.1
  unfold rect_Of.f ofP
  by_cases c : R = []
  · rw [if_pos (by rw [c]; rfl), rect_Of.j0, if_pos rfl, if_neg (fun h => h.1 c)]
    rfl
  · have hpos : 0 < R.length := List.length_pos_iff.2 c
    have hm : R.getD 0 [] ∈ R := by
      cases R with
      | nil => exact absurd rfl c
      | cons s r => exact List.mem_cons_self ..
    have hw := hR.2 _ hm
    have hrd : rd_L2 R 0 = R.getD 0 [] := rfl
    rw [if_neg (by omega), if_pos (by omega), sized_is, Option.bind_some, hrd, sized_small _ _ hw (by omega)]
    by_cases c1 : 1 ≤ (R.getD 0 []).length
    · rw [decide_eq_true c1, rect_Of.j0, if_neg (by decide), if_pos (by omega), hrd]
      have := of_go R hR (R.getD 0 []).length R.length R [] k rfl (by omega)
      rw [show ([] : List (List Int)).flatten = [] from rfl] at this
      have e0 : ((([] : List (List Int)).length : Nat) : Int) = 0 := rfl
      rw [e0] at this
      rw [this]
      congr 1
      by_cases c2 : ∀ s ∈ R, s.length = (R.getD 0 []).length
      · rw [if_pos c2, if_pos ⟨c, c1, c2⟩]
      · rw [if_neg c2, if_neg (fun h => c2 h.2.2)]
    · rw [decide_eq_false c1, rect_Of.j0, if_pos (by rfl), if_neg (fun h => c1 h.2.1)]
      rfl
def endM (R : List (List Int)) (w : Nat) : Int × Int × List Int × Int := if mayP (w : Int) (R.length : Int) R.flatten = true then ((w : Int), (R.length : Int), R.flatten, 0) else errM
theorem refof_go (R : List (List Int)) (hR : smallR R) : ∀ (suf pre : List (List Int)) (w k : Nat), pre ++ suf = R → suf.length < k →
    chequerref03_Of.l0 k R (pre.length : Int) (w : Int) (pre.length : Int) pre.flatten = some (if ∀ s ∈ suf, s.length = (R.getD 0 []).length then endM R (if suf = [] then w else (R.getD 0 []).length) else errM) := by
  intro suf
  induction suf with
  | nil =>
    intro pre w k e hk
    obtain ⟨k, rfl⟩ : ∃ m, k = m + 1 := ⟨k - 1, by omega⟩
    rw [List.append_nil] at e
    subst e
    rw [chequerref03_Of.l0, if_neg (by omega), refmayM_is, Option.bind_some, if_pos (fun s hs => by cases hs), if_pos rfl]
    unfold endM
    cases mayP (w : Int) (pre.length : Int) pre.flatten with
    | true => rw [if_pos rfl, if_pos rfl]
    | false => rw [if_neg (by decide), if_neg (by decide)]; rfl
  | cons s r ih =>
    intro pre w k e hk
    obtain ⟨k, rfl⟩ : ∃ m, k = m + 1 := ⟨k - 1, by omega⟩
    have e2 : (pre ++ [s]) ++ r = R := by rw [← e]; simp
    have hl1 : (pre ++ [s]).length = pre.length + 1 := by simp
    have hlr : R.length = pre.length + (r.length + 1) := by rw [← e]; simp
    have hs : s.length ≤ 6 := hR.2 s (by rw [← e]; exact List.mem_append_right _ (List.mem_cons_self ..))
    have hf := flat_len pre (fun x hx => hR.2 x (by rw [← e]; exact List.mem_append_left _ hx))
    have hr5 := hR.1
    have hrd : rd_L2 R (pre.length : Int) = s := by rw [← e]; exact rdL_mid pre r s
    have hr0 : rd_L2 R 0 = R.getD 0 [] := rfl
    have w1 : wrap64 ((pre.length : Int) + 1) = ((pre ++ [s]).length : Int) := by rw [hl1, tw _ (by omega) (by omega)]; push_cast; rfl
    rw [chequerref03_Of.l0, if_pos (by clear w1; omega), if_pos (by clear w1; omega), if_pos (by clear w1; omega), hrd, hr0, w1]
    clear w1
    by_cases c : s.length = (R.getD 0 []).length
    · rw [if_pos (by omega), if_pos (by omega)]
      have := ih (pre ++ [s]) s.length k e2 (by rw [List.length_cons] at hk; omega)
      rw [List.flatten_append, List.flatten_cons, List.flatten_nil, List.append_nil] at this
      rw [this]
      congr 1
      by_cases c2 : ∀ x ∈ r, x.length = (R.getD 0 []).length
      · rw [if_pos c2, if_pos (fun x hx => (List.mem_cons.1 hx).elim (fun z => z ▸ c) (c2 x)), if_neg (fun h : s :: r = [] => by cases h)]
        by_cases c3 : r = []
        · rw [if_pos c3, c]
        · rw [if_neg c3]
      · rw [if_neg c2, if_neg (fun z => c2 fun x hx => z x (List.mem_cons_of_mem _ hx))]
    · rw [if_neg (by omega), if_neg (fun z => c (z s (List.mem_cons_self ..)))]
      rfl
theorem refof_is (R : List (List Int)) (hR : smallR R) (k : Nat) (hk : 20 ≤ k) : chequerref03_Of.f k R = some (ofP R) := by
  have hr5 := hR.1
  have := refof_go R hR R [] 0 k rfl (by omega)
  unfold chequerref03_Of.f
  have e0 : ((([] : List (List Int)).length : Nat) : Int) = 0 := rfl
  rw [show ([] : List (List Int)).flatten = [] from rfl, e0] at this
  rw [show ((0 : Nat) : Int) = 0 from rfl] at this
  rw [this]
  congr 1
  unfold ofP
  by_cases c : R = []
  · subst c
    rfl
  · have hm : R.getD 0 [] ∈ R := by
      cases R with
      | nil => exact absurd rfl c
      | cons s r => exact List.mem_cons_self ..
    have hw := hR.2 _ hm
    have hpos : 0 < R.length := List.length_pos_iff.2 c
    by_cases c2 : ∀ s ∈ R, s.length = (R.getD 0 []).length
    · rw [if_pos c2, if_neg c]
      have hfl := flat_eq _ R c2
      unfold endM mayP
      rw [sized_small _ _ hw (by omega)]
      have hlen : (R.flatten.length : Int) = ((R.getD 0 []).length : Int) * (R.length : Int) := by rw [hfl, Int.natCast_mul, Int.mul_comm]
      rw [decide_eq_true hlen, Bool.and_true]
      by_cases c1 : 1 ≤ (R.getD 0 []).length
      · rw [if_pos (decide_eq_true c1), if_pos ⟨c, c1, c2⟩]
      · rw [if_neg (by simpa using c1), if_neg (fun h => c1 h.2.1)]
    · rw [if_neg c2, if_neg (fun h => c2 h.2.2)]
theorem rin_is (a b : Int) : rect_in.f a b = some (decide (0 ≤ a ∧ a < b)) := by
  unfold rect_in.f
  by_cases h : a ≥ 0
  · rw [if_pos h]
    congr 1
    exact decide_eq_decide.2 ⟨fun x => ⟨h, x⟩, fun x => x.2⟩
  · rw [if_neg h, decide_eq_false (fun x => h x.1)]
theorem refat_no (w h : Int) (l : List Int) (x y : Int) (hn : ¬ (0 ≤ x ∧ 0 ≤ y ∧ x < w ∧ y < h)) : chequerref03_At.f w h l x y = some (0, false) := by
  unfold chequerref03_At.f
  by_cases c1 : x < 0
  · rw [if_pos c1]
  · rw [if_neg c1]
    by_cases c2 : y < 0
    · rw [if_pos c2]
    · rw [if_neg c2]
      by_cases c3 : x ≥ w
      · rw [if_pos c3]
      · rw [if_neg c3, if_pos (by omega)]
def rowF (W H : Nat) (f : Nat → Nat → Int) (y : Int) : List Int := if 0 ≤ y ∧ y < (H : Int) then trow W (fun x => f x y.toNat) else []
def colF (W H : Nat) (f : Nat → Nat → Int) (x : Int) : List Int := if 0 ≤ x ∧ x < (W : Int) then trow H (fun y => f x.toNat y) else []
theorem trow_succ (n : Nat) (g : Nat → Int) : trow (n + 1) g = trow n g ++ [g n] := by unfold trow; rw [List.range_succ, List.map_append]; rfl
theorem rowF_len (W H : Nat) (hW : 1 ≤ W ∧ W ≤ 60) (f : Nat → Nat → Int) (y : Int) : (rowF W H f y).length ≤ 60 := by
  unfold rowF
  split
  · rw [trow_len]; omega
  · simp
theorem colF_len (W H : Nat) (hH : 1 ≤ H ∧ H ≤ 60) (f : Nat → Nat → Int) (x : Int) : (colF W H f x).length ≤ 60 := by
  unfold colF
  split
  · rw [trow_len]; omega
  · simp
section
variable (W H : Nat) (hW : 1 ≤ W ∧ W ≤ 60) (hH : 1 ≤ H ∧ H ≤ 60) (f : Nat → Nat → Int)
include hW hH
theorem refrow_go (y : Int) : ∀ (d x k : Nat), x + d = W → d < k → chequerref03_Row.l0 k y (if 0 ≤ y ∧ y < (H : Int) then trow x (fun x => f x y.toNat) else []) (x : Int) (W : Int) (H : Int) (tab W H f) = some (rowF W H f y) := by
  intro d
  induction d with
  | zero =>
    intro x k hd hk
    obtain ⟨k, rfl⟩ : ∃ m, k = m + 1 := ⟨k - 1, by omega⟩
    obtain rfl : x = W := by omega
    rw [chequerref03_Row.l0, if_neg (by omega)]
    rfl
  | succ d ih =>
    intro x k hd hk
    obtain ⟨k, rfl⟩ : ∃ m, k = m + 1 := ⟨k - 1, by omega⟩
    have hn := ih (x + 1) k (by omega) (by omega)
    rw [chequerref03_Row.l0, if_pos (by omega), tw ((x : Int) + 1) (by omega) (by omega)]
    by_cases c : 0 ≤ y ∧ y < (H : Int)
    · rw [if_pos c] at hn ⊢
      have ha := refat_is W H (by omega) (by omega) f x y.toNat (by omega) (by omega)
      rw [Int.toNat_of_nonneg c.1] at ha
      rw [ha, Option.bind_some, if_pos rfl, if_pos (by rw [trow_len]; omega)]
      rw [trow_succ] at hn
      exact hn
    · rw [if_neg c] at hn ⊢
      rw [refat_no _ _ _ _ _ (fun h => c ⟨h.2.1, h.2.2.2⟩), Option.bind_some, if_neg (by decide)]
      exact hn
theorem refrow_is (y : Int) (k : Nat) (hk : 70 ≤ k) : chequerref03_Row.f k (W : Int) (H : Int) (tab W H f) y = some (rowF W H f y) := by
  have := refrow_go W H hW hH f y W 0 k (by omega) (by omega)
  unfold chequerref03_Row.f
  rw [show (if 0 ≤ y ∧ y < (H : Int) then trow 0 (fun x => f x y.toNat) else []) = [] from by split <;> rfl] at this
  exact this
theorem refcol_go (x : Int) : ∀ (d y k : Nat), y + d = H → d < k → chequerref03_Col.l0 k x (if 0 ≤ x ∧ x < (W : Int) then trow y (fun y => f x.toNat y) else []) (y : Int) (W : Int) (H : Int) (tab W H f) = some (colF W H f x) := by
  intro d
  induction d with
  | zero =>
    intro y k hd hk
    obtain ⟨k, rfl⟩ : ∃ m, k = m + 1 := ⟨k - 1, by omega⟩
    obtain rfl : y = H := by omega
    rw [chequerref03_Col.l0, if_neg (by omega)]
    rfl
  | succ d ih =>
    intro y k hd hk
    obtain ⟨k, rfl⟩ : ∃ m, k = m + 1 := ⟨k - 1, by omega⟩
    have hn := ih (y + 1) k (by omega) (by omega)
    rw [chequerref03_Col.l0, if_pos (by omega), tw ((y : Int) + 1) (by omega) (by omega)]
    by_cases c : 0 ≤ x ∧ x < (W : Int)
    · rw [if_pos c] at hn ⊢
      have ha := refat_is W H (by omega) (by omega) f x.toNat y (by omega) (by omega)
      rw [Int.toNat_of_nonneg c.1] at ha
      rw [ha, Option.bind_some, if_pos rfl, if_pos (by rw [trow_len]; omega)]
      rw [trow_succ] at hn
      exact hn
    · rw [if_neg c] at hn ⊢
      rw [refat_no _ _ _ _ _ (fun h => c ⟨h.1, h.2.2.1⟩), Option.bind_some, if_neg (by decide)]
      exact hn
theorem refcol_is (x : Int) (k : Nat) (hk : 70 ≤ k) : chequerref03_Col.f k (W : Int) (H : Int) (tab W H f) x = some (colF W H f x) := by
  have := refcol_go W H hW hH f x H 0 k (by omega) (by omega)
  unfold chequerref03_Col.f
  rw [show (if 0 ≤ x ∧ x < (W : Int) then trow 0 (fun y => f x.toNat y) else []) = [] from by split <;> rfl] at this
  exact this
theorem mrow_is (y : Int) : rect_Matrix_Row.f (W : Int) (H : Int) (tab W H f) y = some (rowF W H f y) := by
  unfold rect_Matrix_Row.f rowF
  rw [rin_is, Option.bind_some]
  by_cases c : 0 ≤ y ∧ y < (H : Int)
  · have hr := row_is W H (by omega) (by omega) f 0 y.toNat W (by omega) (by omega) (by omega)
    rw [Int.toNat_of_nonneg c.1] at hr
    rw [decide_eq_true c, if_pos rfl, if_pos c, show (0 : Int) = ((0 : Nat) : Int) from rfl, hr, Option.bind_some]
    unfold api_Pixel_49.f
    rw [if_pos (by rw [trow_len]; omega), Option.bind_some]
    congr 1
    unfold trow
    simp only [Nat.zero_add]
  · rw [decide_eq_false c, if_neg (by decide), if_neg c]
theorem mcol_go (x : Nat) (hx : x < W) : ∀ (d y k : Nat), y + d = H → d < k → rect_Matrix_Col.l0 k (x : Int) (trow y (fun y => f x y)) (H : Int) (y : Int) (W : Int) (H : Int) (tab W H f) = some (trow H (fun y => f x y)) := by
  intro d
  induction d with
  | zero =>
    intro y k hd hk
    obtain ⟨k, rfl⟩ : ∃ m, k = m + 1 := ⟨k - 1, by omega⟩
    obtain rfl : y = H := by omega
    rw [rect_Matrix_Col.l0, if_neg (by omega)]
  | succ d ih =>
    intro y k hd hk
    obtain ⟨k, rfl⟩ : ∃ m, k = m + 1 := ⟨k - 1, by omega⟩
    have hn := ih (y + 1) k (by omega) (by omega)
    have hl := lt_mul hx (show y < H by omega)
    rw [rect_Matrix_Col.l0, if_pos (by omega), tw ((y : Int) + 1) (by omega) (by omega), idx_w W y x (by omega) (by omega) (by omega), if_pos (by omega), if_pos (by rw [tab_len]; omega), if_pos (by rw [trow_len]; omega), tab_rd W H f x y hx (by omega)]
    rw [trow_succ] at hn
    exact hn
theorem mcol_is (x : Int) (k : Nat) (hk : 70 ≤ k) : rect_Matrix_Col.f k (W : Int) (H : Int) (tab W H f) x = some (colF W H f x) := by
  unfold rect_Matrix_Col.f colF
  rw [rin_is, Option.bind_some]
  by_cases c : 0 ≤ x ∧ x < (W : Int)
  · have hr := mcol_go W H hW hH f x.toNat (by omega) H 0 k (by omega) (by omega)
    rw [Int.toNat_of_nonneg c.1] at hr
    rw [decide_eq_true c, if_pos rfl, if_pos c]
    exact hr
  · rw [decide_eq_false c, if_neg (by decide), if_neg c]
theorem may_small : rect_May.f (W : Int) (H : Int) (tab W H f) = some true := by
  have hm : H * W ≤ 60 * 60 := Nat.mul_le_mul hH.2 hW.2
  have e : wrap64 ((W : Int) * (H : Int)) = ((H * W : Nat) : Int) := by rw [← Int.natCast_mul, Nat.mul_comm, tw _ (by omega) (by omega)]
  unfold rect_May.f rect_sized.f
  rw [if_pos (by omega), if_pos (by omega), if_pos (by omega), if_pos (by omega), e, decide_eq_true (by omega), Option.bind_some, if_pos rfl, tab_len]
  simp
theorem of_l2 : ∀ (d : Nat) (i : Int) (k : Nat), i + d = 6 → -1 ≤ i → d + 200 < k → chequerlaw03_RectOf.l2 k i (W : Int) (H : Int) (tab W H f) (W : Int) (H : Int) (tab W H f) = some true := by
  intro d
  induction d with
  | zero =>
    intro i k hd hi hk
    obtain ⟨k, rfl⟩ : ∃ m, k = m + 1 := ⟨k - 1, by omega⟩
    rw [chequerlaw03_RectOf.l2, if_neg (by omega), may_small W H hW hH f, Option.bind_some, if_pos rfl, lives03 k (by omega)]
    rfl
  | succ d ih =>
    intro i k hd hi hk
    obtain ⟨k, rfl⟩ : ∃ m, k = m + 1 := ⟨k - 1, by omega⟩
    have l1 := rowF_len W H hW f i
    have l2 := colF_len W H hH f i
    rw [chequerlaw03_RectOf.l2, if_pos (by omega), mrow_is W H hW hH f, Option.bind_some, refrow_is W H hW hH f i k (by omega), Option.bind_some, samerow_is k _ _ (by omega) (by omega), decide_eq_true rfl, Option.bind_some, if_pos rfl, mcol_is W H hW hH f i k (by omega), Option.bind_some, refcol_is W H hW hH f i k (by omega), Option.bind_some, samerow_is k _ _ (by omega) (by omega), decide_eq_true rfl, Option.bind_some, if_pos rfl, tw (i + 1) (by omega) (by omega)]
    exact ih (i + 1) k (by omega) (by omega) (by omega)
end
def rowsF (W H : Nat) (f : Nat → Nat → Int) (n : Nat) : List (List Int) := (List.range n).map fun y => trow W (fun x => f x y)
theorem rowsF_succ (W H : Nat) (f : Nat → Nat → Int) (n : Nat) : rowsF W H f (n + 1) = rowsF W H f n ++ [trow W (fun x => f x n)] := by unfold rowsF; rw [List.range_succ, List.map_append]; rfl
theorem rowsF_flat (W H : Nat) (f : Nat → Nat → Int) : ∀ n, (rowsF W H f n).flatten = tab W n f
  | 0 => rfl
  | n + 1 => by rw [rowsF_succ, List.flatten_append, rowsF_flat W H f n]; simp [tab]
theorem rowsF_len (W H : Nat) (f : Nat → Nat → Int) (n : Nat) : (rowsF W H f n).length = n := by simp [rowsF]
theorem rowsF_mem (W H : Nat) (f : Nat → Nat → Int) (n : Nat) : ∀ s ∈ rowsF W H f n, s.length = W := fun s hs => by
  obtain ⟨y, _, rfl⟩ := List.mem_map.1 hs
  exact trow_len _ _
theorem ofP_rows (W H : Nat) (hW : 1 ≤ W) (hH : 1 ≤ H) (f : Nat → Nat → Int) : ofP (rowsF W H f H) = ((W : Int), (H : Int), tab W H f, 0) := by
  have h0 : ((rowsF W H f H).getD 0 []).length = W := by
    obtain ⟨n, rfl⟩ : ∃ n, H = n + 1 := ⟨H - 1, by omega⟩
    have : (rowsF W (n + 1) f (n + 1)).getD 0 [] ∈ rowsF W (n + 1) f (n + 1) := by
      rw [List.getD_eq_getElem?_getD, List.getElem?_eq_getElem (by rw [rowsF_len]; omega)]
      exact List.getElem_mem _
    exact rowsF_mem W (n + 1) f (n + 1) _ this
  unfold ofP
  rw [h0, if_pos ⟨fun h => by have := rowsF_len W H f H; rw [h] at this; simp at this; omega, hW, rowsF_mem W H f H⟩, rowsF_len, rowsF_flat]
set_option maxHeartbeats 1000000 in
theorem of_l1 (W H : Nat) (hW : 1 ≤ W ∧ W ≤ 5) (hH : 1 ≤ H ∧ H ≤ 5) (f : Nat → Nat → Int) (e : Int) (a b : Int) (l : List Int) (hl : l.length ≤ 30) : ∀ (d y k : Nat), y + d = H → d + 1000 < k →
    chequerlaw03_RectOf.l1 k e e (rowsF W H f y) (y : Int) a b l a b l (W : Int) (H : Int) (tab W H f) = some true := by
  have hm : H * W ≤ 5 * 5 := Nat.mul_le_mul hH.2 hW.2
  intro d
  induction d with
  | zero =>
    intro y k hd hk
    obtain ⟨k, rfl⟩ : ∃ m, k = m + 2 := ⟨k - 2, by omega⟩
    obtain rfl : y = H := by omega
    have hs : smallR (rowsF W y f y) := ⟨by rw [rowsF_len]; omega, fun s hs => by rw [rowsF_mem W y f y s hs]; omega⟩
    rw [chequerlaw03_RectOf.l1, if_neg (by omega), of_is _ hs _ (by omega), Option.bind_some, if_pos rfl, ofP_rows W y hW.1 hH.1 f]
    unfold chequerlaw03_as.f
    rw [Option.bind_some]
    dsimp only
    rw [same_self _ a b l (by omega) (by omega), Option.bind_some, if_pos rfl, if_pos rfl, Option.bind_some]
    dsimp only
    rw [same_self _ (W : Int) (y : Int) _ (by rw [tab_len]; omega) (by rw [tab_len]; omega), Option.bind_some, chequerlaw03_RectOf.j3, if_neg (by decide)]
    exact of_l2 W y (by omega) (by omega) f 7 (-1) k (by omega) (by omega) (by omega)
  | succ d ih =>
    intro y k hd hk
    obtain ⟨k, rfl⟩ : ∃ m, k = m + 1 := ⟨k - 1, by omega⟩
    have hn := ih (y + 1) k (by omega) (by omega)
    have hr := refrow_is W H (by omega) (by omega) f (y : Int) k (by omega)
    rw [chequerlaw03_RectOf.l1, if_pos (by omega), hr, Option.bind_some, if_pos (by rw [rowsF_len]; omega), tw ((y : Int) + 1) (by omega) (by omega)]
    unfold rowF
    rw [if_pos (by omega), Int.toNat_natCast]
    rw [rowsF_succ] at hn
    exact hn
theorem ofP_len (R : List (List Int)) (hR : smallR R) : (ofP R).2.2.1.length ≤ 30 := by
  have h1 := flat_len R hR.2
  have h2 := hR.1
  unfold ofP
  split
  · dsimp only; omega
  · exact Nat.zero_le _
theorem of_j1 (m0 m1 : Int) (l : List Int) (h0 : -9223372036854775808 ≤ m0 ∧ m0 ≤ 9223372036854775807) (h1 : -9223372036854775808 ≤ m1 ∧ m1 ≤ 9223372036854775807) (R : List (List Int)) (hR : smallR R) (k : Nat) (hk : 5000 ≤ k) : chequerlaw03_RectOf.j1 k R m0 m1 l = some true := by
  obtain ⟨k, rfl⟩ : ∃ m, k = m + 1 := ⟨k - 1, by omega⟩
  obtain ⟨w, h, f, hw, hh, hG⟩ := good_is m0 m1 l 5 (by omega) h0 h1
  have e1 := hG k (by omega)
  rw [show ((5 : Nat) : Int) = 5 from rfl] at e1
  have hl := ofP_len R hR
  rw [chequerlaw03_RectOf.j1, of_is R hR k (by omega), Option.bind_some, refof_is R hR k (by omega), Option.bind_some, e1, Option.bind_some]
  exact of_l1 w h hw hh f (ofP R).2.2.2 (ofP R).1 (ofP R).2.1 (ofP R).2.2.1 hl h 0 k (by omega) (by omega)
theorem of_l0 (L : List (List Int)) (hL : L.length ≤ 9223372036854775807) (hL2 : ∀ r ∈ L, r.length ≤ 9223372036854775807) (m0 m1 : Int) (l : List Int) (h0 : -9223372036854775808 ≤ m0 ∧ m0 ≤ 9223372036854775807) (h1 : -9223372036854775808 ≤ m1 ∧ m1 ≤ 9223372036854775807) :
    ∀ (d i k : Nat) (R : List (List Int)), i + d = 5 → R.length = i → smallR R → d + 5000 < k → chequerlaw03_RectOf.l0 k L R (i : Int) m0 m1 l = some true := by
  intro d
  induction d with
  | zero =>
    intro i k R hd hi hR hk
    obtain ⟨k, rfl⟩ : ∃ m, k = m + 1 := ⟨k - 1, by omega⟩
    rw [chequerlaw03_RectOf.l0]
    by_cases c : (i : Int) < (L.length : Int)
    · rw [if_pos c, if_neg (by omega)]
      exact of_j1 m0 m1 l h0 h1 R hR k (by omega)
    · rw [if_neg c]
      exact of_j1 m0 m1 l h0 h1 R hR k (by omega)
  | succ d ih =>
    intro i k R hd hi hR hk
    obtain ⟨k, rfl⟩ : ∃ m, k = m + 1 := ⟨k - 1, by omega⟩
    rw [chequerlaw03_RectOf.l0]
    by_cases c : (i : Int) < (L.length : Int)
    · have hm : ((mn ((rd_L2 L (i : Int)).length : Int) 6) : Int).toNat ≤ 6 ∧ 0 ≤ mn ((rd_L2 L (i : Int)).length : Int) 6 ∧ mn ((rd_L2 L (i : Int)).length : Int) 6 ≤ ((rd_L2 L (i : Int)).length : Int) := by
        unfold mn
        split <;> omega
      rw [if_pos c, if_pos (by omega), if_pos (by omega), if_pos hm.2.1, if_pos hm.2.2, if_pos (by omega), tw ((i : Int) + 1) (by omega) (by omega)]
      refine ih (i + 1) k _ (by omega) (by simp; omega) ⟨by simp; omega, fun s hs => ?_⟩ (by omega)
      rcases List.mem_append.1 hs with h | h
      · exact hR.2 s h
      · rw [List.mem_singleton.1 h, List.length_take]
        have := hm.1
        omega
    · rw [if_neg c]
      exact of_j1 m0 m1 l h0 h1 R hR k (by omega)
theorem RectOf : chequerlaw03_RectOf.Pure := by
  intro L m0 m1 l hL hL2 h0 h1 _ _
  refine ⟨6000, ?_⟩
  unfold chequerlaw03_RectOf.f
  exact of_l0 L hL (fun r hr => (hL2 r hr).1) m0 m1 l (wf_i64 h0) (wf_i64 h1) 5 0 6000 [] (by omega) rfl ⟨by simp, fun s hs => by cases hs⟩ (by omega)
end Go.Proofs.Ytidpaaemfiopkaa.Pure
