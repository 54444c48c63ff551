/- How often a part stands in a table: both ways to find it, and after a turn. -/
import Derived.Test.YtehjnekljodmgaaLLay
import Derived.Test.YtehjnekljodmgaaLSub
import Derived.Test.YtehjnekljodmgaaLTab
import Derived.Test.YtehjnekljodmgaaQ15
import Derived.Test.YtehjnekljodmgaaQ17
namespace Go.Proofs.Ytehjnekljodmgaa.Q
open Go.RowKit Go.Proofs.YtehjnekljodmgaaW.PrintWords Go.Proofs.YtehjnekljodmgaaW.PrintLast
set_option linter.unusedVariables false
def sm : Nat → (Nat → Nat) → Nat
  | 0, _ => 0
  | n + 1, g => sm n g + g n
theorem sm_congr : ∀ (n : Nat) (g g' : Nat → Nat), (∀ x, x < n → g x = g' x) → sm n g = sm n g'
  | 0, _, _, _ => rfl
  | n + 1, g, g', e => by rw [sm, sm, sm_congr n g g' (fun x hx => e x (by omega)), e n (by omega)]
theorem sm_zero : ∀ (n : Nat), sm n (fun _ => 0) = 0
  | 0 => rfl
  | n + 1 => by rw [sm, sm_zero n]
theorem sm_add : ∀ (n : Nat) (a b : Nat → Nat), sm n (fun x => a x + b x) = sm n a + sm n b
  | 0, _, _ => rfl
  | n + 1, a, b => by rw [sm, sm, sm, sm_add n a b]; omega
theorem sm_cons : ∀ (n : Nat) (g : Nat → Nat), sm (n + 1) g = g 0 + sm n (fun x => g (x + 1))
  | 0, g => by simp [sm]
  | n + 1, g => by rw [sm, sm_cons n g, sm]; omega
theorem sm_rev : ∀ (n : Nat) (g : Nat → Nat), sm n (fun x => g (n - 1 - x)) = sm n g
  | 0, _ => rfl
  | n + 1, g => by
    rw [sm, sm_cons n g, sm_congr n (fun x => g (n + 1 - 1 - x)) (fun x => (fun z => g (z + 1)) (n - 1 - x)) (fun x hx => by show g (n + 1 - 1 - x) = g (n - 1 - x + 1); congr 1; omega), sm_rev n (fun z => g (z + 1)), show n + 1 - 1 - n = 0 from by omega]
    omega
theorem sm_swap (m : Nat) : ∀ (n : Nat) (g : Nat → Nat → Nat), sm n (fun y => sm m (fun x => g x y)) = sm m (fun x => sm n (fun y => g x y))
  | 0, g => by
    show 0 = sm m (fun _ => 0)
    rw [sm_zero]
  | n + 1, g => by
    rw [sm, sm_swap m n g, ← sm_add]
    rfl
theorem sm_le : ∀ (n c : Nat) (g : Nat → Nat), (∀ x, g x ≤ c) → sm n g ≤ n * c
  | 0, _, _, _ => by simp [sm]
  | n + 1, c, g, e => by
    rw [sm, Nat.succ_mul]
    have := sm_le n c g e
    have := e n
    omega
theorem sm_cut (g : Nat → Nat) (m : Nat) (h : ∀ x, m ≤ x → g x = 0) : ∀ d, sm (m + d) g = sm m g
  | 0 => rfl
  | d + 1 => by
    show sm (m + d) g + g (m + d) = sm m g
    rw [sm_cut g m h d, h (m + d) (by omega)]
    omega
def bn (b : Bool) : Nat := if b = true then 1 else 0
theorem bn_le (b : Bool) : bn b ≤ 1 := by unfold bn; split <;> omega
/-- So many places of a table are true. -/
def cnt (P : Nat → Nat → Bool) (w h : Nat) : Nat := sm h (fun y => sm w (fun x => bn (P x y)))
theorem cnt_congr (P Q : Nat → Nat → Bool) (w h : Nat) (e : ∀ x y, x < w → y < h → P x y = Q x y) : cnt P w h = cnt Q w h :=
  sm_congr _ _ _ (fun y hy => sm_congr _ _ _ (fun x hx => by show bn (P x y) = bn (Q x y); rw [e x y hx hy]))
theorem cnt_swap (P : Nat → Nat → Bool) (w h : Nat) : cnt (fun x y => P y x) h w = cnt P w h := (sm_swap w h (fun x y => bn (P x y))).symm
theorem cnt_revx (P : Nat → Nat → Bool) (w h : Nat) : cnt (fun x y => P (w - 1 - x) y) w h = cnt P w h :=
  sm_congr _ _ _ (fun y _ => sm_rev w (fun x => bn (P x y)))
theorem cnt_revy (P : Nat → Nat → Bool) (w h : Nat) : cnt (fun x y => P x (h - 1 - y)) w h = cnt P w h :=
  sm_rev h (fun y => sm w (fun x => bn (P x y)))
theorem cnt_turn (g w h : Nat) (hg : g < 8) (P : Nat → Nat → Bool) : cnt (fun x y => P (layX g w h x y) (layY g w h x y)) (layW g w h) (layH g w h) = cnt P w h := by
  rcases turn8 hg with rfl | rfl | rfl | rfl | rfl | rfl | rfl | rfl
  · rfl
  · exact (cnt_swap (fun x y => P x (h - 1 - y)) w h).trans (cnt_revy P w h)
  · exact (cnt_revy (fun x y => P (w - 1 - x) y) w h).trans (cnt_revx P w h)
  · exact (cnt_swap (fun x y => P (w - 1 - x) y) w h).trans (cnt_revx P w h)
  · exact cnt_revx P w h
  · exact (cnt_swap (fun x y => P (w - 1 - x) (h - 1 - y)) w h).trans ((cnt_revy (fun x y => P (w - 1 - x) y) w h).trans (cnt_revx P w h))
  · exact cnt_revy P w h
  · exact cnt_swap P w h
theorem lay_sum {g m n p q x y i j : Nat} (hg : g < 8) (hx : x < layW g m n) (hy : y < layH g m n) (hi : i < layW g p q) (hj : j < layH g p q) :
    layX g (m + p - 1) (n + q - 1) (x + i) (y + j) = layX g m n x y + layX g p q i j ∧ layY g (m + p - 1) (n + q - 1) (x + i) (y + j) = layY g m n x y + layY g p q i j := by
  rcases turn8 hg with rfl | rfl | rfl | rfl | rfl | rfl | rfl | rfl <;> simp [layW, layH, layX, layY] at * <;> omega
theorem lay_onto {g p q i' j' : Nat} (hg : g < 8) (hi : i' < p) (hj : j' < q) : ∃ i j, i < layW g p q ∧ j < layH g p q ∧ layX g p q i j = i' ∧ layY g p q i j = j' := by
  rcases turn8 hg with rfl | rfl | rfl | rfl | rfl | rfl | rfl | rfl
  · exact ⟨i', j', by simp [layW, layH, layX, layY]; omega⟩
  · exact ⟨q - 1 - j', i', by simp [layW, layH, layX, layY]; omega⟩
  · exact ⟨p - 1 - i', q - 1 - j', by simp [layW, layH, layX, layY]; omega⟩
  · exact ⟨j', p - 1 - i', by simp [layW, layH, layX, layY]; omega⟩
  · exact ⟨p - 1 - i', j', by simp [layW, layH, layX, layY]; omega⟩
  · exact ⟨q - 1 - j', p - 1 - i', by simp [layW, layH, layX, layY]; omega⟩
  · exact ⟨i', q - 1 - j', by simp [layW, layH, layX, layY]; omega⟩
  · exact ⟨j', i', by simp [layW, layH, layX, layY]; omega⟩
theorem has_turn (g m n p q : Nat) (hg : g < 8) (f o : Nat → Nat → Int) (x y : Nat) (hx : x < layW g m n) (hy : y < layH g m n) :
    hasB (layF g (m + p - 1) (n + q - 1) f) (layW g p q) (layH g p q) (layF g p q o) x y = hasB f p q o (layX g m n x y) (layY g m n x y) := by
  unfold hasB
  apply decide_eq_decide.2
  rw [tab_inj, tab_inj]
  constructor
  · intro e i' j' hi hj
    obtain ⟨i, j, h1, h2, h3, h4⟩ := lay_onto hg hi hj
    have := e i j h1 h2
    unfold subF layF at this
    obtain ⟨s1, s2⟩ := lay_sum (m := m) (n := n) hg hx hy h1 h2
    rw [s1, s2, h3, h4] at this
    exact this
  · intro e i j hi hj
    obtain ⟨s1, s2⟩ := lay_sum (m := m) (n := n) hg hx hy hi hj
    obtain ⟨b1, b2⟩ := lay_in hg hi hj
    unfold subF layF
    rw [s1, s2]
    exact e _ _ b1 b2
/-- Where a part may stand, and does. -/
def standP (W H : Nat) (f : Nat → Nat → Int) (p q : Nat) (o : Nat → Nat → Int) (x y : Nat) : Bool := decide (fitP W H x y p q) && hasB f p q o x y
theorem stand_cnt (W H p q : Nat) (hp : 1 ≤ p) (hq : 1 ≤ q) (f o : Nat → Nat → Int) : cnt (standP W H f p q o) W H = cnt (hasB f p q o) (W + 1 - p) (H + 1 - q) := by
  have e1 : ∀ y, y < H + 1 - q → sm W (fun x => bn (standP W H f p q o x y)) = sm (W + 1 - p) (fun x => bn (hasB f p q o x y)) := by
    intro y hy
    have c := sm_cut (fun x => bn (standP W H f p q o x y)) (W + 1 - p) (fun x hx => by
      show bn (standP W H f p q o x y) = 0
      unfold standP
      rw [decide_eq_false (by unfold fitP; omega)]
      rfl) (W - (W + 1 - p))
    rw [show W + 1 - p + (W - (W + 1 - p)) = W from by omega] at c
    rw [c]
    refine sm_congr _ _ _ (fun x hx => ?_)
    show bn (standP W H f p q o x y) = _
    unfold standP
    rw [decide_eq_true (by unfold fitP; omega), Bool.true_and]
  unfold cnt
  have c := sm_cut (fun y => sm W (fun x => bn (standP W H f p q o x y))) (H + 1 - q) (fun y hy => by
    show sm W (fun x => bn (standP W H f p q o x y)) = 0
    rw [sm_congr W _ (fun _ => 0) (fun x _ => by
      show bn (standP W H f p q o x y) = 0
      unfold standP
      rw [decide_eq_false (by unfold fitP; omega)]
      rfl), sm_zero]) (H - (H + 1 - q))
  rw [show H + 1 - q + (H - (H + 1 - q)) = H from by omega] at c
  rw [c]
  exact sm_congr _ _ _ e1
/-- As often after a turn. -/
theorem stand_turn (g W H p q : Nat) (hg : g < 8) (hp : 1 ≤ p) (hq : 1 ≤ q) (f o : Nat → Nat → Int) :
    cnt (standP (layW g W H) (layH g W H) (layF g W H f) (layW g p q) (layH g p q) (layF g p q o)) (layW g W H) (layH g W H) = cnt (standP W H f p q o) W H := by
  obtain ⟨s1, s2⟩ : 1 ≤ layW g p q ∧ 1 ≤ layH g p q := by unfold layW layH; split <;> omega
  rw [stand_cnt _ _ _ _ s1 s2, stand_cnt _ _ _ _ hp hq]
  have e1 : layW g W H + 1 - layW g p q = layW g (W + 1 - p) (H + 1 - q) := by unfold layW; split <;> rfl
  have e2 : layH g W H + 1 - layH g p q = layH g (W + 1 - p) (H + 1 - q) := by unfold layH; split <;> rfl
  rw [e1, e2, ← cnt_turn g (W + 1 - p) (H + 1 - q) hg (hasB f p q o)]
  refine cnt_congr _ _ _ _ (fun x y hx hy => ?_)
  have m1 : 1 ≤ W + 1 - p ∧ 1 ≤ H + 1 - q := by
    revert hx hy
    unfold layW layH
    split <;> omega
  have := has_turn g (W + 1 - p) (H + 1 - q) p q hg f o x y hx hy
  rw [show W + 1 - p + p - 1 = W from by omega, show H + 1 - q + q - 1 = H from by omega] at this
  exact this
theorem cnt_le (P : Nat → Nat → Bool) (w y : Nat) : cnt P w y ≤ y * w := by
  refine sm_le y w _ (fun y => ?_)
  have := sm_le w 1 (fun x => bn (P x y)) (fun x => bn_le _)
  omega
theorem row_le (P : Nat → Nat → Bool) (x y : Nat) : sm x (fun x => bn (P x y)) ≤ x := by
  have := sm_le x 1 (fun x => bn (P x y)) (fun x => bn_le _)
  omega
section
variable (W H p q : Nat) (hW : 1 ≤ W ∧ W ≤ 64) (hH : 1 ≤ H ∧ H ≤ 64) (f o : Nat → Nat → Int)
include hW hH
theorem reffind_row (T K y : Nat) (hK : 5000 ≤ K) (hy : y < H) (hr : ∀ acc k, K ≤ k → acc.length = cnt (standP W H f p q o) W (y + 1) → ∃ r, chequerref03_Find.l0 k acc ((y + 1 : Nat) : Int) (W : Int) (H : Int) (tab W H f) (p : Int) (q : Int) (tab p q o) = some r ∧ r.length = T) :
    ∀ (d x k : Nat) acc, x + d = W → K + d < k → acc.length = cnt (standP W H f p q o) W y + sm x (fun x => bn (standP W H f p q o x y)) → ∃ r, chequerref03_Find.l1 k acc (y : Int) (x : Int) (W : Int) (H : Int) (tab W H f) (p : Int) (q : Int) (tab p q o) = some r ∧ r.length = T := by
  intro d
  induction d with
  | zero =>
    intro x k acc hd hk ha
    obtain ⟨k, rfl⟩ : ∃ m, k = m + 1 := ⟨k - 1, by omega⟩
    have : x = W := by omega
    subst this
    rw [chequerref03_Find.l1, if_neg (by omega), tw ((y : Int) + 1) (by omega) (by omega)]
    exact hr acc k (by omega) ha
  | succ d ih =>
    intro x k acc hd hk ha
    obtain ⟨k, rfl⟩ : ∃ m, k = m + 1 := ⟨k - 1, by omega⟩
    have b1 := cnt_le (standP W H f p q o) W y
    have b2 := row_le (standP W H f p q o) x y
    have b3 : y * W ≤ 64 * 64 := Nat.mul_le_mul (by omega) (by omega)
    rw [chequerref03_Find.l1, if_pos (by omega), refhas_is W H k hW hH f x y p q o (by omega), Option.bind_some, tw ((x : Int) + 1) (by omega) (by omega)]
    have e : (decide (fitP W H x y p q) && hasB f p q o x y) = standP W H f p q o x y := rfl
    rw [e]
    cases c : standP W H f p q o x y with
    | true =>
      rw [if_pos rfl, if_pos (by omega)]
      exact ih (x + 1) k _ (by omega) (by omega) (by rw [List.length_append, List.length_singleton, ha, sm, c]; rfl)
    | false =>
      rw [if_neg (by decide)]
      exact ih (x + 1) k _ (by omega) (by omega) (by rw [ha, sm, c]; rfl)
theorem reffind_rows : ∀ (d y k : Nat) acc, y + d = H → d * 70 + 5000 < k → acc.length = cnt (standP W H f p q o) W y → ∃ r, chequerref03_Find.l0 k acc (y : Int) (W : Int) (H : Int) (tab W H f) (p : Int) (q : Int) (tab p q o) = some r ∧ r.length = cnt (standP W H f p q o) W H := by
  intro d
  induction d with
  | zero =>
    intro y k acc hd hk ha
    obtain ⟨k, rfl⟩ : ∃ m, k = m + 1 := ⟨k - 1, by omega⟩
    have : y = H := by omega
    subst this
    rw [chequerref03_Find.l0, if_neg (by omega)]
    exact ⟨_, rfl, ha⟩
  | succ d ih =>
    intro y k acc hd hk ha
    obtain ⟨k, rfl⟩ : ∃ m, k = m + 1 := ⟨k - 1, by omega⟩
    rw [chequerref03_Find.l0, if_pos (by omega)]
    exact reffind_row W H p q hW hH f o _ (d * 70 + 5001) y (by omega) (by omega) (fun acc k hk2 ha2 => ih (y + 1) k acc (by omega) (by omega) ha2) W 0 k acc (by omega) (by omega) (by rw [ha]; rfl)
theorem reffind_is (k : Nat) (hk : 10000 ≤ k) : ∃ r, chequerref03_Find.f k (W : Int) (H : Int) (tab W H f) (p : Int) (q : Int) (tab p q o) = some r ∧ r.length = cnt (standP W H f p q o) W H :=
  reffind_rows W H p q hW hH f o H 0 k _ (by omega) (by omega) rfl
theorem find_row (T K y : Nat) (hK : 5000 ≤ K) (hy : y < H) (hr : ∀ acc k, K ≤ k → acc.length = cnt (standP W H f p q o) W (y + 1) → ∃ r, rect_Matrix_Find.l0 k acc (H : Int) ((y + 1 : Nat) : Int) (W : Int) (H : Int) (tab W H f) (p : Int) (q : Int) (tab p q o) = some r ∧ r.length = T) :
    ∀ (d x k : Nat) acc, x + d = W → K + d < k → acc.length = cnt (standP W H f p q o) W y + sm x (fun x => bn (standP W H f p q o x y)) → ∃ r, rect_Matrix_Find.l1 k acc (y : Int) (H : Int) (y : Int) (W : Int) (x : Int) (W : Int) (H : Int) (tab W H f) (p : Int) (q : Int) (tab p q o) = some r ∧ r.length = T := by
  intro d
  induction d with
  | zero =>
    intro x k acc hd hk ha
    obtain ⟨k, rfl⟩ : ∃ m, k = m + 1 := ⟨k - 1, by omega⟩
    have : x = W := by omega
    subst this
    rw [rect_Matrix_Find.l1, if_neg (by omega), tw ((y : Int) + 1) (by omega) (by omega)]
    exact hr acc k (by omega) ha
  | succ d ih =>
    intro x k acc hd hk ha
    obtain ⟨k, rfl⟩ : ∃ m, k = m + 1 := ⟨k - 1, by omega⟩
    have b1 := cnt_le (standP W H f p q o) W y
    have b2 := row_le (standP W H f p q o) x y
    have b3 : y * W ≤ 64 * 64 := Nat.mul_le_mul (by omega) (by omega)
    rw [rect_Matrix_Find.l1, if_pos (by omega), inside_is _ _ _ _ _ _ _ (by omega) (by omega), Option.bind_some]
    by_cases hf : fitP W H x y p q
    · rw [decide_eq_true hf, if_pos rfl, has_is W H k hW hH f x y p q o (by omega), Option.bind_some, tw ((x : Int) + 1) (by omega) (by omega)]
      have e : (decide (fitP W H x y p q) && hasB f p q o x y) = standP W H f p q o x y := rfl
      rw [e]
      cases c : standP W H f p q o x y with
      | true =>
        rw [if_pos rfl, if_pos (by omega)]
        exact ih (x + 1) k _ (by omega) (by omega) (by rw [List.length_append, List.length_singleton, ha, sm, c]; rfl)
      | false =>
        rw [if_neg (by decide)]
        exact ih (x + 1) k _ (by omega) (by omega) (by rw [ha, sm, c]; rfl)
    · rw [decide_eq_false hf, if_neg (by decide), tw ((y : Int) + 1) (by omega) (by omega)]
      refine hr acc k (by omega) ?_
      rw [ha]
      have c := sm_cut (fun x => bn (standP W H f p q o x y)) x (fun x' hx' => by
        show bn (standP W H f p q o x' y) = 0
        unfold standP
        rw [decide_eq_false (by unfold fitP at hf ⊢; omega)]
        rfl) (W - x)
      rw [show x + (W - x) = W from by omega] at c
      rw [← c]
      rfl
theorem find_rows : ∀ (d y k : Nat) acc, y + d = H → d * 70 + 5000 < k → acc.length = cnt (standP W H f p q o) W y → ∃ r, rect_Matrix_Find.l0 k acc (H : Int) (y : Int) (W : Int) (H : Int) (tab W H f) (p : Int) (q : Int) (tab p q o) = some r ∧ r.length = cnt (standP W H f p q o) W H := by
  intro d
  induction d with
  | zero =>
    intro y k acc hd hk ha
    obtain ⟨k, rfl⟩ : ∃ m, k = m + 1 := ⟨k - 1, by omega⟩
    have : y = H := by omega
    subst this
    rw [rect_Matrix_Find.l0, if_neg (by omega)]
    exact ⟨_, rfl, ha⟩
  | succ d ih =>
    intro y k acc hd hk ha
    obtain ⟨k, rfl⟩ : ∃ m, k = m + 1 := ⟨k - 1, by omega⟩
    rw [rect_Matrix_Find.l0, if_pos (by omega)]
    exact find_row W H p q hW hH f o _ (d * 70 + 5001) y (by omega) (by omega) (fun acc k hk2 ha2 => ih (y + 1) k acc (by omega) (by omega) ha2) W 0 k acc (by omega) (by omega) (by rw [ha]; rfl)
theorem find_is (k : Nat) (hk : 10000 ≤ k) : ∃ r, rect_Matrix_Find.f k (W : Int) (H : Int) (tab W H f) (p : Int) (q : Int) (tab p q o) = some r ∧ r.length = cnt (standP W H f p q o) W H :=
  find_rows W H p q hW hH f o H 0 k _ (by omega) (by omega) rfl
end
end Go.Proofs.Ytehjnekljodmgaa.Q
