/- Where a part stands in a table: both ways to find it. -/
import Derived.Test.YtidpaaemfiopkaaLSub
import Derived.Test.YtidpaaemfiopkaaLTab
import Derived.Test.YtidpaaemfiopkaaQ5
import Derived.Test.YtidpaaemfiopkaaQ6
namespace Go.Proofs.Ytidpaaemfiopkaa.Q
open Go.RowKit Go.Proofs.YtidpaaemfiopkaaW.PrintWords Go.Proofs.YtidpaaemfiopkaaW.PrintLast
set_option linter.unusedVariables false
def standP (W H : Nat) (f : Nat → Nat → Int) (p q : Nat) (o : Nat → Nat → Int) (x y : Nat) : Bool := decide (fitP W H x y p q) && hasB f p q o x y
def frow (P : Nat → Nat → Bool) (y : Nat) : Nat → List S36
  | 0 => []
  | x + 1 => frow P y x ++ if P x y = true then [⟨(x : Int), (y : Int)⟩] else []
def frows (P : Nat → Nat → Bool) (W : Nat) : Nat → List S36
  | 0 => []
  | y + 1 => frows P W y ++ frow P y W
theorem frow_len (P : Nat → Nat → Bool) (y : Nat) : ∀ x, (frow P y x).length ≤ x
  | 0 => Nat.le_refl _
  | x + 1 => by
    have := frow_len P y x
    rw [frow, List.length_append]
    split <;> simp <;> omega
theorem frows_len (P : Nat → Nat → Bool) (W : Nat) : ∀ y, (frows P W y).length ≤ y * W
  | 0 => by simp [frows]
  | y + 1 => by
    have h1 := frows_len P W y
    have h2 := frow_len P y W
    rw [frows, List.length_append, Nat.succ_mul]
    omega
theorem frow_cut (P : Nat → Nat → Bool) (y m : Nat) (h : ∀ x, m ≤ x → P x y = false) : ∀ d, frow P y (m + d) = frow P y m
  | 0 => rfl
  | d + 1 => by
    show frow P y (m + d) ++ (if P (m + d) y = true then _ else _) = _
    rw [h (m + d) (by omega), if_neg (by decide), List.append_nil, frow_cut P y m h d]
theorem frow_mem (P : Nat → Nat → Bool) (y x : Nat) (hp : P x y = true) : ∀ n, x < n → 0 < (frow P y n).length
  | 0, h => by omega
  | n + 1, h => by
    rw [frow, List.length_append]
    by_cases e : x = n
    · subst e; rw [hp, if_pos rfl]; simp
    · have := frow_mem P y x hp n (by omega); omega
theorem frows_mem (P : Nat → Nat → Bool) (W x y : Nat) (hp : P x y = true) (hx : x < W) : ∀ n, y < n → 0 < (frows P W n).length
  | 0, h => by omega
  | n + 1, h => by
    rw [frows, List.length_append]
    by_cases e : y = n
    · subst e; have := frow_mem P y x hp W hx; omega
    · have := frows_mem P W x y hp hx n (by omega); omega
section
variable (W H p q : Nat) (hW : 1 ≤ W ∧ W ≤ 64) (hH : 1 ≤ H ∧ H ≤ 64) (f o : Nat → Nat → Int)
include hW hH
theorem reffind_row (R : List S36) (K y : Nat) (hK : 5000 ≤ K) (hy : y < H) (hr : ∀ k, K ≤ k → chequerref03_Find.l0 k (frows (standP W H f p q o) W (y + 1)) ((y + 1 : Nat) : Int) (W : Int) (H : Int) (tab W H f) (p : Int) (q : Int) (tab p q o) = some R) :
    ∀ (d x k : Nat), x + d = W → K + d < k → chequerref03_Find.l1 k (frows (standP W H f p q o) W y ++ frow (standP W H f p q o) y x) (y : Int) (x : Int) (W : Int) (H : Int) (tab W H f) (p : Int) (q : Int) (tab p q o) = some R := by
  intro d
  induction d with
  | zero =>
    intro x k hd hk
    obtain ⟨k, rfl⟩ : ∃ m, k = m + 1 := ⟨k - 1, by omega⟩
    have : x = W := by omega
    subst this
    rw [chequerref03_Find.l1, if_neg (by omega), tw ((y : Int) + 1) (by omega) (by omega)]
    exact hr k (by omega)
  | succ d ih =>
    intro x k hd hk
    obtain ⟨k, rfl⟩ : ∃ m, k = m + 1 := ⟨k - 1, by omega⟩
    have b1 := frows_len (standP W H f p q o) W y
    have b2 := frow_len (standP W H f p q o) y x
    have b3 : y * W ≤ 64 * 64 := Nat.mul_le_mul (by omega) (by omega)
    rw [chequerref03_Find.l1, if_pos (by omega), refhas_is W H k hW hH f x y p q o (by omega), Option.bind_some, tw ((x : Int) + 1) (by omega) (by omega)]
    have e : (decide (fitP W H x y p q) && hasB f p q o x y) = standP W H f p q o x y := rfl
    rw [e]
    have hn := ih (x + 1) k (by omega) (by omega)
    cases c : standP W H f p q o x y with
    | true =>
      rw [if_pos rfl, if_pos (by rw [List.length_append]; omega)]
      rw [frow, c, if_pos rfl, ← List.append_assoc] at hn
      exact hn
    | false =>
      rw [if_neg (by decide)]
      rw [frow, c, if_neg (by decide), List.append_nil] at hn
      exact hn
theorem reffind_rows : ∀ (d y k : Nat), y + d = H → d * 70 + 5000 < k → chequerref03_Find.l0 k (frows (standP W H f p q o) W y) (y : Int) (W : Int) (H : Int) (tab W H f) (p : Int) (q : Int) (tab p q o) = some (frows (standP W H f p q o) W H) := by
  intro d
  induction d with
  | zero =>
    intro y k hd hk
    obtain ⟨k, rfl⟩ : ∃ m, k = m + 1 := ⟨k - 1, by omega⟩
    have : y = H := by omega
    subst this
    rw [chequerref03_Find.l0, if_neg (by omega)]
  | succ d ih =>
    intro y k hd hk
    obtain ⟨k, rfl⟩ : ∃ m, k = m + 1 := ⟨k - 1, by omega⟩
    rw [chequerref03_Find.l0, if_pos (by omega)]
    have h := reffind_row W H p q hW hH f o _ (d * 70 + 5001) y (by omega) (by omega) (fun k hk2 => ih (y + 1) k (by omega) (by omega)) W 0 k (by omega) (by omega)
    rw [frow, List.append_nil] at h
    exact h
theorem reffind_is (k : Nat) (hk : 10000 ≤ k) : chequerref03_Find.f k (W : Int) (H : Int) (tab W H f) (p : Int) (q : Int) (tab p q o) = some (frows (standP W H f p q o) W H) :=
  reffind_rows W H p q hW hH f o H 0 k (by omega) (by omega)
theorem find_row (R : List S36) (K y : Nat) (hK : 5000 ≤ K) (hy : y < H) (hr : ∀ k, K ≤ k → rect_Matrix_Find.l0 k (frows (standP W H f p q o) W (y + 1)) (H : Int) ((y + 1 : Nat) : Int) (W : Int) (H : Int) (tab W H f) (p : Int) (q : Int) (tab p q o) = some R) :
    ∀ (d x k : Nat), x + d = W → K + d < k → rect_Matrix_Find.l1 k (frows (standP W H f p q o) W y ++ frow (standP W H f p q o) y x) (y : Int) (H : Int) (y : Int) (W : Int) (x : Int) (W : Int) (H : Int) (tab W H f) (p : Int) (q : Int) (tab p q o) = some R := by
  intro d
  induction d with
  | zero =>
    intro x k hd hk
    obtain ⟨k, rfl⟩ : ∃ m, k = m + 1 := ⟨k - 1, by omega⟩
    have : x = W := by omega
    subst this
    rw [rect_Matrix_Find.l1, if_neg (by omega), tw ((y : Int) + 1) (by omega) (by omega)]
    exact hr k (by omega)
  | succ d ih =>
    intro x k hd hk
    obtain ⟨k, rfl⟩ : ∃ m, k = m + 1 := ⟨k - 1, by omega⟩
    have b1 := frows_len (standP W H f p q o) W y
    have b2 := frow_len (standP W H f p q o) y x
    have b3 : y * W ≤ 64 * 64 := Nat.mul_le_mul (by omega) (by omega)
    rw [rect_Matrix_Find.l1, if_pos (by omega), inside_is _ _ _ _ _ _ _ (by omega) (by omega), Option.bind_some]
    have hn := ih (x + 1) k (by omega) (by omega)
    by_cases hf : fitP W H x y p q
    · rw [decide_eq_true hf, if_pos rfl, has_is W H k hW hH f x y p q o (by omega), Option.bind_some, tw ((x : Int) + 1) (by omega) (by omega)]
      have e : (decide (fitP W H x y p q) && hasB f p q o x y) = standP W H f p q o x y := rfl
      rw [e]
      cases c : standP W H f p q o x y with
      | true =>
        rw [if_pos rfl, if_pos (by rw [List.length_append]; omega)]
        rw [frow, c, if_pos rfl, ← List.append_assoc] at hn
        exact hn
      | false =>
        rw [if_neg (by decide)]
        rw [frow, c, if_neg (by decide), List.append_nil] at hn
        exact hn
    · rw [decide_eq_false hf, if_neg (by decide), tw ((y : Int) + 1) (by omega) (by omega)]
      have c := frow_cut (standP W H f p q o) y x (fun x' hx' => by
        unfold standP
        rw [decide_eq_false (by unfold fitP at hf ⊢; omega)]
        rfl) (W - x)
      rw [show x + (W - x) = W from by omega] at c
      rw [← c]
      exact hr k (by omega)
theorem find_rows : ∀ (d y k : Nat), y + d = H → d * 70 + 5000 < k → rect_Matrix_Find.l0 k (frows (standP W H f p q o) W y) (H : Int) (y : Int) (W : Int) (H : Int) (tab W H f) (p : Int) (q : Int) (tab p q o) = some (frows (standP W H f p q o) W H) := by
  intro d
  induction d with
  | zero =>
    intro y k hd hk
    obtain ⟨k, rfl⟩ : ∃ m, k = m + 1 := ⟨k - 1, by omega⟩
    have : y = H := by omega
    subst this
    rw [rect_Matrix_Find.l0, if_neg (by omega)]
  | succ d ih =>
    intro y k hd hk
    obtain ⟨k, rfl⟩ : ∃ m, k = m + 1 := ⟨k - 1, by omega⟩
    rw [rect_Matrix_Find.l0, if_pos (by omega)]
    have h := find_row W H p q hW hH f o _ (d * 70 + 5001) y (by omega) (by omega) (fun k hk2 => ih (y + 1) k (by omega) (by omega)) W 0 k (by omega) (by omega)
    rw [frow, List.append_nil] at h
    exact h
theorem find_is (k : Nat) (hk : 10000 ≤ k) : rect_Matrix_Find.f k (W : Int) (H : Int) (tab W H f) (p : Int) (q : Int) (tab p q o) = some (frows (standP W H f p q o) W H) :=
  find_rows W H p q hW hH f o H 0 k (by omega) (by omega)
end
end Go.Proofs.Ytidpaaemfiopkaa.Q
