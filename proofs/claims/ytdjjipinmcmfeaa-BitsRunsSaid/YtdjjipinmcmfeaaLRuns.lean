/- Runs: both texts answer the same, and unrun as they were. -/
import Derived.Test.YtdjjipinmcmfeaaIslices_Repeat_int_int
import Derived.Test.YtdjjipinmcmfeaaQ10
import Derived.Test.YtdjjipinmcmfeaaQ12
namespace Go.Proofs.Ytdjjipinmcmfeaa.Q
open Go.RowKit Go.Proofs.YtdjjipinmcmfeaaW.PrintWords Go.Proofs.YtdjjipinmcmfeaaW.PrintLast
set_option linter.unusedVariables false
theorem wzr (n : Int) (h0 : -9223372036854775808 ≤ n) (h1 : n ≤ 9223372036854775807) : wrap64 n = n := by unfold wrap64; omega
def bitv (b : Bool) : Int := if b then 1 else 0
/-- The runs of what is left, n of colour b gone by. -/
def runsF : Bool → Nat → List Int → List Int
  | _, 0, [] => []
  | _, n + 1, [] => [((n + 1 : Nat) : Int)]
  | b, n, x :: r => if (x != 0) != b then (n : Int) :: runsF (!b) 1 r else runsF b (n + 1) r
theorem runsF_len (b : Bool) (n : Nat) (l : List Int) : (runsF b n l).length ≤ l.length + 1 := by
  induction l generalizing b n with
  | nil => cases n <;> simp [runsF]
  | cons x r ih =>
    cases n with
    | zero =>
      rw [runsF]
      split
      · have := ih (!b) 1; simp; omega
      · have := ih b 1; simp; omega
    | succ n =>
      rw [runsF]
      split
      · have := ih (!b) 1; simp; omega
      · have := ih b (n + 1 + 1); simp; omega
theorem runsF_cons (b : Bool) (n : Nat) (x : Int) (r : List Int) : runsF b n (x :: r) = if (x != 0) != b then (n : Int) :: runsF (!b) 1 r else runsF b (n + 1) r := by cases n <;> rw [runsF]
theorem rd_drop (l : List Int) (i : Nat) (h : i < l.length) : l.drop i = rd l (i : Int) :: l.drop (i + 1) := by
  have : rd l (i : Int) = l[i] := by unfold rd; rw [Int.toNat_natCast, List.getD_eq_getElem?_getD, List.getElem?_eq_getElem h]; rfl
  rw [this]
  exact List.drop_eq_getElem_cons h
theorem runs_go (l : List Int) (hl : l.length ≤ 1000) : ∀ (d i k : Nat) (x3 : List Int) (b : Bool) (n : Nat), l.length - i ≤ d → i ≤ l.length → x3.length ≤ i → n ≤ i → d < k →
    bits_Runs.l0 k x3 (bitv b) (n : Int) l (l.length : Int) (i : Int) = some (x3 ++ runsF b n (l.drop i)) := by
  intro d
  induction d with
  | zero =>
    intro i k x3 b n hd hi h3 hn hk
    obtain ⟨k, rfl⟩ : ∃ m, k = m + 1 := ⟨k - 1, by omega⟩
    rw [bits_Runs.l0, if_neg (by omega), List.drop_of_length_le (by omega)]
    cases n with
    | zero => rw [if_neg (by omega), runsF, List.append_nil]
    | succ n => rw [if_pos (by omega), if_pos (by omega), runsF]
  | succ d ih =>
    intro i k x3 b n hd hi h3 hn hk
    by_cases c : i < l.length
    · obtain ⟨k, rfl⟩ : ∃ m, k = m + 1 := ⟨k - 1, by omega⟩
      have q1 : l.length - (i + 1) ≤ d := by omega
      have q2 : i + 1 ≤ l.length := by omega
      have q3 : d < k := by omega
      have q4 : n + 1 ≤ i + 1 := by omega
      have c1 : (i : Int) < (l.length : Int) := by omega
      have c2 : (0 : Int) ≤ (i : Int) := by omega
      have w1 : wrap64 ((i : Int) + 1) = ((i + 1 : Nat) : Int) := (wzr _ (by omega) (by omega)).trans (by simp)
      have w2 : wrap64 ((n : Int) + 1) = ((n + 1 : Nat) : Int) := (wzr _ (by omega) (by omega)).trans (by simp)
      have hb : (bitv b != 0) = b := by cases b <;> rfl
      have w3 : wrap64 (1 - bitv b) = bitv (!b) := by cases b <;> exact (wzr _ (by decide) (by decide)).trans (by decide)
      have h3' : x3.length < 17592186044416 := by omega
      rw [bits_Runs.l0, if_pos c1, if_pos c2, if_pos c1, hb, w1, w2, w3, rd_drop l i c, runsF_cons]
      by_cases hc : ((rd l (i : Int) != 0) != b) = true
      · rw [if_pos hc, if_pos hc, if_pos h3', show (0 + 1 : Int) = ((1 : Nat) : Int) from rfl, ih (i + 1) k (x3 ++ [(n : Int)]) (!b) 1 q1 q2 (by simp; omega) (by omega) q3]
        simp
      · rw [if_neg hc, if_neg hc, ih (i + 1) k x3 b (n + 1) q1 q2 (by omega) q4 q3]
    · exact ih i k x3 b n (by omega) hi h3 hn (by omega)
theorem runs_is (l : List Int) (hl : l.length ≤ 1000) (k : Nat) (hk : 2000 ≤ k) : bits_Runs.f k l = some (runsF false 0 l) := by
  unfold bits_Runs.f
  exact runs_go l hl l.length 0 k [] false 0 (by omega) (by omega) (by simp) (by omega) (by omega)
theorem par_succ (j : Nat) : ((Int.tmod ((j + 1 : Nat) : Int) 2) == 1) = !((Int.tmod (j : Int) 2) == 1) := by
  rw [Int.tmod_eq_emod_of_nonneg (by omega), Int.tmod_eq_emod_of_nonneg (by omega)]
  rcases Nat.mod_two_eq_zero_or_one j with h | h
  · rw [show ((j + 1 : Nat) : Int) % 2 = 1 by omega, show (j : Int) % 2 = 0 by omega]; rfl
  · rw [show ((j + 1 : Nat) : Int) % 2 = 0 by omega, show (j : Int) % 2 = 1 by omega]; rfl
theorem refruns_hit (k : Nat) (l x3 : List Int) (i j n : Nat) (hl : l.length ≤ 1000) (c : i < l.length) (hj : j ≤ i + 1) (hn : n ≤ i) (hc : (rd l (i : Int) != 0) = ((Int.tmod (j : Int) 2) == 1)) :
    chequerref07_Runs.l1 (k + 1) l x3 (i : Int) (j : Int) (n : Int) = chequerref07_Runs.l1 k l x3 ((i + 1 : Nat) : Int) (j : Int) ((n + 1 : Nat) : Int) := by
  have c1 : (i : Int) < (l.length : Int) := by omega
  have c2 : (0 : Int) ≤ (i : Int) := by omega
  have w1 : wrap64 ((i : Int) + 1) = ((i + 1 : Nat) : Int) := (wzr _ (by omega) (by omega)).trans (by simp)
  have w2 : wrap64 ((n : Int) + 1) = ((n + 1 : Nat) : Int) := (wzr _ (by omega) (by omega)).trans (by simp)
  rw [chequerref07_Runs.l1, if_pos c1, if_pos c2, if_pos (by rw [hc]; exact beq_self_eq_true _), w1, w2]
theorem refruns_miss (k : Nat) (l x3 : List Int) (i j n : Nat) (hl : l.length ≤ 1000) (h3 : x3.length ≤ 1000) (c : i < l.length) (hj : j ≤ i) (hc : (rd l (i : Int) != 0) ≠ ((Int.tmod (j : Int) 2) == 1)) :
    chequerref07_Runs.l1 (k + 2) l x3 (i : Int) (j : Int) (n : Int) = chequerref07_Runs.l1 k l (x3 ++ [(n : Int)]) (i : Int) ((j + 1 : Nat) : Int) ((0 : Nat) : Int) := by
  have c1 : (i : Int) < (l.length : Int) := by omega
  have c2 : (0 : Int) ≤ (i : Int) := by omega
  have c3 : x3.length < 17592186044416 := by omega
  have w3 : wrap64 ((j : Int) + 1) = ((j + 1 : Nat) : Int) := (wzr _ (by omega) (by omega)).trans (by simp)
  rw [chequerref07_Runs.l1, if_pos c1, if_pos c2, if_neg (by simpa using hc), if_pos c3, w3, chequerref07_Runs.l0, if_pos c1]
  rfl
theorem refruns_go (l : List Int) (hl : l.length ≤ 1000) : ∀ (d i k : Nat) (x3 : List Int) (j n : Nat), l.length - i ≤ d → i ≤ l.length → x3.length ≤ i → j ≤ i → n ≤ i → (0 < n ∨ i < l.length) → 3 * d + 2 < k →
    chequerref07_Runs.l1 k l x3 (i : Int) (j : Int) (n : Int) = some (x3 ++ runsF ((Int.tmod (j : Int) 2) == 1) n (l.drop i)) := by
  intro d
  induction d with
  | zero =>
    intro i k x3 j n hd hi h3 hj hn h0 hk
    obtain ⟨k, rfl⟩ : ∃ m, k = m + 2 := ⟨k - 2, by omega⟩
    obtain ⟨n, rfl⟩ : ∃ m, n = m + 1 := ⟨n - 1, by omega⟩
    rw [chequerref07_Runs.l1, if_neg (by omega), if_pos (by omega), List.drop_of_length_le (by omega), chequerref07_Runs.l0, if_neg (by omega), runsF]
  | succ d ih =>
    intro i k x3 j n hd hi h3 hj hn h0 hk
    by_cases c : i < l.length
    · obtain ⟨k, rfl⟩ : ∃ m, k = m + 3 := ⟨k - 3, by omega⟩
      have q1 : l.length - (i + 1) ≤ d := by omega
      have q2 : i + 1 ≤ l.length := by omega
      have q3 : 3 * d + 2 < k := by omega
      have q4 : 3 * d + 2 < k + 2 := by omega
      have q5 : x3.length ≤ 1000 := by omega
      have q6 : (x3 ++ [(n : Int)]).length ≤ i + 1 := by simp; omega
      have hp := par_succ j
      rw [rd_drop l i c, runsF_cons]
      by_cases hc : (rd l (i : Int) != 0) = ((Int.tmod (j : Int) 2) == 1)
      · rw [refruns_hit (k + 2) l x3 i j n hl c (by omega) hn hc, if_neg (by rw [hc]; simp)]
        exact ih (i + 1) (k + 2) x3 j (n + 1) q1 q2 (by omega) (by omega) (by omega) (by omega) q4
      · have hc2 : (rd l (i : Int) != 0) = ((Int.tmod ((j + 1 : Nat) : Int) 2) == 1) := by
          rw [hp]
          revert hc; cases (rd l (i : Int) != 0) <;> cases ((Int.tmod (j : Int) 2) == 1) <;> simp
        rw [refruns_miss (k + 1) l x3 i j n hl q5 c hj hc, refruns_hit k l _ i (j + 1) 0 hl c (by omega) (by omega) hc2, if_pos (by simpa using hc)]
        rw [ih (i + 1) k (x3 ++ [(n : Int)]) (j + 1) 1 q1 q2 q6 (by omega) (by omega) (by omega) q3, hp]
        simp
    · exact ih i k x3 j n (by omega) hi h3 hj hn (by omega) (by omega)
theorem refruns_is (l : List Int) (hl : l.length ≤ 1000) (k : Nat) (hk : 5000 ≤ k) : chequerref07_Runs.f k l = some (runsF false 0 l) := by
  unfold chequerref07_Runs.f
  obtain ⟨k, rfl⟩ : ∃ m, k = m + 1 := ⟨k - 1, by omega⟩
  rw [chequerref07_Runs.l0]
  by_cases h : (0 : Int) < (l.length : Int)
  · rw [if_pos h]
    have := refruns_go l hl l.length 0 k [] 0 0 (by omega) (by omega) (by simp) (by omega) (by omega) (by omega) (by omega)
    exact this
  · rw [if_neg h]
    have : l = [] := List.eq_nil_of_length_eq_zero (by omega)
    subst this
    rfl

/-- What has such runs, from the run i on. -/
def unrunF : List Int → Nat → List Int → List Int
  | acc, _, [] => acc
  | acc, i, n :: r => if n > 4096 - (acc.length : Int) then [] else unrunF (acc ++ List.replicate n.toNat ((i % 2 : Nat) : Int)) (i + 1) r
theorem tmod2 (i : Nat) : Int.tmod (i : Int) 2 = ((i % 2 : Nat) : Int) := by rw [Int.tmod_eq_emod_of_nonneg (by omega)]; omega
theorem mx0 (n : Int) : (mx n 0).toNat = n.toNat := by unfold mx; split <;> omega
theorem unrun_step (k : Nat) (l acc : List Int) (i : Nat) (ha : acc.length ≤ 4096) (hl : l.length ≤ 1000) (c : i < l.length) :
    bits_Unrun.l0 (k + 1) acc l (l.length : Int) (i : Int) = if rd l (i : Int) > 4096 - (acc.length : Int) then some [] else bits_Unrun.l0 k (acc ++ List.replicate (rd l (i : Int)).toNat ((i % 2 : Nat) : Int)) l (l.length : Int) ((i + 1 : Nat) : Int) := by
  have c1 : (i : Int) < (l.length : Int) := by omega
  have c2 : (0 : Int) ≤ (i : Int) := by omega
  have w1 : wrap64 ((i : Int) + 1) = ((i + 1 : Nat) : Int) := (wzr _ (by omega) (by omega)).trans (by simp)
  have w2 : wrap64 (4096 - (acc.length : Int)) = 4096 - (acc.length : Int) := wzr _ (by omega) (by omega)
  rw [bits_Unrun.l0, if_pos c1, if_pos c2, if_pos c1, w1, w2]
  clear w1 w2
  by_cases h : rd l (i : Int) > 4096 - (acc.length : Int)
  · rw [if_pos h, if_pos h]
  · have hm : 0 ≤ mx (rd l (i : Int)) 0 ∧ mx (rd l (i : Int)) 0 ≤ 4096 := by unfold mx; split <;> omega
    rw [if_neg h, if_neg h]
    unfold slices_Repeat_int_int.f
    rw [if_pos ⟨rfl, hm.1, hm.2⟩, Option.bind_some, mx0, tmod2, if_pos (by rw [List.length_replicate]; omega)]
    rfl
theorem unrun_go (l : List Int) (hl : l.length ≤ 1000) : ∀ (d i k : Nat) (acc : List Int), l.length - i ≤ d → i ≤ l.length → acc.length ≤ 4096 → d < k →
    bits_Unrun.l0 k acc l (l.length : Int) (i : Int) = some (unrunF acc i (l.drop i)) := by
  intro d
  induction d with
  | zero =>
    intro i k acc hd hi ha hk
    obtain ⟨k, rfl⟩ : ∃ m, k = m + 1 := ⟨k - 1, by omega⟩
    rw [bits_Unrun.l0, if_neg (by omega), List.drop_of_length_le (by omega), unrunF]
  | succ d ih =>
    intro i k acc hd hi ha hk
    by_cases c : i < l.length
    · obtain ⟨k, rfl⟩ : ∃ m, k = m + 1 := ⟨k - 1, by omega⟩
      rw [unrun_step k l acc i ha hl c, rd_drop l i c, unrunF]
      by_cases h : rd l (i : Int) > 4096 - (acc.length : Int)
      · rw [if_pos h, if_pos h]
      · rw [if_neg h, if_neg h]
        exact ih (i + 1) k _ (by omega) (by omega) (by simp; omega) (by omega)
    · exact ih i k acc (by omega) hi ha (by omega)
theorem unrun_is (l : List Int) (hl : l.length ≤ 1000) (k : Nat) (hk : 2000 ≤ k) : bits_Unrun.f k l = some (unrunF [] 0 l) := by
  unfold bits_Unrun.f
  exact unrun_go l hl l.length 0 k [] (by omega) (by omega) (by simp) (by omega)
theorem refunrun_in (l : List Int) (i : Nat) (c : i < l.length) (hn : rd l (i : Int) ≤ 4096) (y : Int) : ∀ (d m k : Nat) (acc : List Int), (rd l (i : Int)).toNat - m = d → m ≤ (rd l (i : Int)).toNat → acc.length ≤ 10000 → m ≤ acc.length → acc.length + d ≤ 10000 →
    chequerref07_Unrun.l1 (k + d + 1) l acc (i : Int) (m : Int) = chequerref07_Unrun.l1 (k + 1) l (acc ++ List.replicate d (Int.tmod (i : Int) 2)) (i : Int) ((m + d : Nat) : Int) := by
  intro d
  induction d with
  | zero => intro m k acc hd hm ha hma had; simp
  | succ d ih =>
    intro m k acc hd hm ha hma had
    have c1 : (i : Int) < (l.length : Int) := by omega
    have c2 : (0 : Int) ≤ (i : Int) := by omega
    have c3 : (m : Int) < rd l (i : Int) := by omega
    have c4 : acc.length < 17592186044416 := by omega
    have w1 : wrap64 ((m : Int) + 1) = ((m + 1 : Nat) : Int) := (wzr _ (by omega) (by omega)).trans (by simp)
    rw [show k + (d + 1) + 1 = (k + d + 1) + 1 from rfl, chequerref07_Unrun.l1, if_pos c2, if_pos c1, if_pos c3, if_pos c4, w1]
    clear w1
    rw [ih (m + 1) k (acc ++ [Int.tmod (i : Int) 2]) (by omega) (by omega) (by simp; omega) (by simp; omega) (by simp; omega), List.append_assoc, show m + 1 + d = m + (d + 1) by omega]
    rfl
theorem refunrun_step (k : Nat) (l acc : List Int) (i : Nat) (ha : acc.length ≤ 4096) (hl : l.length ≤ 1000) (c : i < l.length) (hk : 5000 ≤ k) :
    ∃ k', k ≤ k' + 4200 ∧ k' ≤ k ∧ chequerref07_Unrun.l0 (k + 1) l acc (i : Int) = if rd l (i : Int) > 4096 - (acc.length : Int) then some [] else chequerref07_Unrun.l0 k' l (acc ++ List.replicate (rd l (i : Int)).toNat ((i % 2 : Nat) : Int)) ((i + 1 : Nat) : Int) := by
  have c1 : (i : Int) < (l.length : Int) := by omega
  have c2 : (0 : Int) ≤ (i : Int) := by omega
  have w1 : wrap64 ((i : Int) + 1) = ((i + 1 : Nat) : Int) := (wzr _ (by omega) (by omega)).trans (by simp)
  rw [chequerref07_Unrun.l0, if_pos c1, if_pos c2]
  by_cases h : rd l (i : Int) > 4096
  · clear w1
    exact ⟨k, by omega, by omega, by rw [if_pos h, if_pos (by omega)]⟩
  · have hd : (rd l (i : Int)).toNat ≤ 4096 := by clear w1; omega
    obtain ⟨q, hq⟩ : ∃ q, k = q + (rd l (i : Int)).toNat + 1 := ⟨k - (rd l (i : Int)).toNat - 1, by clear w1; omega⟩
    have hqk : k ≤ q + 4200 ∧ q ≤ k := by clear w1; omega
    have e := refunrun_in l i c (by clear w1; omega) 0 (rd l (i : Int)).toNat 0 q acc (by clear w1; omega) (by clear w1; omega) (by clear w1; omega) (by clear w1; omega) (by clear w1; omega)
    have c3 : ¬ ((0 + (rd l (i : Int)).toNat : Nat) : Int) < rd l (i : Int) := by clear w1 e; omega
    have hlen : (acc ++ List.replicate (rd l (i : Int)).toNat (Int.tmod (i : Int) 2)).length = acc.length + (rd l (i : Int)).toNat := by simp
    have c5 : ((acc ++ List.replicate (rd l (i : Int)).toNat (Int.tmod (i : Int) 2)).length : Int) > 4096 ↔ rd l (i : Int) > 4096 - (acc.length : Int) := by clear w1 e; omega
    refine ⟨q, hqk.1, hqk.2, ?_⟩
    rw [if_neg h, hq]
    refine Eq.trans e ?_
    rw [chequerref07_Unrun.l1, if_pos c2, if_pos c1, if_neg c3, w1]
    by_cases h2 : rd l (i : Int) > 4096 - (acc.length : Int)
    · rw [if_pos (c5.2 h2), if_pos h2]
    · rw [if_neg (fun x => h2 (c5.1 x)), if_neg h2, tmod2]
theorem refunrun_go (l : List Int) (hl : l.length ≤ 1000) : ∀ (d i k : Nat) (acc : List Int), l.length - i ≤ d → i ≤ l.length → acc.length ≤ 4096 → 10000 + 5000 * d < k →
    chequerref07_Unrun.l0 k l acc (i : Int) = some (unrunF acc i (l.drop i)) := by
  intro d
  induction d with
  | zero =>
    intro i k acc hd hi ha hk
    obtain ⟨k, rfl⟩ : ∃ m, k = m + 1 := ⟨k - 1, by omega⟩
    rw [chequerref07_Unrun.l0, if_neg (by omega), List.drop_of_length_le (by omega), unrunF]
  | succ d ih =>
    intro i k acc hd hi ha hk
    by_cases c : i < l.length
    · obtain ⟨k, rfl⟩ : ∃ m, k = m + 1 := ⟨k - 1, by omega⟩
      obtain ⟨k', h1, h2, e⟩ := refunrun_step k l acc i ha hl c (by omega)
      rw [e, rd_drop l i c, unrunF]
      by_cases h : rd l (i : Int) > 4096 - (acc.length : Int)
      · rw [if_pos h, if_pos h]
      · rw [if_neg h, if_neg h]
        exact ih (i + 1) k' _ (by omega) (by omega) (by simp; omega) (by omega)
    · exact ih i k acc (by omega) hi ha (by omega)
theorem refunrun_is (l : List Int) (hl : l.length ≤ 100) (k : Nat) (hk : 1000000 ≤ k) : chequerref07_Unrun.f k l = some (unrunF [] 0 l) := by
  unfold chequerref07_Unrun.f
  exact refunrun_go l (by omega) l.length 0 k [] (by omega) (by omega) (by simp) (by omega)
theorem unrunF_len : ∀ (l : List Int) (i : Nat) (acc : List Int), acc.length ≤ 4096 → (unrunF acc i l).length ≤ 4096 := by
  intro l
  induction l with
  | nil => intro i acc h; rw [unrunF]; exact h
  | cons n r ih =>
    intro i acc h
    rw [unrunF]
    split
    · simp
    · exact ih (i + 1) _ (by simp; omega)
/-- Runs, unrun, are what they were of. -/
theorem unrun_runs : ∀ (l : List Int) (b : Bool) (n i : Nat) (acc : List Int), (∀ x ∈ l, x = 0 ∨ x = 1) → ((i % 2 : Nat) : Int) = bitv b → acc.length + n + l.length ≤ 4096 → unrunF acc i (runsF b n l) = acc ++ List.replicate n (bitv b) ++ l := by
  intro l
  induction l with
  | nil =>
    intro b n i acc hl hb hlen
    cases n with
    | zero => rw [runsF, unrunF]; simp
    | succ n =>
      simp at hlen
      rw [runsF, unrunF, if_neg (by omega), unrunF, hb]
      simp
  | cons x r ih =>
    intro b n i acc hl hb hlen
    simp at hlen
    have hr : ∀ y ∈ r, y = 0 ∨ y = 1 := fun y hy => hl y (List.mem_cons_of_mem _ hy)
    have hx : x = bitv (x != 0) := by rcases hl x List.mem_cons_self with rfl | rfl <;> rfl
    rw [runsF_cons]
    by_cases hc : (x != 0) = b
    · rw [if_neg (by simp [hc]), ih b (n + 1) i acc hr hb (by omega), List.replicate_succ', ← hc, ← hx]
      simp
    · have hnb : (x != 0) = !b := by revert hc; cases (x != 0) <;> cases b <;> simp
      have hb' : (((i + 1) % 2 : Nat) : Int) = bitv (!b) := by
        cases b
        · simp [bitv] at hb ⊢; omega
        · simp [bitv] at hb ⊢; omega
      rw [if_pos (by simpa using hc), unrunF, if_neg (by omega), ih (!b) 1 (i + 1) _ hr hb' (by simp; omega), hb]
      rw [← hnb, List.replicate_one, ← hx]
      simp
end Go.Proofs.Ytdjjipinmcmfeaa.Q
