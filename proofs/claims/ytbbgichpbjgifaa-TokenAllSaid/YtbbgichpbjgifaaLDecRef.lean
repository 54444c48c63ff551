/- A number's digits, as the document writes them; what such digits are worth. -/
import Derived.Test.YtbbgichpbjgifaaQ1
namespace Go.Proofs.Ytbbgichpbjgifaa.Q
open Go.RowKit Go.Proofs.YtbbgichpbjgifaaW.PrintWords Go.Proofs.YtbbgichpbjgifaaW.PrintLast
set_option linter.unusedVariables false
def dgR (u : Nat) : List Int := if h : u < 10 then [((48 + u : Nat) : Int)] else ((48 + u % 10 : Nat) : Int) :: dgR (u / 10)
termination_by u
decreasing_by exact Nat.div_lt_self (by omega) (by omega)
def dgL (a0 : Int) : List Int := (dgR a0.natAbs ++ if a0 < 0 then [45] else []).reverse
theorem dgR_small (u : Nat) (h : u < 10) : dgR u = [((48 + u : Nat) : Int)] := by unfold dgR; rw [dif_pos h]
theorem dgR_big (u : Nat) (h : ¬ u < 10) : dgR u = ((48 + u % 10 : Nat) : Int) :: dgR (u / 10) := by rw [dgR, dif_neg h]
theorem dgR_len : ∀ (j u : Nat), u < 10 ^ (j + 1) → (dgR u).length ≤ j + 1 := by
  intro j
  induction j with
  | zero => intro u h; rw [dgR_small u (by simpa using h)]; simp
  | succ j ih =>
    intro u h
    by_cases hs : u < 10
    · rw [dgR_small u hs]; simp
    · rw [dgR_big u hs, List.length_cons]
      have := ih (u / 10) (by rw [Nat.pow_succ] at h; omega)
      omega
theorem strOfNums_cat (a b : List Int) : strOfNums (a ++ b) = strOfNums a ++ strOfNums b := by
  apply ByteArray.ext
  rw [ByteArray.data_append]
  unfold strOfNums
  simp
theorem dgL_step (n : Int) (h : ¬ n.natAbs < 10) : dgL n = dgL (Int.tdiv n 10) ++ [((48 + n.natAbs % 10 : Nat) : Int)] := by
  have e1 : (Int.tdiv n 10).natAbs = n.natAbs / 10 := by rw [Int.natAbs_tdiv]; rfl
  have e2 : (Int.tdiv n 10 < 0) ↔ n < 0 := by
    rcases Int.lt_or_le n 0 with hn | hn
    · have : Int.tdiv n 10 = -(Int.tdiv (-n) 10) := by rw [Int.neg_tdiv, Int.neg_neg]
      rw [this, Int.tdiv_eq_ediv_of_nonneg (by omega)]
      omega
    · rw [Int.tdiv_eq_ediv_of_nonneg hn]
      omega
  unfold dgL
  rw [dgR_big _ h, e1]
  simp only [e2, List.cons_append, List.reverse_cons]
theorem refdg_start (n : Int) (k : Nat) (h0 : -9223372036854775808 ≤ n) (h1 : n ≤ 9223372036854775807) : chequerref01_Decimal.f (k + 1) n = chequerref01_Decimal.j0 k n ((n.natAbs % 10 : Nat) : Int) := by
  simp only [chequerref01_Decimal.f]
  have ha : (Int.tmod n 10).natAbs = n.natAbs % 10 := by rw [Int.natAbs_tmod]; rfl
  have hd := Int.mul_tdiv_add_tmod n 10
  by_cases hn : n < 0
  · have e : Int.tmod n 10 = -((n.natAbs % 10 : Nat) : Int) := by
      have : Int.tmod n 10 = -(Int.tmod (-n) 10) := by rw [Int.neg_tmod, Int.neg_neg]
      rw [this, Int.tmod_eq_emod_of_nonneg (by omega)]
      omega
    have w : wrap64 (-(-((n.natAbs % 10 : Nat) : Int))) = ((n.natAbs % 10 : Nat) : Int) := by unfold wrap64; omega
    rw [e, w]
    by_cases hz : -((n.natAbs % 10 : Nat) : Int) < 0
    · rw [if_pos hz]
    · rw [if_neg hz]
      have : ((n.natAbs % 10 : Nat) : Int) = 0 := by omega
      rw [this]
      rfl
  · have e : Int.tmod n 10 = ((n.natAbs % 10 : Nat) : Int) := by
      rw [Int.tmod_eq_emod_of_nonneg (by omega)]
      omega
    rw [e, if_neg (by omega)]
theorem refdg_j0 (n : Int) (k c : Nat) (hc : c < 10) : chequerref01_Decimal.j0 (k + 1) n (c : Int) = chequerref01_Decimal.j1 k n (strOfNums [((48 + c : Nat) : Int)]) (decide (n.natAbs < 10)) := by
  simp only [chequerref01_Decimal.j0]
  have w : (wrap64 (48 + (c : Int))) % 256 = ((48 + c : Nat) : Int) := by unfold wrap64; omega
  rw [w, Option.bind_some]
  by_cases h : n > -10
  · rw [if_pos h]
    have : (n < 10) ↔ n.natAbs < 10 := by omega
    rw [decide_eq_decide.2 this]
  · rw [if_neg h]
    have : ¬ n.natAbs < 10 := by omega
    rw [decide_eq_false this]
theorem refdg_is : ∀ (d : Nat) (n : Int) (k : Nat), n.natAbs < 10 ^ (d + 1) → d ≤ 30 → -9223372036854775808 ≤ n → n ≤ 9223372036854775807 → 4 * d + 4 < k → chequerref01_Decimal.f k n = some (strOfNums (dgL n)) := by
  intro d
  induction d with
  | zero =>
    intro n k hd _ h0 h1 hk
    obtain ⟨k, rfl⟩ : ∃ m, k = m + 3 := ⟨k - 3, by omega⟩
    have hd' : n.natAbs < 10 := by simpa using hd
    have hR := dgR_small n.natAbs hd'
    rw [refdg_start n _ h0 h1, refdg_j0 n _ _ (Nat.mod_lt _ (by decide)), decide_eq_true hd']
    simp only [chequerref01_Decimal.j1]
    rw [if_pos trivial, Nat.mod_eq_of_lt hd']
    unfold dgL
    rw [hR]
    by_cases hn : n < 0
    · rw [if_pos hn, if_pos hn, strOfNums_size, if_pos (by simp)]
      have : ([((48 + n.natAbs : Nat) : Int)] ++ [45]).reverse = [45] ++ [((48 + n.natAbs : Nat) : Int)] := rfl
      rw [this, strOfNums_cat]
      rfl
    · rw [if_neg hn, if_neg hn]
      rfl
  | succ d ih =>
    intro n k hd hd30 h0 h1 hk
    obtain ⟨k, rfl⟩ : ∃ m, k = m + 3 := ⟨k - 3, by omega⟩
    by_cases hs : n.natAbs < 10
    · exact ih n (k + 3) (by rw [Nat.pow_succ]; have := Nat.pow_pos (n := d) (show 0 < 10 by decide); omega) (by omega) h0 h1 (by omega)
    · rw [refdg_start n _ h0 h1, refdg_j0 n _ _ (Nat.mod_lt _ (by decide)), decide_eq_false hs]
      simp only [chequerref01_Decimal.j1]
      have e1 : (Int.tdiv n 10).natAbs = n.natAbs / 10 := by rw [Int.natAbs_tdiv]; rfl
      have b : (Int.tdiv n 10).natAbs < 10 ^ (d + 1) := by rw [e1]; rw [Nat.pow_succ] at hd; omega
      have w : wrap64 (Int.tdiv n 10) = Int.tdiv n 10 := by unfold wrap64; omega
      have hlen : (dgL (Int.tdiv n 10)).length ≤ 40 := by
        unfold dgL
        rw [List.length_reverse, List.length_append]
        have := dgR_len d _ b
        split <;> simp only [List.length_cons, List.length_nil] <;> omega
      rw [if_neg (by decide), w, ih (Int.tdiv n 10) k b (by omega) (by omega) (by omega) (by omega), Option.bind_some, strOfNums_size, strOfNums_size, if_pos (by simp; omega), dgL_step n hs, strOfNums_cat]
theorem dgR_bytes : ∀ u : Nat, ∀ x ∈ dgR u, 0 ≤ x ∧ x ≤ 255 := by
  intro u
  induction u using Nat.strongRecOn with
  | _ u ih =>
    intro x hx
    by_cases hs : u < 10
    · rw [dgR_small u hs] at hx
      rw [List.mem_singleton.1 hx]
      omega
    · rw [dgR_big u hs] at hx
      rcases List.mem_cons.1 hx with h | h
      · rw [h]; omega
      · exact ih (u / 10) (by omega) x h
theorem dgR_ne (u : Nat) : 0 < (dgR u).length := by
  by_cases h : u < 10
  · rw [dgR_small u h]; simp
  · rw [dgR_big u h]; simp
theorem dgL_nat (u : Nat) : dgL (u : Int) = (dgR u).reverse := by unfold dgL; rw [if_neg (by omega), List.append_nil, Int.natAbs_natCast]
/-- The digits of a number that is none below nought. -/
def dg (u : Nat) : List Int := (dgR u).reverse
theorem refdg_nat (u k : Nat) (h : u < 10 ^ 19) (h1 : u ≤ 9223372036854775807) (hk : 90 ≤ k) : chequerref01_Decimal.f k (u : Int) = some (strOfNums (dg u)) := by
  have := refdg_is 18 (u : Int) k (by rw [Int.natAbs_natCast]; exact h) (by omega) (by omega) (by omega) (by omega)
  rw [this, dgL_nat]
  rfl
/-- What a row of digits is worth, behind a number. -/
def valL : Int → List Int → Int
  | n, [] => n
  | n, c :: r => valL (10 * n + (c - 48)) r
def digs (l : List Int) : Prop := ∀ x ∈ l, 48 ≤ x ∧ x ≤ 57
theorem valL_app : ∀ (a b : List Int) (n : Int), valL n (a ++ b) = valL (valL n a) b
  | [], _, _ => rfl
  | c :: r, b, n => by rw [List.cons_append, valL, valL, valL_app r b]
theorem valL_ge : ∀ (l : List Int) (n : Int), 0 ≤ n → digs l → n ≤ valL n l
  | [], n, _, _ => Int.le_refl _
  | c :: r, n, hn, h => by
    have hc := h c (List.mem_cons_self ..)
    have := valL_ge r (10 * n + (c - 48)) (by omega) (fun x hx => h x (List.mem_cons_of_mem _ hx))
    rw [valL]
    omega
theorem valL_zeros : ∀ z : Nat, valL 0 (List.replicate z 48) = 0
  | 0 => rfl
  | z + 1 => by rw [List.replicate_succ, valL]; exact valL_zeros z
theorem valL_dg : ∀ u : Nat, valL 0 (dg u) = (u : Int) := by
  intro u
  induction u using Nat.strongRecOn with
  | _ u ih =>
    by_cases hs : u < 10
    · unfold dg
      rw [dgR_small u hs]
      show 10 * 0 + (((48 + u : Nat) : Int) - 48) = _
      omega
    · unfold dg
      rw [dgR_big u hs, List.reverse_cons, valL_app]
      have := ih (u / 10) (by omega)
      unfold dg at this
      rw [this]
      show 10 * ((u / 10 : Nat) : Int) + (((48 + u % 10 : Nat) : Int) - 48) = _
      omega
theorem dg_digs (u : Nat) : digs (dg u) := by
  unfold dg digs
  induction u using Nat.strongRecOn with
  | _ u ih =>
    intro x hx
    rw [List.mem_reverse] at hx
    by_cases hs : u < 10
    · rw [dgR_small u hs] at hx
      rw [List.mem_singleton.1 hx]
      omega
    · rw [dgR_big u hs] at hx
      rcases List.mem_cons.1 hx with h | h
      · rw [h]; omega
      · exact ih (u / 10) (by omega) x (List.mem_reverse.2 h)
theorem dg_len (u : Nat) (h : u < 10 ^ 19) : (dg u).length ≤ 19 := by
  unfold dg
  rw [List.length_reverse]
  exact dgR_len 18 u h
theorem dg_ne (u : Nat) : 0 < (dg u).length := by unfold dg; rw [List.length_reverse]; exact dgR_ne u
/-- Bytes of a text that is told as numbers. -/
def byteL (l : List Int) : Prop := ∀ x ∈ l, 0 ≤ x ∧ x ≤ 255
theorem digs_byteL {l : List Int} (h : digs l) : byteL l := fun x hx => by have := h x hx; omega
theorem byteL_app {a b : List Int} (ha : byteL a) (hb : byteL b) : byteL (a ++ b) := fun x hx => by
  rcases List.mem_append.1 hx with h | h
  · exact ha x h
  · exact hb x h
theorem bt_str (l : List Int) (hl : byteL l) (i : Nat) (h : i < l.length) : bt (strOfNums l) (i : Int) = l[i] := by
  have hs : (strOfNums l).size = l.length := strOfNums_size l
  unfold bt
  rw [dif_pos (by rw [Int.toNat_natCast, hs]; exact h)]
  obtain ⟨a, b⟩ := hl l[i] (List.getElem_mem h)
  have e : (strOfNums l).data.toList = l.map (fun x => UInt8.ofNat x.toNat) := strOfNums_data l
  have e2 : (strOfNums l).data[i]? = some (UInt8.ofNat (l[i]).toNat) := by
    rw [← Array.getElem?_toList, e, List.getElem?_map, List.getElem?_eq_getElem h]
    rfl
  have hd : i < (strOfNums l).data.size := by
    have : (strOfNums l).data.size = l.length := hs
    omega
  have this : (strOfNums l).data[i]'hd = UInt8.ofNat (l[i]).toNat := Option.some.inj ((Array.getElem?_eq_getElem hd).symm.trans e2)
  show (((strOfNums l).data[i]'hd).toNat : Int) = _
  rw [this, UInt8.toNat_ofNat_of_lt' (by show (l[i]).toNat < 256; omega)]
  omega
theorem bt_mid (a r : List Int) (c : Int) (h : byteL (a ++ c :: r)) : bt (strOfNums (a ++ c :: r)) (a.length : Int) = c := by
  rw [bt_str _ h a.length (by simp)]
  simp
end Go.Proofs.Ytbbgichpbjgifaa.Q
