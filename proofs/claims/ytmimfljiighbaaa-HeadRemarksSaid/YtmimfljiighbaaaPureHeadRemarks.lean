import Derived.Test.YtmimfljiighbaaaQ6
import Derived.Test.YtmimfljiighbaaaQ4
import Derived.Test.YtmimfljiighbaaaQ7
import Derived.Test.YtmimfljiighbaaaIhead_New
import Derived.Test.YtmimfljiighbaaaIhead_Reader_Head
import Derived.Test.YtmimfljiighbaaaIhead_Reader_Put
import Derived.Test.YtmimfljiighbaaaIhead_Reader_magic
import Derived.Test.YtmimfljiighbaaaIhead_Reader_number
import Derived.Test.YtmimfljiighbaaaItoken_Number_Put
import Derived.Test.YtmimfljiighbaaaItoken_Blank
import Derived.Test.YtmimfljiighbaaaQ12
import Derived.Test.YtmimfljiighbaaaQ15
import Derived.Test.YtmimfljiighbaaaQ19
import Derived.Test.YtmimfljiighbaaaQ5
import Derived.Test.YtmimfljiighbaaaQ22
import Derived.Test.YtmimfljiighbaaaQ27
/- Modulo, from nought on. -/
namespace Go.Proofs.Ytmimfljiighbaaa.Q
open Go.RowKit Go.Proofs.YtmimfljiighbaaaW.PrintWords Go.Proofs.YtmimfljiighbaaaW.PrintLast
set_option linter.unusedVariables false
theorem wf_i64 {n : Int} (h : (Lit.int .i64 n).wf = true) : -9223372036854775808 ≤ n ∧ n ≤ 9223372036854775807 := by
  have a : IntKind.i64.min = -9223372036854775808 := by decide
  have b : IntKind.i64.max = 9223372036854775807 := by decide
  simp [Lit.wf, a, b] at h
  omega
theorem wf_u8 {n : Int} (h : (Lit.int .u8 n).wf = true) : 0 ≤ n ∧ n ≤ 255 := by
  have a : IntKind.u8.min = 0 := by decide
  have b : IntKind.u8.max = 255 := by decide
  simp [Lit.wf, a, b] at h
  omega
theorem wf_u64 {n : Int} (h : (Lit.int .u64 n).wf = true) : 0 ≤ n ∧ n ≤ 18446744073709551615 := by
  have a : IntKind.u64.min = 0 := by decide
  have b : IntKind.u64.max = 18446744073709551615 := by decide
  simp [Lit.wf, a, b] at h
  omega
def aroundZ (n m : Int) : Int := (if n < 0 then -(n + 1) else n) % m
theorem aroundZ_range (n m : Int) (hm : 0 < m) : 0 ≤ aroundZ n m ∧ aroundZ n m < m := ⟨Int.emod_nonneg _ (by omega), Int.emod_lt_of_pos _ hm⟩
theorem around_is (n m : Int) (h0 : -9223372036854775808 ≤ n) (h1 : n ≤ 9223372036854775807) (hm : 0 < m) : chequerref01_Around.f n m = some (aroundZ n m) := by
  unfold chequerref01_Around.f aroundZ
  by_cases h : n < 0
  · rw [if_pos h, if_neg (by omega), if_pos h]
    have w1 : wrap64 (n + 1) = n + 1 := by unfold wrap64; omega
    have w2 : wrap64 (-(n + 1)) = -(n + 1) := by unfold wrap64; omega
    rw [w1, w2, Int.tmod_eq_emod_of_nonneg (by omega)]
  · rw [if_neg h, if_neg (by omega), if_neg h, Int.tmod_eq_emod_of_nonneg (by omega)]
end Go.Proofs.Ytmimfljiighbaaa.Q
/- A number's digits, as the document writes them; what such digits are worth. -/
namespace Go.Proofs.Ytmimfljiighbaaa.Q
open Go.RowKit Go.Proofs.YtmimfljiighbaaaW.PrintWords Go.Proofs.YtmimfljiighbaaaW.PrintLast
set_option linter.unusedVariables false
def dgR (u : Nat) : List Int := if h : u < 10 then [((48 + u : Nat) : Int)] else ((48 + u % 10 : Nat) : Int) :: dgR (u / 10)
termination_by u
decreasing_by exact Nat.div_lt_self (by omega) (by omega)
def dgL (a0 : Int) : List Int := (dgR a0.natAbs ++ if a0 < 0 then [45] else []).reverse
theorem dgR_small (u : Nat) (h : u < 10) : dgR u = [((48 + u : Nat) : Int)] := by unfold dgR; rw [dif_pos h]
theorem dgR_big (u : Nat) (h : ¬ u < 10) : dgR u = ((48 + u % 10 : Nat) : Int) :: dgR (u / 10) := by rw [dgR, dif_neg h]
theorem dgR_len : ∀ (j u : Nat), u < 10 ^ (j + 1) → (dgR u).length ≤ j + 1 := by
  intro j
  induction j with
  | zero => intro u h; rw [dgR_small u (by simpa using h)]; simp
  | succ j ih =>
    intro u h
    by_cases hs : u < 10
    · rw [dgR_small u hs]; simp
    · rw [dgR_big u hs, List.length_cons]
      have := ih (u / 10) (by rw [Nat.pow_succ] at h; omega)
      omega
theorem strOfNums_cat (a b : List Int) : strOfNums (a ++ b) = strOfNums a ++ strOfNums b := by
  apply ByteArray.ext
  rw [ByteArray.data_append]
  unfold strOfNums
  simp
theorem dgL_step (n : Int) (h : ¬ n.natAbs < 10) : dgL n = dgL (Int.tdiv n 10) ++ [((48 + n.natAbs % 10 : Nat) : Int)] := by
  have e1 : (Int.tdiv n 10).natAbs = n.natAbs / 10 := by rw [Int.natAbs_tdiv]; rfl
  have e2 : (Int.tdiv n 10 < 0) ↔ n < 0 := by
    rcases Int.lt_or_le n 0 with hn | hn
    · have : Int.tdiv n 10 = -(Int.tdiv (-n) 10) := by rw [Int.neg_tdiv, Int.neg_neg]
      rw [this, Int.tdiv_eq_ediv_of_nonneg (by omega)]
      omega
    · rw [Int.tdiv_eq_ediv_of_nonneg hn]
      omega
  unfold dgL
  rw [dgR_big _ h, e1]
  simp only [e2, List.cons_append, List.reverse_cons]
theorem refdg_start (n : Int) (k : Nat) (h0 : -9223372036854775808 ≤ n) (h1 : n ≤ 9223372036854775807) : chequerref01_Decimal.f (k + 1) n = chequerref01_Decimal.j0 k n ((n.natAbs % 10 : Nat) : Int) := by
  simp only [chequerref01_Decimal.f]
  have ha : (Int.tmod n 10).natAbs = n.natAbs % 10 := by rw [Int.natAbs_tmod]; rfl
  have hd := Int.mul_tdiv_add_tmod n 10
  by_cases hn : n < 0
  · have e : Int.tmod n 10 = -((n.natAbs % 10 : Nat) : Int) := by
      have : Int.tmod n 10 = -(Int.tmod (-n) 10) := by rw [Int.neg_tmod, Int.neg_neg]
      rw [this, Int.tmod_eq_emod_of_nonneg (by omega)]
      omega
    have w : wrap64 (-(-((n.natAbs % 10 : Nat) : Int))) = ((n.natAbs % 10 : Nat) : Int) := by unfold wrap64; omega
    rw [e, w]
    by_cases hz : -((n.natAbs % 10 : Nat) : Int) < 0
    · rw [if_pos hz]
    · rw [if_neg hz]
      have : ((n.natAbs % 10 : Nat) : Int) = 0 := by omega
      rw [this]
      rfl
  · have e : Int.tmod n 10 = ((n.natAbs % 10 : Nat) : Int) := by
      rw [Int.tmod_eq_emod_of_nonneg (by omega)]
      omega
    rw [e, if_neg (by omega)]
theorem refdg_j0 (n : Int) (k c : Nat) (hc : c < 10) : chequerref01_Decimal.j0 (k + 1) n (c : Int) = chequerref01_Decimal.j1 k n (strOfNums [((48 + c : Nat) : Int)]) (decide (n.natAbs < 10)) := by
  simp only [chequerref01_Decimal.j0]
  have w : (wrap64 (48 + (c : Int))) % 256 = ((48 + c : Nat) : Int) := by unfold wrap64; omega
  rw [w, Option.bind_some]
  by_cases h : n > -10
  · rw [if_pos h]
    have : (n < 10) ↔ n.natAbs < 10 := by omega
    rw [decide_eq_decide.2 this]
  · rw [if_neg h]
    have : ¬ n.natAbs < 10 := by omega
    rw [decide_eq_false this]
theorem refdg_is : ∀ (d : Nat) (n : Int) (k : Nat), n.natAbs < 10 ^ (d + 1) → d ≤ 30 → -9223372036854775808 ≤ n → n ≤ 9223372036854775807 → 4 * d + 4 < k → chequerref01_Decimal.f k n = some (strOfNums (dgL n)) := by
  intro d
  induction d with
  | zero =>
    intro n k hd _ h0 h1 hk
    obtain ⟨k, rfl⟩ : ∃ m, k = m + 3 := ⟨k - 3, by omega⟩
    have hd' : n.natAbs < 10 := by simpa using hd
    have hR := dgR_small n.natAbs hd'
    rw [refdg_start n _ h0 h1, refdg_j0 n _ _ (Nat.mod_lt _ (by decide)), decide_eq_true hd']
    simp only [chequerref01_Decimal.j1]
    rw [if_pos trivial, Nat.mod_eq_of_lt hd']
    unfold dgL
    rw [hR]
    by_cases hn : n < 0
    · rw [if_pos hn, if_pos hn, strOfNums_size, if_pos (by simp)]
      have : ([((48 + n.natAbs : Nat) : Int)] ++ [45]).reverse = [45] ++ [((48 + n.natAbs : Nat) : Int)] := rfl
      rw [this, strOfNums_cat]
      rfl
    · rw [if_neg hn, if_neg hn]
      rfl
  | succ d ih =>
    intro n k hd hd30 h0 h1 hk
    obtain ⟨k, rfl⟩ : ∃ m, k = m + 3 := ⟨k - 3, by omega⟩
    by_cases hs : n.natAbs < 10
    · exact ih n (k + 3) (by rw [Nat.pow_succ]; have := Nat.pow_pos (n := d) (show 0 < 10 by decide); omega) (by omega) h0 h1 (by omega)
    · rw [refdg_start n _ h0 h1, refdg_j0 n _ _ (Nat.mod_lt _ (by decide)), decide_eq_false hs]
      simp only [chequerref01_Decimal.j1]
      have e1 : (Int.tdiv n 10).natAbs = n.natAbs / 10 := by rw [Int.natAbs_tdiv]; rfl
      have b : (Int.tdiv n 10).natAbs < 10 ^ (d + 1) := by rw [e1]; rw [Nat.pow_succ] at hd; omega
      have w : wrap64 (Int.tdiv n 10) = Int.tdiv n 10 := by unfold wrap64; omega
      have hlen : (dgL (Int.tdiv n 10)).length ≤ 40 := by
        unfold dgL
        rw [List.length_reverse, List.length_append]
        have := dgR_len d _ b
        split <;> simp only [List.length_cons, List.length_nil] <;> omega
      rw [if_neg (by decide), w, ih (Int.tdiv n 10) k b (by omega) (by omega) (by omega) (by omega), Option.bind_some, strOfNums_size, strOfNums_size, if_pos (by simp; omega), dgL_step n hs, strOfNums_cat]
theorem dgR_bytes : ∀ u : Nat, ∀ x ∈ dgR u, 0 ≤ x ∧ x ≤ 255 := by
  intro u
  induction u using Nat.strongRecOn with
  | _ u ih =>
    intro x hx
    by_cases hs : u < 10
    · rw [dgR_small u hs] at hx
      rw [List.mem_singleton.1 hx]
      omega
    · rw [dgR_big u hs] at hx
      rcases List.mem_cons.1 hx with h | h
      · rw [h]; omega
      · exact ih (u / 10) (by omega) x h
theorem dgR_ne (u : Nat) : 0 < (dgR u).length := by
  by_cases h : u < 10
  · rw [dgR_small u h]; simp
  · rw [dgR_big u h]; simp
theorem dgL_nat (u : Nat) : dgL (u : Int) = (dgR u).reverse := by unfold dgL; rw [if_neg (by omega), List.append_nil, Int.natAbs_natCast]
/-- The digits of a number that is none below nought. -/
def dg (u : Nat) : List Int := (dgR u).reverse
theorem refdg_nat (u k : Nat) (h : u < 10 ^ 19) (h1 : u ≤ 9223372036854775807) (hk : 90 ≤ k) : chequerref01_Decimal.f k (u : Int) = some (strOfNums (dg u)) := by
  have := refdg_is 18 (u : Int) k (by rw [Int.natAbs_natCast]; exact h) (by omega) (by omega) (by omega) (by omega)
  rw [this, dgL_nat]
  rfl
/-- What a row of digits is worth, behind a number. -/
def valL : Int → List Int → Int
  | n, [] => n
  | n, c :: r => valL (10 * n + (c - 48)) r
def digs (l : List Int) : Prop := ∀ x ∈ l, 48 ≤ x ∧ x ≤ 57
theorem valL_app : ∀ (a b : List Int) (n : Int), valL n (a ++ b) = valL (valL n a) b
  | [], _, _ => rfl
  | c :: r, b, n => by rw [List.cons_append, valL, valL, valL_app r b]
theorem valL_ge : ∀ (l : List Int) (n : Int), 0 ≤ n → digs l → n ≤ valL n l
  | [], n, _, _ => Int.le_refl _
  | c :: r, n, hn, h => by
    have hc := h c (List.mem_cons_self ..)
    have := valL_ge r (10 * n + (c - 48)) (by omega) (fun x hx => h x (List.mem_cons_of_mem _ hx))
    rw [valL]
    omega
theorem valL_zeros : ∀ z : Nat, valL 0 (List.replicate z 48) = 0
  | 0 => rfl
  | z + 1 => by rw [List.replicate_succ, valL]; exact valL_zeros z
theorem valL_dg : ∀ u : Nat, valL 0 (dg u) = (u : Int) := by
  intro u
  induction u using Nat.strongRecOn with
  | _ u ih =>
    by_cases hs : u < 10
    · unfold dg
      rw [dgR_small u hs]
      show 10 * 0 + (((48 + u : Nat) : Int) - 48) = _
      omega
    · unfold dg
      rw [dgR_big u hs, List.reverse_cons, valL_app]
      have := ih (u / 10) (by omega)
      unfold dg at this
      rw [this]
      show 10 * ((u / 10 : Nat) : Int) + (((48 + u % 10 : Nat) : Int) - 48) = _
      omega
theorem dg_digs (u : Nat) : digs (dg u) := by
  unfold dg digs
  induction u using Nat.strongRecOn with
  | _ u ih =>
    intro x hx
    rw [List.mem_reverse] at hx
    by_cases hs : u < 10
    · rw [dgR_small u hs] at hx
      rw [List.mem_singleton.1 hx]
      omega
    · rw [dgR_big u hs] at hx
      rcases List.mem_cons.1 hx with h | h
      · rw [h]; omega
      · exact ih (u / 10) (by omega) x (List.mem_reverse.2 h)
theorem dg_len (u : Nat) (h : u < 10 ^ 19) : (dg u).length ≤ 19 := by
  unfold dg
  rw [List.length_reverse]
  exact dgR_len 18 u h
theorem dg_ne (u : Nat) : 0 < (dg u).length := by unfold dg; rw [List.length_reverse]; exact dgR_ne u
/-- Bytes of a text that is told as numbers. -/
def byteL (l : List Int) : Prop := ∀ x ∈ l, 0 ≤ x ∧ x ≤ 255
theorem digs_byteL {l : List Int} (h : digs l) : byteL l := fun x hx => by have := h x hx; omega
theorem byteL_app {a b : List Int} (ha : byteL a) (hb : byteL b) : byteL (a ++ b) := fun x hx => by
  rcases List.mem_append.1 hx with h | h
  · exact ha x h
  · exact hb x h
theorem bt_str (l : List Int) (hl : byteL l) (i : Nat) (h : i < l.length) : bt (strOfNums l) (i : Int) = l[i] := by
  have hs : (strOfNums l).size = l.length := strOfNums_size l
  unfold bt
  rw [dif_pos (by rw [Int.toNat_natCast, hs]; exact h)]
  obtain ⟨a, b⟩ := hl l[i] (List.getElem_mem h)
  have e : (strOfNums l).data.toList = l.map (fun x => UInt8.ofNat x.toNat) := strOfNums_data l
  have e2 : (strOfNums l).data[i]? = some (UInt8.ofNat (l[i]).toNat) := by
    rw [← Array.getElem?_toList, e, List.getElem?_map, List.getElem?_eq_getElem h]
    rfl
  have hd : i < (strOfNums l).data.size := by
    have : (strOfNums l).data.size = l.length := hs
    omega
  have this : (strOfNums l).data[i]'hd = UInt8.ofNat (l[i]).toNat := Option.some.inj ((Array.getElem?_eq_getElem hd).symm.trans e2)
  show (((strOfNums l).data[i]'hd).toNat : Int) = _
  rw [this, UInt8.toNat_ofNat_of_lt' (by show (l[i]).toNat < 256; omega)]
  omega
theorem bt_mid (a r : List Int) (c : Int) (h : byteL (a ++ c :: r)) : bt (strOfNums (a ++ c :: r)) (a.length : Int) = c := by
  rw [bt_str _ h a.length (by simp)]
  simp
end Go.Proofs.Ytmimfljiighbaaa.Q
/- A head that may be. -/
namespace Go.Proofs.Ytmimfljiighbaaa.Q
open Go.RowKit Go.Proofs.YtmimfljiighbaaaW.PrintWords Go.Proofs.YtmimfljiighbaaaW.PrintLast
set_option linter.unusedVariables false
theorem wr_id (n : Int) (h0 : -9223372036854775808 ≤ n) (h1 : n ≤ 9223372036854775807) : wrap64 n = n := by unfold wrap64; omega
def HdOk (k w h m : Int) : Prop := 1 ≤ k ∧ k ≤ 6 ∧ 1 ≤ w ∧ w ≤ 4096 ∧ 1 ≤ h ∧ h ≤ 4096 ∧ 1 ≤ m ∧ m ≤ 65535 ∧ ((k = 1 ∨ k = 4) → m = 1)
theorem good_is (a b c d : Int) (ha : -9223372036854775808 ≤ a ∧ a ≤ 9223372036854775807) (hb : -9223372036854775808 ≤ b ∧ b ≤ 9223372036854775807) (hc : -9223372036854775808 ≤ c ∧ c ≤ 9223372036854775807) (hd : -9223372036854775808 ≤ d ∧ d ≤ 9223372036854775807) : ∃ k w h m, chequerref06_Good.f a b c d 4096 = some (k, w, h, m) ∧ HdOk k w h m := by
  have r1 := aroundZ_range a 6 (by omega)
  have r2 := aroundZ_range b 4096 (by omega)
  have r3 := aroundZ_range c 4096 (by omega)
  have r4 := aroundZ_range d 65535 (by omega)
  unfold chequerref06_Good.f
  rw [around_is a 6 ha.1 ha.2 (by omega), around_is b 4096 hb.1 hb.2 (by omega), around_is c 4096 hc.1 hc.2 (by omega), around_is d 65535 hd.1 hd.2 (by omega)]
  generalize aroundZ a 6 = x at *
  generalize aroundZ b 4096 = y at *
  generalize aroundZ c 4096 = z at *
  generalize aroundZ d 65535 = v at *
  simp only [Option.bind_some, chequerref06_bits.f]
  rw [wr_id (1 + x) (by omega) (by omega), wr_id (1 + y) (by omega) (by omega), wr_id (1 + z) (by omega) (by omega), wr_id (1 + v) (by omega) (by omega)]
  by_cases h1 : 1 + x = 1
  · exact ⟨_, _, _, _, by simp [h1]; exact ⟨rfl, rfl, rfl, rfl⟩, by unfold HdOk; omega⟩
  · by_cases h4 : 1 + x = 4
    · exact ⟨_, _, _, _, by simp [h4]; exact ⟨rfl, rfl, rfl, rfl⟩, by unfold HdOk; omega⟩
    · refine ⟨1 + x, 1 + y, 1 + z, 1 + v, ?_, by unfold HdOk; omega⟩
      have e : (1 + x == 4) = false := beq_eq_false_iff_ne.2 h4
      rw [if_neg h1, e]
      rfl
end Go.Proofs.Ytmimfljiighbaaa.Q
/- A number with one digit more: both texts answer the same. -/
namespace Go.Proofs.Ytmimfljiighbaaa.Q
open Go.RowKit Go.Proofs.YtmimfljiighbaaaW.PrintWords Go.Proofs.YtmimfljiighbaaaW.PrintLast
set_option linter.unusedVariables false
def stepS (n c m : Int) : Int × Int := if c < 48 ∨ 57 < c then (0, 3) else if m < 10 * n + (c - 48) then (0, 4) else (10 * n + (c - 48), 0)
theorem step_is (k : Nat) (n c m : Int) (hn : 0 ≤ n) (hn1 : n ≤ 4611686018427387904) (hm : 0 ≤ m) (hm1 : m ≤ 4611686018427387904) (hc : 0 ≤ c) (hc1 : c ≤ 255) : num_Step.f (k + 1) n c m = some (stepS n c m) := by
  have w0 : wrap64 ((wrap64 c) - 48) = c - 48 := by unfold wrap64; omega
  unfold num_Step.f stepS
  rw [w0]
  by_cases h1 : c - 48 < 0
  · rw [if_pos h1]; simp only [num_Step.j0]; rw [if_pos trivial, if_pos (by omega)]
  · rw [if_neg h1]; simp only [num_Step.j0]
    by_cases h2 : c - 48 > 9
    · rw [if_pos (by simpa using h2), if_pos (by omega)]
    · rw [if_neg (by simpa using h2), if_neg (show ¬ (c < 48 ∨ 57 < c) by omega)]
      by_cases h3 : c - 48 > m
      · rw [if_pos h3, if_pos (by omega)]
      · rw [if_neg h3]
        have w1 : wrap64 (m - (c - 48)) = m - (c - 48) := by unfold wrap64; omega
        have w2 : wrap64 (Int.tdiv (m - (c - 48)) 10) = (m - (c - 48)) / 10 := by rw [Int.tdiv_eq_ediv_of_nonneg (by omega)]; unfold wrap64; omega
        rw [w1, w2]
        by_cases h4 : n > (m - (c - 48)) / 10
        · rw [if_pos h4, if_pos (by omega)]
        · rw [if_neg h4, if_neg (by omega)]
          have w3 : wrap64 (10 * n) = 10 * n := by unfold wrap64; omega
          rw [w3]
          have w4 : wrap64 (10 * n + (c - 48)) = 10 * n + (c - 48) := by unfold wrap64; omega
          rw [w4]
theorem stepS_ok (n c m : Int) (hn : 0 ≤ n) (hm : 0 ≤ m) : 0 ≤ (stepS n c m).1 ∧ (stepS n c m).1 ≤ m := by
  unfold stepS
  split
  · exact ⟨by simp, by simpa using hm⟩
  · split
    · exact ⟨by simp, by simpa using hm⟩
    · exact ⟨by simp only; omega, by simp only; omega⟩
end Go.Proofs.Ytmimfljiighbaaa.Q
/- A reader of numbers: both texts turn alike. -/
namespace Go.Proofs.Ytmimfljiighbaaa.Q
open Go.RowKit Go.Proofs.YtmimfljiighbaaaW.PrintWords Go.Proofs.YtmimfljiighbaaaW.PrintLast
set_option linter.unusedVariables false
def blankP (c : Int) : Prop := c = 32 ∨ (9 ≤ c ∧ c ≤ 13)
instance (c : Int) : Decidable (blankP c) := by unfold blankP; exact inferInstance
/-- How far it is, the number, the error, and what is told. -/
def tkS (a n m e c : Int) : Int × Int × Int × Int :=
  if a = 4 then (4, n, e, 1) else if a = 5 then (5, n, e, 2)
  else if a = 1 then (if c = 10 ∨ c = 13 then (0, n, e, 0) else (1, n, e, 0))
  else if a = 3 then (if c = 10 ∨ c = 13 then (4, n, 0, 1) else (3, n, e, 0))
  else if c = 35 then (a + 1, n, e, 0)
  else if blankP c then (if a = 0 then (0, n, e, 0) else (4, n, 0, 1))
  else if (stepS n c m).2 = 0 then (2, (stepS n c m).1, e, 0) else (5, 0, (stepS n c m).2, 2)
theorem blank_is (c : Int) (h0 : 0 ≤ c) (h1 : c ≤ 255) : token_Blank.f c = some (decide (blankP c)) := by
  unfold token_Blank.f
  rw [if_pos ⟨h0, h1⟩]
  rfl
theorem ends_is (c : Int) : token_ends.f c = some (decide (c = 10 ∨ c = 13)) := by
  unfold token_ends.f
  by_cases h : c = 10
  · rw [if_pos h, decide_eq_true (.inl h)]
  · rw [if_neg h]
    congr 1
    by_cases h2 : c = 13
    · rw [decide_eq_true (.inr h2)]; simp [h2]
    · rw [decide_eq_false (by omega)]; simp [h2]
/-- The program's mode and last answer, of how far it is. -/
def tkR (a m l : Int) : Prop := (l = 0 ∧ m = a ∧ 0 ≤ a ∧ a ≤ 3) ∨ (l = 1 ∧ a = 4) ∨ (l = 2 ∧ a = 5)
theorem digit_is (md n m l e c : Int) (b : Bool) (hn : 0 ≤ n) (hn1 : n ≤ m) (hm : m ≤ 4611686018427387904) (hc : 0 ≤ c) (hc1 : c ≤ 255) :
    token_Number_digit.f 2 md m n b l e c = some (if (stepS n c m).2 = 0 then (0, 2, m, (stepS n c m).1, true, l, e) else (2, md, m, 0, b, l, (stepS n c m).2)) := by
  unfold token_Number_digit.f
  rw [step_is 1 n c m hn (by omega) (by omega) (by omega) hc hc1, Option.bind_some]
  by_cases hs : (stepS n c m).2 = 0
  · rw [if_pos hs, if_pos hs]
  · rw [if_neg hs, if_neg hs]
/-- How the program turns. -/
theorem put_is (a n m e c md l : Int) (b : Bool) (hR : tkR a md l) (hb1 : a ≤ 1 → b = false) (hb2 : 2 ≤ a ∧ a ≤ 4 → b = true) (hn : 0 ≤ n) (hn1 : n ≤ m) (hm : m ≤ 4611686018427387904) (hc : 0 ≤ c) (hc1 : c ≤ 255) :
    ∃ md', token_Number_Put.f md m n b l e c = some ((tkS a n m e c).2.2.2, md', m, (tkS a n m e c).2.1, (b || decide (2 ≤ (tkS a n m e c).1 ∧ (tkS a n m e c).1 ≤ 4)), (tkS a n m e c).2.2.2, (tkS a n m e c).2.2.1) ∧ tkR (tkS a n m e c).1 md' (tkS a n m e c).2.2.2 := by
  have hn1' : n ≤ 4611686018427387904 := by omega
  unfold token_Number_Put.f
  rcases hR with ⟨rfl, rfl, h0, h3⟩ | ⟨rfl, rfl⟩ | ⟨rfl, rfl⟩
  · rw [if_pos rfl]
    have hcase : md = 0 ∨ md = 1 ∨ md = 2 ∨ md = 3 := by omega
    rcases hcase with rfl | rfl | rfl | rfl
    · obtain rfl := hb1 (by omega)
      rw [if_pos rfl]
      unfold token_Number_ahead.f
      rw [blank_is c hc hc1, Option.bind_some]
      by_cases hbl : blankP c
      · have hS : tkS 0 n m e c = (0, n, e, 0) := by
          have : c ≠ 35 := by unfold blankP at hbl; omega
          simp [tkS, hbl, this]
        rw [decide_eq_true hbl, if_pos rfl, Option.bind_some, hS]
        exact ⟨0, by simp, .inl (by simp)⟩
      · rw [decide_eq_false hbl, if_neg (by decide)]
        by_cases h35 : c = 35
        · have hS : tkS 0 n m e c = (1, n, e, 0) := by simp [tkS, h35]
          rw [if_pos h35, Option.bind_some, hS]
          exact ⟨1, by simp, .inl (by simp)⟩
        · rw [if_neg h35, digit_is 0 n m 0 e c false hn hn1 hm hc hc1, Option.bind_some, Option.bind_some]
          by_cases hs : (stepS n c m).2 = 0
          · have hS : tkS 0 n m e c = (2, (stepS n c m).1, e, 0) := by simp [tkS, h35, hbl, hs]
            rw [if_pos hs, hS]
            exact ⟨2, by simp, .inl (by simp)⟩
          · have hS : tkS 0 n m e c = (5, 0, (stepS n c m).2, 2) := by simp [tkS, h35, hbl, hs]
            rw [if_neg hs, hS]
            exact ⟨0, by simp, .inr (.inr (by simp))⟩
    · obtain rfl := hb1 (by omega)
      rw [if_neg (by omega), if_pos rfl]
      unfold token_Number_remark.f
      rw [ends_is, Option.bind_some]
      by_cases hl : c = 10 ∨ c = 13
      · have hS : tkS 1 n m e c = (0, n, e, 0) := by simp [tkS, hl]
        rw [decide_eq_true hl, if_pos rfl, Option.bind_some, hS]
        exact ⟨0, by simp, .inl (by simp)⟩
      · have hS : tkS 1 n m e c = (1, n, e, 0) := by simp [tkS, hl]
        rw [decide_eq_false hl, if_neg (by decide), Option.bind_some, hS]
        exact ⟨1, by simp, .inl (by simp)⟩
    · obtain rfl := hb2 (by omega)
      rw [if_neg (by omega), if_neg (by omega), if_pos rfl]
      unfold token_Number_behind.f
      rw [blank_is c hc hc1, Option.bind_some]
      by_cases hbl : blankP c
      · have hS : tkS 2 n m e c = (4, n, 0, 1) := by
          have : c ≠ 35 := by unfold blankP at hbl; omega
          simp [tkS, hbl, this]
        rw [decide_eq_true hbl, if_pos rfl, Option.bind_some, hS]
        exact ⟨2, by simp, .inr (.inl (by simp))⟩
      · rw [decide_eq_false hbl, if_neg (by decide)]
        by_cases h35 : c = 35
        · have hS : tkS 2 n m e c = (3, n, e, 0) := by simp [tkS, h35]
          rw [if_pos h35, Option.bind_some, hS]
          exact ⟨3, by simp, .inl (by simp)⟩
        · rw [if_neg h35, digit_is 2 n m 0 e c true hn hn1 hm hc hc1, Option.bind_some, Option.bind_some]
          by_cases hs : (stepS n c m).2 = 0
          · have hS : tkS 2 n m e c = (2, (stepS n c m).1, e, 0) := by simp [tkS, h35, hbl, hs]
            rw [if_pos hs, hS]
            exact ⟨2, by simp, .inl (by simp)⟩
          · have hS : tkS 2 n m e c = (5, 0, (stepS n c m).2, 2) := by simp [tkS, h35, hbl, hs]
            rw [if_neg hs, hS]
            exact ⟨2, by simp, .inr (.inr (by simp))⟩
    · obtain rfl := hb2 (by omega)
      rw [if_neg (by omega), if_neg (by omega), if_neg (by omega), if_pos rfl]
      unfold token_Number_end.f
      rw [ends_is, Option.bind_some]
      by_cases hl : c = 10 ∨ c = 13
      · have hS : tkS 3 n m e c = (4, n, 0, 1) := by simp [tkS, hl]
        rw [decide_eq_true hl, if_pos rfl, Option.bind_some, hS]
        exact ⟨3, by simp, .inr (.inl (by simp))⟩
      · have hS : tkS 3 n m e c = (3, n, e, 0) := by simp [tkS, hl]
        rw [decide_eq_false hl, if_neg (by decide), Option.bind_some, hS]
        exact ⟨3, by simp, .inl (by simp)⟩
  · obtain rfl := hb2 (by omega)
    have hS : tkS 4 n m e c = (4, n, e, 1) := by simp [tkS]
    rw [if_neg (by omega), hS]
    exact ⟨md, by simp, .inr (.inl (by simp))⟩
  · have hS : tkS 5 n m e c = (5, n, e, 2) := by simp [tkS]
    rw [if_neg (by omega), hS]
    exact ⟨md, by simp, .inr (.inr (by simp))⟩
/-- What stays true of a reader. -/
def tkOk (a n m e : Int) : Prop := (0 ≤ a ∧ a ≤ 5) ∧ 0 ≤ n ∧ n ≤ m ∧ ((a ≤ 3 ∧ e = 9) ∨ (a = 4 ∧ e = 0) ∨ (a = 5 ∧ n = 0 ∧ (e = 3 ∨ e = 4)))
theorem stepS_err (n c m : Int) : (stepS n c m).2 = 0 ∨ (stepS n c m).2 = 3 ∨ (stepS n c m).2 = 4 := by
  unfold stepS
  repeat' split
  all_goals simp
theorem tkS_ok (a n m e c : Int) (h : tkOk a n m e) : tkOk (tkS a n m e c).1 (tkS a n m e c).2.1 m (tkS a n m e c).2.2.1 := by
  obtain ⟨⟨h0, h5⟩, hn, hm, he⟩ := h
  have h1 := stepS_ok n c m hn (by omega)
  have h2 := stepS_err n c m
  unfold tkS tkOk
  repeat' split
  all_goals (dsimp only; omega)
theorem few_is (s : ByteArray) (n : Nat) : chequerref05_Few.f s (n : Int) = some (if s.size > n then s.extract 0 n else s) := by
  unfold chequerref05_Few.f
  by_cases h : s.size > n
  · rw [if_pos (by omega), if_pos (by omega), if_pos (by omega), if_pos h, Int.toNat_natCast]
  · rw [if_neg (by omega), if_neg h]
theorem few_size (s : ByteArray) (n : Nat) : (if s.size > n then s.extract 0 n else s).size ≤ n := by
  split
  · rw [ByteArray.size_extract]; omega
  · omega
end Go.Proofs.Ytmimfljiighbaaa.Q
/- A head's reader, and the document's answer, each told as one function of a text. -/
namespace Go.Proofs.Ytmimfljiighbaaa.Q
open Go.RowKit Go.Proofs.YtmimfljiighbaaaW.PrintWords Go.Proofs.YtmimfljiighbaaaW.PrintLast
set_option linter.unusedVariables false
abbrev HRes := Int × Int × Int × Int × Int × Int
def mostI (l0 l1 l2 i : Int) : Int := if i = 0 then l0 else if i = 1 then l1 else l2
def numS (k l0 l1 l2 : Int) : List Int → Int → Int → Int → Int → Int → Int → Int → HRes
  | [], at_, _, _, _, _, _, _ => (0, 0, 0, 0, at_, 6)
  | c :: r, at_, i, a, n, e, w, h =>
    if (tkS a n (mostI l0 l1 l2 i) e c).2.2.2 = 0 then numS k l0 l1 l2 r (at_ + 1) i (tkS a n (mostI l0 l1 l2 i) e c).1 (tkS a n (mostI l0 l1 l2 i) e c).2.1 (tkS a n (mostI l0 l1 l2 i) e c).2.2.1 w h
    else if (tkS a n (mostI l0 l1 l2 i) e c).2.2.2 = 2 then (0, 0, 0, 0, at_ + 1, (tkS a n (mostI l0 l1 l2 i) e c).2.2.1)
    else if (tkS a n (mostI l0 l1 l2 i) e c).2.1 = 0 then (0, 0, 0, 0, at_ + 1, 4)
    else if i = 0 then numS k l0 l1 l2 r (at_ + 1) 1 0 0 9 (tkS a n (mostI l0 l1 l2 i) e c).2.1 h
    else if i = 1 then (if k = 1 ∨ k = 4 then (k, w, (tkS a n (mostI l0 l1 l2 i) e c).2.1, 1, at_ + 1, 0) else numS k l0 l1 l2 r (at_ + 1) 2 0 0 9 w (tkS a n (mostI l0 l1 l2 i) e c).2.1)
    else (k, w, h, (tkS a n (mostI l0 l1 l2 i) e c).2.1, at_ + 1, 0)
def parS2 (l0 l1 l2 k : Int) : List Int → HRes
  | [] => (0, 0, 0, 0, 2, 6)
  | c :: r => if ¬ blankP c ∧ c ≠ 35 then (0, 0, 0, 0, 3, 3) else numS k l0 l1 l2 (c :: r) 2 0 0 0 9 0 0
def parS1 (l0 l1 l2 : Int) : List Int → HRes
  | [] => (0, 0, 0, 0, 1, 6)
  | c :: r => if c < 49 ∨ c > 54 then (0, 0, 0, 0, 2, 2) else parS2 l0 l1 l2 (c - 48) r
def parS (l0 l1 l2 : Int) : List Int → HRes
  | [] => (0, 0, 0, 0, 0, 6)
  | c :: r => if c ≠ 80 then (0, 0, 0, 0, 1, 2) else parS1 l0 l1 l2 r
theorem told3 (a n m e c : Int) (h : tkOk a n m e) (ha : a ≤ 3) : ((tkS a n m e c).2.2.2 = 2 ∧ (tkS a n m e c).1 = 5) ∨ ((tkS a n m e c).2.2.2 = 1 ∧ (tkS a n m e c).1 = 4) ∨ ((tkS a n m e c).2.2.2 = 0 ∧ (tkS a n m e c).1 ≤ 3 ∧ (2 ≤ a → 2 ≤ (tkS a n m e c).1)) := by
  obtain ⟨⟨h0, h5⟩, _⟩ := h
  unfold tkS
  repeat' split
  all_goals (dsimp only; omega)
def limOk (l0 l1 l2 : Int) : Prop := (1 ≤ l0 ∧ l0 ≤ 65536) ∧ (1 ≤ l1 ∧ l1 ≤ 65536) ∧ (1 ≤ l2 ∧ l2 ≤ 65536)
theorem mostI_ok {l0 l1 l2 : Int} (h : limOk l0 l1 l2) (i : Int) : 1 ≤ mostI l0 l1 l2 i ∧ mostI l0 l1 l2 i ≤ 65536 := by
  obtain ⟨h0, h1, h2⟩ := h
  unfold mostI
  repeat' split
  all_goals assumption
theorem cut_ok (n m : Int) (hm : 1 ≤ m) : 1 ≤ mn (mx n 1) m ∧ mn (mx n 1) m ≤ m := by
  unfold mn mx
  repeat' split
  all_goals omega
theorem new_ok (m : Int) (h : 0 ≤ m) : tkOk 0 0 m 9 := ⟨by omega, by omega, h, .inl ⟨by omega, rfl⟩⟩
/-- A text, told as numbers. -/
theorem str_nums (s : ByteArray) : ∃ L : List Int, byteL L ∧ s = strOfNums L ∧ L.length = s.size := by
  refine ⟨s.data.toList.map fun b => (b.toNat : Int), ?_, ?_, ?_⟩
  · intro x hx
    obtain ⟨b, _, rfl⟩ := List.mem_map.1 hx
    have := b.toNat_lt
    omega
  · apply ByteArray.ext
    apply Array.toList_inj.1
    rw [strOfNums_data, List.map_map]
    symm
    rw [List.map_congr_left (g := id)]
    · exact List.map_id _
    · intro b _
      show UInt8.ofNat ((b.toNat : Int)).toNat = b
      rw [Int.toNat_natCast, UInt8.ofNat_toNat]
  · rw [List.length_map]
    exact Array.length_toList
theorem hput0 (f0 : Int) (f1 : Int) (f2 : Int) (f3 : Int) (f4 : Int) (f5 : Int) (f6 : Int) (f7 : Int) (f8 : Int) (f9 : Bool) (f10 : Int) (f11 : Int) (f12 : Int) (f13 : Bool) (f14 : Int) (f15 : Int) (f16 : Int) (f17 : Int) (c : Int) : head_Reader_Put.f f0 f1 f2 f3 f4 f5 f6 0 f8 f9 f10 f11 f12 f13 f14 f15 0 9 c = some (if c ≠ 80 then (2, f0, f1, f2, f3, f4, f5, f6, 1, f8, f9, f10, f11, f12, f13, f14, f15, 2, 2) else (0, f0, f1, f2, f3, f4, f5, f6, 1, f8, f9, f10, f11, f12, f13, f14, f15, 0, 9)) := by
  unfold head_Reader_Put.f head_magic.f
  have w : wrap64 (0 + 1) = 1 := by unfold wrap64; omega
  rw [w, if_pos rfl, if_pos (by decide)]
  by_cases h : c = 80
  · rw [if_neg (by omega), if_neg (by decide), if_neg (by decide), Option.bind_some, if_neg (by simpa using h)]
  · rw [if_pos (.inl ⟨rfl, h⟩), Option.bind_some, if_pos h]
theorem hput1 (f0 : Int) (f1 : Int) (f2 : Int) (f3 : Int) (f4 : Int) (f5 : Int) (f6 : Int) (f7 : Int) (f8 : Int) (f9 : Bool) (f10 : Int) (f11 : Int) (f12 : Int) (f13 : Bool) (f14 : Int) (f15 : Int) (f16 : Int) (f17 : Int) (c : Int) : head_Reader_Put.f f0 f1 f2 f3 f4 f5 f6 1 f8 f9 f10 f11 f12 f13 f14 f15 0 9 c = some (if c < 49 ∨ c > 54 then (2, f0, f1, f2, f3, f4, f5, f6, 2, f8, f9, f10, f11, f12, f13, f14, f15, 2, 2) else (0, c - 48, f1, f2, f3, f4, f5, f6, 2, f8, f9, f10, f11, f12, f13, f14, f15, 0, 9)) := by
  unfold head_Reader_Put.f head_magic.f
  have w : wrap64 (1 + 1) = 2 := by unfold wrap64; omega
  rw [w, if_pos rfl, if_pos (by decide)]
  by_cases h : c < 49 ∨ c > 54
  · rw [if_pos (.inr ⟨rfl, h⟩), Option.bind_some, if_pos h]
  · rw [if_neg (by omega), if_pos rfl, Option.bind_some, if_neg h, show (c - 48) % 256 = c - 48 by omega]
theorem hput2_bad (f0 : Int) (f1 : Int) (f2 : Int) (f3 : Int) (f4 : Int) (f5 : Int) (f6 : Int) (f7 : Int) (f8 : Int) (f9 : Bool) (f10 : Int) (f11 : Int) (f12 : Int) (f13 : Bool) (f14 : Int) (f15 : Int) (f16 : Int) (f17 : Int) (c : Int) (h0 : 0 ≤ c) (h1 : c ≤ 255) (hb : ¬ blankP c ∧ c ≠ 35) : head_Reader_Put.f f0 f1 f2 f3 f4 f5 f6 2 f8 f9 f10 f11 f12 f13 f14 f15 0 9 c = some (2, f0, f1, f2, f3, f4, f5, f6, 3, f8, f9, f10, f11, f12, f13, f14, f15, 2, 3) := by
  unfold head_Reader_Put.f head_magic.f
  have w : wrap64 (2 + 1) = 3 := by unfold wrap64; omega
  rw [w, if_pos rfl, if_pos (by decide), if_neg (by omega), if_neg (by decide), if_pos rfl, blank_is c h0 h1, Option.bind_some, if_pos ⟨decide_eq_false hb.1, hb.2⟩, Option.bind_some]
theorem hput2 (f0 : Int) (f1 : Int) (f2 : Int) (f3 : Int) (f4 : Int) (f5 : Int) (f6 : Int) (f7 : Int) (f8 : Int) (f9 : Bool) (f10 : Int) (f11 : Int) (f12 : Int) (f13 : Bool) (f14 : Int) (f15 : Int) (f16 : Int) (f17 : Int) (c md n : Int) (b : Bool) (l e : Int) (h0 : 0 ≤ c) (h1 : c ≤ 255) (hb : blankP c ∨ c = 35) (E : token_Number_Put.f 0 f4 0 false 0 9 c = some (l, md, f4, n, b, l, e)) : head_Reader_Put.f f0 f1 f2 f3 f4 f5 f6 2 f8 f9 f10 f11 f12 f13 f14 f15 0 9 c = some (0, f0, f1, f2, f3, f4, f5, f6, 3, f8, true, md, f4, n, b, l, e, 0, 9) := by
  unfold head_Reader_Put.f head_magic.f
  have w : wrap64 (2 + 1) = 3 := by unfold wrap64; omega
  have hn : ¬ (decide (blankP c) = false ∧ c ≠ 35) := by
    rintro ⟨h2, h3⟩
    rcases hb with h | h
    · rw [decide_eq_true h] at h2; cases h2
    · exact h3 h
  rw [w, if_pos rfl, if_pos (by decide), if_neg (by omega), if_neg (by decide), if_pos rfl, blank_is c h0 h1, Option.bind_some, if_neg hn, E, Option.bind_some, Option.bind_some]
theorem hN_more (f0 : Int) (f1 : Int) (f2 : Int) (f3 : Int) (f4 : Int) (f5 : Int) (f6 : Int) (f7 : Int) (f8 : Int) (f9 : Bool) (f10 : Int) (f11 : Int) (f12 : Int) (f13 : Bool) (f14 : Int) (f15 : Int) (f16 : Int) (f17 : Int) (s md n : Int) (b : Bool) (e c : Int) (E : token_Number_Put.f f10 f11 f12 f13 0 f15 c = some (s, md, f11, n, b, s, e)) (hs : s = 0) : head_Reader_Put.f f0 f1 f2 f3 f4 f5 f6 3 f8 true f10 f11 f12 f13 0 f15 0 9 c = some (0, f0, f1, f2, f3, f4, f5, f6, 3, f8, true, md, f11, n, b, s, e, 0, 9) := by
  unfold head_Reader_Put.f head_number.f
  rw [if_pos rfl, if_neg (by decide), if_pos rfl, E, Option.bind_some]
  dsimp only
  rw [if_pos hs, Option.bind_some]
theorem hN_err (f0 : Int) (f1 : Int) (f2 : Int) (f3 : Int) (f4 : Int) (f5 : Int) (f6 : Int) (f7 : Int) (f8 : Int) (f9 : Bool) (f10 : Int) (f11 : Int) (f12 : Int) (f13 : Bool) (f14 : Int) (f15 : Int) (f16 : Int) (f17 : Int) (s md n : Int) (b : Bool) (e c : Int) (E : token_Number_Put.f f10 f11 f12 f13 0 f15 c = some (s, md, f11, n, b, s, e)) (hs : s = 2) (he : e ≠ 0) : head_Reader_Put.f f0 f1 f2 f3 f4 f5 f6 3 f8 true f10 f11 f12 f13 0 f15 0 9 c = some (2, f0, f1, f2, f3, f4, f5, f6, 3, f8, true, md, f11, n, b, s, e, 2, e) := by
  unfold head_Reader_Put.f head_number.f
  rw [if_pos rfl, if_neg (by decide), if_pos rfl, E, Option.bind_some]
  dsimp only
  rw [if_neg (by omega)]
  unfold token_Number_Value.f
  rw [if_neg (by omega), Option.bind_some, if_pos he, Option.bind_some]
theorem hN_zero (f0 : Int) (f1 : Int) (f2 : Int) (f3 : Int) (f4 : Int) (f5 : Int) (f6 : Int) (f7 : Int) (f8 : Int) (f9 : Bool) (f10 : Int) (f11 : Int) (f12 : Int) (f13 : Bool) (f14 : Int) (f15 : Int) (f16 : Int) (f17 : Int) (s md n : Int) (b : Bool) (e c : Int) (E : token_Number_Put.f f10 f11 f12 f13 0 f15 c = some (s, md, f11, n, b, s, e)) (hs : s = 1) (hn : n = 0) : head_Reader_Put.f f0 f1 f2 f3 f4 f5 f6 3 f8 true f10 f11 f12 f13 0 f15 0 9 c = some (2, f0, f1, f2, f3, f4, f5, f6, 3, f8, true, md, f11, n, b, s, e, 2, 4) := by
  unfold head_Reader_Put.f head_number.f
  rw [if_pos rfl, if_neg (by decide), if_pos rfl, E, Option.bind_some]
  dsimp only
  rw [if_neg (by omega)]
  unfold token_Number_Value.f
  rw [if_pos hs, Option.bind_some]
  dsimp only
  rw [if_neg (by decide)]
  rw [if_pos hn, Option.bind_some]
theorem hN_w (f0 : Int) (f1 : Int) (f2 : Int) (f3 : Int) (f4 : Int) (f5 : Int) (f6 : Int) (f7 : Int) (f8 : Int) (f9 : Bool) (f10 : Int) (f11 : Int) (f12 : Int) (f13 : Bool) (f14 : Int) (f15 : Int) (f16 : Int) (f17 : Int) (s md n : Int) (b : Bool) (e c : Int) (E : token_Number_Put.f f10 f11 f12 f13 0 f15 c = some (s, md, f11, n, b, s, e)) (hs : s = 1) (hn : n ≠ 0) : head_Reader_Put.f f0 f1 f2 f3 f4 f5 f6 3 0 true f10 f11 f12 f13 0 f15 0 9 c = some (0, f0, n, f2, f3, f4, f5, f6, 3, 1, true, 0, f5, 0, false, 0, 9, 0, 9) := by
  unfold head_Reader_Put.f head_number.f
  rw [if_pos rfl, if_neg (by decide), if_pos rfl, E, Option.bind_some]
  dsimp only
  rw [if_neg (by omega)]
  unfold token_Number_Value.f
  rw [if_pos hs, Option.bind_some]
  dsimp only
  rw [if_neg (by decide)]
  rw [if_neg hn, if_pos rfl, Option.bind_some]
theorem hN_hb (f0 : Int) (f1 : Int) (f2 : Int) (f3 : Int) (f4 : Int) (f5 : Int) (f6 : Int) (f7 : Int) (f8 : Int) (f9 : Bool) (f10 : Int) (f11 : Int) (f12 : Int) (f13 : Bool) (f14 : Int) (f15 : Int) (f16 : Int) (f17 : Int) (s md n : Int) (b : Bool) (e c : Int) (E : token_Number_Put.f f10 f11 f12 f13 0 f15 c = some (s, md, f11, n, b, s, e)) (hs : s = 1) (hn : n ≠ 0) (hk : f0 = 1 ∨ f0 = 4) : head_Reader_Put.f f0 f1 f2 f3 f4 f5 f6 3 1 true f10 f11 f12 f13 0 f15 0 9 c = some (1, f0, f1, n, 1, f4, f5, f6, 3, 3, true, md, f11, n, b, s, e, 1, 0) := by
  unfold head_Reader_Put.f head_number.f
  rw [if_pos rfl, if_neg (by decide), if_pos rfl, E, Option.bind_some]
  dsimp only
  rw [if_neg (by omega)]
  unfold token_Number_Value.f
  rw [if_pos hs, Option.bind_some]
  dsimp only
  rw [if_neg (by decide)]
  rw [if_neg hn, if_neg (by decide), if_pos rfl, if_pos hk, Option.bind_some]
theorem hN_h (f0 : Int) (f1 : Int) (f2 : Int) (f3 : Int) (f4 : Int) (f5 : Int) (f6 : Int) (f7 : Int) (f8 : Int) (f9 : Bool) (f10 : Int) (f11 : Int) (f12 : Int) (f13 : Bool) (f14 : Int) (f15 : Int) (f16 : Int) (f17 : Int) (s md n : Int) (b : Bool) (e c : Int) (E : token_Number_Put.f f10 f11 f12 f13 0 f15 c = some (s, md, f11, n, b, s, e)) (hs : s = 1) (hn : n ≠ 0) (hk : ¬ (f0 = 1 ∨ f0 = 4)) : head_Reader_Put.f f0 f1 f2 f3 f4 f5 f6 3 1 true f10 f11 f12 f13 0 f15 0 9 c = some (0, f0, f1, n, f3, f4, f5, f6, 3, 2, true, 0, f6, 0, false, 0, 9, 0, 9) := by
  unfold head_Reader_Put.f head_number.f
  rw [if_pos rfl, if_neg (by decide), if_pos rfl, E, Option.bind_some]
  dsimp only
  rw [if_neg (by omega)]
  unfold token_Number_Value.f
  rw [if_pos hs, Option.bind_some]
  dsimp only
  rw [if_neg (by decide)]
  rw [if_neg hn, if_neg (by decide), if_pos rfl, if_neg hk, Option.bind_some]
theorem hN_m (f0 : Int) (f1 : Int) (f2 : Int) (f3 : Int) (f4 : Int) (f5 : Int) (f6 : Int) (f7 : Int) (f8 : Int) (f9 : Bool) (f10 : Int) (f11 : Int) (f12 : Int) (f13 : Bool) (f14 : Int) (f15 : Int) (f16 : Int) (f17 : Int) (s md n : Int) (b : Bool) (e c : Int) (E : token_Number_Put.f f10 f11 f12 f13 0 f15 c = some (s, md, f11, n, b, s, e)) (hs : s = 1) (hn : n ≠ 0) : head_Reader_Put.f f0 f1 f2 f3 f4 f5 f6 3 2 true f10 f11 f12 f13 0 f15 0 9 c = some (1, f0, f1, f2, n, f4, f5, f6, 3, 3, true, md, f11, n, b, s, e, 1, 0) := by
  unfold head_Reader_Put.f head_number.f
  rw [if_pos rfl, if_neg (by decide), if_pos rfl, E, Option.bind_some]
  dsimp only
  rw [if_neg (by omega)]
  unfold token_Number_Value.f
  rw [if_pos hs, Option.bind_some]
  dsimp only
  rw [if_neg (by decide)]
  rw [if_neg hn, if_neg (by decide), if_neg (by decide), if_pos rfl, Option.bind_some]
def Going (suf : List Int) (at_ : Int) (res : HRes) (f0 : Int) (f1 : Int) (f2 : Int) (f3 : Int) (f4 : Int) (f5 : Int) (f6 : Int) (f7 : Int) (f8 : Int) (f9 : Bool) (f10 : Int) (f11 : Int) (f12 : Int) (f13 : Bool) (f14 : Int) (f15 : Int) (f16 : Int) (f17 : Int) : Prop := f16 = 0 ∧ f17 = 9 ∧ limOk f4 f5 f6 ∧ (
  (f7 = 0 ∧ f8 = 0 ∧ f1 = 0 ∧ f2 = 0 ∧ at_ = 0 ∧ res = parS f4 f5 f6 suf)
  ∨ (f7 = 1 ∧ f8 = 0 ∧ f1 = 0 ∧ f2 = 0 ∧ at_ = 1 ∧ res = parS1 f4 f5 f6 suf)
  ∨ (f7 = 2 ∧ f8 = 0 ∧ f1 = 0 ∧ f2 = 0 ∧ at_ = 2 ∧ (1 ≤ f0 ∧ f0 ≤ 6) ∧ res = parS2 f4 f5 f6 f0 suf)
  ∨ (f7 = 3 ∧ f9 = true ∧ (1 ≤ f0 ∧ f0 ≤ 6) ∧ (f8 = 0 ∨ f8 = 1 ∨ f8 = 2) ∧ f14 = 0 ∧ f11 = mostI f4 f5 f6 f8 ∧ ∃ a, a ≤ 3 ∧ tkR a f10 0 ∧ tkOk a f12 f11 f15 ∧ f13 = decide (2 ≤ a) ∧ res = numS f0 f4 f5 f6 suf at_ f8 a f12 f15 f1 f2))
def Done (s : Int) (at_ : Int) (res : HRes) (f0 : Int) (f1 : Int) (f2 : Int) (f3 : Int) (f4 : Int) (f5 : Int) (f6 : Int) (f7 : Int) (f8 : Int) (f9 : Bool) (f10 : Int) (f11 : Int) (f12 : Int) (f13 : Bool) (f14 : Int) (f15 : Int) (f16 : Int) (f17 : Int) : Prop := f16 = s ∧ ((s = 1 ∧ f17 = 0 ∧ 1 ≤ f0 ∧ res = (f0, f1, f2, f3, at_, 0)) ∨ (s = 2 ∧ (f17 = 2 ∨ f17 = 3 ∨ f17 = 4) ∧ res = (0, 0, 0, 0, at_, f17)))
theorem done_put (s at_ : Int) (res : HRes) (f0 : Int) (f1 : Int) (f2 : Int) (f3 : Int) (f4 : Int) (f5 : Int) (f6 : Int) (f7 : Int) (f8 : Int) (f9 : Bool) (f10 : Int) (f11 : Int) (f12 : Int) (f13 : Bool) (f14 : Int) (f15 : Int) (f16 : Int) (f17 : Int) (c : Int) (h : Done s at_ res f0 f1 f2 f3 f4 f5 f6 f7 f8 f9 f10 f11 f12 f13 f14 f15 f16 f17) : head_Reader_Put.f f0 f1 f2 f3 f4 f5 f6 f7 f8 f9 f10 f11 f12 f13 f14 f15 f16 f17 c = some (s, f0, f1, f2, f3, f4, f5, f6, f7, f8, f9, f10, f11, f12, f13, f14, f15, f16, f17) := by
  obtain ⟨rfl, h⟩ := h
  unfold head_Reader_Put.f
  rw [if_neg (by omega)]
theorem going_nil (at_ : Int) (res : HRes) (f0 : Int) (f1 : Int) (f2 : Int) (f3 : Int) (f4 : Int) (f5 : Int) (f6 : Int) (f7 : Int) (f8 : Int) (f9 : Bool) (f10 : Int) (f11 : Int) (f12 : Int) (f13 : Bool) (f14 : Int) (f15 : Int) (f16 : Int) (f17 : Int) (h : Going [] at_ res f0 f1 f2 f3 f4 f5 f6 f7 f8 f9 f10 f11 f12 f13 f14 f15 f16 f17) : res = (0, 0, 0, 0, at_, 6) ∧ f16 = 0 ∧ f17 = 9 := by
  obtain ⟨h16, h17, _, ⟨_, _, _, _, rfl, rfl⟩ | ⟨_, _, _, _, rfl, rfl⟩ | ⟨_, _, _, _, rfl, _, rfl⟩ | ⟨_, _, _, _, _, _, a, _, _, _, _, rfl⟩⟩ := h
  all_goals exact ⟨rfl, h16, h17⟩
set_option maxHeartbeats 2000000 in
theorem going_put (c : Int) (r : List Int) (at_ : Int) (res : HRes) (f0 : Int) (f1 : Int) (f2 : Int) (f3 : Int) (f4 : Int) (f5 : Int) (f6 : Int) (f7 : Int) (f8 : Int) (f9 : Bool) (f10 : Int) (f11 : Int) (f12 : Int) (f13 : Bool) (f14 : Int) (f15 : Int) (f16 : Int) (f17 : Int) (h : Going (c :: r) at_ res f0 f1 f2 f3 f4 f5 f6 f7 f8 f9 f10 f11 f12 f13 f14 f15 f16 f17) (h0 : 0 ≤ c) (h1 : c ≤ 255) : ∃ (s : Int) (r0 : Int) (r1 : Int) (r2 : Int) (r3 : Int) (r4 : Int) (r5 : Int) (r6 : Int) (r7 : Int) (r8 : Int) (r9 : Bool) (r10 : Int) (r11 : Int) (r12 : Int) (r13 : Bool) (r14 : Int) (r15 : Int) (r16 : Int) (r17 : Int), head_Reader_Put.f f0 f1 f2 f3 f4 f5 f6 f7 f8 f9 f10 f11 f12 f13 f14 f15 f16 f17 c = some (s, r0, r1, r2, r3, r4, r5, r6, r7, r8, r9, r10, r11, r12, r13, r14, r15, r16, r17) ∧ ((s = 0 ∧ Going r (at_ + 1) res r0 r1 r2 r3 r4 r5 r6 r7 r8 r9 r10 r11 r12 r13 r14 r15 r16 r17) ∨ (s ≠ 0 ∧ Done s (at_ + 1) res r0 r1 r2 r3 r4 r5 r6 r7 r8 r9 r10 r11 r12 r13 r14 r15 r16 r17)) := by
  obtain ⟨rfl, rfl, hl, h⟩ := h
  rcases h with ⟨rfl, rfl, rfl, rfl, rfl, rfl⟩ | ⟨rfl, rfl, rfl, rfl, rfl, rfl⟩ | ⟨rfl, rfl, rfl, rfl, rfl, hk, rfl⟩ | ⟨rfl, rfl, hk, hi, rfl, rfl, a, ha, hR, hO, rfl, rfl⟩
  · have e := hput0 f0 0 0 f3 f4 f5 f6 0 0 f9 f10 f11 f12 f13 f14 f15 0 9 c
    by_cases h : c = 80
    · rw [if_neg (by simpa using h)] at e
      exact ⟨_, _, _, _, _, _, _, _, _, _, _, _, _, _, _, _, _, _, _, e, .inl ⟨rfl, rfl, rfl, hl, .inr (.inl ⟨rfl, rfl, rfl, rfl, rfl, by rw [parS, if_neg (by simpa using h)]⟩)⟩⟩
    · rw [if_pos h] at e
      exact ⟨_, _, _, _, _, _, _, _, _, _, _, _, _, _, _, _, _, _, _, e, .inr ⟨by decide, rfl, .inr ⟨rfl, .inl rfl, by rw [parS, if_pos h]; rfl⟩⟩⟩
  · have e := hput1 f0 0 0 f3 f4 f5 f6 1 0 f9 f10 f11 f12 f13 f14 f15 0 9 c
    by_cases h : c < 49 ∨ c > 54
    · rw [if_pos h] at e
      exact ⟨_, _, _, _, _, _, _, _, _, _, _, _, _, _, _, _, _, _, _, e, .inr ⟨by decide, rfl, .inr ⟨rfl, .inl rfl, by rw [parS1, if_pos h]; rfl⟩⟩⟩
    · rw [if_neg h] at e
      exact ⟨_, _, _, _, _, _, _, _, _, _, _, _, _, _, _, _, _, _, _, e, .inl ⟨rfl, rfl, rfl, hl, .inr (.inr (.inl ⟨rfl, rfl, rfl, rfl, rfl, by omega, by rw [parS1, if_neg h]⟩))⟩⟩
  · by_cases hb : ¬ blankP c ∧ c ≠ 35
    · exact ⟨_, _, _, _, _, _, _, _, _, _, _, _, _, _, _, _, _, _, _, hput2_bad f0 0 0 f3 f4 f5 f6 2 0 f9 f10 f11 f12 f13 f14 f15 0 9 c h0 h1 hb, .inr ⟨by decide, rfl, .inr ⟨rfl, .inr (.inl rfl), by rw [parS2, if_pos hb]; rfl⟩⟩⟩
    · have hb' : blankP c ∨ c = 35 := by
        rcases Classical.em (blankP c) with h | h
        · exact .inl h
        · exact .inr (Classical.byContradiction fun h2 => hb ⟨h, h2⟩)
      have e0 : mostI f4 f5 f6 0 = f4 := if_pos rfl
      have l0 := hl.1
      have hO : tkOk 0 0 f4 9 := new_ok f4 (by omega)
      obtain ⟨md, E, hR⟩ := put_is 0 0 f4 9 c 0 0 false (.inl ⟨rfl, rfl, by omega, by omega⟩) (fun _ => rfl) (fun h => absurd h.1 (by decide)) (by omega) (by omega) (by omega) h0 h1
      have hT := told3 0 0 f4 9 c hO (by omega)
      have hO2 := tkS_ok 0 0 f4 9 c hO
      have hS : (tkS 0 0 f4 9 c).2.2.2 = 0 := by
        unfold tkS
        rw [if_neg (by decide), if_neg (by decide), if_neg (by decide), if_neg (by decide)]
        by_cases h : c = 35
        · rw [if_pos h]
        · rw [if_neg h, if_pos (hb'.resolve_right h), if_pos rfl]
      have e := hput2 f0 0 0 f3 f4 f5 f6 2 0 f9 f10 f11 f12 f13 f14 f15 0 9 c _ _ _ _ _ h0 h1 hb' E
      have hres : parS2 f4 f5 f6 f0 (c :: r) = numS f0 f4 f5 f6 r (2 + 1) 0 (tkS 0 0 f4 9 c).1 (tkS 0 0 f4 9 c).2.1 (tkS 0 0 f4 9 c).2.2.1 0 0 := by
        rw [parS2, if_neg hb, numS, e0, if_pos hS]
      rw [hS] at e hR
      refine ⟨_, _, _, _, _, _, _, _, _, _, _, _, _, _, _, _, _, _, _, e, .inl ⟨rfl, rfl, rfl, hl, .inr (.inr (.inr ⟨rfl, rfl, hk, .inl rfl, rfl, e0.symm, (tkS 0 0 f4 9 c).1, by omega, hR, hO2, ?_, hres⟩))⟩⟩
      rw [Bool.false_or]
      exact decide_eq_decide.2 (by omega)
  · have hm := mostI_ok hl f8
    obtain ⟨⟨a0, a5⟩, hn, hnm, he⟩ := hO
    obtain ⟨md, E, hR'⟩ := put_is a f12 (mostI f4 f5 f6 f8) f15 c f10 0 (decide (2 ≤ a)) hR (fun h => decide_eq_false (by omega)) (fun h => decide_eq_true h.1) hn hnm (by omega) h0 h1
    have hO : tkOk a f12 (mostI f4 f5 f6 f8) f15 := ⟨⟨a0, a5⟩, hn, hnm, he⟩
    have hT := told3 a f12 (mostI f4 f5 f6 f8) f15 c hO ha
    have hO2 := tkS_ok a f12 (mostI f4 f5 f6 f8) f15 c hO
    rw [numS]
    have hbb : (decide (2 ≤ a) || decide (2 ≤ (tkS a f12 (mostI f4 f5 f6 f8) f15 c).1 ∧ (tkS a f12 (mostI f4 f5 f6 f8) f15 c).1 ≤ 4)) = decide (2 ≤ (tkS a f12 (mostI f4 f5 f6 f8) f15 c).1) ∨ (tkS a f12 (mostI f4 f5 f6 f8) f15 c).2.2.2 ≠ 0 := by
      rcases hT with h | h | h
      · exact .inr (by omega)
      · exact .inr (by omega)
      · left
        rw [Bool.eq_iff_iff, Bool.or_eq_true, decide_eq_true_iff, decide_eq_true_iff, decide_eq_true_iff]
        omega
    generalize hmo : mostI f4 f5 f6 f8 = mo at *
    generalize tkS a f12 mo f15 c = t at *
    by_cases s0 : t.2.2.2 = 0
    · rw [if_pos s0]
      have e := hN_more f0 f1 f2 f3 f4 f5 f6 3 f8 true f10 mo f12 (decide (2 ≤ a)) 0 f15 0 9 _ md _ _ _ c E s0
      rw [hbb.resolve_right (by omega)] at e
      rw [s0] at e hR'
      exact ⟨_, _, _, _, _, _, _, _, _, _, _, _, _, _, _, _, _, _, _, e, .inl ⟨rfl, rfl, rfl, hl, .inr (.inr (.inr ⟨rfl, rfl, hk, hi, rfl, hmo.symm, t.1, by omega, hR', hO2, rfl, rfl⟩))⟩⟩
    · rw [if_neg s0]
      by_cases s2 : t.2.2.2 = 2
      · rw [if_pos s2]
        obtain ⟨_, _, _, hee⟩ := hO2
        have e := hN_err f0 f1 f2 f3 f4 f5 f6 3 f8 true f10 mo f12 (decide (2 ≤ a)) 0 f15 0 9 _ md _ _ _ c E s2 (by omega)
        exact ⟨_, _, _, _, _, _, _, _, _, _, _, _, _, _, _, _, _, _, _, e, .inr ⟨by decide, rfl, .inr ⟨rfl, by omega, rfl⟩⟩⟩
      · rw [if_neg s2]
        have s1 : t.2.2.2 = 1 := by omega
        by_cases n0 : t.2.1 = 0
        · rw [if_pos n0]
          have e := hN_zero f0 f1 f2 f3 f4 f5 f6 3 f8 true f10 mo f12 (decide (2 ≤ a)) 0 f15 0 9 _ md _ _ _ c E s1 n0
          exact ⟨_, _, _, _, _, _, _, _, _, _, _, _, _, _, _, _, _, _, _, e, .inr ⟨by decide, rfl, .inr ⟨rfl, .inr (.inr rfl), rfl⟩⟩⟩
        · rw [if_neg n0]
          have l1 := hl.2.1
          have l2 := hl.2.2
          rcases hi with rfl | rfl | rfl
          · rw [if_pos rfl]
            have e := hN_w f0 f1 f2 f3 f4 f5 f6 3 0 true f10 mo f12 (decide (2 ≤ a)) 0 f15 0 9 _ md _ _ _ c E s1 n0
            exact ⟨_, _, _, _, _, _, _, _, _, _, _, _, _, _, _, _, _, _, _, e, .inl ⟨rfl, rfl, rfl, hl, .inr (.inr (.inr ⟨rfl, rfl, hk, .inr (.inl rfl), rfl, rfl, 0, by omega, .inl ⟨rfl, rfl, by omega, by omega⟩, new_ok f5 (by omega), rfl, rfl⟩))⟩⟩
          · rw [if_neg (by decide), if_pos rfl]
            by_cases hbt : f0 = 1 ∨ f0 = 4
            · rw [if_pos hbt]
              have e := hN_hb f0 f1 f2 f3 f4 f5 f6 3 1 true f10 mo f12 (decide (2 ≤ a)) 0 f15 0 9 _ md _ _ _ c E s1 n0 hbt
              exact ⟨_, _, _, _, _, _, _, _, _, _, _, _, _, _, _, _, _, _, _, e, .inr ⟨by decide, rfl, .inl ⟨rfl, rfl, hk.1, rfl⟩⟩⟩
            · rw [if_neg hbt]
              have e := hN_h f0 f1 f2 f3 f4 f5 f6 3 1 true f10 mo f12 (decide (2 ≤ a)) 0 f15 0 9 _ md _ _ _ c E s1 n0 hbt
              exact ⟨_, _, _, _, _, _, _, _, _, _, _, _, _, _, _, _, _, _, _, e, .inl ⟨rfl, rfl, rfl, hl, .inr (.inr (.inr ⟨rfl, rfl, hk, .inr (.inr rfl), rfl, rfl, 0, by omega, .inl ⟨rfl, rfl, by omega, by omega⟩, new_ok f6 (by omega), rfl, rfl⟩))⟩⟩
          · rw [if_neg (by decide), if_neg (by decide)]
            have e := hN_m f0 f1 f2 f3 f4 f5 f6 3 2 true f10 mo f12 (decide (2 ≤ a)) 0 f15 0 9 _ md _ _ _ c E s1 n0
            exact ⟨_, _, _, _, _, _, _, _, _, _, _, _, _, _, _, _, _, _, _, e, .inr ⟨by decide, rfl, .inl ⟨rfl, rfl, hk.1, rfl⟩⟩⟩
theorem going_new (l0 l1 l2 : Int) (L : List Int) : ∃ (f0 : Int) (f1 : Int) (f2 : Int) (f3 : Int) (f4 : Int) (f5 : Int) (f6 : Int) (f7 : Int) (f8 : Int) (f9 : Bool) (f10 : Int) (f11 : Int) (f12 : Int) (f13 : Bool) (f14 : Int) (f15 : Int) (f16 : Int) (f17 : Int), head_New.f l0 l1 l2 = some (f0, f1, f2, f3, f4, f5, f6, f7, f8, f9, f10, f11, f12, f13, f14, f15, f16, f17) ∧ Going L 0 (parS (mn (mx l0 1) 4096) (mn (mx l1 1) 65536) (mn (mx l2 1) 65535) L) f0 f1 f2 f3 f4 f5 f6 f7 f8 f9 f10 f11 f12 f13 f14 f15 f16 f17 := by
  have a0 := cut_ok l0 4096 (by decide)
  have a1 := cut_ok l1 65536 (by decide)
  have a2 := cut_ok l2 65535 (by decide)
  exact ⟨_, _, _, _, _, _, _, _, _, _, _, _, _, _, _, _, _, _, rfl, rfl, rfl, ⟨⟨a0.1, by have := a0.2; show mn (mx l0 1) 4096 ≤ 65536; omega⟩, a1, ⟨a2.1, by have := a2.2; show mn (mx l2 1) 65535 ≤ 65536; omega⟩⟩, .inl ⟨rfl, rfl, rfl, rfl, rfl, rfl⟩⟩
/-- What Parse hands back. -/
def parP (r : HRes) : HRes := if r.2.2.2.2.2 = 0 then r else (0, 0, 0, 0, 0, r.2.2.2.2.2)
theorem parse_loop : ∀ (suf pre : List Int) (K : Nat) (res : HRes) (f0 : Int) (f1 : Int) (f2 : Int) (f3 : Int) (f4 : Int) (f5 : Int) (f6 : Int) (f7 : Int) (f8 : Int) (f9 : Bool) (f10 : Int) (f11 : Int) (f12 : Int) (f13 : Bool) (f14 : Int) (f15 : Int) (f16 : Int) (f17 : Int), byteL (pre ++ suf) → (pre ++ suf).length ≤ 1000000 → suf.length < K → Going suf (pre.length : Int) res f0 f1 f2 f3 f4 f5 f6 f7 f8 f9 f10 f11 f12 f13 f14 f15 f16 f17 → head_Parse.l0 K (strOfNums (pre ++ suf)) ((pre ++ suf).length : Int) (pre.length : Int) f0 f1 f2 f3 f4 f5 f6 f7 f8 f9 f10 f11 f12 f13 f14 f15 f16 f17 = some (parP res) := by
  intro suf
  induction suf with
  | nil =>
    intro pre K res f0 f1 f2 f3 f4 f5 f6 f7 f8 f9 f10 f11 f12 f13 f14 f15 f16 f17 hb hl hK hG
    obtain ⟨K, rfl⟩ : ∃ q, K = q + 1 := ⟨K - 1, by omega⟩
    obtain ⟨rfl, _, _⟩ := going_nil _ _ f0 f1 f2 f3 f4 f5 f6 f7 f8 f9 f10 f11 f12 f13 f14 f15 f16 f17 hG
    rw [head_Parse.l0, if_neg (by simp)]
    rfl
  | cons c r ih =>
    intro pre K res f0 f1 f2 f3 f4 f5 f6 f7 f8 f9 f10 f11 f12 f13 f14 f15 f16 f17 hb hl hK hG
    obtain ⟨K, rfl⟩ : ∃ q, K = q + 1 := ⟨K - 1, by omega⟩
    have hc : 0 ≤ c ∧ c ≤ 255 := hb c (List.mem_append_right _ (List.mem_cons_self ..))
    have hlr : (pre ++ c :: r).length = pre.length + (r.length + 1) := by simp
    have e2 : pre ++ c :: r = (pre ++ [c]) ++ r := by simp
    have hl1 : (pre ++ [c]).length = pre.length + 1 := by simp
    have hi : wrap64 ((pre.length : Int) + 1) = ((pre ++ [c]).length : Int) := by rw [hl1]; unfold wrap64; omega
    obtain ⟨s, r0, r1, r2, r3, r4, r5, r6, r7, r8, r9, r10, r11, r12, r13, r14, r15, r16, r17, e, h⟩ := going_put c r (pre.length : Int) res f0 f1 f2 f3 f4 f5 f6 f7 f8 f9 f10 f11 f12 f13 f14 f15 f16 f17 hG hc.1 hc.2
    rw [head_Parse.l0, if_pos (by omega), if_pos (by omega), if_pos (by rw [strOfNums_size]; omega), bt_mid pre r c hb, e, Option.bind_some]
    dsimp only
    rcases h with ⟨rfl, h⟩ | ⟨h0, h⟩
    · rw [if_pos rfl, hi, e2]
      rw [show ((pre.length : Int) + 1) = ((pre ++ [c]).length : Int) from by rw [hl1]; omega] at h
      exact ih (pre ++ [c]) K res r0 r1 r2 r3 r4 r5 r6 r7 r8 r9 r10 r11 r12 r13 r14 r15 r16 r17 (e2 ▸ hb) (e2 ▸ hl) (by rw [List.length_cons] at hK; omega) h
    · rw [if_neg h0]
      unfold head_Reader_Head.f
      obtain ⟨rfl, ⟨rfl, rfl, hk, rfl⟩ | ⟨rfl, h17, rfl⟩⟩ := h
      · rw [if_pos rfl, Option.bind_some]
        dsimp only
        have hz : (r0 == 0) = false := beq_eq_false_iff_ne.2 (by omega)
        rw [hz, Bool.false_and, if_neg (by decide)]
        unfold parP
        rw [if_pos rfl, hi, hl1]
        simp only [Option.some.injEq, Prod.mk.injEq, true_and, and_true]
        omega
      · rw [if_neg (by omega), Option.bind_some]
        dsimp only
        rw [if_pos (by decide)]
        unfold parP
        rw [if_neg (by dsimp only; omega)]
theorem parse_is (L : List Int) (hb : byteL L) (hl : L.length ≤ 1000000) (l0 l1 l2 : Int) (K : Nat) (hK : L.length < K) : head_Parse.f K (strOfNums L) l0 l1 l2 = some (parP (parS (mn (mx l0 1) 4096) (mn (mx l1 1) 65536) (mn (mx l2 1) 65535) L)) := by
  obtain ⟨f0, f1, f2, f3, f4, f5, f6, f7, f8, f9, f10, f11, f12, f13, f14, f15, f16, f17, e, hG⟩ := going_new l0 l1 l2 L
  unfold head_Parse.f
  rw [e, Option.bind_some, strOfNums_size]
  exact parse_loop L [] K _ f0 f1 f2 f3 f4 f5 f6 f7 f8 f9 f10 f11 f12 f13 f14 f15 f16 f17 hb hl hK hG
end Go.Proofs.Ytmimfljiighbaaa.Q
/- A head's bytes: both texts answer the same. -/
namespace Go.Proofs.Ytmimfljiighbaaa.Q
open Go.RowKit Go.Proofs.YtmimfljiighbaaaW.PrintWords Go.Proofs.YtmimfljiighbaaaW.PrintLast
set_option linter.unusedVariables false
def MayP (k w h m : Int) : Prop := (1 ≤ k ∧ k ≤ 6) ∧ (1 ≤ w ∧ w ≤ 4096) ∧ (1 ≤ h ∧ h ≤ 65536) ∧ (1 ≤ m ∧ m ≤ 65535) ∧ (¬ (k = 1 ∨ k = 4) ∨ m = 1)
instance (k w h m : Int) : Decidable (MayP k w h m) := by unfold MayP; exact inferInstance
theorem bits_is (k : Int) : chequerref06_bits.f k = some (decide (k = 1 ∨ k = 4)) := by
  unfold chequerref06_bits.f
  by_cases h : k = 1
  · rw [if_pos h, decide_eq_true (.inl h)]
  · rw [if_neg h]
    by_cases h4 : k = 4
    · rw [decide_eq_true (.inr h4), beq_iff_eq.2 h4]
    · rw [decide_eq_false (by omega), beq_eq_false_iff_ne.2 h4]
theorem refmay_is (k w h m : Int) : chequerref06_May.f k w h m = some (decide (MayP k w h m)) := by
  unfold chequerref06_May.f
  by_cases h1 : k < 1
  · rw [if_pos h1, decide_eq_false (by unfold MayP; omega)]
  rw [if_neg h1]
  by_cases h2 : k > 6
  · rw [if_pos h2, decide_eq_false (by unfold MayP; omega)]
  rw [if_neg h2]
  by_cases h3 : w < 1
  · rw [if_pos h3, decide_eq_false (by unfold MayP; omega)]
  rw [if_neg h3]
  by_cases h4 : w > 4096
  · rw [if_pos h4, decide_eq_false (by unfold MayP; omega)]
  rw [if_neg h4]
  by_cases h5 : h < 1
  · rw [if_pos h5, decide_eq_false (by unfold MayP; omega)]
  rw [if_neg h5]
  by_cases h6 : h > 65536
  · rw [if_pos h6, decide_eq_false (by unfold MayP; omega)]
  rw [if_neg h6]
  by_cases h7 : m < 1
  · rw [if_pos h7, decide_eq_false (by unfold MayP; omega)]
  rw [if_neg h7]
  by_cases h8 : m > 65535
  · rw [if_pos h8, decide_eq_false (by unfold MayP; omega)]
  rw [if_neg h8]
  by_cases h9 : m = 1
  · rw [if_pos h9, decide_eq_true (by unfold MayP; omega)]
  rw [if_neg h9, bits_is, Option.bind_some]
  by_cases hb : k = 1 ∨ k = 4
  · rw [decide_eq_true hb, decide_eq_false (by unfold MayP; omega)]
    rfl
  · rw [decide_eq_false hb, decide_eq_true (by unfold MayP; omega)]
    rfl
/-- A head's bytes. -/
def wrL (k w h m : Nat) : List Int := if k = 1 ∨ k = 4 then [80] ++ dg k ++ [10] ++ dg w ++ [32] ++ dg h ++ [10] else [80] ++ dg k ++ [10] ++ dg w ++ [32] ++ dg h ++ [10] ++ dg m ++ [10]
theorem c80 : (⟨#[80]⟩ : ByteArray) = strOfNums [80] := rfl
theorem c10 : (⟨#[10]⟩ : ByteArray) = strOfNums [10] := rfl
theorem c32 : (⟨#[32]⟩ : ByteArray) = strOfNums [32] := rfl
theorem small_len (u : Nat) (h : u ≤ 100000) : (dg u).length ≤ 19 := dg_len u (by omega)
theorem refwrite_is (k w h m : Nat) (hM : MayP k w h m) (K : Nat) (hK : 90 ≤ K) : chequerref06_Write.f K k w h m = some (strOfNums (wrL k w h m), 0) := by
  have hM' := hM
  obtain ⟨hk, hw, hh, hm, hb⟩ := hM
  have z1 := small_len k (by omega)
  have z2 := small_len w (by omega)
  have z3 := small_len h (by omega)
  have z4 := small_len m (by omega)
  unfold chequerref06_Write.f
  rw [refmay_is, Option.bind_some, decide_eq_true hM', if_pos rfl, refdg_nat k K (by omega) (by omega) hK, Option.bind_some, refdg_nat w K (by omega) (by omega) hK, Option.bind_some, refdg_nat h K (by omega) (by omega) hK, Option.bind_some, bits_is, Option.bind_some, refdg_nat m K (by omega) (by omega) hK, Option.bind_some]
  simp only [c80, c10, c32, ← strOfNums_cat]
  have q : ∀ n : Nat, n ≤ 200 → n ≤ 9223372036854775807 := fun n h => by omega
  rw [if_pos (by rw [strOfNums_size]; exact q _ (by omega)), if_pos (by rw [strOfNums_size]; simp only [List.length_append, List.length_cons, List.length_nil]; exact q _ (by omega)), if_pos (by rw [strOfNums_size, strOfNums_size]; simp only [List.length_append, List.length_cons, List.length_nil]; exact q _ (by omega)), if_pos (by rw [strOfNums_size]; simp only [List.length_append, List.length_cons, List.length_nil]; exact q _ (by omega)), if_pos (by rw [strOfNums_size, strOfNums_size]; simp only [List.length_append, List.length_cons, List.length_nil]; exact q _ (by omega)), if_pos (by rw [strOfNums_size]; simp only [List.length_append, List.length_cons, List.length_nil]; exact q _ (by omega))]
  unfold wrL
  by_cases hbt : k = 1 ∨ k = 4
  · rw [decide_eq_true (by omega : (k : Int) = 1 ∨ (k : Int) = 4), if_pos rfl, if_pos hbt]
  · rw [decide_eq_false (by omega : ¬ ((k : Int) = 1 ∨ (k : Int) = 4)), if_neg (by decide), if_neg hbt, if_pos (by rw [strOfNums_size, strOfNums_size]; simp only [List.length_append, List.length_cons, List.length_nil]; exact q _ (by omega)), if_pos (by rw [strOfNums_size]; simp only [List.length_append, List.length_cons, List.length_nil]; exact q _ (by omega))]
theorem refwrite_not (k w h m : Int) (K : Nat) (hM : ¬ MayP k w h m) : chequerref06_Write.f K k w h m = some ((⟨#[]⟩ : ByteArray), 1) := by
  unfold chequerref06_Write.f
  rw [refmay_is, Option.bind_some, decide_eq_false hM, if_neg (by decide)]
theorem may_nat (k w h m : Int) (hM : MayP k w h m) : ∃ a b c d : Nat, k = (a : Int) ∧ w = (b : Int) ∧ h = (c : Int) ∧ m = (d : Int) := by
  obtain ⟨hk, hw, hh, hm, hb⟩ := hM
  exact ⟨k.toNat, w.toNat, h.toNat, m.toNat, by omega, by omega, by omega, by omega⟩
theorem ok_may {k w h m : Int} (ho : HdOk k w h m) : MayP k w h m := by
  unfold HdOk at ho
  unfold MayP
  omega
theorem wrL_len (k w h m : Nat) (hM : MayP k w h m) : (wrL k w h m).length ≤ 90 ∧ 0 < (wrL k w h m).length := by
  obtain ⟨hk, hw, hh, hm, hb⟩ := hM
  have z1 := small_len k (by omega)
  have z2 := small_len w (by omega)
  have z3 := small_len h (by omega)
  have z4 := small_len m (by omega)
  unfold wrL
  split <;> simp only [List.length_append, List.length_cons, List.length_nil] <;> omega
theorem wrL_bytes (k w h m : Nat) : byteL (wrL k w h m) := by
  have b1 : ∀ c : Int, 0 ≤ c ∧ c ≤ 255 → byteL [c] := fun c hc x hx => by rw [List.mem_singleton.1 hx]; exact hc
  have bd := fun u => digs_byteL (dg_digs u)
  unfold wrL
  split
  · exact byteL_app (byteL_app (byteL_app (byteL_app (byteL_app (byteL_app (b1 80 (by omega)) (bd k)) (b1 10 (by omega))) (bd w)) (b1 32 (by omega))) (bd h)) (b1 10 (by omega))
  · exact byteL_app (byteL_app (byteL_app (byteL_app (byteL_app (byteL_app (byteL_app (byteL_app (b1 80 (by omega)) (bd k)) (b1 10 (by omega))) (bd w)) (b1 32 (by omega))) (bd h)) (b1 10 (by omega))) (bd m)) (b1 10 (by omega))
end Go.Proofs.Ytmimfljiighbaaa.Q
/- A head's bytes are read as they were. -/
namespace Go.Proofs.Ytmimfljiighbaaa.Q
open Go.RowKit Go.Proofs.YtmimfljiighbaaaW.PrintWords Go.Proofs.YtmimfljiighbaaaW.PrintLast
set_option linter.unusedVariables false
theorem dig3 (a n m c : Int) (ha : a = 0 ∨ a = 2) (hc : 48 ≤ c ∧ c ≤ 57) (hv : 10 * n + (c - 48) ≤ m) : tkS a n m 9 c = (2, 10 * n + (c - 48), 9, 0) := by
  have hs : stepS n c m = (10 * n + (c - 48), 0) := by
    unfold stepS
    rw [if_neg (by omega), if_neg (by omega)]
  have hb : ¬ blankP c := by unfold blankP; omega
  unfold tkS
  rw [if_neg (by omega), if_neg (by omega), if_neg (by omega), if_neg (by omega), if_neg (by omega), if_neg hb, hs, if_pos rfl]
theorem dig3_over (a n m c : Int) (ha : a = 0 ∨ a = 2) (hc : 48 ≤ c ∧ c ≤ 57) (hv : m < 10 * n + (c - 48)) : tkS a n m 9 c = (5, 0, 4, 2) := by
  have hs : stepS n c m = (0, 4) := by
    unfold stepS
    rw [if_neg (by omega), if_pos (by omega)]
  have hb : ¬ blankP c := by unfold blankP; omega
  unfold tkS
  rw [if_neg (by omega), if_neg (by omega), if_neg (by omega), if_neg (by omega), if_neg (by omega), if_neg hb, hs, if_neg (by decide)]
theorem numS_digs (k l0 l1 l2 : Int) : ∀ (suf rest : List Int) (at_ i a n w h : Int), digs suf → (a = 0 ∨ a = 2) → 0 ≤ n → valL n suf ≤ mostI l0 l1 l2 i → suf ≠ [] → numS k l0 l1 l2 (suf ++ rest) at_ i a n 9 w h = numS k l0 l1 l2 rest (at_ + suf.length) i 2 (valL n suf) 9 w h
  | [], _, _, _, _, _, _, _, _, _, _, _, h => absurd rfl h
  | [c], rest, at_, i, a, n, w, h, hd, ha, hn, hv, _ => by
    have hc := hd c (List.mem_cons_self ..)
    rw [List.cons_append, numS, dig3 a n _ c ha hc hv]
    rfl
  | c :: c' :: r, rest, at_, i, a, n, w, h, hd, ha, hn, hv, _ => by
    have hc := hd c (List.mem_cons_self ..)
    have hr : digs (c' :: r) := fun x hx => hd x (List.mem_cons_of_mem _ hx)
    rw [valL] at hv
    have hge := valL_ge (c' :: r) (10 * n + (c - 48)) (by omega) hr
    rw [List.cons_append, numS, dig3 a n _ c ha hc (by omega)]
    dsimp only
    rw [if_pos rfl, numS_digs k l0 l1 l2 (c' :: r) rest (at_ + 1) i 2 (10 * n + (c - 48)) w h hr (.inr rfl) (by omega) hv (by simp), valL, List.length_cons (a := c)]
    congr 1
    push_cast
    omega
theorem numS_over (k l0 l1 l2 : Int) : ∀ (suf rest : List Int) (at_ i a n w h : Int), digs suf → (a = 0 ∨ a = 2) → 0 ≤ n → n ≤ mostI l0 l1 l2 i → mostI l0 l1 l2 i < valL n suf → ∃ x, numS k l0 l1 l2 (suf ++ rest) at_ i a n 9 w h = (0, 0, 0, 0, x, 4)
  | [], _, _, _, _, _, _, _, _, _, _, hn, hv => absurd hv (by rw [valL]; omega)
  | c :: r, rest, at_, i, a, n, w, h, hd, ha, hn, hm, hv => by
    have hc := hd c (List.mem_cons_self ..)
    have hr : digs r := fun x hx => hd x (List.mem_cons_of_mem _ hx)
    rw [valL] at hv
    by_cases ho : mostI l0 l1 l2 i < 10 * n + (c - 48)
    · rw [List.cons_append, numS, dig3_over a n _ c ha hc ho]
      exact ⟨_, rfl⟩
    · obtain ⟨x, hx⟩ := numS_over k l0 l1 l2 r rest (at_ + 1) i 2 (10 * n + (c - 48)) w h hr (.inr rfl) (by omega) (by omega) hv
      rw [List.cons_append, numS, dig3 a n _ c ha hc (by omega)]
      exact ⟨x, hx⟩
def nextS (k l0 l1 l2 : Int) (rest : List Int) (at_ i n w h : Int) : HRes :=
  if i = 0 then numS k l0 l1 l2 rest at_ 1 0 0 9 n h
  else if i = 1 then (if k = 1 ∨ k = 4 then (k, w, n, 1, at_, 0) else numS k l0 l1 l2 rest at_ 2 0 0 9 w n)
  else (k, w, h, n, at_, 0)
theorem numS_told (k l0 l1 l2 c : Int) (rest : List Int) (at_ i a n e w h : Int) (hn : n ≠ 0) (hS : tkS a n (mostI l0 l1 l2 i) e c = (4, n, 0, 1)) : numS k l0 l1 l2 (c :: rest) at_ i a n e w h = nextS k l0 l1 l2 rest (at_ + 1) i n w h := by
  rw [numS, hS]
  dsimp only
  rw [if_neg (by decide), if_neg (by decide), if_neg hn]
  rfl
theorem blank_end (n m c : Int) (hb : blankP c) : tkS 2 n m 9 c = (4, n, 0, 1) := by
  have e35 : ¬ (c = 35) := by unfold blankP at hb; omega
  simp [tkS, hb, e35]
theorem numS_num (k l0 l1 l2 : Int) (u : Nat) (c : Int) (rest : List Int) (at_ i w h : Int) (hb : blankP c) (h1 : 1 ≤ u) (hu : (u : Int) ≤ mostI l0 l1 l2 i) : numS k l0 l1 l2 (dg u ++ c :: rest) at_ i 0 0 9 w h = nextS k l0 l1 l2 rest (at_ + (dg u).length + 1) i u w h := by
  have hne : dg u ≠ [] := fun h => by have := dg_ne u; rw [h] at this; simp at this
  rw [numS_digs k l0 l1 l2 (dg u) (c :: rest) at_ i 0 0 w h (dg_digs u) (.inl rfl) (by omega) (by rw [valL_dg]; exact hu) hne, valL_dg, numS_told k l0 l1 l2 c rest _ i 2 u 9 w h (by omega) (blank_end _ _ _ hb)]
theorem numS_big (k l0 l1 l2 : Int) (u : Nat) (rest : List Int) (at_ i w h : Int) (h0 : 0 ≤ mostI l0 l1 l2 i) (hu : mostI l0 l1 l2 i < (u : Int)) : ∃ x, numS k l0 l1 l2 (dg u ++ rest) at_ i 0 0 9 w h = (0, 0, 0, 0, x, 4) :=
  numS_over k l0 l1 l2 (dg u) rest at_ i 0 0 w h (dg_digs u) (.inl rfl) (by omega) h0 (by rw [valL_dg]; exact hu)
theorem numS_blank (k l0 l1 l2 c : Int) (rest : List Int) (at_ i w h : Int) (hb : blankP c) : numS k l0 l1 l2 (c :: rest) at_ i 0 0 9 w h = numS k l0 l1 l2 rest (at_ + 1) i 0 0 9 w h := by
  have e35 : ¬ (c = 35) := by unfold blankP at hb; omega
  have hS : tkS 0 0 (mostI l0 l1 l2 i) 9 c = (0, 0, 9, 0) := by simp [tkS, hb, e35]
  rw [numS, hS]
  rfl
theorem dg_one (k : Nat) (h : k < 10) : dg k = [((48 + k : Nat) : Int)] := by
  unfold dg
  rw [dgR_small k h]
  rfl
def tailL (k m : Nat) (rest : List Int) : List Int := if k = 1 ∨ k = 4 then rest else dg m ++ 10 :: rest
theorem par_start (l0 l1 l2 : Int) (k w h m : Nat) (rest : List Int) (hk : 1 ≤ k ∧ k ≤ 6) : parS l0 l1 l2 (wrL k w h m ++ rest) = numS k l0 l1 l2 (dg w ++ 32 :: (dg h ++ 10 :: tailL k m rest)) 3 0 0 0 9 0 0 := by
  have e : wrL k w h m ++ rest = 80 :: ((48 + k : Nat) : Int) :: 10 :: (dg w ++ 32 :: (dg h ++ 10 :: tailL k m rest)) := by
    unfold wrL tailL
    rw [dg_one k (by omega)]
    split <;> simp
  have b10 : blankP 10 := .inr (by omega)
  rw [e, parS, if_neg (by decide), parS1, if_neg (by omega), parS2, if_neg (fun h => h.1 b10), numS_blank _ _ _ _ _ _ _ _ _ _ b10]
  congr 1
  omega
theorem par_fits (l0 l1 l2 : Int) (k w h m : Nat) (rest : List Int) (hM : MayP k w h m) (f0 : (w : Int) ≤ l0) (f1 : (h : Int) ≤ l1) (f2 : (m : Int) ≤ l2 ∨ k = 1 ∨ k = 4) : parS l0 l1 l2 (wrL k w h m ++ rest) = ((k : Int), (w : Int), (h : Int), (m : Int), ((wrL k w h m).length : Int), 0) := by
  obtain ⟨hk, hw, hh, hm, hb⟩ := hM
  have b10 : blankP 10 := .inr (by omega)
  have b32 : blankP 32 := .inl rfl
  rw [par_start l0 l1 l2 k w h m rest (by omega), numS_num (k : Int) l0 l1 l2 w 32 _ _ 0 _ _ b32 (by omega) f0]
  unfold nextS
  rw [if_pos rfl, numS_num (k : Int) l0 l1 l2 h 10 _ _ 1 _ _ b10 (by omega) f1]
  unfold nextS
  rw [if_neg (by decide), if_pos rfl]
  by_cases hbt : (k : Int) = 1 ∨ (k : Int) = 4
  · rw [if_pos hbt]
    have m1 : (m : Int) = 1 := hb.resolve_left (fun h => h hbt)
    unfold wrL
    rw [if_pos (by omega), dg_one k (by omega), m1]
    simp only [List.length_append, List.length_cons, List.length_nil, Prod.mk.injEq, true_and, and_true]
    omega
  · rw [if_neg hbt]
    unfold tailL
    rw [if_neg (by omega), numS_num (k : Int) l0 l1 l2 m 10 _ _ 2 _ _ b10 (by omega) (f2.resolve_right (by omega))]
    unfold nextS
    rw [if_neg (by decide), if_neg (by decide)]
    unfold wrL
    rw [if_neg (by omega), dg_one k (by omega)]
    simp only [List.length_append, List.length_cons, List.length_nil, Prod.mk.injEq, true_and, and_true]
    omega
theorem par_wide (l0 l1 l2 : Int) (k w h m : Nat) (rest : List Int) (hk : 1 ≤ k ∧ k ≤ 6) (f0 : 0 ≤ l0 ∧ l0 < (w : Int)) : ∃ x, parS l0 l1 l2 (wrL k w h m ++ rest) = (0, 0, 0, 0, x, 4) := by
  rw [par_start l0 l1 l2 k w h m rest hk]
  exact numS_big (k : Int) l0 l1 l2 w _ _ 0 _ _ f0.1 f0.2
theorem par_high (l0 l1 l2 : Int) (k w h m : Nat) (rest : List Int) (hM : MayP k w h m) (f0 : (w : Int) ≤ l0) (f1 : 0 ≤ l1 ∧ l1 < (h : Int)) : ∃ x, parS l0 l1 l2 (wrL k w h m ++ rest) = (0, 0, 0, 0, x, 4) := by
  obtain ⟨hk, hw, hh, hm, hb⟩ := hM
  rw [par_start l0 l1 l2 k w h m rest (by omega), numS_num (k : Int) l0 l1 l2 w 32 _ _ 0 _ _ (.inl rfl) (by omega) f0]
  unfold nextS
  rw [if_pos rfl]
  exact numS_big (k : Int) l0 l1 l2 h _ _ 1 _ _ f1.1 f1.2
theorem par_deep (l0 l1 l2 : Int) (k w h m : Nat) (rest : List Int) (hM : MayP k w h m) (f0 : (w : Int) ≤ l0) (f1 : (h : Int) ≤ l1) (hbt : ¬ (k = 1 ∨ k = 4)) (f2 : 0 ≤ l2 ∧ l2 < (m : Int)) : ∃ x, parS l0 l1 l2 (wrL k w h m ++ rest) = (0, 0, 0, 0, x, 4) := by
  obtain ⟨hk, hw, hh, hm, hb⟩ := hM
  rw [par_start l0 l1 l2 k w h m rest (by omega), numS_num (k : Int) l0 l1 l2 w 32 _ _ 0 _ _ (.inl rfl) (by omega) f0]
  unfold nextS
  rw [if_pos rfl, numS_num (k : Int) l0 l1 l2 h 10 _ _ 1 _ _ (.inr (by omega)) (by omega) f1]
  unfold nextS
  rw [if_neg (by decide), if_pos rfl, if_neg (by omega)]
  unfold tailL
  rw [if_neg hbt]
  exact numS_big (k : Int) l0 l1 l2 m _ _ 2 _ _ f2.1 f2.2
end Go.Proofs.Ytmimfljiighbaaa.Q
/- The document's example of layer 6. -/
namespace Go.Proofs.Ytmimfljiighbaaa.Q
open Go.RowKit Go.Proofs.YtmimfljiighbaaaW.PrintWords Go.Proofs.YtmimfljiighbaaaW.PrintLast
theorem lives06 : chequerlaw06_lives.f 40 = some true := by decide +kernel
theorem lives_more (k : Nat) (hk : 40 ≤ k) : chequerlaw06_lives.f k = some true := by
  obtain ⟨d, rfl⟩ := Nat.exists_eq_add_of_le hk
  clear hk
  induction d with
  | zero => exact lives06
  | succ d ih => exact chequerlaw06_lives.mono (40 + d) _ ih
end Go.Proofs.Ytmimfljiighbaaa.Q
/- Blanks and remarks between a head's numbers change nothing of it: for any head, any blank, any text in remarks. No condition. -/
namespace Go.Proofs.Ytmimfljiighbaaa.Pure
open Go.RowKit Go.Proofs.Ytmimfljiighbaaa.Q Go.Proofs.YtmimfljiighbaaaW.PrintWords Go.Proofs.YtmimfljiighbaaaW.PrintLast
set_option linter.unusedVariables false
theorem c13 : (⟨#[13]⟩ : ByteArray) = strOfNums [13] := rfl
theorem c35 : (⟨#[35]⟩ : ByteArray) = strOfNums [35] := rfl
theorem blank_of : ∀ z : Fin 6, blankP (rd [9, 10, 11, 12, 13, 32] ((z : Nat) : Int)) ∧ 0 ≤ rd [9, 10, 11, 12, 13, 32] ((z : Nat) : Int) ∧ rd [9, 10, 11, 12, 13, 32] ((z : Nat) : Int) ≤ 255 := by decide +kernel
def remOk (O : List Int) : Prop := ∀ x ∈ O, x ≠ 10 ∧ x ≠ 13
theorem numS_in (k l0 l1 l2 e : Int) (he : e = 10 ∨ e = 13) : ∀ (O rest : List Int) (at_ i w h : Int), remOk O → numS k l0 l1 l2 (O ++ e :: rest) at_ i 1 0 9 w h = numS k l0 l1 l2 rest (at_ + O.length + 1) i 0 0 9 w h := by
  intro O
  induction O with
  | nil =>
    intro rest at_ i w h _
    have hS : tkS 1 0 (mostI l0 l1 l2 i) 9 e = (0, 0, 9, 0) := by simp [tkS, he]
    rw [List.nil_append, numS, hS, if_pos rfl]
    simp
  | cons c r ih =>
    intro rest at_ i w h hO
    have hc := hO c (List.mem_cons_self ..)
    have hn : ¬ (c = 10 ∨ c = 13) := by omega
    have hS : tkS 1 0 (mostI l0 l1 l2 i) 9 c = (1, 0, 9, 0) := by simp [tkS, hn]
    rw [List.cons_append, numS, hS, if_pos rfl]
    dsimp only
    rw [ih rest (at_ + 1) i w h (fun x hx => hO x (List.mem_cons_of_mem _ hx)), List.length_cons]
    congr 1
    push_cast
    omega
theorem numS_remark (k l0 l1 l2 e : Int) (he : e = 10 ∨ e = 13) (O rest : List Int) (at_ i w h : Int) (hO : remOk O) : numS k l0 l1 l2 (35 :: (O ++ e :: rest)) at_ i 0 0 9 w h = numS k l0 l1 l2 rest (at_ + O.length + 2) i 0 0 9 w h := by
  have hS : tkS 0 0 (mostI l0 l1 l2 i) 9 35 = (1, 0, 9, 0) := by simp [tkS]
  rw [numS, hS, if_pos rfl]
  dsimp only
  rw [numS_in k l0 l1 l2 e he O rest (at_ + 1) i w h hO]
  congr 1
  omega
theorem numS_out (k l0 l1 l2 e n : Int) (hn0 : n ≠ 0) (he : e = 10 ∨ e = 13) : ∀ (O rest : List Int) (at_ i w h : Int), remOk O → numS k l0 l1 l2 (O ++ e :: rest) at_ i 3 n 9 w h = nextS k l0 l1 l2 rest (at_ + O.length + 1) i n w h := by
  intro O
  induction O with
  | nil =>
    intro rest at_ i w h _
    have hS : tkS 3 n (mostI l0 l1 l2 i) 9 e = (4, n, 0, 1) := by simp [tkS, he]
    rw [List.nil_append, numS_told k l0 l1 l2 e rest at_ i 3 n 9 w h hn0 hS]
    simp
  | cons c r ih =>
    intro rest at_ i w h hO
    have hc := hO c (List.mem_cons_self ..)
    have hn : ¬ (c = 10 ∨ c = 13) := by omega
    have hS : tkS 3 n (mostI l0 l1 l2 i) 9 c = (3, n, 9, 0) := by simp [tkS, hn]
    rw [List.cons_append, numS, hS, if_pos rfl]
    dsimp only
    rw [ih rest (at_ + 1) i w h (fun x hx => hO x (List.mem_cons_of_mem _ hx)), List.length_cons]
    congr 1
    push_cast
    omega
theorem numS_remend (k l0 l1 l2 e n : Int) (hn0 : n ≠ 0) (he : e = 10 ∨ e = 13) (O rest : List Int) (at_ i w h : Int) (hO : remOk O) : numS k l0 l1 l2 (35 :: (O ++ e :: rest)) at_ i 2 n 9 w h = nextS k l0 l1 l2 rest (at_ + O.length + 2) i n w h := by
  have hS : tkS 2 n (mostI l0 l1 l2 i) 9 35 = (3, n, 9, 0) := by simp [tkS]
  rw [numS, hS, if_pos rfl]
  dsimp only
  rw [numS_out k l0 l1 l2 e n hn0 he O rest (at_ + 1) i w h hO]
  congr 1
  omega
def remT (k w h m : Nat) (O : List Int) (c : Int) : List Int := 80 :: ((48 + k : Nat) : Int) :: 35 :: (O ++ 10 :: c :: (dg w ++ c :: 35 :: (O ++ 13 :: c :: (dg h ++ (if k = 1 ∨ k = 4 then [c] else 35 :: (O ++ 10 :: c :: (dg m ++ [c])))))))
theorem rem_par (k w h m : Nat) (O : List Int) (c : Int) (hM : MayP k w h m) (hO : remOk O) (hc : blankP c) : parS 4096 65536 65535 (remT k w h m O c) = ((k : Int), (w : Int), (h : Int), (m : Int), ((remT k w h m O c).length : Int), 0) := by
  obtain ⟨hk, hw, hh, hm, hb⟩ := hM
  have e10 : (10 : Int) = 10 ∨ (10 : Int) = 13 := .inl rfl
  have e13 : (13 : Int) = 10 ∨ (13 : Int) = 13 := .inr rfl
  have m0 : mostI 4096 65536 65535 0 = 4096 := rfl
  have m1 : mostI 4096 65536 65535 1 = 65536 := rfl
  have m2 : mostI 4096 65536 65535 2 = 65535 := rfl
  have ek : ((48 + k : Nat) : Int) - 48 = (k : Int) := by omega
  unfold remT
  rw [parS, if_neg (by decide), parS1, if_neg (by omega), parS2, if_neg (fun h => h.2 rfl), ek, numS_remark _ _ _ _ 10 e10 O _ _ _ _ _ hO, numS_blank _ _ _ _ c _ _ _ _ _ hc, numS_num (k : Int) 4096 65536 65535 w c _ _ 0 _ _ hc (by omega) (by omega)]
  unfold nextS
  rw [if_pos rfl, numS_remark _ _ _ _ 13 e13 O _ _ _ _ _ hO, numS_blank _ _ _ _ c _ _ _ _ _ hc]
  by_cases hbt : k = 1 ∨ k = 4
  · rw [if_pos hbt, numS_num (k : Int) 4096 65536 65535 h c _ _ 1 _ _ hc (by omega) (by omega)]
    unfold nextS
    have mm : (m : Int) = 1 := hb.resolve_left (fun z => z (by omega))
    rw [if_neg (by decide), if_pos rfl, if_pos (by omega), mm]
    simp only [List.length_append, List.length_cons, List.length_nil, Prod.mk.injEq, true_and, and_true]
    push_cast
    omega
  · have hne : dg h ≠ [] := fun z => by have := dg_ne h; rw [z] at this; simp at this
    rw [if_neg hbt, numS_digs (k : Int) 4096 65536 65535 (dg h) _ _ 1 0 0 _ _ (dg_digs h) (.inl rfl) (by omega) (by rw [valL_dg]; omega) hne, valL_dg, numS_remend _ _ _ _ 10 (h : Int) (by omega) e10 O _ _ _ _ _ hO]
    unfold nextS
    rw [if_neg (by decide), if_pos rfl, if_neg (by omega), numS_blank _ _ _ _ c _ _ _ _ _ hc, numS_num (k : Int) 4096 65536 65535 m c _ _ 2 _ _ hc (by omega) (by omega)]
    unfold nextS
    rw [if_neg (by decide), if_neg (by decide)]
    simp only [List.length_append, List.length_cons, List.length_nil, Prod.mk.injEq, true_and, and_true]
    push_cast
    omega
theorem rem_fin (k w h m : Nat) (hM : MayP k w h m) (L : List Int) (T X : List Int) (hL : T ++ X = L) (hb : byteL L) (hl : L.length ≤ 250) (hr : parS 4096 65536 65535 L = ((k : Int), (w : Int), (h : Int), (m : Int), (L.length : Int), 0)) (K : Nat) (hK : 300 ≤ K) : chequerlaw06_HeadRemarks.j1 K (strOfNums X) (strOfNums T) k w h m = some true := by
  obtain ⟨K, rfl⟩ : ∃ q, K = q + 1 := ⟨K - 1, by omega⟩
  have hs : (strOfNums T).size + (strOfNums X).size = L.length := by rw [strOfNums_size, strOfNums_size, ← hL, List.length_append]
  have hP := parse_is L hb (by omega) 4096 65536 65535 K (by omega)
  have c0 : mn (mx 4096 1) 4096 = 4096 := by decide
  have c1 : mn (mx 65536 1) 65536 = 65536 := by decide
  have c2 : mn (mx 65535 1) 65535 = 65535 := by decide
  rw [c0, c1, c2, hr] at hP
  rw [chequerlaw06_HeadRemarks.j1, if_pos (by omega), ← strOfNums_cat, hL]
  show (head_Parse.f K (strOfNums L) 4096 65536 65535).bind _ = _
  rw [hP, Option.bind_some]
  unfold parP
  rw [if_pos rfl, show ∀ p q r s : Int, chequerlaw06_as.f p q r s = some (p, q, r, s) from fun _ _ _ _ => rfl, Option.bind_some]
  dsimp only
  rw [if_pos (by simp), if_pos (by rw [strOfNums_size]), if_pos rfl, lives_more K (by omega), Option.bind_some]
set_option maxHeartbeats 1000000 in
theorem rem_end (k w h m : Nat) (hM : MayP k w h m) (blank : Int) (hbl : -9223372036854775808 ≤ blank ∧ blank ≤ 9223372036854775807) (x2 : ByteArray) (i : Int) (hi : ¬ i < (x2.size : Int)) (O : List Int) (hO : remOk O) (hOb : byteL O) (hOl : O.length ≤ 12) (K : Nat) (hK : 310 ≤ K) : chequerlaw06_HeadRemarks.l0 K blank x2 (strOfNums (35 :: O)) i k w h m = some true := by
  obtain ⟨K, rfl⟩ : ∃ q, K = q + 1 := ⟨K - 1, by omega⟩
  have hM' := hM
  obtain ⟨hk, hw, hh, hm, hbb⟩ := hM
  have z1 : dg k = [((48 + k : Nat) : Int)] := dg_one k (by omega)
  have z2 := small_len w (by omega)
  have z3 := small_len h (by omega)
  have z4 := small_len m (by omega)
  obtain ⟨r0, r1⟩ := aroundZ_range blank 6 (by omega)
  rw [chequerlaw06_HeadRemarks.l0, if_neg hi, Option.bind_some, around_is blank 6 hbl.1 hbl.2 (by omega), Option.bind_some]
  generalize aroundZ blank 6 = z at *
  obtain ⟨zn, rfl⟩ : ∃ q : Nat, z = (q : Int) := ⟨z.toNat, by omega⟩
  obtain ⟨cb, cb0, cb1⟩ := blank_of ⟨zn, by omega⟩
  dsimp only at cb cb0 cb1
  rw [if_pos r0, if_pos (by simp only [List.length_cons, List.length_nil]; omega), Option.bind_some]
  generalize rd [9, 10, 11, 12, 13, 32] (zn : Int) = c at *
  rw [refdg_nat k K (by omega) (by omega) (by omega), Option.bind_some, refdg_nat w K (by omega) (by omega) (by omega), Option.bind_some, refdg_nat h K (by omega) (by omega) (by omega), Option.bind_some, refdg_nat m K (by omega) (by omega) (by omega), Option.bind_some]
  simp only [c80, c10, c13, ← strOfNums_cat]
  have q : ∀ n : Nat, n ≤ 300 → n ≤ 9223372036854775807 := fun n h => by omega
  have b1 : ∀ c : Int, 0 ≤ c ∧ c ≤ 255 → byteL [c] := fun c hc x hx => by rw [List.mem_singleton.1 hx]; exact hc
  have hrem := rem_par k w h m O c hM' hO cb
  have cons : ∀ (c : Int) (l : List Int), 0 ≤ c ∧ c ≤ 255 → byteL l → byteL (c :: l) := fun c l h1 h2 x hx => (List.mem_cons.1 hx).elim (fun e => e ▸ h1) (h2 x)
  have cc : 0 ≤ c ∧ c ≤ 255 := ⟨cb0, cb1⟩
  have hbytes : byteL (remT k w h m O c) := by
    have bd := fun u => digs_byteL (dg_digs u)
    unfold remT
    refine cons _ _ (by omega) (cons _ _ (by omega) (cons _ _ (by omega) (byteL_app hOb (cons _ _ (by omega) (cons _ _ cc (byteL_app (bd w) (cons _ _ cc (cons _ _ (by omega) (byteL_app hOb (cons _ _ (by omega) (cons _ _ cc (byteL_app (bd h) ?_))))))))))))
    split
    · exact cons _ _ cc (fun x hx => by cases hx)
    · exact cons _ _ (by omega) (byteL_app hOb (cons _ _ (by omega) (cons _ _ cc (byteL_app (bd m) (cons _ _ cc (fun x hx => by cases hx))))))
  have hlen : (remT k w h m O c).length ≤ 250 := by
    unfold remT
    split <;> simp only [List.length_append, List.length_cons, List.length_nil] <;> omega
  repeat rw [if_pos (by simp only [strOfNums_size, List.length_append, List.length_cons, List.length_nil, z1]; exact q _ (by omega))]
  by_cases hbt : k = 1 ∨ k = 4
  · rw [if_pos (by rcases hbt with rfl | rfl <;> decide)]
    exact rem_fin k w h m hM' (remT k w h m O c) _ [c] (by unfold remT; rw [if_pos hbt, z1]; simp) hbytes hlen hrem K (by omega)
  · rw [if_neg (by
      have : k = 2 ∨ k = 3 ∨ k = 5 ∨ k = 6 := by omega
      rcases this with rfl | rfl | rfl | rfl <;> decide)]
    repeat rw [if_pos (by simp only [strOfNums_size, List.length_append, List.length_cons, List.length_nil, z1]; exact q _ (by omega))]
    exact rem_fin k w h m hM' (remT k w h m O c) _ [c] (by unfold remT; rw [if_neg hbt, z1]; simp) hbytes hlen hrem K (by omega)
theorem ext_mid (pre r : List Int) (c : Int) : (strOfNums (pre ++ c :: r)).extract pre.length (pre.length + 1) = strOfNums [c] := by
  apply ByteArray.ext
  apply Array.toList_inj.1
  rw [ByteArray.data_extract, Array.toList_extract, strOfNums_data, strOfNums_data]
  simp [List.extract]
theorem rem_loop (k w h m : Nat) (hM : MayP k w h m) (blank : Int) (hbl : -9223372036854775808 ≤ blank ∧ blank ≤ 9223372036854775807) : ∀ (suf pre O : List Int) (K : Nat), byteL (pre ++ suf) → (pre ++ suf).length ≤ 12 → remOk O → byteL O → O.length ≤ pre.length → 320 + suf.length ≤ K → chequerlaw06_HeadRemarks.l0 K blank (strOfNums (pre ++ suf)) (strOfNums (35 :: O)) (pre.length : Int) k w h m = some true := by
  intro suf
  induction suf with
  | nil =>
    intro pre O K hb hl hO hOb hOl hK
    rw [List.append_nil] at hl
    exact rem_end k w h m hM blank hbl _ _ (by rw [strOfNums_size, List.append_nil]; omega) O hO hOb (by omega) K (by omega)
  | cons c r ih =>
    intro pre O K hb hl hO hOb hOl hK
    obtain ⟨K, rfl⟩ : ∃ q, K = q + 1 := ⟨K - 1, by omega⟩
    rw [List.length_cons] at hK
    have hc : 0 ≤ c ∧ c ≤ 255 := hb c (List.mem_append_right _ (List.mem_cons_self ..))
    have hlr : (pre ++ c :: r).length = pre.length + (r.length + 1) := by simp
    have e2 : pre ++ c :: r = (pre ++ [c]) ++ r := by simp
    have hl1 : (pre ++ [c]).length = pre.length + 1 := by simp
    have hw : wrap64 ((pre.length : Int) + 1) = ((pre ++ [c]).length : Int) := by rw [hl1]; unfold wrap64; omega
    have hsz : (strOfNums (pre ++ c :: r)).size = pre.length + (r.length + 1) := by rw [strOfNums_size, hlr]
    have hbt := bt_mid pre r c hb
    have next := fun O' h1 h2 h3 => ih (pre ++ [c]) O' K (e2 ▸ hb) (e2 ▸ hl) h1 h2 h3 (by omega)
    rw [chequerlaw06_HeadRemarks.l0, if_pos (by omega), if_pos (by omega), hbt, hw]
    by_cases h10 : c = 10
    · rw [if_pos h10, e2]
      exact next O hO hOb (by omega)
    · rw [if_neg h10]
      by_cases h13 : c = 13
      · rw [if_pos h13, e2]
        exact next O hO hOb (by omega)
      · rw [if_neg h13, if_pos (by omega), if_pos (by omega)]
        have hx : (strOfNums (pre ++ c :: r)).extract ((pre.length : Int)).toNat (((pre ++ [c]).length : Int)).toNat = strOfNums [c] := by
          rw [Int.toNat_natCast, Int.toNat_natCast, hl1]
          exact ext_mid pre r c
        rw [hx, if_pos (by rw [strOfNums_size, strOfNums_size]; simp only [List.length_cons, List.length_nil]; omega), ← strOfNums_cat, e2]
        have e3 : (35 : Int) :: O ++ [c] = 35 :: (O ++ [c]) := rfl
        rw [e3]
        refine next (O ++ [c]) ?_ ?_ (by simp; omega)
        · intro x hx
          rcases List.mem_append.1 hx with h | h
          · exact hO x h
          · rw [List.mem_singleton.1 h]
            exact ⟨h10, h13⟩
        · exact byteL_app hOb (fun x hx => by rw [List.mem_singleton.1 hx]; exact hc)
theorem HeadRemarks : chequerlaw06_HeadRemarks.Pure := by
  intro a b c d blank s ha hb hc hd hbl hs
  obtain ⟨k, w, h, m, hg, hk⟩ := good_is a b c d (wf_i64 ha) (wf_i64 hb) (wf_i64 hc) (wf_i64 hd)
  have hM := ok_may hk
  obtain ⟨ku, wu, hu, mu, rfl, rfl, rfl, rfl⟩ := may_nat k w h m hM
  refine ⟨400, ?_⟩
  unfold chequerlaw06_HeadRemarks.f
  have hf : chequerref05_Few.f s 12 = some _ := few_is s 12
  have hfz := few_size s 12
  rw [hg, Option.bind_some, hf, Option.bind_some]
  dsimp only
  generalize (if s.size > 12 then s.extract 0 12 else s) = t at *
  obtain ⟨L, hB, rfl, hl⟩ := str_nums t
  rw [c35]
  exact rem_loop ku wu hu mu hM blank (wf_i64 hbl) L [] [] 400 hB (by show L.length ≤ 12; omega) (fun x hx => by cases hx) (fun x hx => by cases hx) (Nat.le_refl _) (by omega)
end Go.Proofs.Ytmimfljiighbaaa.Pure
