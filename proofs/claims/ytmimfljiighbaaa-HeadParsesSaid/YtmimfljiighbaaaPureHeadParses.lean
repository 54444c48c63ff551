import Derived.Test.YtmimfljiighbaaaQ6
import Derived.Test.YtmimfljiighbaaaQ4
import Derived.Test.YtmimfljiighbaaaQ7
import Derived.Test.YtmimfljiighbaaaIhead_New
import Derived.Test.YtmimfljiighbaaaIhead_Reader_Head
import Derived.Test.YtmimfljiighbaaaIhead_Reader_Put
import Derived.Test.YtmimfljiighbaaaIhead_Reader_magic
import Derived.Test.YtmimfljiighbaaaIhead_Reader_number
import Derived.Test.YtmimfljiighbaaaItoken_Number_Put
import Derived.Test.YtmimfljiighbaaaItoken_Blank
import Derived.Test.YtmimfljiighbaaaQ12
import Derived.Test.YtmimfljiighbaaaQ15
import Derived.Test.YtmimfljiighbaaaQ19
import Derived.Test.YtmimfljiighbaaaQ20
import Derived.Test.YtmimfljiighbaaaQ21
import Derived.Test.YtmimfljiighbaaaQ5
import Derived.Test.YtmimfljiighbaaaQ22
import Derived.Test.YtmimfljiighbaaaQ23
/- Modulo, from nought on. -/
namespace Go.Proofs.Ytmimfljiighbaaa.Q
open Go.RowKit Go.Proofs.YtmimfljiighbaaaW.PrintWords Go.Proofs.YtmimfljiighbaaaW.PrintLast
set_option linter.unusedVariables false
theorem wf_i64 {n : Int} (h : (Lit.int .i64 n).wf = true) : -9223372036854775808 ≤ n ∧ n ≤ 9223372036854775807 := by
  have a : IntKind.i64.min = -9223372036854775808 := by decide
  have b : IntKind.i64.max = 9223372036854775807 := by decide
  simp [Lit.wf, a, b] at h
  omega
theorem wf_u8 {n : Int} (h : (Lit.int .u8 n).wf = true) : 0 ≤ n ∧ n ≤ 255 := by
  have a : IntKind.u8.min = 0 := by decide
  have b : IntKind.u8.max = 255 := by decide
  simp [Lit.wf, a, b] at h
  omega
def aroundZ (n m : Int) : Int := (if n < 0 then -(n + 1) else n) % m
theorem aroundZ_range (n m : Int) (hm : 0 < m) : 0 ≤ aroundZ n m ∧ aroundZ n m < m := ⟨Int.emod_nonneg _ (by omega), Int.emod_lt_of_pos _ hm⟩
theorem around_is (n m : Int) (h0 : -9223372036854775808 ≤ n) (h1 : n ≤ 9223372036854775807) (hm : 0 < m) : chequerref01_Around.f n m = some (aroundZ n m) := by
  unfold chequerref01_Around.f aroundZ
  by_cases h : n < 0
  · rw [if_pos h, if_neg (by omega), if_pos h]
    have w1 : wrap64 (n + 1) = n + 1 := by unfold wrap64; omega
    have w2 : wrap64 (-(n + 1)) = -(n + 1) := by unfold wrap64; omega
    rw [w1, w2, Int.tmod_eq_emod_of_nonneg (by omega)]
  · rw [if_neg h, if_neg (by omega), if_neg h, Int.tmod_eq_emod_of_nonneg (by omega)]
end Go.Proofs.Ytmimfljiighbaaa.Q
/- A head that may be. -/
namespace Go.Proofs.Ytmimfljiighbaaa.Q
open Go.RowKit Go.Proofs.YtmimfljiighbaaaW.PrintWords Go.Proofs.YtmimfljiighbaaaW.PrintLast
set_option linter.unusedVariables false
theorem wr_id (n : Int) (h0 : -9223372036854775808 ≤ n) (h1 : n ≤ 9223372036854775807) : wrap64 n = n := by unfold wrap64; omega
def HdOk (k w h m : Int) : Prop := 1 ≤ k ∧ k ≤ 6 ∧ 1 ≤ w ∧ w ≤ 4096 ∧ 1 ≤ h ∧ h ≤ 4096 ∧ 1 ≤ m ∧ m ≤ 65535 ∧ ((k = 1 ∨ k = 4) → m = 1)
theorem good_is (a b c d : Int) (ha : -9223372036854775808 ≤ a ∧ a ≤ 9223372036854775807) (hb : -9223372036854775808 ≤ b ∧ b ≤ 9223372036854775807) (hc : -9223372036854775808 ≤ c ∧ c ≤ 9223372036854775807) (hd : -9223372036854775808 ≤ d ∧ d ≤ 9223372036854775807) : ∃ k w h m, chequerref06_Good.f a b c d 4096 = some (k, w, h, m) ∧ HdOk k w h m := by
  have r1 := aroundZ_range a 6 (by omega)
  have r2 := aroundZ_range b 4096 (by omega)
  have r3 := aroundZ_range c 4096 (by omega)
  have r4 := aroundZ_range d 65535 (by omega)
  unfold chequerref06_Good.f
  rw [around_is a 6 ha.1 ha.2 (by omega), around_is b 4096 hb.1 hb.2 (by omega), around_is c 4096 hc.1 hc.2 (by omega), around_is d 65535 hd.1 hd.2 (by omega)]
  generalize aroundZ a 6 = x at *
  generalize aroundZ b 4096 = y at *
  generalize aroundZ c 4096 = z at *
  generalize aroundZ d 65535 = v at *
  simp only [Option.bind_some, chequerref06_bits.f]
  rw [wr_id (1 + x) (by omega) (by omega), wr_id (1 + y) (by omega) (by omega), wr_id (1 + z) (by omega) (by omega), wr_id (1 + v) (by omega) (by omega)]
  by_cases h1 : 1 + x = 1
  · exact ⟨_, _, _, _, by simp [h1]; exact ⟨rfl, rfl, rfl, rfl⟩, by unfold HdOk; omega⟩
  · by_cases h4 : 1 + x = 4
    · exact ⟨_, _, _, _, by simp [h4]; exact ⟨rfl, rfl, rfl, rfl⟩, by unfold HdOk; omega⟩
    · refine ⟨1 + x, 1 + y, 1 + z, 1 + v, ?_, by unfold HdOk; omega⟩
      have e : (1 + x == 4) = false := beq_eq_false_iff_ne.2 h4
      rw [if_neg h1, e]
      rfl
end Go.Proofs.Ytmimfljiighbaaa.Q
/- A number's digits, as the document writes them; what such digits are worth. -/
namespace Go.Proofs.Ytmimfljiighbaaa.Q
open Go.RowKit Go.Proofs.YtmimfljiighbaaaW.PrintWords Go.Proofs.YtmimfljiighbaaaW.PrintLast
set_option linter.unusedVariables false
def dgR (u : Nat) : List Int := if h : u < 10 then [((48 + u : Nat) : Int)] else ((48 + u % 10 : Nat) : Int) :: dgR (u / 10)
termination_by u
decreasing_by exact Nat.div_lt_self (by omega) (by omega)
def dgL (a0 : Int) : List Int := (dgR a0.natAbs ++ if a0 < 0 then [45] else []).reverse
theorem dgR_small (u : Nat) (h : u < 10) : dgR u = [((48 + u : Nat) : Int)] := by unfold dgR; rw [dif_pos h]
theorem dgR_big (u : Nat) (h : ¬ u < 10) : dgR u = ((48 + u % 10 : Nat) : Int) :: dgR (u / 10) := by rw [dgR, dif_neg h]
theorem dgR_len : ∀ (j u : Nat), u < 10 ^ (j + 1) → (dgR u).length ≤ j + 1 := by
  intro j
  induction j with
  | zero => intro u h; rw [dgR_small u (by simpa using h)]; simp
  | succ j ih =>
    intro u h
    by_cases hs : u < 10
    · rw [dgR_small u hs]; simp
    · rw [dgR_big u hs, List.length_cons]
      have := ih (u / 10) (by rw [Nat.pow_succ] at h; omega)
      omega
theorem strOfNums_cat (a b : List Int) : strOfNums (a ++ b) = strOfNums a ++ strOfNums b := by
  apply ByteArray.ext
  rw [ByteArray.data_append]
  unfold strOfNums
  simp
theorem dgL_step (n : Int) (h : ¬ n.natAbs < 10) : dgL n = dgL (Int.tdiv n 10) ++ [((48 + n.natAbs % 10 : Nat) : Int)] := by
  have e1 : (Int.tdiv n 10).natAbs = n.natAbs / 10 := by rw [Int.natAbs_tdiv]; rfl
  have e2 : (Int.tdiv n 10 < 0) ↔ n < 0 := by
    rcases Int.lt_or_le n 0 with hn | hn
    · have : Int.tdiv n 10 = -(Int.tdiv (-n) 10) := by rw [Int.neg_tdiv, Int.neg_neg]
      rw [this, Int.tdiv_eq_ediv_of_nonneg (by omega)]
      omega
    · rw [Int.tdiv_eq_ediv_of_nonneg hn]
      omega
  unfold dgL
  rw [dgR_big _ h, e1]
  simp only [e2, List.cons_append, List.reverse_cons]
theorem refdg_start (n : Int) (k : Nat) (h0 : -9223372036854775808 ≤ n) (h1 : n ≤ 9223372036854775807) : chequerref01_Decimal.f (k + 1) n = chequerref01_Decimal.j0 k n ((n.natAbs % 10 : Nat) : Int) := by
  simp only [chequerref01_Decimal.f]
  have ha : (Int.tmod n 10).natAbs = n.natAbs % 10 := by rw [Int.natAbs_tmod]; rfl
  have hd := Int.mul_tdiv_add_tmod n 10
  by_cases hn : n < 0
  · have e : Int.tmod n 10 = -((n.natAbs % 10 : Nat) : Int) := by
      have : Int.tmod n 10 = -(Int.tmod (-n) 10) := by rw [Int.neg_tmod, Int.neg_neg]
      rw [this, Int.tmod_eq_emod_of_nonneg (by omega)]
      omega
    have w : wrap64 (-(-((n.natAbs % 10 : Nat) : Int))) = ((n.natAbs % 10 : Nat) : Int) := by unfold wrap64; omega
    rw [e, w]
    by_cases hz : -((n.natAbs % 10 : Nat) : Int) < 0
    · rw [if_pos hz]
    · rw [if_neg hz]
      have : ((n.natAbs % 10 : Nat) : Int) = 0 := by omega
      rw [this]
      rfl
  · have e : Int.tmod n 10 = ((n.natAbs % 10 : Nat) : Int) := by
      rw [Int.tmod_eq_emod_of_nonneg (by omega)]
      omega
    rw [e, if_neg (by omega)]
theorem refdg_j0 (n : Int) (k c : Nat) (hc : c < 10) : chequerref01_Decimal.j0 (k + 1) n (c : Int) = chequerref01_Decimal.j1 k n (strOfNums [((48 + c : Nat) : Int)]) (decide (n.natAbs < 10)) := by
  simp only [chequerref01_Decimal.j0]
  have w : (wrap64 (48 + (c : Int))) % 256 = ((48 + c : Nat) : Int) := by unfold wrap64; omega
  rw [w, Option.bind_some]
  by_cases h : n > -10
  · rw [if_pos h]
    have : (n < 10) ↔ n.natAbs < 10 := by omega
    rw [decide_eq_decide.2 this]
  · rw [if_neg h]
    have : ¬ n.natAbs < 10 := by omega
    rw [decide_eq_false this]
theorem refdg_is : ∀ (d : Nat) (n : Int) (k : Nat), n.natAbs < 10 ^ (d + 1) → d ≤ 30 → -9223372036854775808 ≤ n → n ≤ 9223372036854775807 → 4 * d + 4 < k → chequerref01_Decimal.f k n = some (strOfNums (dgL n)) := by
  intro d
  induction d with
  | zero =>
    intro n k hd _ h0 h1 hk
    obtain ⟨k, rfl⟩ : ∃ m, k = m + 3 := ⟨k - 3, by omega⟩
    have hd' : n.natAbs < 10 := by simpa using hd
    have hR := dgR_small n.natAbs hd'
    rw [refdg_start n _ h0 h1, refdg_j0 n _ _ (Nat.mod_lt _ (by decide)), decide_eq_true hd']
    simp only [chequerref01_Decimal.j1]
    rw [if_pos trivial, Nat.mod_eq_of_lt hd']
    unfold dgL
    rw [hR]
    by_cases hn : n < 0
    · rw [if_pos hn, if_pos hn, strOfNums_size, if_pos (by simp)]
      have : ([((48 + n.natAbs : Nat) : Int)] ++ [45]).reverse = [45] ++ [((48 + n.natAbs : Nat) : Int)] := rfl
      rw [this, strOfNums_cat]
      rfl
    · rw [if_neg hn, if_neg hn]
      rfl
  | succ d ih =>
    intro n k hd hd30 h0 h1 hk
    obtain ⟨k, rfl⟩ : ∃ m, k = m + 3 := ⟨k - 3, by omega⟩
    by_cases hs : n.natAbs < 10
    · exact ih n (k + 3) (by rw [Nat.pow_succ]; have := Nat.pow_pos (n := d) (show 0 < 10 by decide); omega) (by omega) h0 h1 (by omega)
    · rw [refdg_start n _ h0 h1, refdg_j0 n _ _ (Nat.mod_lt _ (by decide)), decide_eq_false hs]
      simp only [chequerref01_Decimal.j1]
      have e1 : (Int.tdiv n 10).natAbs = n.natAbs / 10 := by rw [Int.natAbs_tdiv]; rfl
      have b : (Int.tdiv n 10).natAbs < 10 ^ (d + 1) := by rw [e1]; rw [Nat.pow_succ] at hd; omega
      have w : wrap64 (Int.tdiv n 10) = Int.tdiv n 10 := by unfold wrap64; omega
      have hlen : (dgL (Int.tdiv n 10)).length ≤ 40 := by
        unfold dgL
        rw [List.length_reverse, List.length_append]
        have := dgR_len d _ b
        split <;> simp only [List.length_cons, List.length_nil] <;> omega
      rw [if_neg (by decide), w, ih (Int.tdiv n 10) k b (by omega) (by omega) (by omega) (by omega), Option.bind_some, strOfNums_size, strOfNums_size, if_pos (by simp; omega), dgL_step n hs, strOfNums_cat]
theorem dgL_nat (u : Nat) : dgL (u : Int) = (dgR u).reverse := by unfold dgL; rw [if_neg (by omega), List.append_nil, Int.natAbs_natCast]
def dg (u : Nat) : List Int := (dgR u).reverse
theorem refdg_nat (u k : Nat) (h : u < 10 ^ 19) (h1 : u ≤ 9223372036854775807) (hk : 90 ≤ k) : chequerref01_Decimal.f k (u : Int) = some (strOfNums (dg u)) := by
  have := refdg_is 18 (u : Int) k (by rw [Int.natAbs_natCast]; exact h) (by omega) (by omega) (by omega) (by omega)
  rw [this, dgL_nat]
  rfl
def valL : Int → List Int → Int
  | n, [] => n
  | n, c :: r => valL (10 * n + (c - 48)) r
def digs (l : List Int) : Prop := ∀ x ∈ l, 48 ≤ x ∧ x ≤ 57
theorem valL_app : ∀ (a b : List Int) (n : Int), valL n (a ++ b) = valL (valL n a) b
  | [], _, _ => rfl
  | c :: r, b, n => by rw [List.cons_append, valL, valL, valL_app r b]
theorem valL_ge : ∀ (l : List Int) (n : Int), 0 ≤ n → digs l → n ≤ valL n l
  | [], n, _, _ => Int.le_refl _
  | c :: r, n, hn, h => by
    have hc := h c (List.mem_cons_self ..)
    have := valL_ge r (10 * n + (c - 48)) (by omega) (fun x hx => h x (List.mem_cons_of_mem _ hx))
    rw [valL]
    omega
theorem valL_zeros : ∀ z : Nat, valL 0 (List.replicate z 48) = 0
  | 0 => rfl
  | z + 1 => by rw [List.replicate_succ, valL]; exact valL_zeros z
theorem dg_len (u : Nat) (h : u < 10 ^ 19) : (dg u).length ≤ 19 := by
  unfold dg
  rw [List.length_reverse]
  exact dgR_len 18 u h
def byteL (l : List Int) : Prop := ∀ x ∈ l, 0 ≤ x ∧ x ≤ 255
theorem byteL_app {a b : List Int} (ha : byteL a) (hb : byteL b) : byteL (a ++ b) := fun x hx => by
  rcases List.mem_append.1 hx with h | h
  · exact ha x h
  · exact hb x h
theorem bt_str (l : List Int) (hl : byteL l) (i : Nat) (h : i < l.length) : bt (strOfNums l) (i : Int) = l[i] := by
  have hs : (strOfNums l).size = l.length := strOfNums_size l
  unfold bt
  rw [dif_pos (by rw [Int.toNat_natCast, hs]; exact h)]
  obtain ⟨a, b⟩ := hl l[i] (List.getElem_mem h)
  have e : (strOfNums l).data.toList = l.map (fun x => UInt8.ofNat x.toNat) := strOfNums_data l
  have e2 : (strOfNums l).data[i]? = some (UInt8.ofNat (l[i]).toNat) := by
    rw [← Array.getElem?_toList, e, List.getElem?_map, List.getElem?_eq_getElem h]
    rfl
  have hd : i < (strOfNums l).data.size := by
    have : (strOfNums l).data.size = l.length := hs
    omega
  have this : (strOfNums l).data[i]'hd = UInt8.ofNat (l[i]).toNat := Option.some.inj ((Array.getElem?_eq_getElem hd).symm.trans e2)
  show (((strOfNums l).data[i]'hd).toNat : Int) = _
  rw [this, UInt8.toNat_ofNat_of_lt' (by show (l[i]).toNat < 256; omega)]
  omega
theorem bt_mid (a r : List Int) (c : Int) (h : byteL (a ++ c :: r)) : bt (strOfNums (a ++ c :: r)) (a.length : Int) = c := by
  rw [bt_str _ h a.length (by simp)]
  simp
end Go.Proofs.Ytmimfljiighbaaa.Q
/- A number with one digit more: both texts answer the same. -/
namespace Go.Proofs.Ytmimfljiighbaaa.Q
open Go.RowKit Go.Proofs.YtmimfljiighbaaaW.PrintWords Go.Proofs.YtmimfljiighbaaaW.PrintLast
set_option linter.unusedVariables false
def stepS (n c m : Int) : Int × Int := if c < 48 ∨ 57 < c then (0, 3) else if m < 10 * n + (c - 48) then (0, 4) else (10 * n + (c - 48), 0)
theorem step_is (k : Nat) (n c m : Int) (hn : 0 ≤ n) (hn1 : n ≤ 4611686018427387904) (hm : 0 ≤ m) (hm1 : m ≤ 4611686018427387904) (hc : 0 ≤ c) (hc1 : c ≤ 255) : num_Step.f (k + 1) n c m = some (stepS n c m) := by
  have w0 : wrap64 ((wrap64 c) - 48) = c - 48 := by unfold wrap64; omega
  unfold num_Step.f stepS
  rw [w0]
  by_cases h1 : c - 48 < 0
  · rw [if_pos h1]; simp only [num_Step.j0]; rw [if_pos trivial, if_pos (by omega)]
  · rw [if_neg h1]; simp only [num_Step.j0]
    by_cases h2 : c - 48 > 9
    · rw [if_pos (by simpa using h2), if_pos (by omega)]
    · rw [if_neg (by simpa using h2), if_neg (show ¬ (c < 48 ∨ 57 < c) by omega)]
      by_cases h3 : c - 48 > m
      · rw [if_pos h3, if_pos (by omega)]
      · rw [if_neg h3]
        have w1 : wrap64 (m - (c - 48)) = m - (c - 48) := by unfold wrap64; omega
        have w2 : wrap64 (Int.tdiv (m - (c - 48)) 10) = (m - (c - 48)) / 10 := by rw [Int.tdiv_eq_ediv_of_nonneg (by omega)]; unfold wrap64; omega
        rw [w1, w2]
        by_cases h4 : n > (m - (c - 48)) / 10
        · rw [if_pos h4, if_pos (by omega)]
        · rw [if_neg h4, if_neg (by omega)]
          have w3 : wrap64 (10 * n) = 10 * n := by unfold wrap64; omega
          rw [w3]
          have w4 : wrap64 (10 * n + (c - 48)) = 10 * n + (c - 48) := by unfold wrap64; omega
          rw [w4]
theorem stepS_ok (n c m : Int) (hn : 0 ≤ n) (hm : 0 ≤ m) : 0 ≤ (stepS n c m).1 ∧ (stepS n c m).1 ≤ m := by
  unfold stepS
  split
  · exact ⟨by simp, by simpa using hm⟩
  · split
    · exact ⟨by simp, by simpa using hm⟩
    · exact ⟨by simp only; omega, by simp only; omega⟩
end Go.Proofs.Ytmimfljiighbaaa.Q
/- A reader of numbers: both texts turn alike. -/
namespace Go.Proofs.Ytmimfljiighbaaa.Q
open Go.RowKit Go.Proofs.YtmimfljiighbaaaW.PrintWords Go.Proofs.YtmimfljiighbaaaW.PrintLast
set_option linter.unusedVariables false
def blankP (c : Int) : Prop := c = 32 ∨ (9 ≤ c ∧ c ≤ 13)
instance (c : Int) : Decidable (blankP c) := by unfold blankP; exact inferInstance
def tkS (a n m e c : Int) : Int × Int × Int × Int :=
  if a = 4 then (4, n, e, 1) else if a = 5 then (5, n, e, 2)
  else if a = 1 then (if c = 10 ∨ c = 13 then (0, n, e, 0) else (1, n, e, 0))
  else if a = 3 then (if c = 10 ∨ c = 13 then (4, n, 0, 1) else (3, n, e, 0))
  else if c = 35 then (a + 1, n, e, 0)
  else if blankP c then (if a = 0 then (0, n, e, 0) else (4, n, 0, 1))
  else if (stepS n c m).2 = 0 then (2, (stepS n c m).1, e, 0) else (5, 0, (stepS n c m).2, 2)
theorem blank_is (c : Int) (h0 : 0 ≤ c) (h1 : c ≤ 255) : token_Blank.f c = some (decide (blankP c)) := by
  unfold token_Blank.f
  rw [if_pos ⟨h0, h1⟩]
  rfl
theorem ends_is (c : Int) : token_ends.f c = some (decide (c = 10 ∨ c = 13)) := by
  unfold token_ends.f
  by_cases h : c = 10
  · rw [if_pos h, decide_eq_true (.inl h)]
  · rw [if_neg h]
    congr 1
    by_cases h2 : c = 13
    · rw [decide_eq_true (.inr h2)]; simp [h2]
    · rw [decide_eq_false (by omega)]; simp [h2]
def tkR (a m l : Int) : Prop := (l = 0 ∧ m = a ∧ 0 ≤ a ∧ a ≤ 3) ∨ (l = 1 ∧ a = 4) ∨ (l = 2 ∧ a = 5)
theorem digit_is (md n m l e c : Int) (b : Bool) (hn : 0 ≤ n) (hn1 : n ≤ m) (hm : m ≤ 4611686018427387904) (hc : 0 ≤ c) (hc1 : c ≤ 255) :
    token_Number_digit.f 2 md m n b l e c = some (if (stepS n c m).2 = 0 then (0, 2, m, (stepS n c m).1, true, l, e) else (2, md, m, 0, b, l, (stepS n c m).2)) := by
  unfold token_Number_digit.f
  rw [step_is 1 n c m hn (by omega) (by omega) (by omega) hc hc1, Option.bind_some]
  by_cases hs : (stepS n c m).2 = 0
  · rw [if_pos hs, if_pos hs]
  · rw [if_neg hs, if_neg hs]
theorem put_is (a n m e c md l : Int) (b : Bool) (hR : tkR a md l) (hb1 : a ≤ 1 → b = false) (hb2 : 2 ≤ a ∧ a ≤ 4 → b = true) (hn : 0 ≤ n) (hn1 : n ≤ m) (hm : m ≤ 4611686018427387904) (hc : 0 ≤ c) (hc1 : c ≤ 255) :
    ∃ md', token_Number_Put.f md m n b l e c = some ((tkS a n m e c).2.2.2, md', m, (tkS a n m e c).2.1, (b || decide (2 ≤ (tkS a n m e c).1 ∧ (tkS a n m e c).1 ≤ 4)), (tkS a n m e c).2.2.2, (tkS a n m e c).2.2.1) ∧ tkR (tkS a n m e c).1 md' (tkS a n m e c).2.2.2 := by
  have hn1' : n ≤ 4611686018427387904 := by omega
  unfold token_Number_Put.f
  rcases hR with ⟨rfl, rfl, h0, h3⟩ | ⟨rfl, rfl⟩ | ⟨rfl, rfl⟩
  · rw [if_pos rfl]
    have hcase : md = 0 ∨ md = 1 ∨ md = 2 ∨ md = 3 := by omega
    rcases hcase with rfl | rfl | rfl | rfl
    · obtain rfl := hb1 (by omega)
      rw [if_pos rfl]
      unfold token_Number_ahead.f
      rw [blank_is c hc hc1, Option.bind_some]
      by_cases hbl : blankP c
      · have hS : tkS 0 n m e c = (0, n, e, 0) := by
          have : c ≠ 35 := by unfold blankP at hbl; omega
          simp [tkS, hbl, this]
        rw [decide_eq_true hbl, if_pos rfl, Option.bind_some, hS]
        exact ⟨0, by simp, .inl (by simp)⟩
      · rw [decide_eq_false hbl, if_neg (by decide)]
        by_cases h35 : c = 35
        · have hS : tkS 0 n m e c = (1, n, e, 0) := by simp [tkS, h35]
          rw [if_pos h35, Option.bind_some, hS]
          exact ⟨1, by simp, .inl (by simp)⟩
        · rw [if_neg h35, digit_is 0 n m 0 e c false hn hn1 hm hc hc1, Option.bind_some, Option.bind_some]
          by_cases hs : (stepS n c m).2 = 0
          · have hS : tkS 0 n m e c = (2, (stepS n c m).1, e, 0) := by simp [tkS, h35, hbl, hs]
            rw [if_pos hs, hS]
            exact ⟨2, by simp, .inl (by simp)⟩
          · have hS : tkS 0 n m e c = (5, 0, (stepS n c m).2, 2) := by simp [tkS, h35, hbl, hs]
            rw [if_neg hs, hS]
            exact ⟨0, by simp, .inr (.inr (by simp))⟩
    · obtain rfl := hb1 (by omega)
      rw [if_neg (by omega), if_pos rfl]
      unfold token_Number_remark.f
      rw [ends_is, Option.bind_some]
      by_cases hl : c = 10 ∨ c = 13
      · have hS : tkS 1 n m e c = (0, n, e, 0) := by simp [tkS, hl]
        rw [decide_eq_true hl, if_pos rfl, Option.bind_some, hS]
        exact ⟨0, by simp, .inl (by simp)⟩
      · have hS : tkS 1 n m e c = (1, n, e, 0) := by simp [tkS, hl]
        rw [decide_eq_false hl, if_neg (by decide), Option.bind_some, hS]
        exact ⟨1, by simp, .inl (by simp)⟩
    · obtain rfl := hb2 (by omega)
      rw [if_neg (by omega), if_neg (by omega), if_pos rfl]
      unfold token_Number_behind.f
      rw [blank_is c hc hc1, Option.bind_some]
      by_cases hbl : blankP c
      · have hS : tkS 2 n m e c = (4, n, 0, 1) := by
          have : c ≠ 35 := by unfold blankP at hbl; omega
          simp [tkS, hbl, this]
        rw [decide_eq_true hbl, if_pos rfl, Option.bind_some, hS]
        exact ⟨2, by simp, .inr (.inl (by simp))⟩
      · rw [decide_eq_false hbl, if_neg (by decide)]
        by_cases h35 : c = 35
        · have hS : tkS 2 n m e c = (3, n, e, 0) := by simp [tkS, h35]
          rw [if_pos h35, Option.bind_some, hS]
          exact ⟨3, by simp, .inl (by simp)⟩
        · rw [if_neg h35, digit_is 2 n m 0 e c true hn hn1 hm hc hc1, Option.bind_some, Option.bind_some]
          by_cases hs : (stepS n c m).2 = 0
          · have hS : tkS 2 n m e c = (2, (stepS n c m).1, e, 0) := by simp [tkS, h35, hbl, hs]
            rw [if_pos hs, hS]
            exact ⟨2, by simp, .inl (by simp)⟩
          · have hS : tkS 2 n m e c = (5, 0, (stepS n c m).2, 2) := by simp [tkS, h35, hbl, hs]
            rw [if_neg hs, hS]
            exact ⟨2, by simp, .inr (.inr (by simp))⟩
    · obtain rfl := hb2 (by omega)
      rw [if_neg (by omega), if_neg (by omega), if_neg (by omega), if_pos rfl]
      unfold token_Number_end.f
      rw [ends_is, Option.bind_some]
      by_cases hl : c = 10 ∨ c = 13
      · have hS : tkS 3 n m e c = (4, n, 0, 1) := by simp [tkS, hl]
        rw [decide_eq_true hl, if_pos rfl, Option.bind_some, hS]
        exact ⟨3, by simp, .inr (.inl (by simp))⟩
      · have hS : tkS 3 n m e c = (3, n, e, 0) := by simp [tkS, hl]
        rw [decide_eq_false hl, if_neg (by decide), Option.bind_some, hS]
        exact ⟨3, by simp, .inl (by simp)⟩
  · obtain rfl := hb2 (by omega)
    have hS : tkS 4 n m e c = (4, n, e, 1) := by simp [tkS]
    rw [if_neg (by omega), hS]
    exact ⟨md, by simp, .inr (.inl (by simp))⟩
  · have hS : tkS 5 n m e c = (5, n, e, 2) := by simp [tkS]
    rw [if_neg (by omega), hS]
    exact ⟨md, by simp, .inr (.inr (by simp))⟩
def tkOk (a n m e : Int) : Prop := (0 ≤ a ∧ a ≤ 5) ∧ 0 ≤ n ∧ n ≤ m ∧ ((a ≤ 3 ∧ e = 9) ∨ (a = 4 ∧ e = 0) ∨ (a = 5 ∧ n = 0 ∧ (e = 3 ∨ e = 4)))
theorem stepS_err (n c m : Int) : (stepS n c m).2 = 0 ∨ (stepS n c m).2 = 3 ∨ (stepS n c m).2 = 4 := by
  unfold stepS
  repeat' split
  all_goals simp
theorem tkS_ok (a n m e c : Int) (h : tkOk a n m e) : tkOk (tkS a n m e c).1 (tkS a n m e c).2.1 m (tkS a n m e c).2.2.1 := by
  obtain ⟨⟨h0, h5⟩, hn, hm, he⟩ := h
  have h1 := stepS_ok n c m hn (by omega)
  have h2 := stepS_err n c m
  unfold tkS tkOk
  repeat' split
  all_goals (dsimp only; omega)
theorem few_is (s : ByteArray) (n : Nat) : chequerref05_Few.f s (n : Int) = some (if s.size > n then s.extract 0 n else s) := by
  unfold chequerref05_Few.f
  by_cases h : s.size > n
  · rw [if_pos (by omega), if_pos (by omega), if_pos (by omega), if_pos h, Int.toNat_natCast]
  · rw [if_neg (by omega), if_neg h]
theorem few_size (s : ByteArray) (n : Nat) : (if s.size > n then s.extract 0 n else s).size ≤ n := by
  split
  · rw [ByteArray.size_extract]; omega
  · omega
end Go.Proofs.Ytmimfljiighbaaa.Q
/- A head's reader, and the document's answer, each told as one function of a text. -/
namespace Go.Proofs.Ytmimfljiighbaaa.Q
open Go.RowKit Go.Proofs.YtmimfljiighbaaaW.PrintWords Go.Proofs.YtmimfljiighbaaaW.PrintLast
set_option linter.unusedVariables false
abbrev HRes := Int × Int × Int × Int × Int × Int
def mostI (l0 l1 l2 i : Int) : Int := if i = 0 then l0 else if i = 1 then l1 else l2
def numS (k l0 l1 l2 : Int) : List Int → Int → Int → Int → Int → Int → Int → Int → HRes
  | [], at_, _, _, _, _, _, _ => (0, 0, 0, 0, at_, 6)
  | c :: r, at_, i, a, n, e, w, h =>
    if (tkS a n (mostI l0 l1 l2 i) e c).2.2.2 = 0 then numS k l0 l1 l2 r (at_ + 1) i (tkS a n (mostI l0 l1 l2 i) e c).1 (tkS a n (mostI l0 l1 l2 i) e c).2.1 (tkS a n (mostI l0 l1 l2 i) e c).2.2.1 w h
    else if (tkS a n (mostI l0 l1 l2 i) e c).2.2.2 = 2 then (0, 0, 0, 0, at_ + 1, (tkS a n (mostI l0 l1 l2 i) e c).2.2.1)
    else if (tkS a n (mostI l0 l1 l2 i) e c).2.1 = 0 then (0, 0, 0, 0, at_ + 1, 4)
    else if i = 0 then numS k l0 l1 l2 r (at_ + 1) 1 0 0 9 (tkS a n (mostI l0 l1 l2 i) e c).2.1 h
    else if i = 1 then (if k = 1 ∨ k = 4 then (k, w, (tkS a n (mostI l0 l1 l2 i) e c).2.1, 1, at_ + 1, 0) else numS k l0 l1 l2 r (at_ + 1) 2 0 0 9 w (tkS a n (mostI l0 l1 l2 i) e c).2.1)
    else (k, w, h, (tkS a n (mostI l0 l1 l2 i) e c).2.1, at_ + 1, 0)
def parS2 (l0 l1 l2 k : Int) : List Int → HRes
  | [] => (0, 0, 0, 0, 2, 6)
  | c :: r => if ¬ blankP c ∧ c ≠ 35 then (0, 0, 0, 0, 3, 3) else numS k l0 l1 l2 (c :: r) 2 0 0 0 9 0 0
def parS1 (l0 l1 l2 : Int) : List Int → HRes
  | [] => (0, 0, 0, 0, 1, 6)
  | c :: r => if c < 49 ∨ c > 54 then (0, 0, 0, 0, 2, 2) else parS2 l0 l1 l2 (c - 48) r
def parS (l0 l1 l2 : Int) : List Int → HRes
  | [] => (0, 0, 0, 0, 0, 6)
  | c :: r => if c ≠ 80 then (0, 0, 0, 0, 1, 2) else parS1 l0 l1 l2 r
theorem told3 (a n m e c : Int) (h : tkOk a n m e) (ha : a ≤ 3) : ((tkS a n m e c).2.2.2 = 2 ∧ (tkS a n m e c).1 = 5) ∨ ((tkS a n m e c).2.2.2 = 1 ∧ (tkS a n m e c).1 = 4) ∨ ((tkS a n m e c).2.2.2 = 0 ∧ (tkS a n m e c).1 ≤ 3 ∧ (2 ≤ a → 2 ≤ (tkS a n m e c).1)) := by
  obtain ⟨⟨h0, h5⟩, _⟩ := h
  unfold tkS
  repeat' split
  all_goals (dsimp only; omega)
def limOk (l0 l1 l2 : Int) : Prop := (1 ≤ l0 ∧ l0 ≤ 65536) ∧ (1 ≤ l1 ∧ l1 ≤ 65536) ∧ (1 ≤ l2 ∧ l2 ≤ 65536)
theorem mostI_ok {l0 l1 l2 : Int} (h : limOk l0 l1 l2) (i : Int) : 1 ≤ mostI l0 l1 l2 i ∧ mostI l0 l1 l2 i ≤ 65536 := by
  obtain ⟨h0, h1, h2⟩ := h
  unfold mostI
  repeat' split
  all_goals assumption
theorem cut_ok (n m : Int) (hm : 1 ≤ m) : 1 ≤ mn (mx n 1) m ∧ mn (mx n 1) m ≤ m := by
  unfold mn mx
  repeat' split
  all_goals omega
theorem new_ok (m : Int) (h : 0 ≤ m) : tkOk 0 0 m 9 := ⟨by omega, by omega, h, .inl ⟨by omega, rfl⟩⟩
theorem str_nums (s : ByteArray) : ∃ L : List Int, byteL L ∧ s = strOfNums L ∧ L.length = s.size := by
  refine ⟨s.data.toList.map fun b => (b.toNat : Int), ?_, ?_, ?_⟩
  · intro x hx
    obtain ⟨b, _, rfl⟩ := List.mem_map.1 hx
    have := b.toNat_lt
    omega
  · apply ByteArray.ext
    apply Array.toList_inj.1
    rw [strOfNums_data, List.map_map]
    symm
    rw [List.map_congr_left (g := id)]
    · exact List.map_id _
    · intro b _
      show UInt8.ofNat ((b.toNat : Int)).toNat = b
      rw [Int.toNat_natCast, UInt8.ofNat_toNat]
  · rw [List.length_map]
    exact Array.length_toList
theorem hput0 (f0 f1 f2 f3 f4 f5 f6 f7 f8 : Int) (f9 : Bool) (f10 f11 f12 : Int) (f13 : Bool) (f14 f15 f16 f17 : Int) (c : Int) : head_Reader_Put.f f0 f1 f2 f3 f4 f5 f6 0 f8 f9 f10 f11 f12 f13 f14 f15 0 9 c = some (if c ≠ 80 then (2, f0, f1, f2, f3, f4, f5, f6, 1, f8, f9, f10, f11, f12, f13, f14, f15, 2, 2) else (0, f0, f1, f2, f3, f4, f5, f6, 1, f8, f9, f10, f11, f12, f13, f14, f15, 0, 9)) := by
  unfold head_Reader_Put.f head_magic.f
  have w : wrap64 (0 + 1) = 1 := by unfold wrap64; omega
  rw [w, if_pos rfl, if_pos (by decide)]
  by_cases h : c = 80
  · rw [if_neg (by omega), if_neg (by decide), if_neg (by decide), Option.bind_some, if_neg (by simpa using h)]
  · rw [if_pos (.inl ⟨rfl, h⟩), Option.bind_some, if_pos h]
theorem hput1 (f0 f1 f2 f3 f4 f5 f6 f7 f8 : Int) (f9 : Bool) (f10 f11 f12 : Int) (f13 : Bool) (f14 f15 f16 f17 : Int) (c : Int) : head_Reader_Put.f f0 f1 f2 f3 f4 f5 f6 1 f8 f9 f10 f11 f12 f13 f14 f15 0 9 c = some (if c < 49 ∨ c > 54 then (2, f0, f1, f2, f3, f4, f5, f6, 2, f8, f9, f10, f11, f12, f13, f14, f15, 2, 2) else (0, c - 48, f1, f2, f3, f4, f5, f6, 2, f8, f9, f10, f11, f12, f13, f14, f15, 0, 9)) := by
  unfold head_Reader_Put.f head_magic.f
  have w : wrap64 (1 + 1) = 2 := by unfold wrap64; omega
  rw [w, if_pos rfl, if_pos (by decide)]
  by_cases h : c < 49 ∨ c > 54
  · rw [if_pos (.inr ⟨rfl, h⟩), Option.bind_some, if_pos h]
  · rw [if_neg (by omega), if_pos rfl, Option.bind_some, if_neg h, show (c - 48) % 256 = c - 48 by omega]
theorem hput2_bad (f0 f1 f2 f3 f4 f5 f6 f7 f8 : Int) (f9 : Bool) (f10 f11 f12 : Int) (f13 : Bool) (f14 f15 f16 f17 : Int) (c : Int) (h0 : 0 ≤ c) (h1 : c ≤ 255) (hb : ¬ blankP c ∧ c ≠ 35) : head_Reader_Put.f f0 f1 f2 f3 f4 f5 f6 2 f8 f9 f10 f11 f12 f13 f14 f15 0 9 c = some (2, f0, f1, f2, f3, f4, f5, f6, 3, f8, f9, f10, f11, f12, f13, f14, f15, 2, 3) := by
  unfold head_Reader_Put.f head_magic.f
  have w : wrap64 (2 + 1) = 3 := by unfold wrap64; omega
  rw [w, if_pos rfl, if_pos (by decide), if_neg (by omega), if_neg (by decide), if_pos rfl, blank_is c h0 h1, Option.bind_some, if_pos ⟨decide_eq_false hb.1, hb.2⟩, Option.bind_some]
theorem hput2 (f0 f1 f2 f3 f4 f5 f6 f7 f8 : Int) (f9 : Bool) (f10 f11 f12 : Int) (f13 : Bool) (f14 f15 f16 f17 : Int) (c md n : Int) (b : Bool) (l e : Int) (h0 : 0 ≤ c) (h1 : c ≤ 255) (hb : blankP c ∨ c = 35) (E : token_Number_Put.f 0 f4 0 false 0 9 c = some (l, md, f4, n, b, l, e)) : head_Reader_Put.f f0 f1 f2 f3 f4 f5 f6 2 f8 f9 f10 f11 f12 f13 f14 f15 0 9 c = some (0, f0, f1, f2, f3, f4, f5, f6, 3, f8, true, md, f4, n, b, l, e, 0, 9) := by
  unfold head_Reader_Put.f head_magic.f
  have w : wrap64 (2 + 1) = 3 := by unfold wrap64; omega
  have hn : ¬ (decide (blankP c) = false ∧ c ≠ 35) := by
    rintro ⟨h2, h3⟩
    rcases hb with h | h
    · rw [decide_eq_true h] at h2; cases h2
    · exact h3 h
  rw [w, if_pos rfl, if_pos (by decide), if_neg (by omega), if_neg (by decide), if_pos rfl, blank_is c h0 h1, Option.bind_some, if_neg hn, E, Option.bind_some, Option.bind_some]
theorem hN_more (f0 f1 f2 f3 f4 f5 f6 f7 f8 : Int) (f9 : Bool) (f10 f11 f12 : Int) (f13 : Bool) (f14 f15 f16 f17 : Int) (s md n : Int) (b : Bool) (e c : Int) (E : token_Number_Put.f f10 f11 f12 f13 0 f15 c = some (s, md, f11, n, b, s, e)) (hs : s = 0) : head_Reader_Put.f f0 f1 f2 f3 f4 f5 f6 3 f8 true f10 f11 f12 f13 0 f15 0 9 c = some (0, f0, f1, f2, f3, f4, f5, f6, 3, f8, true, md, f11, n, b, s, e, 0, 9) := by
  unfold head_Reader_Put.f head_number.f
  rw [if_pos rfl, if_neg (by decide), if_pos rfl, E, Option.bind_some]
  dsimp only
  rw [if_pos hs, Option.bind_some]
theorem hN_err (f0 f1 f2 f3 f4 f5 f6 f7 f8 : Int) (f9 : Bool) (f10 f11 f12 : Int) (f13 : Bool) (f14 f15 f16 f17 : Int) (s md n : Int) (b : Bool) (e c : Int) (E : token_Number_Put.f f10 f11 f12 f13 0 f15 c = some (s, md, f11, n, b, s, e)) (hs : s = 2) (he : e ≠ 0) : head_Reader_Put.f f0 f1 f2 f3 f4 f5 f6 3 f8 true f10 f11 f12 f13 0 f15 0 9 c = some (2, f0, f1, f2, f3, f4, f5, f6, 3, f8, true, md, f11, n, b, s, e, 2, e) := by
  unfold head_Reader_Put.f head_number.f
  rw [if_pos rfl, if_neg (by decide), if_pos rfl, E, Option.bind_some]
  dsimp only
  rw [if_neg (by omega)]
  unfold token_Number_Value.f
  rw [if_neg (by omega), Option.bind_some, if_pos he, Option.bind_some]
theorem hN_zero (f0 f1 f2 f3 f4 f5 f6 f7 f8 : Int) (f9 : Bool) (f10 f11 f12 : Int) (f13 : Bool) (f14 f15 f16 f17 : Int) (s md n : Int) (b : Bool) (e c : Int) (E : token_Number_Put.f f10 f11 f12 f13 0 f15 c = some (s, md, f11, n, b, s, e)) (hs : s = 1) (hn : n = 0) : head_Reader_Put.f f0 f1 f2 f3 f4 f5 f6 3 f8 true f10 f11 f12 f13 0 f15 0 9 c = some (2, f0, f1, f2, f3, f4, f5, f6, 3, f8, true, md, f11, n, b, s, e, 2, 4) := by
  unfold head_Reader_Put.f head_number.f
  rw [if_pos rfl, if_neg (by decide), if_pos rfl, E, Option.bind_some]
  dsimp only
  rw [if_neg (by omega)]
  unfold token_Number_Value.f
  rw [if_pos hs, Option.bind_some]
  dsimp only
  rw [if_neg (by decide)]
  rw [if_pos hn, Option.bind_some]
theorem hN_w (f0 f1 f2 f3 f4 f5 f6 f7 f8 : Int) (f9 : Bool) (f10 f11 f12 : Int) (f13 : Bool) (f14 f15 f16 f17 : Int) (s md n : Int) (b : Bool) (e c : Int) (E : token_Number_Put.f f10 f11 f12 f13 0 f15 c = some (s, md, f11, n, b, s, e)) (hs : s = 1) (hn : n ≠ 0) : head_Reader_Put.f f0 f1 f2 f3 f4 f5 f6 3 0 true f10 f11 f12 f13 0 f15 0 9 c = some (0, f0, n, f2, f3, f4, f5, f6, 3, 1, true, 0, f5, 0, false, 0, 9, 0, 9) := by
  unfold head_Reader_Put.f head_number.f
  rw [if_pos rfl, if_neg (by decide), if_pos rfl, E, Option.bind_some]
  dsimp only
  rw [if_neg (by omega)]
  unfold token_Number_Value.f
  rw [if_pos hs, Option.bind_some]
  dsimp only
  rw [if_neg (by decide)]
  rw [if_neg hn, if_pos rfl, Option.bind_some]
theorem hN_hb (f0 f1 f2 f3 f4 f5 f6 f7 f8 : Int) (f9 : Bool) (f10 f11 f12 : Int) (f13 : Bool) (f14 f15 f16 f17 : Int) (s md n : Int) (b : Bool) (e c : Int) (E : token_Number_Put.f f10 f11 f12 f13 0 f15 c = some (s, md, f11, n, b, s, e)) (hs : s = 1) (hn : n ≠ 0) (hk : f0 = 1 ∨ f0 = 4) : head_Reader_Put.f f0 f1 f2 f3 f4 f5 f6 3 1 true f10 f11 f12 f13 0 f15 0 9 c = some (1, f0, f1, n, 1, f4, f5, f6, 3, 3, true, md, f11, n, b, s, e, 1, 0) := by
  unfold head_Reader_Put.f head_number.f
  rw [if_pos rfl, if_neg (by decide), if_pos rfl, E, Option.bind_some]
  dsimp only
  rw [if_neg (by omega)]
  unfold token_Number_Value.f
  rw [if_pos hs, Option.bind_some]
  dsimp only
  rw [if_neg (by decide)]
  rw [if_neg hn, if_neg (by decide), if_pos rfl, if_pos hk, Option.bind_some]
theorem hN_h (f0 f1 f2 f3 f4 f5 f6 f7 f8 : Int) (f9 : Bool) (f10 f11 f12 : Int) (f13 : Bool) (f14 f15 f16 f17 : Int) (s md n : Int) (b : Bool) (e c : Int) (E : token_Number_Put.f f10 f11 f12 f13 0 f15 c = some (s, md, f11, n, b, s, e)) (hs : s = 1) (hn : n ≠ 0) (hk : ¬ (f0 = 1 ∨ f0 = 4)) : head_Reader_Put.f f0 f1 f2 f3 f4 f5 f6 3 1 true f10 f11 f12 f13 0 f15 0 9 c = some (0, f0, f1, n, f3, f4, f5, f6, 3, 2, true, 0, f6, 0, false, 0, 9, 0, 9) := by
  unfold head_Reader_Put.f head_number.f
  rw [if_pos rfl, if_neg (by decide), if_pos rfl, E, Option.bind_some]
  dsimp only
  rw [if_neg (by omega)]
  unfold token_Number_Value.f
  rw [if_pos hs, Option.bind_some]
  dsimp only
  rw [if_neg (by decide)]
  rw [if_neg hn, if_neg (by decide), if_pos rfl, if_neg hk, Option.bind_some]
theorem hN_m (f0 f1 f2 f3 f4 f5 f6 f7 f8 : Int) (f9 : Bool) (f10 f11 f12 : Int) (f13 : Bool) (f14 f15 f16 f17 : Int) (s md n : Int) (b : Bool) (e c : Int) (E : token_Number_Put.f f10 f11 f12 f13 0 f15 c = some (s, md, f11, n, b, s, e)) (hs : s = 1) (hn : n ≠ 0) : head_Reader_Put.f f0 f1 f2 f3 f4 f5 f6 3 2 true f10 f11 f12 f13 0 f15 0 9 c = some (1, f0, f1, f2, n, f4, f5, f6, 3, 3, true, md, f11, n, b, s, e, 1, 0) := by
  unfold head_Reader_Put.f head_number.f
  rw [if_pos rfl, if_neg (by decide), if_pos rfl, E, Option.bind_some]
  dsimp only
  rw [if_neg (by omega)]
  unfold token_Number_Value.f
  rw [if_pos hs, Option.bind_some]
  dsimp only
  rw [if_neg (by decide)]
  rw [if_neg hn, if_neg (by decide), if_neg (by decide), if_pos rfl, Option.bind_some]
def Going (suf : List Int) (at_ : Int) (res : HRes) (f0 f1 f2 f3 f4 f5 f6 f7 f8 : Int) (f9 : Bool) (f10 f11 f12 : Int) (f13 : Bool) (f14 f15 f16 f17 : Int) : Prop := f16 = 0 ∧ f17 = 9 ∧ limOk f4 f5 f6 ∧ (
  (f7 = 0 ∧ f8 = 0 ∧ f1 = 0 ∧ f2 = 0 ∧ at_ = 0 ∧ res = parS f4 f5 f6 suf)
  ∨ (f7 = 1 ∧ f8 = 0 ∧ f1 = 0 ∧ f2 = 0 ∧ at_ = 1 ∧ res = parS1 f4 f5 f6 suf)
  ∨ (f7 = 2 ∧ f8 = 0 ∧ f1 = 0 ∧ f2 = 0 ∧ at_ = 2 ∧ (1 ≤ f0 ∧ f0 ≤ 6) ∧ res = parS2 f4 f5 f6 f0 suf)
  ∨ (f7 = 3 ∧ f9 = true ∧ (1 ≤ f0 ∧ f0 ≤ 6) ∧ (f8 = 0 ∨ f8 = 1 ∨ f8 = 2) ∧ f14 = 0 ∧ f11 = mostI f4 f5 f6 f8 ∧ ∃ a, a ≤ 3 ∧ tkR a f10 0 ∧ tkOk a f12 f11 f15 ∧ f13 = decide (2 ≤ a) ∧ res = numS f0 f4 f5 f6 suf at_ f8 a f12 f15 f1 f2))
def Done (s : Int) (at_ : Int) (res : HRes) (f0 f1 f2 f3 f4 f5 f6 f7 f8 : Int) (f9 : Bool) (f10 f11 f12 : Int) (f13 : Bool) (f14 f15 f16 f17 : Int) : Prop := f16 = s ∧ ((s = 1 ∧ f17 = 0 ∧ 1 ≤ f0 ∧ res = (f0, f1, f2, f3, at_, 0)) ∨ (s = 2 ∧ (f17 = 2 ∨ f17 = 3 ∨ f17 = 4) ∧ res = (0, 0, 0, 0, at_, f17)))
theorem going_nil (at_ : Int) (res : HRes) (f0 f1 f2 f3 f4 f5 f6 f7 f8 : Int) (f9 : Bool) (f10 f11 f12 : Int) (f13 : Bool) (f14 f15 f16 f17 : Int) (h : Going [] at_ res f0 f1 f2 f3 f4 f5 f6 f7 f8 f9 f10 f11 f12 f13 f14 f15 f16 f17) : res = (0, 0, 0, 0, at_, 6) ∧ f16 = 0 ∧ f17 = 9 := by
  obtain ⟨h16, h17, _, ⟨_, _, _, _, rfl, rfl⟩ | ⟨_, _, _, _, rfl, rfl⟩ | ⟨_, _, _, _, rfl, _, rfl⟩ | ⟨_, _, _, _, _, _, a, _, _, _, _, rfl⟩⟩ := h
  all_goals exact ⟨rfl, h16, h17⟩
set_option maxHeartbeats 2000000 in
theorem going_put (c : Int) (r : List Int) (at_ : Int) (res : HRes) (f0 f1 f2 f3 f4 f5 f6 f7 f8 : Int) (f9 : Bool) (f10 f11 f12 : Int) (f13 : Bool) (f14 f15 f16 f17 : Int) (h : Going (c :: r) at_ res f0 f1 f2 f3 f4 f5 f6 f7 f8 f9 f10 f11 f12 f13 f14 f15 f16 f17) (h0 : 0 ≤ c) (h1 : c ≤ 255) : ∃ (s : Int) (r0 r1 r2 r3 r4 r5 r6 r7 r8 : Int) (r9 : Bool) (r10 r11 r12 : Int) (r13 : Bool) (r14 r15 r16 r17 : Int), head_Reader_Put.f f0 f1 f2 f3 f4 f5 f6 f7 f8 f9 f10 f11 f12 f13 f14 f15 f16 f17 c = some (s, r0, r1, r2, r3, r4, r5, r6, r7, r8, r9, r10, r11, r12, r13, r14, r15, r16, r17) ∧ ((s = 0 ∧ Going r (at_ + 1) res r0 r1 r2 r3 r4 r5 r6 r7 r8 r9 r10 r11 r12 r13 r14 r15 r16 r17) ∨ (s ≠ 0 ∧ Done s (at_ + 1) res r0 r1 r2 r3 r4 r5 r6 r7 r8 r9 r10 r11 r12 r13 r14 r15 r16 r17)) := by
  obtain ⟨rfl, rfl, hl, h⟩ := h
  rcases h with ⟨rfl, rfl, rfl, rfl, rfl, rfl⟩ | ⟨rfl, rfl, rfl, rfl, rfl, rfl⟩ | ⟨rfl, rfl, rfl, rfl, rfl, hk, rfl⟩ | ⟨rfl, rfl, hk, hi, rfl, rfl, a, ha, hR, hO, rfl, rfl⟩
  · have e := hput0 f0 0 0 f3 f4 f5 f6 0 0 f9 f10 f11 f12 f13 f14 f15 0 9 c
    by_cases h : c = 80
    · rw [if_neg (by simpa using h)] at e
      exact ⟨_, _, _, _, _, _, _, _, _, _, _, _, _, _, _, _, _, _, _, e, .inl ⟨rfl, rfl, rfl, hl, .inr (.inl ⟨rfl, rfl, rfl, rfl, rfl, by rw [parS, if_neg (by simpa using h)]⟩)⟩⟩
    · rw [if_pos h] at e
      exact ⟨_, _, _, _, _, _, _, _, _, _, _, _, _, _, _, _, _, _, _, e, .inr ⟨by decide, rfl, .inr ⟨rfl, .inl rfl, by rw [parS, if_pos h]; rfl⟩⟩⟩
  · have e := hput1 f0 0 0 f3 f4 f5 f6 1 0 f9 f10 f11 f12 f13 f14 f15 0 9 c
    by_cases h : c < 49 ∨ c > 54
    · rw [if_pos h] at e
      exact ⟨_, _, _, _, _, _, _, _, _, _, _, _, _, _, _, _, _, _, _, e, .inr ⟨by decide, rfl, .inr ⟨rfl, .inl rfl, by rw [parS1, if_pos h]; rfl⟩⟩⟩
    · rw [if_neg h] at e
      exact ⟨_, _, _, _, _, _, _, _, _, _, _, _, _, _, _, _, _, _, _, e, .inl ⟨rfl, rfl, rfl, hl, .inr (.inr (.inl ⟨rfl, rfl, rfl, rfl, rfl, by omega, by rw [parS1, if_neg h]⟩))⟩⟩
  · by_cases hb : ¬ blankP c ∧ c ≠ 35
    · exact ⟨_, _, _, _, _, _, _, _, _, _, _, _, _, _, _, _, _, _, _, hput2_bad f0 0 0 f3 f4 f5 f6 2 0 f9 f10 f11 f12 f13 f14 f15 0 9 c h0 h1 hb, .inr ⟨by decide, rfl, .inr ⟨rfl, .inr (.inl rfl), by rw [parS2, if_pos hb]; rfl⟩⟩⟩
    · have hb' : blankP c ∨ c = 35 := by
        rcases Classical.em (blankP c) with h | h
        · exact .inl h
        · exact .inr (Classical.byContradiction fun h2 => hb ⟨h, h2⟩)
      have e0 : mostI f4 f5 f6 0 = f4 := if_pos rfl
      have l0 := hl.1
      have hO : tkOk 0 0 f4 9 := new_ok f4 (by omega)
      obtain ⟨md, E, hR⟩ := put_is 0 0 f4 9 c 0 0 false (.inl ⟨rfl, rfl, by omega, by omega⟩) (fun _ => rfl) (fun h => absurd h.1 (by decide)) (by omega) (by omega) (by omega) h0 h1
      have hT := told3 0 0 f4 9 c hO (by omega)
      have hO2 := tkS_ok 0 0 f4 9 c hO
      have hS : (tkS 0 0 f4 9 c).2.2.2 = 0 := by
        unfold tkS
        rw [if_neg (by decide), if_neg (by decide), if_neg (by decide), if_neg (by decide)]
        by_cases h : c = 35
        · rw [if_pos h]
        · rw [if_neg h, if_pos (hb'.resolve_right h), if_pos rfl]
      have e := hput2 f0 0 0 f3 f4 f5 f6 2 0 f9 f10 f11 f12 f13 f14 f15 0 9 c _ _ _ _ _ h0 h1 hb' E
      have hres : parS2 f4 f5 f6 f0 (c :: r) = numS f0 f4 f5 f6 r (2 + 1) 0 (tkS 0 0 f4 9 c).1 (tkS 0 0 f4 9 c).2.1 (tkS 0 0 f4 9 c).2.2.1 0 0 := by
        rw [parS2, if_neg hb, numS, e0, if_pos hS]
      rw [hS] at e hR
      refine ⟨_, _, _, _, _, _, _, _, _, _, _, _, _, _, _, _, _, _, _, e, .inl ⟨rfl, rfl, rfl, hl, .inr (.inr (.inr ⟨rfl, rfl, hk, .inl rfl, rfl, e0.symm, (tkS 0 0 f4 9 c).1, by omega, hR, hO2, ?_, hres⟩))⟩⟩
      rw [Bool.false_or]
      exact decide_eq_decide.2 (by omega)
  · have hm := mostI_ok hl f8
    obtain ⟨⟨a0, a5⟩, hn, hnm, he⟩ := hO
    obtain ⟨md, E, hR'⟩ := put_is a f12 (mostI f4 f5 f6 f8) f15 c f10 0 (decide (2 ≤ a)) hR (fun h => decide_eq_false (by omega)) (fun h => decide_eq_true h.1) hn hnm (by omega) h0 h1
    have hO : tkOk a f12 (mostI f4 f5 f6 f8) f15 := ⟨⟨a0, a5⟩, hn, hnm, he⟩
    have hT := told3 a f12 (mostI f4 f5 f6 f8) f15 c hO ha
    have hO2 := tkS_ok a f12 (mostI f4 f5 f6 f8) f15 c hO
    rw [numS]
    have hbb : (decide (2 ≤ a) || decide (2 ≤ (tkS a f12 (mostI f4 f5 f6 f8) f15 c).1 ∧ (tkS a f12 (mostI f4 f5 f6 f8) f15 c).1 ≤ 4)) = decide (2 ≤ (tkS a f12 (mostI f4 f5 f6 f8) f15 c).1) ∨ (tkS a f12 (mostI f4 f5 f6 f8) f15 c).2.2.2 ≠ 0 := by
      rcases hT with h | h | h
      · exact .inr (by omega)
      · exact .inr (by omega)
      · left
        rw [Bool.eq_iff_iff, Bool.or_eq_true, decide_eq_true_iff, decide_eq_true_iff, decide_eq_true_iff]
        omega
    generalize hmo : mostI f4 f5 f6 f8 = mo at *
    generalize tkS a f12 mo f15 c = t at *
    by_cases s0 : t.2.2.2 = 0
    · rw [if_pos s0]
      have e := hN_more f0 f1 f2 f3 f4 f5 f6 3 f8 true f10 mo f12 (decide (2 ≤ a)) 0 f15 0 9 _ md _ _ _ c E s0
      rw [hbb.resolve_right (by omega)] at e
      rw [s0] at e hR'
      exact ⟨_, _, _, _, _, _, _, _, _, _, _, _, _, _, _, _, _, _, _, e, .inl ⟨rfl, rfl, rfl, hl, .inr (.inr (.inr ⟨rfl, rfl, hk, hi, rfl, hmo.symm, t.1, by omega, hR', hO2, rfl, rfl⟩))⟩⟩
    · rw [if_neg s0]
      by_cases s2 : t.2.2.2 = 2
      · rw [if_pos s2]
        obtain ⟨_, _, _, hee⟩ := hO2
        have e := hN_err f0 f1 f2 f3 f4 f5 f6 3 f8 true f10 mo f12 (decide (2 ≤ a)) 0 f15 0 9 _ md _ _ _ c E s2 (by omega)
        exact ⟨_, _, _, _, _, _, _, _, _, _, _, _, _, _, _, _, _, _, _, e, .inr ⟨by decide, rfl, .inr ⟨rfl, by omega, rfl⟩⟩⟩
      · rw [if_neg s2]
        have s1 : t.2.2.2 = 1 := by omega
        by_cases n0 : t.2.1 = 0
        · rw [if_pos n0]
          have e := hN_zero f0 f1 f2 f3 f4 f5 f6 3 f8 true f10 mo f12 (decide (2 ≤ a)) 0 f15 0 9 _ md _ _ _ c E s1 n0
          exact ⟨_, _, _, _, _, _, _, _, _, _, _, _, _, _, _, _, _, _, _, e, .inr ⟨by decide, rfl, .inr ⟨rfl, .inr (.inr rfl), rfl⟩⟩⟩
        · rw [if_neg n0]
          have l1 := hl.2.1
          have l2 := hl.2.2
          rcases hi with rfl | rfl | rfl
          · rw [if_pos rfl]
            have e := hN_w f0 f1 f2 f3 f4 f5 f6 3 0 true f10 mo f12 (decide (2 ≤ a)) 0 f15 0 9 _ md _ _ _ c E s1 n0
            exact ⟨_, _, _, _, _, _, _, _, _, _, _, _, _, _, _, _, _, _, _, e, .inl ⟨rfl, rfl, rfl, hl, .inr (.inr (.inr ⟨rfl, rfl, hk, .inr (.inl rfl), rfl, rfl, 0, by omega, .inl ⟨rfl, rfl, by omega, by omega⟩, new_ok f5 (by omega), rfl, rfl⟩))⟩⟩
          · rw [if_neg (by decide), if_pos rfl]
            by_cases hbt : f0 = 1 ∨ f0 = 4
            · rw [if_pos hbt]
              have e := hN_hb f0 f1 f2 f3 f4 f5 f6 3 1 true f10 mo f12 (decide (2 ≤ a)) 0 f15 0 9 _ md _ _ _ c E s1 n0 hbt
              exact ⟨_, _, _, _, _, _, _, _, _, _, _, _, _, _, _, _, _, _, _, e, .inr ⟨by decide, rfl, .inl ⟨rfl, rfl, hk.1, rfl⟩⟩⟩
            · rw [if_neg hbt]
              have e := hN_h f0 f1 f2 f3 f4 f5 f6 3 1 true f10 mo f12 (decide (2 ≤ a)) 0 f15 0 9 _ md _ _ _ c E s1 n0 hbt
              exact ⟨_, _, _, _, _, _, _, _, _, _, _, _, _, _, _, _, _, _, _, e, .inl ⟨rfl, rfl, rfl, hl, .inr (.inr (.inr ⟨rfl, rfl, hk, .inr (.inr rfl), rfl, rfl, 0, by omega, .inl ⟨rfl, rfl, by omega, by omega⟩, new_ok f6 (by omega), rfl, rfl⟩))⟩⟩
          · rw [if_neg (by decide), if_neg (by decide)]
            have e := hN_m f0 f1 f2 f3 f4 f5 f6 3 2 true f10 mo f12 (decide (2 ≤ a)) 0 f15 0 9 _ md _ _ _ c E s1 n0
            exact ⟨_, _, _, _, _, _, _, _, _, _, _, _, _, _, _, _, _, _, _, e, .inr ⟨by decide, rfl, .inl ⟨rfl, rfl, hk.1, rfl⟩⟩⟩
theorem going_new (l0 l1 l2 : Int) (L : List Int) : ∃ (f0 f1 f2 f3 f4 f5 f6 f7 f8 : Int) (f9 : Bool) (f10 f11 f12 : Int) (f13 : Bool) (f14 f15 f16 f17 : Int), head_New.f l0 l1 l2 = some (f0, f1, f2, f3, f4, f5, f6, f7, f8, f9, f10, f11, f12, f13, f14, f15, f16, f17) ∧ Going L 0 (parS (mn (mx l0 1) 4096) (mn (mx l1 1) 65536) (mn (mx l2 1) 65535) L) f0 f1 f2 f3 f4 f5 f6 f7 f8 f9 f10 f11 f12 f13 f14 f15 f16 f17 := by
  have a0 := cut_ok l0 4096 (by decide)
  have a1 := cut_ok l1 65536 (by decide)
  have a2 := cut_ok l2 65535 (by decide)
  exact ⟨_, _, _, _, _, _, _, _, _, _, _, _, _, _, _, _, _, _, rfl, rfl, rfl, ⟨⟨a0.1, by have := a0.2; show mn (mx l0 1) 4096 ≤ 65536; omega⟩, a1, ⟨a2.1, by have := a2.2; show mn (mx l2 1) 65535 ≤ 65536; omega⟩⟩, .inl ⟨rfl, rfl, rfl, rfl, rfl, rfl⟩⟩
def parP (r : HRes) : HRes := if r.2.2.2.2.2 = 0 then r else (0, 0, 0, 0, 0, r.2.2.2.2.2)
theorem parse_loop : ∀ (suf pre : List Int) (K : Nat) (res : HRes) (f0 f1 f2 f3 f4 f5 f6 f7 f8 : Int) (f9 : Bool) (f10 f11 f12 : Int) (f13 : Bool) (f14 f15 f16 f17 : Int), byteL (pre ++ suf) → (pre ++ suf).length ≤ 1000000 → suf.length < K → Going suf (pre.length : Int) res f0 f1 f2 f3 f4 f5 f6 f7 f8 f9 f10 f11 f12 f13 f14 f15 f16 f17 → head_Parse.l0 K (strOfNums (pre ++ suf)) ((pre ++ suf).length : Int) (pre.length : Int) f0 f1 f2 f3 f4 f5 f6 f7 f8 f9 f10 f11 f12 f13 f14 f15 f16 f17 = some (parP res) := by
  intro suf
  induction suf with
  | nil =>
    intro pre K res f0 f1 f2 f3 f4 f5 f6 f7 f8 f9 f10 f11 f12 f13 f14 f15 f16 f17 hb hl hK hG
    obtain ⟨K, rfl⟩ : ∃ q, K = q + 1 := ⟨K - 1, by omega⟩
    obtain ⟨rfl, _, _⟩ := going_nil _ _ f0 f1 f2 f3 f4 f5 f6 f7 f8 f9 f10 f11 f12 f13 f14 f15 f16 f17 hG
    rw [head_Parse.l0, if_neg (by simp)]
    rfl
  | cons c r ih =>
    intro pre K res f0 f1 f2 f3 f4 f5 f6 f7 f8 f9 f10 f11 f12 f13 f14 f15 f16 f17 hb hl hK hG
    obtain ⟨K, rfl⟩ : ∃ q, K = q + 1 := ⟨K - 1, by omega⟩
    have hc : 0 ≤ c ∧ c ≤ 255 := hb c (List.mem_append_right _ (List.mem_cons_self ..))
    have hlr : (pre ++ c :: r).length = pre.length + (r.length + 1) := by simp
    have e2 : pre ++ c :: r = (pre ++ [c]) ++ r := by simp
    have hl1 : (pre ++ [c]).length = pre.length + 1 := by simp
    have hi : wrap64 ((pre.length : Int) + 1) = ((pre ++ [c]).length : Int) := by rw [hl1]; unfold wrap64; omega
    obtain ⟨s, r0, r1, r2, r3, r4, r5, r6, r7, r8, r9, r10, r11, r12, r13, r14, r15, r16, r17, e, h⟩ := going_put c r (pre.length : Int) res f0 f1 f2 f3 f4 f5 f6 f7 f8 f9 f10 f11 f12 f13 f14 f15 f16 f17 hG hc.1 hc.2
    rw [head_Parse.l0, if_pos (by omega), if_pos (by omega), if_pos (by rw [strOfNums_size]; omega), bt_mid pre r c hb, e, Option.bind_some]
    dsimp only
    rcases h with ⟨rfl, h⟩ | ⟨h0, h⟩
    · rw [if_pos rfl, hi, e2]
      rw [show ((pre.length : Int) + 1) = ((pre ++ [c]).length : Int) from by rw [hl1]; omega] at h
      exact ih (pre ++ [c]) K res r0 r1 r2 r3 r4 r5 r6 r7 r8 r9 r10 r11 r12 r13 r14 r15 r16 r17 (e2 ▸ hb) (e2 ▸ hl) (by rw [List.length_cons] at hK; omega) h
    · rw [if_neg h0]
      unfold head_Reader_Head.f
      obtain ⟨rfl, ⟨rfl, rfl, hk, rfl⟩ | ⟨rfl, h17, rfl⟩⟩ := h
      · rw [if_pos rfl, Option.bind_some]
        dsimp only
        have hz : (r0 == 0) = false := beq_eq_false_iff_ne.2 (by omega)
        rw [hz, Bool.false_and, if_neg (by decide)]
        unfold parP
        rw [if_pos rfl, hi, hl1]
        simp only [Option.some.injEq, Prod.mk.injEq, true_and, and_true]
        omega
      · rw [if_neg (by omega), Option.bind_some]
        dsimp only
        rw [if_pos (by decide)]
        unfold parP
        rw [if_neg (by dsimp only; omega)]
theorem parse_is (L : List Int) (hb : byteL L) (hl : L.length ≤ 1000000) (l0 l1 l2 : Int) (K : Nat) (hK : L.length < K) : head_Parse.f K (strOfNums L) l0 l1 l2 = some (parP (parS (mn (mx l0 1) 4096) (mn (mx l1 1) 65536) (mn (mx l2 1) 65535) L)) := by
  obtain ⟨f0, f1, f2, f3, f4, f5, f6, f7, f8, f9, f10, f11, f12, f13, f14, f15, f16, f17, e, hG⟩ := going_new l0 l1 l2 L
  unfold head_Parse.f
  rw [e, Option.bind_some, strOfNums_size]
  exact parse_loop L [] K _ f0 f1 f2 f3 f4 f5 f6 f7 f8 f9 f10 f11 f12 f13 f14 f15 f16 f17 hb hl hK hG
end Go.Proofs.Ytmimfljiighbaaa.Q
/- A number with one digit more: the document's text. -/
namespace Go.Proofs.Ytmimfljiighbaaa.Q
open Go.RowKit Go.Proofs.YtmimfljiighbaaaW.PrintWords Go.Proofs.YtmimfljiighbaaaW.PrintLast
set_option linter.unusedVariables false
theorem refstep_is (k : Nat) (n c m : Int) (hn : 0 ≤ n) (hn1 : n ≤ 4611686018427387904) (hm : 0 ≤ m) (hm1 : m ≤ 4611686018427387904) (hc : 0 ≤ c) (hc1 : c ≤ 255) : chequerref02_Step.f (k + 1) n c m = some (stepS n c m) := by
  have w0 : wrap64 ((wrap64 c) - 48) = c - 48 := by unfold wrap64; omega
  have w1 : wrap64 (Int.tdiv m 10) = m / 10 := by rw [Int.tdiv_eq_ediv_of_nonneg hm]; unfold wrap64; omega
  have w2 : Int.tmod m 10 = m % 10 := Int.tmod_eq_emod_of_nonneg hm
  unfold chequerref02_Step.f stepS
  by_cases h1 : c < 48
  · rw [if_pos h1]; simp only [chequerref02_Step.j0]; rw [if_pos trivial, if_pos (by omega)]
  · rw [if_neg h1]; simp only [chequerref02_Step.j0]
    by_cases h2 : c > 57
    · rw [if_pos (by simpa using h2), if_pos (by omega)]
    · rw [if_neg (by simpa using h2), if_neg (show ¬ (c < 48 ∨ 57 < c) by omega), w0, w1, w2]
      by_cases h3 : n > m / 10
      · rw [if_pos h3, if_pos (by omega)]
      · rw [if_neg h3]
        have w3 : wrap64 (n * 10) = 10 * n := by unfold wrap64; omega
        rw [w3]
        have w4 : wrap64 (10 * n + (c - 48)) = 10 * n + (c - 48) := by unfold wrap64; omega
        rw [w4]
        by_cases h4 : n = m / 10
        · rw [if_pos h4]
          by_cases h5 : c - 48 > m % 10
          · rw [if_pos h5, if_pos (by omega)]
          · rw [if_neg h5, if_neg (by omega)]
        · rw [if_neg h4, if_neg (by omega)]
end Go.Proofs.Ytmimfljiighbaaa.Q
/- A reader of numbers: the document's text turns as is told. -/
namespace Go.Proofs.Ytmimfljiighbaaa.Q
open Go.RowKit Go.Proofs.YtmimfljiighbaaaW.PrintWords Go.Proofs.YtmimfljiighbaaaW.PrintLast
set_option linter.unusedVariables false
theorem refblank_is (c : Int) : chequerref05_Blank.f c = some (decide (blankP c)) := by
  unfold chequerref05_Blank.f
  by_cases h : c = 32
  · rw [if_pos h, decide_eq_true (.inl h)]
  · rw [if_neg h]
    by_cases h2 : c ≥ 9
    · rw [if_pos h2]
      congr 1
      apply decide_eq_decide.2
      unfold blankP
      omega
    · rw [if_neg h2, decide_eq_false (by unfold blankP; omega)]
theorem refput_is (k : Nat) (a n m e c : Int) (ha : 0 ≤ a ∧ a ≤ 5) (hn : 0 ≤ n) (hn1 : n ≤ m) (hm : m ≤ 4611686018427387904) (hc : 0 ≤ c) (hc1 : c ≤ 255) :
    chequerref05_Put.f (k + 3) a n m e c = some ((tkS a n m e c).1, (tkS a n m e c).2.1, m, (tkS a n m e c).2.2.1, (tkS a n m e c).2.2.2) := by
  have hj : ∀ (q : Bool), q = decide (c = 10 ∨ c = 13) → a ≠ 4 → a ≠ 5 → chequerref05_Put.j0 (k + 3) c q a n m e = some ((tkS a n m e c).1, (tkS a n m e c).2.1, m, (tkS a n m e c).2.2.1, (tkS a n m e c).2.2.2) := by
    intro q hq h4 h5
    unfold tkS
    rw [if_neg h4, if_neg h5]
    simp only [chequerref05_Put.j0]
    by_cases h1 : a = 1
    · rw [if_pos h1, if_pos h1, hq]
      by_cases hl : c = 10 ∨ c = 13
      · rw [if_pos (decide_eq_true hl), if_pos hl]
      · rw [if_neg (by simpa using hl), if_neg hl, h1]
    · rw [if_neg h1, if_neg h1]
      by_cases h3 : a = 3
      · rw [if_pos h3, if_pos h3, hq]
        by_cases hl : c = 10 ∨ c = 13
        · rw [if_pos (decide_eq_true hl), if_pos hl]
        · rw [if_neg (by simpa using hl), if_neg hl, h3]
      · rw [if_neg h3, if_neg h3]
        by_cases h35 : c = 35
        · rw [if_pos h35, if_pos h35, show wrap64 (a + 1) = a + 1 from by unfold wrap64; omega]
        · rw [if_neg h35, if_neg h35, refblank_is, Option.bind_some]
          by_cases hb : blankP c
          · rw [decide_eq_true hb, if_pos rfl, if_pos hb]
            simp only [chequerref05_Put.j1]
            by_cases h0 : a = 0
            · rw [if_pos (by simp [h0]), if_pos h0, h0]
            · rw [if_neg (by simp [h0]), if_neg h0, refblank_is, Option.bind_some, decide_eq_true hb, if_pos rfl]
          · rw [decide_eq_false hb, if_neg (by decide), if_neg hb]
            simp only [chequerref05_Put.j1]
            rw [if_neg (by decide), refblank_is, Option.bind_some, decide_eq_false hb, if_neg (by decide), refstep_is k n c m hn (by omega) (by omega) (by omega) hc hc1, Option.bind_some]
            by_cases hs : (stepS n c m).2 = 0
            · rw [if_pos hs, if_pos hs]
            · rw [if_neg hs, if_neg hs]
  unfold chequerref05_Put.f
  by_cases h4 : a = 4
  · rw [if_pos h4]; unfold tkS; rw [if_pos h4, h4]
  · rw [if_neg h4]
    by_cases h5 : a = 5
    · rw [if_pos h5]; unfold tkS; rw [if_neg h4, if_pos h5, h5]
    · rw [if_neg h5]
      by_cases h10 : c = 10
      · rw [if_pos h10]; exact hj true (by rw [decide_eq_true (.inl h10)]) h4 h5
      · rw [if_neg h10]; exact hj _ (by by_cases h13 : c = 13 <;> simp [h10, h13]) h4 h5
end Go.Proofs.Ytmimfljiighbaaa.Q
/- What a text's head is, by the document, told as one function. -/
namespace Go.Proofs.Ytmimfljiighbaaa.Q
open Go.RowKit Go.Proofs.YtmimfljiighbaaaW.PrintWords Go.Proofs.YtmimfljiighbaaaW.PrintLast
set_option linter.unusedVariables false
set_option maxHeartbeats 2000000 in
theorem refl1_is (l0 l1 l2 k many mv : Int) (hl : limOk l0 l1 l2) (hk : 1 ≤ k ∧ k ≤ 6) (hm : ((k = 1 ∨ k = 4) ∧ many = 2 ∧ mv = 1) ∨ (¬ (k = 1 ∨ k = 4) ∧ many = 3)) :
    ∀ (suf pre : List Int) (K : Nat) (i a n e w h : Int), byteL (pre ++ suf) → (pre ++ suf).length ≤ 1000000 → 4 * suf.length + 10 ≤ K → (i = 0 ∨ i = 1 ∨ (i = 2 ∧ ¬ (k = 1 ∨ k = 4))) → a ≤ 3 → tkOk a n (mostI l0 l1 l2 i) e →
      chequerref06_Parse.l1 K (strOfNums (pre ++ suf)) many [l0, l1, l2] (pre.length : Int) i 0 k w h mv a n (mostI l0 l1 l2 i) e = some (numS k l0 l1 l2 suf (pre.length : Int) i a n e w h) := by
  intro suf
  induction suf with
  | nil =>
    intro pre K i a n e w h hb hL hK hi ha hO
    obtain ⟨K, rfl⟩ : ∃ q, K = q + 2 := ⟨K - 2, by omega⟩
    have hz : ¬ (pre.length : Int) < ((strOfNums (pre ++ [])).size : Int) := by rw [strOfNums_size, List.append_nil]; omega
    rw [chequerref06_Parse.l1, if_pos rfl, if_neg hz, chequerref06_Parse.j6, if_pos rfl]
    rfl
  | cons c r ih =>
    intro pre K i a n e w h hb hL hK hi ha hO
    obtain ⟨K, rfl⟩ : ∃ q, K = q + 8 := ⟨K - 8, by omega⟩
    rw [List.length_cons] at hK
    have hc : 0 ≤ c ∧ c ≤ 255 := hb c (List.mem_append_right _ (List.mem_cons_self ..))
    have hlr : (pre ++ c :: r).length = pre.length + (r.length + 1) := by simp
    have e2 : pre ++ c :: r = (pre ++ [c]) ++ r := by simp
    have hl1 : (pre ++ [c]).length = pre.length + 1 := by simp
    have hw : wrap64 ((pre.length : Int) + 1) = ((pre ++ [c]).length : Int) := by rw [hl1]; unfold wrap64; omega
    have hat : (pre.length : Int) + 1 = ((pre ++ [c]).length : Int) := by rw [hl1]; omega
    have hmo := mostI_ok hl i
    obtain ⟨a0, hn, hnm, he⟩ := hO
    have hO : tkOk a n (mostI l0 l1 l2 i) e := ⟨a0, hn, hnm, he⟩
    have hT := told3 a n (mostI l0 l1 l2 i) e c hO ha
    have hO2 := tkS_ok a n (mostI l0 l1 l2 i) e c hO
    have hsz : (pre.length : Int) < ((strOfNums (pre ++ c :: r)).size : Int) := by rw [strOfNums_size, hlr]; omega
    rw [chequerref06_Parse.l1, if_pos rfl, if_pos hsz, if_pos (by omega), bt_mid pre r c hb, show K + 7 = (K + 4) + 3 from rfl, refput_is (K + 4) a n (mostI l0 l1 l2 i) e c a0 hn hnm (by omega) hc.1 hc.2, Option.bind_some]
    dsimp only
    rw [hw, numS, hat]
    have hb' : byteL ((pre ++ [c]) ++ r) := e2 ▸ hb
    have hL' : ((pre ++ [c]) ++ r).length ≤ 1000000 := e2 ▸ hL
    rw [e2]
    clear hw hat hsz hlr hl1 hc
    generalize hmoe : mostI l0 l1 l2 i = mo at *
    generalize tkS a n mo e c = t at *
    by_cases s0 : t.2.2.2 = 0
    · rw [if_pos s0, s0, ← hmoe]
      exact ih (pre ++ [c]) (K + 4 + 3) i t.1 t.2.1 t.2.2.1 w h hb' hL' (by omega) hi (by omega) (hmoe ▸ hO2)
    · rw [if_neg s0, chequerref06_Parse.l1, if_neg s0, chequerref06_Parse.j6, if_neg s0]
      by_cases s2 : t.2.2.2 = 2
      · rw [if_pos s2, if_pos s2]
      · rw [if_neg s2, if_neg s2]
        by_cases n0 : t.2.1 = 0
        · rw [if_pos n0, if_pos n0]
        · rw [if_neg n0, if_neg n0]
          rcases hi with rfl | rfl | ⟨rfl, hnb⟩
          · rw [if_pos rfl, if_pos rfl, show wrap64 (0 + 1) = 1 from by unfold wrap64; omega, chequerref06_Parse.l0, if_pos (by omega), if_pos (by decide), if_pos (by simp)]
            show chequerref06_Parse.l1 (K + 4) _ many [l0, l1, l2] _ 1 0 k t.2.1 h mv 0 0 (mostI l0 l1 l2 1) 9 = _
            exact ih (pre ++ [c]) (K + 4) 1 0 0 9 t.2.1 h hb' hL' (by omega) (.inr (.inl rfl)) (by omega) (new_ok _ (by have := mostI_ok hl 1; omega))
          · rw [if_neg (by decide), if_pos rfl, if_neg (by decide), if_pos rfl, show wrap64 (1 + 1) = 2 from by unfold wrap64; omega, chequerref06_Parse.l0]
            rcases hm with ⟨hbt, rfl, rfl⟩ | ⟨hbt, rfl⟩
            · rw [if_pos hbt, if_neg (by decide)]
            · rw [if_neg hbt, if_pos (by decide), if_pos (by decide), if_pos (by simp)]
              show chequerref06_Parse.l1 (K + 4) _ 3 [l0, l1, l2] _ 2 0 k w t.2.1 mv 0 0 (mostI l0 l1 l2 2) 9 = _
              exact ih (pre ++ [c]) (K + 4) 2 0 0 9 w t.2.1 hb' hL' (by omega) (.inr (.inr ⟨rfl, hbt⟩)) (by omega) (new_ok _ (by have := mostI_ok hl 2; omega))
          · rw [if_neg (by decide), if_neg (by decide), if_neg (by decide), if_neg (by decide), show wrap64 (2 + 1) = 3 from by unfold wrap64; omega, chequerref06_Parse.l0]
            rcases hm with ⟨hbt, rfl, rfl⟩ | ⟨hbt, rfl⟩
            · exact absurd hbt hnb
            · rw [if_neg (by decide)]
theorem refparse_is (L : List Int) (hb : byteL L) (hl : L.length ≤ 1000000) (x0 x1 x2 : Int) (K : Nat) (hK : 4 * L.length + 30 ≤ K) : chequerref06_Parse.f K (strOfNums L) x0 x1 x2 = some (parS (mn (mx x0 1) 4096) (mn (mx x1 1) 65536) (mn (mx x2 1) 65535) L) := by
  have a0 := cut_ok x0 4096 (by decide)
  have a1 := cut_ok x1 65536 (by decide)
  have a2 := cut_ok x2 65535 (by decide)
  obtain ⟨K, rfl⟩ : ∃ q, K = q + 10 := ⟨K - 10, by omega⟩
  unfold chequerref06_Parse.f
  cases L with
  | nil =>
    rw [if_neg (by rw [strOfNums_size]; simp), chequerref06_Parse.j0, if_neg (by decide), if_neg (by rw [strOfNums_size]; simp), chequerref06_Parse.j1, if_neg (by decide), if_neg (by rw [strOfNums_size]; simp), chequerref06_Parse.j2, if_neg (by decide), if_pos (by rw [strOfNums_size]; simp), strOfNums_size]
    rfl
  | cons c0 L =>
    have b0 : bt (strOfNums (c0 :: L)) 0 = c0 := bt_mid [] L c0 hb
    have z0 : (0 : Int) < ((strOfNums (c0 :: L)).size : Int) := by rw [strOfNums_size, List.length_cons]; omega
    rw [if_pos z0, if_pos z0, b0, chequerref06_Parse.j0]
    by_cases h0 : c0 = 80
    · have q0 : (c0 != 80) = false := by rw [h0]; rfl
      have hp : parS (mn (mx x0 1) 4096) (mn (mx x1 1) 65536) (mn (mx x2 1) 65535) (c0 :: L) = parS1 (mn (mx x0 1) 4096) (mn (mx x1 1) 65536) (mn (mx x2 1) 65535) L := by rw [parS, if_neg (by simpa using h0)]
      rw [q0, if_neg (by decide), hp]
      clear hp
      cases L with
      | nil =>
        rw [if_neg (by rw [strOfNums_size]; simp), chequerref06_Parse.j1, if_neg (by decide), if_neg (by rw [strOfNums_size]; simp), chequerref06_Parse.j2, if_neg (by decide), if_pos (by rw [strOfNums_size]; simp), strOfNums_size]
        rfl
      | cons c1 L =>
        have b1 : bt (strOfNums (c0 :: c1 :: L)) 1 = c1 := bt_mid [c0] L c1 hb
        have z1 : (1 : Int) < ((strOfNums (c0 :: c1 :: L)).size : Int) := by rw [strOfNums_size, List.length_cons, List.length_cons]; omega
        have hj : ∀ q : Bool, q = decide (c1 < 49 ∨ c1 > 54) → chequerref06_Parse.j1 (K + 9) (strOfNums (c0 :: c1 :: L)) q x0 x1 x2 = some (parS1 (mn (mx x0 1) 4096) (mn (mx x1 1) 65536) (mn (mx x2 1) 65535) (c1 :: L)) := by
          intro q hq
          rw [parS1, chequerref06_Parse.j1, hq]
          by_cases h1 : c1 < 49 ∨ c1 > 54
          · rw [if_pos (decide_eq_true h1), if_pos h1]
          · rw [if_neg (by simpa using h1), if_neg h1]
            have hkind : wrap64 (wrap64 c1 - 48) = c1 - 48 := by
              have : wrap64 c1 = c1 := by unfold wrap64; omega
              rw [this]; unfold wrap64; omega
            cases L with
            | nil =>
              rw [if_neg (by rw [strOfNums_size]; simp), chequerref06_Parse.j2, if_neg (by decide), if_pos (by rw [strOfNums_size]; simp), strOfNums_size]
              rfl
            | cons c2 L =>
              have b2 : bt (strOfNums (c0 :: c1 :: c2 :: L)) 2 = c2 := bt_mid [c0, c1] L c2 hb
              have z2 : (2 : Int) < ((strOfNums (c0 :: c1 :: c2 :: L)).size : Int) := by rw [strOfNums_size, List.length_cons, List.length_cons, List.length_cons]; omega
              have hj2 : ∀ q : Bool, q = decide (¬ blankP c2 ∧ c2 ≠ 35) → chequerref06_Parse.j2 (K + 8) (strOfNums (c0 :: c1 :: c2 :: L)) q x0 x1 x2 = some (parS2 (mn (mx x0 1) 4096) (mn (mx x1 1) 65536) (mn (mx x2 1) 65535) (c1 - 48) (c2 :: L)) := by
                intro q hq
                rw [parS2, chequerref06_Parse.j2, hq]
                by_cases h2 : ¬ blankP c2 ∧ c2 ≠ 35
                · rw [if_pos (decide_eq_true h2), if_pos h2]
                · rw [if_neg (by rw [decide_eq_true_iff]; exact h2), if_neg h2, if_neg (by omega), if_pos z1, b1, hkind]
                  have lim : limOk (mn (mx x0 1) 4096) (mn (mx x1 1) 65536) (mn (mx x2 1) 65535) := ⟨⟨a0.1, by omega⟩, a1, ⟨a2.1, by omega⟩⟩
                  have fin : ∀ (many mv : Int), ((((c1 - 48) = 1 ∨ (c1 - 48) = 4) ∧ many = 2 ∧ mv = 1) ∨ (¬ ((c1 - 48) = 1 ∨ (c1 - 48) = 4) ∧ many = 3)) → chequerref06_Parse.j3 (K + 7) (strOfNums (c0 :: c1 :: c2 :: L)) many x0 x1 x2 (c1 - 48) 0 0 mv = some (numS (c1 - 48) (mn (mx x0 1) 4096) (mn (mx x1 1) 65536) (mn (mx x2 1) 65535) (c2 :: L) 2 0 0 0 9 0 0) := by
                    intro many mv hm
                    rw [chequerref06_Parse.j3]
                    unfold chequerref06_limits.f
                    rw [Option.bind_some, chequerref06_Parse.l0, if_pos (by omega), if_pos (by decide), if_pos (by simp)]
                    exact refl1_is (mn (mx x0 1) 4096) (mn (mx x1 1) 65536) (mn (mx x2 1) 65535) (c1 - 48) many mv lim (by omega) hm (c2 :: L) [c0, c1] (K + 5) 0 0 0 9 0 0 hb hl (by simp only [List.length_cons] at hK ⊢; omega) (.inl rfl) (by omega) (new_ok _ (by have := mostI_ok lim 0; omega))
                  unfold chequerref06_bits.f
                  by_cases k1 : c1 - 48 = 1
                  · rw [if_pos k1, Option.bind_some, if_pos rfl]
                    exact fin 2 1 (.inl ⟨.inl k1, rfl, rfl⟩)
                  · by_cases k4 : c1 - 48 = 4
                    · rw [if_neg k1, Option.bind_some, if_pos (beq_iff_eq.2 k4)]
                      exact fin 2 1 (.inl ⟨.inr k4, rfl, rfl⟩)
                    · rw [if_neg k1, Option.bind_some, if_neg (by simpa using k4)]
                      exact fin 3 0 (.inr ⟨by omega, rfl⟩)
              rw [if_pos z2, if_pos z2, b2]
              by_cases h35 : c2 = 35
              · rw [if_pos h35]
                exact hj2 false (by rw [decide_eq_false (fun h => h.2 h35)])
              · rw [if_neg h35, refblank_is, Option.bind_some]
                exact hj2 _ (by by_cases hbl : blankP c2 <;> simp [hbl, h35])
        rw [if_pos z1, if_pos z1, b1]
        by_cases h49 : c1 < 49
        · rw [if_pos h49]
          exact hj true (by rw [decide_eq_true (.inl h49)])
        · rw [if_neg h49]
          exact hj _ (decide_eq_decide.2 (by omega))
    · have q0 : (c0 != 80) = true := bne_iff_ne.2 h0
      rw [q0, if_pos rfl, parS, if_pos h0]
end Go.Proofs.Ytmimfljiighbaaa.Q
/- A head's bytes: both texts answer the same. -/
namespace Go.Proofs.Ytmimfljiighbaaa.Q
open Go.RowKit Go.Proofs.YtmimfljiighbaaaW.PrintWords Go.Proofs.YtmimfljiighbaaaW.PrintLast
set_option linter.unusedVariables false
def MayP (k w h m : Int) : Prop := (1 ≤ k ∧ k ≤ 6) ∧ (1 ≤ w ∧ w ≤ 4096) ∧ (1 ≤ h ∧ h ≤ 65536) ∧ (1 ≤ m ∧ m ≤ 65535) ∧ (¬ (k = 1 ∨ k = 4) ∨ m = 1)
instance (k w h m : Int) : Decidable (MayP k w h m) := by unfold MayP; exact inferInstance
theorem bits_is (k : Int) : chequerref06_bits.f k = some (decide (k = 1 ∨ k = 4)) := by
  unfold chequerref06_bits.f
  by_cases h : k = 1
  · rw [if_pos h, decide_eq_true (.inl h)]
  · rw [if_neg h]
    by_cases h4 : k = 4
    · rw [decide_eq_true (.inr h4), beq_iff_eq.2 h4]
    · rw [decide_eq_false (by omega), beq_eq_false_iff_ne.2 h4]
theorem refmay_is (k w h m : Int) : chequerref06_May.f k w h m = some (decide (MayP k w h m)) := by
  unfold chequerref06_May.f
  by_cases h1 : k < 1
  · rw [if_pos h1, decide_eq_false (by unfold MayP; omega)]
  rw [if_neg h1]
  by_cases h2 : k > 6
  · rw [if_pos h2, decide_eq_false (by unfold MayP; omega)]
  rw [if_neg h2]
  by_cases h3 : w < 1
  · rw [if_pos h3, decide_eq_false (by unfold MayP; omega)]
  rw [if_neg h3]
  by_cases h4 : w > 4096
  · rw [if_pos h4, decide_eq_false (by unfold MayP; omega)]
  rw [if_neg h4]
  by_cases h5 : h < 1
  · rw [if_pos h5, decide_eq_false (by unfold MayP; omega)]
  rw [if_neg h5]
  by_cases h6 : h > 65536
  · rw [if_pos h6, decide_eq_false (by unfold MayP; omega)]
  rw [if_neg h6]
  by_cases h7 : m < 1
  · rw [if_pos h7, decide_eq_false (by unfold MayP; omega)]
  rw [if_neg h7]
  by_cases h8 : m > 65535
  · rw [if_pos h8, decide_eq_false (by unfold MayP; omega)]
  rw [if_neg h8]
  by_cases h9 : m = 1
  · rw [if_pos h9, decide_eq_true (by unfold MayP; omega)]
  rw [if_neg h9, bits_is, Option.bind_some]
  by_cases hb : k = 1 ∨ k = 4
  · rw [decide_eq_true hb, decide_eq_false (by unfold MayP; omega)]
    rfl
  · rw [decide_eq_false hb, decide_eq_true (by unfold MayP; omega)]
    rfl
def wrL (k w h m : Nat) : List Int := if k = 1 ∨ k = 4 then [80] ++ dg k ++ [10] ++ dg w ++ [32] ++ dg h ++ [10] else [80] ++ dg k ++ [10] ++ dg w ++ [32] ++ dg h ++ [10] ++ dg m ++ [10]
theorem c80 : (⟨#[80]⟩ : ByteArray) = strOfNums [80] := rfl
theorem c10 : (⟨#[10]⟩ : ByteArray) = strOfNums [10] := rfl
theorem c32 : (⟨#[32]⟩ : ByteArray) = strOfNums [32] := rfl
theorem small_len (u : Nat) (h : u ≤ 100000) : (dg u).length ≤ 19 := dg_len u (by omega)
theorem refwrite_is (k w h m : Nat) (hM : MayP k w h m) (K : Nat) (hK : 90 ≤ K) : chequerref06_Write.f K k w h m = some (strOfNums (wrL k w h m), 0) := by
  have hM' := hM
  obtain ⟨hk, hw, hh, hm, hb⟩ := hM
  have z1 := small_len k (by omega)
  have z2 := small_len w (by omega)
  have z3 := small_len h (by omega)
  have z4 := small_len m (by omega)
  unfold chequerref06_Write.f
  rw [refmay_is, Option.bind_some, decide_eq_true hM', if_pos rfl, refdg_nat k K (by omega) (by omega) hK, Option.bind_some, refdg_nat w K (by omega) (by omega) hK, Option.bind_some, refdg_nat h K (by omega) (by omega) hK, Option.bind_some, bits_is, Option.bind_some, refdg_nat m K (by omega) (by omega) hK, Option.bind_some]
  simp only [c80, c10, c32, ← strOfNums_cat]
  have q : ∀ n : Nat, n ≤ 200 → n ≤ 9223372036854775807 := fun n h => by omega
  rw [if_pos (by rw [strOfNums_size]; exact q _ (by omega)), if_pos (by rw [strOfNums_size]; simp only [List.length_append, List.length_cons, List.length_nil]; exact q _ (by omega)), if_pos (by rw [strOfNums_size, strOfNums_size]; simp only [List.length_append, List.length_cons, List.length_nil]; exact q _ (by omega)), if_pos (by rw [strOfNums_size]; simp only [List.length_append, List.length_cons, List.length_nil]; exact q _ (by omega)), if_pos (by rw [strOfNums_size, strOfNums_size]; simp only [List.length_append, List.length_cons, List.length_nil]; exact q _ (by omega)), if_pos (by rw [strOfNums_size]; simp only [List.length_append, List.length_cons, List.length_nil]; exact q _ (by omega))]
  unfold wrL
  by_cases hbt : k = 1 ∨ k = 4
  · rw [decide_eq_true (by omega : (k : Int) = 1 ∨ (k : Int) = 4), if_pos rfl, if_pos hbt]
  · rw [decide_eq_false (by omega : ¬ ((k : Int) = 1 ∨ (k : Int) = 4)), if_neg (by decide), if_neg hbt, if_pos (by rw [strOfNums_size, strOfNums_size]; simp only [List.length_append, List.length_cons, List.length_nil]; exact q _ (by omega)), if_pos (by rw [strOfNums_size]; simp only [List.length_append, List.length_cons, List.length_nil]; exact q _ (by omega))]
theorem may_nat (k w h m : Int) (hM : MayP k w h m) : ∃ a b c d : Nat, k = (a : Int) ∧ w = (b : Int) ∧ h = (c : Int) ∧ m = (d : Int) := by
  obtain ⟨hk, hw, hh, hm, hb⟩ := hM
  exact ⟨k.toNat, w.toNat, h.toNat, m.toNat, by omega, by omega, by omega, by omega⟩
theorem ok_may {k w h m : Int} (ho : HdOk k w h m) : MayP k w h m := by
  unfold HdOk at ho
  unfold MayP
  omega
theorem wrL_len (k w h m : Nat) (hM : MayP k w h m) : (wrL k w h m).length ≤ 90 ∧ 0 < (wrL k w h m).length := by
  obtain ⟨hk, hw, hh, hm, hb⟩ := hM
  have z1 := small_len k (by omega)
  have z2 := small_len w (by omega)
  have z3 := small_len h (by omega)
  have z4 := small_len m (by omega)
  unfold wrL
  split <;> simp only [List.length_append, List.length_cons, List.length_nil] <;> omega
end Go.Proofs.Ytmimfljiighbaaa.Q
/- The document's example of layer 6. -/
namespace Go.Proofs.Ytmimfljiighbaaa.Q
open Go.RowKit Go.Proofs.YtmimfljiighbaaaW.PrintWords Go.Proofs.YtmimfljiighbaaaW.PrintLast
theorem lives06 : chequerlaw06_lives.f 40 = some true := by decide +kernel
theorem lives_more (k : Nat) (hk : 40 ≤ k) : chequerlaw06_lives.f k = some true := by
  obtain ⟨d, rfl⟩ := Nat.exists_eq_add_of_le hk
  clear hk
  induction d with
  | zero => exact lives06
  | succ d ih => exact chequerlaw06_lives.mono (40 + d) _ ih
end Go.Proofs.Ytmimfljiighbaaa.Q
/- The head that a text begins with, or its error, is the document's: for any text, any limits, a head's bytes of which one may be another. No condition. -/
namespace Go.Proofs.Ytmimfljiighbaaa.Pure
open Go.RowKit Go.Proofs.Ytmimfljiighbaaa.Q Go.Proofs.YtmimfljiighbaaaW.PrintWords Go.Proofs.YtmimfljiighbaaaW.PrintLast
set_option linter.unusedVariables false
theorem parS_err (l0 l1 l2 : Int) (L : List Int) : (parS l0 l1 l2 L).2.2.2.2.2 ≠ 0 → ∃ at_ e, parS l0 l1 l2 L = (0, 0, 0, 0, at_, e) := by
  have hN : ∀ (k : Int) (L : List Int) (at_ i a n e w h : Int), (numS k l0 l1 l2 L at_ i a n e w h).2.2.2.2.2 ≠ 0 → ∃ x y, numS k l0 l1 l2 L at_ i a n e w h = (0, 0, 0, 0, x, y) := by
    intro k L
    induction L with
    | nil => intro at_ i a n e w h _; exact ⟨_, _, rfl⟩
    | cons c r ih =>
      intro at_ i a n e w h
      rw [numS]
      repeat' split
      all_goals first
        | (exact ih _ _ _ _ _ _ _)
        | (intro _; exact ⟨_, _, rfl⟩)
        | (intro h; exact absurd rfl h)
  cases L with
  | nil => intro _; exact ⟨_, _, rfl⟩
  | cons c r =>
    rw [parS]
    split
    · intro _; exact ⟨_, _, rfl⟩
    · cases r with
      | nil => intro _; exact ⟨_, _, rfl⟩
      | cons c1 r =>
        rw [parS1]
        split
        · intro _; exact ⟨_, _, rfl⟩
        · cases r with
          | nil => intro _; exact ⟨_, _, rfl⟩
          | cons c2 r =>
            rw [parS2]
            split
            · intro _; exact ⟨_, _, rfl⟩
            · exact hN _ _ _ _ _ _ _ _ _
theorem both_err (s : ByteArray) (hs : s.size ≤ 1000) (l0 l1 l2 : Int) (K : Nat) (hK : 5000 ≤ K) : ∃ r : HRes, head_Parse.f K s l0 l1 l2 = some (parP r) ∧ chequerref06_Parse.f K s l0 l1 l2 = some r ∧ (r.2.2.2.2.2 ≠ 0 → ∃ at_ e, r = (0, 0, 0, 0, at_, e)) := by
  obtain ⟨L, hb, rfl, hl⟩ := str_nums s
  exact ⟨_, parse_is L hb (by omega) l0 l1 l2 K (by omega), refparse_is L hb (by omega) l0 l1 l2 K (by omega), parS_err _ _ _ L⟩
theorem hp_step (l : List ByteArray) (hl : l.length = 5) (hs : ∀ x ∈ l, x.size ≤ 1000) (a b c : Int) : ∀ (d i k : Nat), i + d = 5 → 5000 + 4 * d ≤ k → chequerlaw06_HeadParses.l0 k l (i : Int) a b c = some true := by
  intro d
  induction d with
  | zero =>
    intro i k hi hk
    obtain ⟨k, rfl⟩ : ∃ q, k = q + 1 := ⟨k - 1, by omega⟩
    rw [chequerlaw06_HeadParses.l0, if_neg (by omega), lives_more k (by omega), Option.bind_some]
  | succ d ih =>
    intro i k hi hk
    obtain ⟨k, rfl⟩ : ∃ q, k = q + 3 := ⟨k - 3, by omega⟩
    have hw : wrap64 ((i : Int) + 1) = ((i + 1 : Nat) : Int) := by unfold wrap64; omega
    have hj : ∀ x y z : Int, chequerlaw06_HeadParses.j1 (k + 2) l (i : Int) a b c x y z = some true := by
      intro x y z
      have hm : rdOf ByteArray.empty l (i : Int) ∈ l := by
        unfold rdOf
        rw [Int.toNat_natCast, List.getD_eq_getElem?_getD, List.getElem?_eq_getElem (by omega)]
        exact List.getElem_mem _
      obtain ⟨r, h1, h2, h3⟩ := both_err _ (hs _ hm) x y z (k + 1) (by omega)
      rw [chequerlaw06_HeadParses.j1, if_pos (by omega), if_pos (by omega), h1, h2, Option.bind_some, Option.bind_some]
      have hI := ih (i + 1) k (by omega) (by omega)
      have ha : ∀ p q r s : Int, chequerlaw06_as.f p q r s = some (p, q, r, s) := fun _ _ _ _ => rfl
      by_cases he : r.2.2.2.2.2 = 0
      · have hp : parP r = r := by unfold parP; rw [if_pos he]
        rw [hp, if_pos he, chequerlaw06_HeadParses.j2, ha, Option.bind_some]
        dsimp only
        rw [if_neg (by simp), if_pos rfl, if_pos rfl, hw, hI]
      · obtain ⟨x0, e0, rfl⟩ := h3 he
        have hp : parP (0, 0, 0, 0, x0, e0) = (0, 0, 0, 0, 0, e0) := by unfold parP; rw [if_neg he]
        rw [hp, if_neg he, chequerlaw06_HeadParses.j2, ha, Option.bind_some]
        dsimp only
        rw [if_neg (by simp), if_pos rfl, if_pos rfl, hw, hI]
    rw [chequerlaw06_HeadParses.l0, if_pos (by omega)]
    split
    · exact hj _ _ _
    · exact hj _ _ _
set_option maxHeartbeats 1000000 in
theorem HeadParses : chequerlaw06_HeadParses.Pure := by
  intro s a b c g0 g1 g2 g3 p q hs ha hb hc h0 h1 h2 h3 hp hq
  obtain ⟨k, w, h, m, hg, hk⟩ := good_is g0 g1 g2 g3 (wf_i64 h0) (wf_i64 h1) (wf_i64 h2) (wf_i64 h3)
  have hM := ok_may hk
  obtain ⟨ku, wu, hu, mu, rfl, rfl, rfl, rfl⟩ := may_nat k w h m hM
  obtain ⟨p0, p1⟩ := wf_i64 hp
  have hl := wrL_len ku wu hu mu hM
  have hz : (strOfNums (wrL ku wu hu mu)).size = (wrL ku wu hu mu).length := strOfNums_size _
  refine ⟨6000, ?_⟩
  unfold chequerlaw06_HeadParses.f
  have hf : chequerref05_Few.f s 60 = some _ := few_is s 60
  have hfz := few_size s 60
  rw [hf, Option.bind_some, hg, Option.bind_some]
  dsimp only
  rw [refwrite_is ku wu hu mu hM 6000 (by omega), Option.bind_some]
  dsimp only
  generalize (if s.size > 60 then s.extract 0 60 else s) = t at *
  generalize strOfNums (wrL ku wu hu mu) = T at *
  generalize (wrL ku wu hu mu).length = n at *
  obtain ⟨r0, r1⟩ := aroundZ_range p (T.size : Int) (by omega)
  rw [if_neg (by omega), around_is p (T.size : Int) p0 p1 (by omega), Option.bind_some]
  generalize aroundZ p (T.size : Int) = z at *
  have hw : wrap64 (z + 1) = z + 1 := wr_id _ (by omega) (by omega)
  have y1 : (strOfNums [q]).size = 1 := strOfNums_size _
  have z1 : (T.extract 0 z.toNat).size ≤ 100 := by rw [ByteArray.size_extract]; omega
  have z2 : (T.extract (z + 1).toNat T.size).size ≤ 100 := by rw [ByteArray.size_extract]; omega
  have z3 : (T.extract 0 z.toNat ++ strOfNums [q]).size ≤ 101 := by rw [ByteArray.size_append]; omega
  rw [if_pos r0, if_pos (by omega), Option.bind_some, if_pos (by omega), hw, if_pos (by omega), if_pos (by omega), if_pos (by omega), if_pos (by omega)]
  refine hp_step _ rfl ?_ a b c 5 0 6000 rfl (by omega)
  intro x hx
  simp only [List.mem_cons, List.not_mem_nil, or_false] at hx
  rcases hx with rfl | rfl | rfl | rfl | rfl
  · omega
  · omega
  · rw [ByteArray.size_append]; omega
  · omega
  · rw [ByteArray.size_append, show (⟨#[80, 53, 10]⟩ : ByteArray).size = 3 from rfl]; omega
end Go.Proofs.Ytmimfljiighbaaa.Pure
