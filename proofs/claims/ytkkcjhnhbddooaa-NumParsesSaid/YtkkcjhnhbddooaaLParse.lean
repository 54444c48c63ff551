/- The number of a text: both texts answer the same, and a number's digits are read as it was. -/
import Derived.Test.YtkkcjhnhbddooaaInum_Decimal
import Derived.Test.YtkkcjhnhbddooaaInum_Parse
import Derived.Test.YtkkcjhnhbddooaaLDecimal
import Derived.Test.YtkkcjhnhbddooaaLStep
import Derived.Test.YtkkcjhnhbddooaaQ1
import Derived.Test.YtkkcjhnhbddooaaQ12
namespace Go.Proofs.Ytkkcjhnhbddooaa.Q
open Go.RowKit Go.Proofs.YtkkcjhnhbddooaaW.PrintWords Go.Proofs.YtkkcjhnhbddooaaW.PrintLast
set_option linter.unusedVariables false
def parseS (m : Int) : List Int → Int → Int × Int
  | [], n => (n, 0)
  | c :: r, n => if (stepS n c m).2 = 0 then parseS m r (stepS n c m).1 else (0, (stepS n c m).2)
def bytesZ (l : List UInt8) : List Int := l.map fun c => (c.toNat : Int)
theorem parseS_cons (m : Int) (c : Int) (r : List Int) (n : Int) : parseS m (c :: r) n = if (stepS n c m).2 = 0 then parseS m r (stepS n c m).1 else (0, (stepS n c m).2) := rfl
theorem bytesZ_cons (c : UInt8) (r : List UInt8) : bytesZ (c :: r) = (c.toNat : Int) :: bytesZ r := rfl
theorem parseS_one (m : Int) (c : Int) (n : Int) (x : Int) (h : stepS n c m = (x, 0)) : parseS m [c] n = (x, 0) := by rw [parseS_cons, h, if_pos rfl]; rfl
theorem parseS_bad (m : Int) (c : Int) (r : List Int) (n : Int) (x e : Int) (h : stepS n c m = (x, e)) (he : e ≠ 0) : parseS m (c :: r) n = (0, e) := by rw [parseS_cons, h, if_neg he]
theorem parseL_is (m : Int) (hm : 0 ≤ m) (hm1 : m ≤ 4611686018427387904) : ∀ (l : List UInt8) (n : Int), 0 ≤ n → n ≤ 4611686018427387904 → num_parseL m l n = some (parseS m (bytesZ l) n) := by
  intro l
  induction l with
  | nil => intro n _ _; rfl
  | cons c r ih =>
    intro n h0 h1
    have hc := c.toNat_lt
    obtain ⟨s0, s1⟩ := stepS_ok n (c.toNat : Int) m h0 hm
    have hs := step_is 0 n (c.toNat : Int) m h0 h1 hm hm1 (by omega) (by omega)
    show ((num_Step.f 1 n (c.toNat : Int) m).bind fun t => if t.2 = 0 then num_parseL m r t.1 else some (0, t.2)) = some (parseS m (bytesZ (c :: r)) n)
    rw [hs, Option.bind_some, ih _ s0 (by omega), bytesZ_cons, parseS_cons]
    by_cases h : (stepS n (c.toNat : Int) m).2 = 0
    · rw [if_pos h, if_pos h]
    · rw [if_neg h, if_neg h]
theorem refparse_go (s : ByteArray) (m : Int) (hm : 0 ≤ m) (hm1 : m ≤ 4611686018427387904) (hs : s.size ≤ 1000) : ∀ (d i k : Nat) (n : Int), s.size - i ≤ d → i ≤ s.size → 0 ≤ n → n ≤ 4611686018427387904 → d + 2 < k →
    chequerref02_Parse.l0 k s m n (i : Int) = some (if s.size = 0 then (0, 3) else parseS m (bytesZ (s.data.toList.drop i)) n) := by
  have hlen : s.data.toList.length = s.size := rfl
  intro d
  induction d with
  | zero =>
    intro i k n hd hi h0 h1 hk
    obtain ⟨k, rfl⟩ : ∃ m, k = m + 1 := ⟨k - 1, by omega⟩
    simp only [chequerref02_Parse.l0]
    rw [if_neg (by omega), ByteArray.toList_eq]
    by_cases hz : s.size = 0
    · rw [if_pos (List.eq_nil_of_length_eq_zero (hlen.trans hz)), if_pos hz]
    · rw [if_neg (fun e => hz (by rw [← hlen, e]; rfl)), if_neg hz, List.drop_of_length_le (by omega)]
      rfl
  | succ d ih =>
    intro i k n hd hi h0 h1 hk
    by_cases hlt : i < s.size
    · obtain ⟨k, rfl⟩ : ∃ m, k = m + 2 := ⟨k - 2, by omega⟩
      rw [chequerref02_Parse.l0]
      obtain ⟨b0, b1⟩ := bt_range s (i : Int)
      have hdr : s.data.toList.drop i = s.data.toList[i]'(by omega) :: s.data.toList.drop (i + 1) := List.drop_eq_getElem_cons (by omega)
      have hbt : bt s (i : Int) = ((s.data.toList[i]'(by omega)).toNat : Int) := by
        unfold bt
        rw [dif_pos (by rw [Int.toNat_natCast]; exact hlt)]
        simp only [Int.toNat_natCast]
        rfl
      have hw : wrap64 ((i : Int) + 1) = ((i + 1 : Nat) : Int) := by unfold wrap64; omega
      rw [hdr, bytesZ_cons, ← hbt]
      clear hdr hbt
      obtain ⟨s0, s1⟩ := stepS_ok n (bt s (i : Int)) m h0 hm
      have hz : ¬ s.size = 0 := by omega
      have ih' := ih (i + 1) (k + 1) _ (by omega) (by omega) s0 (by omega) (by omega)
      rw [if_neg hz] at ih'
      rw [if_pos (by omega), if_pos (by omega), refstep_is k n _ m h0 h1 hm hm1 b0 b1, Option.bind_some, hw, if_neg hz, parseS_cons, ih']
      by_cases h : (stepS n (bt s (i : Int)) m).2 = 0
      · rw [if_pos h, if_pos h]
      · rw [if_neg h, if_neg h]
    · exact ih i k n (by omega) hi h0 h1 (by omega)
theorem parse_is (s : ByteArray) (m : Int) (hm : 0 ≤ m) (hm1 : m ≤ 4611686018427387904) : num_Parse.f s m = some (if s.size = 0 then (0, 3) else parseS m (bytesZ s.data.toList) 0) := by
  unfold num_Parse.f
  rw [parseL_is m hm hm1 _ 0 (by omega) (by omega)]
  split <;> rfl
theorem refparse_is (s : ByteArray) (m : Int) (hm : 0 ≤ m) (hm1 : m ≤ 4611686018427387904) (hs : s.size ≤ 1000) (k : Nat) (hk : 1010 ≤ k) : chequerref02_Parse.f k s m = some (if s.size = 0 then (0, 3) else parseS m (bytesZ s.data.toList) 0) := by
  unfold chequerref02_Parse.f
  have := refparse_go s m hm hm1 hs s.size 0 k 0 (by omega) (by omega) (by omega) (by omega) (by omega)
  simpa using this
theorem parseS_app (m : Int) : ∀ (a b : List Int) (n : Int), parseS m (a ++ b) n = if (parseS m a n).2 = 0 then parseS m b (parseS m a n).1 else parseS m a n := by
  intro a
  induction a with
  | nil => intro b n; show _ = if (0 : Int) = 0 then _ else _; rw [if_pos rfl]; rfl
  | cons c r ih =>
    intro b n
    rw [List.cons_append, parseS_cons, parseS_cons]
    by_cases h : (stepS n c m).2 = 0
    · rw [if_pos h, if_pos h, ih]
    · rw [if_neg h, if_neg h, if_neg h]
theorem stepS_digit (n m : Int) (d : Nat) (hd : d < 10) : stepS n ((48 + d : Nat) : Int) m = if m < 10 * n + d then (0, 4) else (10 * n + d, 0) := by
  unfold stepS
  rw [if_neg (by omega)]
  have : ((48 + d : Nat) : Int) - 48 = d := by omega
  rw [this]
theorem parseS_dec (m : Int) (hm : 0 ≤ m) : ∀ u : Nat, parseS m (num_decR u).reverse 0 = if (u : Int) ≤ m then ((u : Int), 0) else (0, 4) := by
  intro u
  induction u using Nat.strongRecOn with
  | _ u ih =>
    by_cases hs : u < 10
    · rw [decR_small u hs]
      have e := stepS_digit 0 m u hs
      by_cases h : (u : Int) ≤ m
      · rw [if_neg (by omega)] at e
        rw [if_pos h]
        exact parseS_one m _ 0 _ (e.trans (by simp))
      · rw [if_pos (by omega)] at e
        rw [if_neg h]
        exact parseS_bad m _ [] 0 _ _ e (by decide)
    · rw [decR_big u hs, List.reverse_cons, parseS_app, ih (u / 10) (by omega)]
      by_cases h1 : ((u / 10 : Nat) : Int) ≤ m
      · rw [if_pos h1, if_pos rfl]
        have e := stepS_digit ((u / 10 : Nat) : Int) m (u % 10) (Nat.mod_lt _ (by decide))
        have e' : 10 * ((u / 10 : Nat) : Int) + ((u % 10 : Nat) : Int) = u := by omega
        rw [e'] at e
        by_cases h : (u : Int) ≤ m
        · rw [if_neg (by omega)] at e
          rw [if_pos h]
          exact parseS_one m _ _ _ e
        · rw [if_pos (by omega)] at e
          rw [if_neg h]
          exact parseS_bad m _ [] _ _ _ e (by decide)
      · rw [if_neg h1, if_neg (by decide), if_neg (by omega)]
theorem bytesZ_str (l : List Int) (h : ∀ x ∈ l, 0 ≤ x ∧ x ≤ 255) : bytesZ (strOfNums l).data.toList = l := by
  rw [strOfNums_data]
  unfold bytesZ
  rw [List.map_map]
  conv => rhs; rw [← List.map_id l]
  refine List.map_congr_left fun x hx => ?_
  obtain ⟨a, b⟩ := h x hx
  show ((UInt8.ofNat x.toNat).toNat : Int) = x
  rw [UInt8.toNat_ofNat_of_lt' (by show x.toNat < 256; omega)]
  omega
theorem decR_bytes : ∀ u : Nat, ∀ x ∈ num_decR u, 0 ≤ x ∧ x ≤ 255 := by
  intro u
  induction u using Nat.strongRecOn with
  | _ u ih =>
    intro x hx
    by_cases hs : u < 10
    · rw [decR_small u hs] at hx
      rw [List.mem_singleton.1 hx]
      omega
    · rw [decR_big u hs] at hx
      rcases List.mem_cons.1 hx with h | h
      · rw [h]; omega
      · exact ih (u / 10) (by omega) x h
theorem decR_ne (u : Nat) : 0 < (num_decR u).length := by
  by_cases h : u < 10
  · rw [decR_small u h]; simp
  · rw [decR_big u h]; simp
theorem decL_nat (u : Nat) : num_decL (u : Int) = (num_decR u).reverse := by unfold num_decL; rw [if_neg (by omega), List.append_nil, Int.natAbs_natCast]
end Go.Proofs.Ytkkcjhnhbddooaa.Q
