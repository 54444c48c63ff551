/- A pixel's samples, formats, and what is made of any numbers: the document's functions told in plain lists. -/
import Derived.Test.YtjpaabjhlaibfaaIpix_Unpack
import Derived.Test.YtjpaabjhlaibfaaLAround
import Derived.Test.YtjpaabjhlaibfaaLPix
import Derived.Test.YtjpaabjhlaibfaaQ5
namespace Go.Proofs.Ytjpaabjhlaibfaa.Q
open Go.RowKit Go.Proofs.YtjpaabjhlaibfaaW.PrintWords Go.Proofs.YtjpaabjhlaibfaaW.PrintLast
set_option linter.unusedVariables false
theorem wz (n : Int) (h0 : -9223372036854775808 ≤ n) (h1 : n ≤ 9223372036854775807) : wrap64 n = n := by unfold wrap64; omega
theorem pixunpack_is (p : Int) (h0 : 0 ≤ p) (h1 : p ≤ 18446744073709551615) : pix_Unpack.f p = some (pixL p) := by unfold pix_Unpack.f; rw [if_pos ⟨h0, h1⟩]
theorem refunpack_is (p : Int) (h0 : 0 ≤ p) (h1 : p ≤ 18446744073709551615) : chequerref01_Unpack.f p = some (pixL p) := by
  unfold chequerref01_Unpack.f
  have r0 : 0 ≤ p % 281474976710656 := by omega
  have r1 : p % 281474976710656 < 281474976710656 := by omega
  have e1 : p % 281474976710656 / 4294967296 = p / 4294967296 % 65536 := by omega
  have e2 : p % 281474976710656 / 65536 % 65536 = p / 65536 % 65536 := by omega
  have e3 : p % 281474976710656 % 65536 = p % 65536 := by omega
  have e4 : p % 281474976710656 < 65536 ↔ p / 4294967296 % 65536 = 0 ∧ p / 65536 % 65536 = 0 := by omega
  have b1 : 0 ≤ p % 281474976710656 / 4294967296 ∧ p % 281474976710656 / 4294967296 < 65536 := by omega
  have b2 : 0 ≤ p % 281474976710656 / 65536 ∧ p % 281474976710656 / 65536 < 4294967296 := by omega
  have q0 : 0 ≤ p / 281474976710656 ∧ p / 281474976710656 ≤ 65535 := by omega
  have t0 : Int.tdiv p 281474976710656 = p / 281474976710656 := Int.tdiv_eq_ediv_of_nonneg h0
  have t1 : Int.tmod p 281474976710656 = p % 281474976710656 := Int.tmod_eq_emod_of_nonneg h0
  have w1 : wrap64 (p % 281474976710656) = p % 281474976710656 := wz _ (by omega) (by omega)
  have t2 : Int.tdiv (p % 281474976710656) 4294967296 = p % 281474976710656 / 4294967296 := Int.tdiv_eq_ediv_of_nonneg r0
  have t3 : Int.tdiv (p % 281474976710656) 65536 = p % 281474976710656 / 65536 := Int.tdiv_eq_ediv_of_nonneg r0
  have w2 : wrap64 (p % 281474976710656 / 4294967296) = p % 281474976710656 / 4294967296 := wz _ (by omega) (by omega)
  have w3 : wrap64 (p % 281474976710656 / 65536) = p % 281474976710656 / 65536 := wz _ (by omega) (by omega)
  have t4 : Int.tmod (p % 281474976710656 / 65536) 65536 = p % 281474976710656 / 65536 % 65536 := Int.tmod_eq_emod_of_nonneg b2.1
  have t5 : Int.tmod (p % 281474976710656) 65536 = p % 281474976710656 % 65536 := Int.tmod_eq_emod_of_nonneg r0
  rw [t0, t1, u64_in _ q0.1 (by omega), w1, t2, t3, w2, w3, t4, t5, e1, e2, e3]
  unfold pixL
  by_cases c3 : p / 281474976710656 = 3
  · rw [if_pos c3, if_pos c3]
  · rw [if_neg c3, if_neg c3]
    by_cases c1 : p / 281474976710656 = 1
    · rw [if_pos c1]
      by_cases c : p % 281474976710656 < 65536
      · have c' := e4.1 c
        rw [if_pos c, if_pos ⟨c1, c'⟩]
        congr 2
        clear w1 w2 w3 t0 t1 t2 t3 t4 t5
        omega
      · rw [if_neg c, if_neg (fun h => c (e4.2 h.2))]
    · rw [if_neg c1, if_neg (fun h => c1 h.1)]
def formP (c m : Int) : Bool := decide ((c = 1 ∨ c = 3) ∧ 1 ≤ m ∧ m ≤ 65535)
def chanZ (c : Int) : Int := if c % 2 = 0 then 1 else 3
def maxZ (m : Int) : Int := 1 + aroundZ m 65535
theorem chanZ_or (c : Int) : chanZ c = 1 ∨ chanZ c = 3 := by unfold chanZ; split <;> simp
theorem maxZ_range (m : Int) : 1 ≤ maxZ m ∧ maxZ m ≤ 65535 := by
  have := aroundZ_range m 65535 (by omega)
  unfold maxZ
  omega
theorem form_is (c m : Int) (h0 : -9223372036854775808 ≤ m) (h1 : m ≤ 9223372036854775807) : chequerref01_Form.f c m = some (chanZ c, maxZ m) := by
  unfold chequerref01_Form.f
  have a := aroundZ_range m 65535 (by omega)
  have w : wrap64 (1 + aroundZ m 65535) = maxZ m := (wz _ (by omega) (by omega)).trans rfl
  have e : Int.tmod c 2 = 0 ↔ c % 2 = 0 := (Int.dvd_iff_tmod_eq_zero).symm.trans Int.dvd_iff_emod_eq_zero
  rw [around_is m 65535 h0 h1 (by omega), Option.bind_some, w]
  unfold chanZ
  by_cases h : c % 2 = 0
  · rw [if_pos (e.2 h), if_pos h]
  · rw [if_neg (fun x => h (e.1 x)), if_neg h]
/-- A sample made of the number at a place. -/
def gd (l : List Int) (m : Int) (i : Nat) : Int := if i < l.length then aroundZ (l.getD i 0) (m + 1) else 0
def goodL (l : List Int) (c m : Int) : List Int := if c = 1 then [gd l m 0] else [gd l m 0, gd l m 1, gd l m 2]
theorem gd_range (l : List Int) (m : Int) (i : Nat) (h : 1 ≤ m) : 0 ≤ gd l m i ∧ gd l m i ≤ m := by
  unfold gd
  have := aroundZ_range (l.getD i 0) (m + 1) (by omega)
  split <;> omega
theorem good_step (k : Nat) (l x : List Int) (c m : Int) (hm : 1 ≤ m ∧ m ≤ 65535) (i : Nat) (hx : x.length ≤ 3) (hl : ∀ y ∈ l, -9223372036854775808 ≤ y ∧ y ≤ 9223372036854775807) (hi : i < x.length) (hil : i < l.length) :
    chequerref01_Good.l0 (k + 1) l x (i : Int) c m = chequerref01_Good.l0 k l (x.set i (gd l m i)) ((i + 1 : Nat) : Int) c m := by
  have c1 : (i : Int) < (x.length : Int) := by omega
  have c2 : (i : Int) < (l.length : Int) := by omega
  have c3 : (0 : Int) ≤ (i : Int) := by omega
  have w1 : wrap64 ((i : Int) + 1) = ((i + 1 : Nat) : Int) := (wz _ (by omega) (by omega)).trans (by simp)
  have w2 : wrap64 (m + 1) = m + 1 := wz _ (by omega) (by omega)
  have hrd : rd l (i : Int) = l.getD i 0 := by unfold rd; rw [Int.toNat_natCast]
  have hy : -9223372036854775808 ≤ l.getD i 0 ∧ l.getD i 0 ≤ 9223372036854775807 := by
    rw [List.getD_eq_getElem?_getD, List.getElem?_eq_getElem hil]
    exact hl _ (List.getElem_mem hil)
  have hp : 0 < m + 1 := by omega
  rw [chequerref01_Good.l0, if_pos c1, if_pos c2, if_pos c3, w1, w2, hrd, around_is _ _ hy.1 hy.2 hp, Option.bind_some, Int.toNat_natCast]
  unfold gd
  rw [if_pos hil]
theorem good_short (k : Nat) (l x : List Int) (c m : Int) (i : Nat) (hk : 10 ≤ k) (hi : i < x.length) (hil : l.length ≤ i) : chequerref01_Good.l0 (k + 1) l x (i : Int) c m = some (pixP x).1 := by
  have c1 : (i : Int) < (x.length : Int) := by omega
  have c2 : ¬ (i : Int) < (l.length : Int) := by omega
  rw [chequerref01_Good.l0, if_pos c1, if_neg c2, refpixpack_is x k hk, Option.bind_some]
theorem good_end (k : Nat) (l x : List Int) (c m : Int) (i : Nat) (hk : 10 ≤ k) (hi : i = x.length) : chequerref01_Good.l0 (k + 1) l x (i : Int) c m = some (pixP x).1 := by
  have c1 : ¬ (i : Int) < (x.length : Int) := by omega
  rw [chequerref01_Good.l0, if_neg c1, refpixpack_is x k hk, Option.bind_some]
theorem good_is (l : List Int) (c m : Int) (hc : c = 1 ∨ c = 3) (hm : 1 ≤ m ∧ m ≤ 65535) (hl : ∀ y ∈ l, -9223372036854775808 ≤ y ∧ y ≤ 9223372036854775807) (k : Nat) (hk : 20 ≤ k) :
    chequerref01_Good.f k l c m = some (pixP (goodL l c m)).1 := by
  unfold chequerref01_Good.f
  obtain ⟨k, rfl⟩ : ∃ n, k = n + 14 := ⟨k - 14, by omega⟩
  have g : ∀ i, l.length ≤ i → gd l m i = 0 := fun i h => by unfold gd; rw [if_neg (by omega)]
  rcases hc with rfl | rfl
  · rw [if_pos (by decide), if_pos (by decide), show List.replicate (1 : Int).toNat (0 : Int) = [0] from rfl, show (0 : Int) = ((0 : Nat) : Int) from rfl]
    unfold goodL
    rw [if_pos rfl]
    by_cases h : 0 < l.length
    · rw [good_step (k + 13) l [((0 : Nat) : Int)] 1 m hm 0 (by simp) hl (by simp) h]
      exact good_end _ _ _ _ _ _ (by omega) (by simp)
    · rw [g 0 (by omega)]
      exact good_short _ _ _ _ _ _ (by omega) (by simp) (by omega)
  · rw [if_pos (by decide), if_pos (by decide), show List.replicate (3 : Int).toNat (0 : Int) = [0, 0, 0] from rfl, show (0 : Int) = ((0 : Nat) : Int) from rfl]
    unfold goodL
    rw [if_neg (by decide)]
    by_cases h : 0 < l.length
    · rw [good_step (k + 13) l _ 3 m hm 0 (by simp) hl (by simp) h]
      by_cases h1 : 1 < l.length
      · rw [good_step (k + 12) l _ 3 m hm 1 (by simp) hl (by simp) h1]
        by_cases h2 : 2 < l.length
        · rw [good_step (k + 11) l _ 3 m hm 2 (by simp) hl (by simp) h2]
          exact good_end _ _ _ _ _ _ (by omega) (by simp)
        · rw [g 2 (by omega)]
          exact good_short _ _ _ _ _ _ (by omega) (by simp) (by omega)
      · rw [g 1 (by omega), g 2 (by omega)]
        exact good_short _ _ _ _ _ _ (by omega) (by simp) (by omega)
    · rw [g 0 (by omega), g 1 (by omega), g 2 (by omega)]
      exact good_short _ _ _ _ _ _ (by omega) (by simp) (by omega)
theorem pixL_1 (a : Int) (h : 0 ≤ a ∧ a ≤ 65535) : pixL (a + 281474976710656) = [a] := by
  unfold pixL
  rw [if_neg (by omega), if_pos (by omega)]
  congr 1
  omega
theorem pixL_3 (a b c : Int) (ha : 0 ≤ a ∧ a ≤ 65535) (hb : 0 ≤ b ∧ b ≤ 65535) (hc : 0 ≤ c ∧ c ≤ 65535) : pixL (a * 4294967296 + b * 65536 + c + 844424930131968) = [a, b, c] := by
  unfold pixL
  rw [if_pos (by omega), show (a * 4294967296 + b * 65536 + c + 844424930131968) / 4294967296 % 65536 = a by omega, show (a * 4294967296 + b * 65536 + c + 844424930131968) / 65536 % 65536 = b by omega, show (a * 4294967296 + b * 65536 + c + 844424930131968) % 65536 = c by omega]
theorem pixP_1 (a : Int) (h : 0 ≤ a ∧ a ≤ 65535) : pixP [a] = (a + 281474976710656, 0) := by simp only [pixP]; exact if_pos h
theorem pixP_3 (a b c : Int) (ha : 0 ≤ a ∧ a ≤ 65535) (hb : 0 ≤ b ∧ b ≤ 65535) (hc : 0 ≤ c ∧ c ≤ 65535) : pixP [a, b, c] = (a * 4294967296 + b * 65536 + c + 844424930131968, 0) := by simp only [pixP]; exact if_pos ⟨ha, hb, hc⟩
/-- A pixel whose samples are there is made again of them. -/
theorem pixP_pixL (p : Int) (h0 : 0 ≤ p) (h1 : p ≤ 18446744073709551615) (h : pixL p ≠ []) : pixP (pixL p) = (p, 0) := by
  unfold pixL at h ⊢
  by_cases c3 : p / 281474976710656 = 3
  · rw [if_pos c3, pixP_3 _ _ _ (by omega) (by omega) (by omega)]
    congr 1
    omega
  · rw [if_neg c3] at h ⊢
    by_cases c1 : p / 281474976710656 = 1 ∧ p / 4294967296 % 65536 = 0 ∧ p / 65536 % 65536 = 0
    · rw [if_pos c1, pixP_1 _ (by omega)]
      congr 1
      omega
    · rw [if_neg c1] at h
      exact absurd rfl h
/-- What a list of one or three samples is packed to. -/
theorem pix_of (l : List Int) (h : l.length = 1 ∨ l.length = 3) (hl : ∀ x ∈ l, 0 ≤ x ∧ x ≤ 65535) : ∃ p, pixP l = (p, 0) ∧ 0 ≤ p ∧ p ≤ 18446744073709551615 ∧ pixL p = l := by
  rcases h with h | h
  · obtain ⟨a, rfl⟩ := list_1 h
    have ha := hl a (by simp)
    exact ⟨_, pixP_1 a ha, by omega, by omega, pixL_1 a ha⟩
  · obtain ⟨a, b, c, rfl⟩ := list_3 h
    have ha := hl a (by simp)
    have hb := hl b (by simp)
    have hc := hl c (by simp)
    exact ⟨_, pixP_3 a b c ha hb hc, by omega, by omega, pixL_3 a b c ha hb hc⟩
theorem goodL_len (l : List Int) (c m : Int) (hc : c = 1 ∨ c = 3) : ((goodL l c m).length : Int) = c := by
  unfold goodL
  rcases hc with rfl | rfl
  · rw [if_pos rfl]; rfl
  · rw [if_neg (by decide)]; rfl
theorem goodL_mem (l : List Int) (c m : Int) (hm : 1 ≤ m ∧ m ≤ 65535) : ∀ x ∈ goodL l c m, 0 ≤ x ∧ x ≤ m := by
  intro x hx
  have g := fun i => gd_range l m i hm.1
  unfold goodL at hx
  split at hx
  · simp at hx; subst hx; exact g 0
  · simp at hx
    rcases hx with rfl | rfl | rfl
    · exact g 0
    · exact g 1
    · exact g 2
/-- The good pixel: its samples. -/
theorem good_pix (l : List Int) (c m : Int) (hc : c = 1 ∨ c = 3) (hm : 1 ≤ m ∧ m ≤ 65535) (hl : ∀ y ∈ l, -9223372036854775808 ≤ y ∧ y ≤ 9223372036854775807) (k : Nat) (hk : 20 ≤ k) :
    ∃ p, chequerref01_Good.f k l c m = some p ∧ 0 ≤ p ∧ p ≤ 18446744073709551615 ∧ pixL p = goodL l c m ∧ pixP (goodL l c m) = (p, 0) := by
  have hlen := goodL_len l c m hc
  obtain ⟨p, h1, h2, h3, h4⟩ := pix_of (goodL l c m) (by omega) (fun x hx => by have := goodL_mem l c m hm x hx; omega)
  exact ⟨p, by rw [good_is l c m hc hm hl k hk, h1], h2, h3, h4, h1⟩
theorem pixL_len (p : Int) : (pixL p).length = 0 ∨ (pixL p).length = 1 ∨ (pixL p).length = 3 := by
  unfold pixL
  split
  · simp
  · split <;> simp
theorem pixL_mem (p : Int) (h0 : 0 ≤ p) : ∀ x ∈ pixL p, 0 ≤ x ∧ x ≤ 65535 := by
  intro x hx
  unfold pixL at hx
  split at hx
  · simp at hx
    rcases hx with rfl | rfl | rfl <;> omega
  · split at hx
    · simp at hx
      subst hx
      omega
    · simp at hx
theorem pixL_inj (p q : Int) (hp0 : 0 ≤ p) (hp1 : p ≤ 18446744073709551615) (hq0 : 0 ≤ q) (hq1 : q ≤ 18446744073709551615) (hp : pixL p ≠ []) (h : pixL p = pixL q) : p = q := by
  have a := pixP_pixL p hp0 hp1 hp
  have b := pixP_pixL q hq0 hq1 (h ▸ hp)
  rw [h] at a
  exact (Prod.mk.inj (a.symm.trans b)).1
end Go.Proofs.Ytjpaabjhlaibfaa.Q
