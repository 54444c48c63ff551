/- What is made of a pixel: both texts answer the same. -/
import Derived.Test.YtjpaabjhlaibfaaIpix_Unpack
import Derived.Test.YtjpaabjhlaibfaaIpix_each
import Derived.Test.YtjpaabjhlaibfaaLPix
import Derived.Test.YtjpaabjhlaibfaaLPixMore
import Derived.Test.YtjpaabjhlaibfaaLPixUn
import Derived.Test.YtjpaabjhlaibfaaQ14
import Derived.Test.YtjpaabjhlaibfaaQ15
import Derived.Test.YtjpaabjhlaibfaaQ16
import Derived.Test.YtjpaabjhlaibfaaQ6
namespace Go.Proofs.Ytjpaabjhlaibfaa.Q
open Go.RowKit Go.Proofs.YtjpaabjhlaibfaaW.PrintWords Go.Proofs.YtjpaabjhlaibfaaW.PrintLast
set_option linter.unusedVariables false
def grayQ (a b c : Int) : Int := (299 * a + 587 * b + 114 * c + 500) / 1000
theorem grayQ_is (a b c : Int) (ha : 0 ≤ a ∧ a ≤ 65535) (hb : 0 ≤ b ∧ b ≤ 65535) (hc : 0 ≤ c ∧ c ≤ 65535) :
    wrap64 (Int.tdiv (wrap64 ((wrap64 ((wrap64 ((wrap64 (299 * a)) + (wrap64 (587 * b)))) + (wrap64 (114 * c)))) + 500)) 1000) = grayQ a b c := by
  have h2 : 0 ≤ 299 * a + 587 * b + 114 * c + 500 ∧ 299 * a + 587 * b + 114 * c + 500 ≤ 100000000 := by omega
  rw [wz (299 * a) (by omega) (by omega), wz (587 * b) (by omega) (by omega), wz (299 * a + 587 * b) (by omega) (by omega), wz (114 * c) (by omega) (by omega), wz (299 * a + 587 * b + 114 * c) (by omega) (by omega), wz (299 * a + 587 * b + 114 * c + 500) (by omega) (by omega), Int.tdiv_eq_ediv_of_nonneg h2.1, wz _ (by omega) (by omega)]
  rfl
theorem grayQ_range (a b c m : Int) (ha : 0 ≤ a ∧ a ≤ m) (hb : 0 ≤ b ∧ b ≤ m) (hc : 0 ≤ c ∧ c ≤ m) : 0 ≤ grayQ a b c ∧ grayQ a b c ≤ m := by unfold grayQ; omega
def grayZ (p : Int) : Int × Int := match pixL p with
  | [_] => (p, 0)
  | [a, b, c] => pixP [grayQ a b c]
  | _ => (0, 1)
theorem gray_is (p : Int) (h0 : 0 ≤ p) (h1 : p ≤ 18446744073709551615) (k : Nat) (hk : 10 ≤ k) : pix_Gray.f k p = some (grayZ p) := by
  unfold pix_Gray.f grayZ
  have hm := pixL_mem p h0
  rw [pixunpack_is p h0 h1, Option.bind_some]
  rcases pixL_len p with h | h | h
  · rw [List.eq_nil_of_length_eq_zero h]; rfl
  · obtain ⟨a, ha⟩ := list_1 h
    rw [ha]; rfl
  · obtain ⟨a, b, c, ha⟩ := list_3 h
    rw [ha] at hm ⊢
    rw [show (([a, b, c] : List Int).length : Int) = 3 from rfl, show rd [a, b, c] 0 = a from rfl, show rd [a, b, c] 1 = b from rfl, show rd [a, b, c] 2 = c from rfl, if_neg (by decide), if_pos rfl, if_pos (by decide), if_pos (by decide), if_pos (by decide), grayQ_is a b c (hm a (by simp)) (hm b (by simp)) (hm c (by simp)), pixpack_is _ k hk, Option.bind_some]
theorem refgray_is (p : Int) (h0 : 0 ≤ p) (h1 : p ≤ 18446744073709551615) (k : Nat) (hk : 10 ≤ k) : chequerref01_Gray.f k p = some (grayZ p) := by
  unfold chequerref01_Gray.f grayZ
  have hm := pixL_mem p h0
  rw [refunpack_is p h0 h1, Option.bind_some]
  rcases pixL_len p with h | h | h
  · rw [List.eq_nil_of_length_eq_zero h]; rfl
  · obtain ⟨a, ha⟩ := list_1 h
    rw [ha]; rfl
  · obtain ⟨a, b, c, ha⟩ := list_3 h
    rw [ha] at hm ⊢
    rw [show (([a, b, c] : List Int).length : Int) = 3 from rfl, show rd [a, b, c] 0 = a from rfl, show rd [a, b, c] 1 = b from rfl, show rd [a, b, c] 2 = c from rfl, if_neg (by decide), if_neg (by decide), if_pos (by decide), if_pos (by decide), if_pos (by decide), grayQ_is a b c (hm a (by simp)) (hm b (by simp)) (hm c (by simp)), refpixpack_is _ k hk, Option.bind_some]

/-- Dark for light. -/
def turnedZ (p c m : Int) : Int × Int := if fitsP p c m = true then pixP ((pixL p).map fun n => m - n) else (0, 1)
theorem fitsP_all {p c m : Int} (h : fitsP p c m = true) : (c = 1 ∨ c = 3) ∧ 1 ≤ m ∧ m ≤ 65535 ∧ ((pixL p).length : Int) = c ∧ ∀ x ∈ pixL p, x ≤ m := by
  unfold fitsP formP at h
  simp only [Bool.and_eq_true, decide_eq_true_eq] at h
  exact ⟨h.1.1.1, h.1.1.2.1, h.1.1.2.2, h.1.2, h.2⟩
theorem pixP_ok (l : List Int) (h : l.length = 1 ∨ l.length = 3) (hl : ∀ x ∈ l, 0 ≤ x ∧ x ≤ 65535) : (pixP l).2 = 0 := by
  obtain ⟨p, hp, _⟩ := pix_of l h hl
  rw [hp]
theorem map_wz (L : List Int) (f g : Int → Int) (h : ∀ x ∈ L, f x = g x) : L.map f = L.map g := List.map_congr_left h
theorem turned_is (p c m : Int) (h0 : 0 ≤ p) (h1 : p ≤ 18446744073709551615) (k : Nat) (hk : 10 ≤ k) : pix_Turned.f k p c m = some (turnedZ p c m) := by
  unfold pix_Turned.f turnedZ
  rw [fits_is p c m h0 h1 k hk, Option.bind_some]
  by_cases hf : fitsP p c m = true
  · obtain ⟨hc, hm0, hm1, hlen, hall⟩ := fitsP_all hf
    have hmem := pixL_mem p h0
    rw [if_pos hf, if_pos hf]
    unfold pix_each_Turned.f
    have e : ((pixL p).map fun n => wrap64 (m - n)) = (pixL p).map fun n => m - n := map_wz _ _ _ (fun x hx => wz _ (by have := hmem x hx; omega) (by have := hmem x hx; omega))
    rw [pixunpack_is p h0 h1, Option.bind_some, e, pixpack_is _ 10 (by omega), Option.bind_some, Option.bind_some]
    have ok := pixP_ok ((pixL p).map fun n => m - n) (by rw [List.length_map]; omega) (fun x hx => by
      obtain ⟨y, hy, rfl⟩ := List.mem_map.1 hx
      have a := hmem y hy
      have b := hall y hy
      omega)
    rw [← ok]
  · rw [if_neg hf, if_neg hf]
theorem refturned_go (L : List Int) (c m : Int) (hm : 1 ≤ m ∧ m ≤ 65535) (hL : L.length ≤ 3) (hmem : ∀ x ∈ L, 0 ≤ x ∧ x ≤ 65535) : ∀ (d i k : Nat), L.length - i ≤ d → i ≤ L.length → d + 11 ≤ k →
    chequerref01_Turned.l0 k ((L.take i).map (fun n => m - n) ++ L.drop i) (i : Int) c m = some (pixP (L.map fun n => m - n)) := by
  intro d
  induction d with
  | zero =>
    intro i k hd hi hk
    obtain ⟨k, rfl⟩ : ∃ n, k = n + 1 := ⟨k - 1, by omega⟩
    have hx : (L.take i).map (fun n => m - n) ++ L.drop i = L.map fun n => m - n := by rw [List.take_of_length_le (by omega), List.drop_of_length_le (by omega), List.append_nil]
    rw [hx, chequerref01_Turned.l0, if_neg (by rw [List.length_map]; omega), refpixpack_is _ k (by omega), Option.bind_some]
  | succ d ih =>
    intro i k hd hi hk
    by_cases c1 : i < L.length
    · obtain ⟨k, rfl⟩ : ∃ n, k = n + 1 := ⟨k - 1, by omega⟩
      have q1 : L.length - (i + 1) ≤ d := by omega
      have q2 : i + 1 ≤ L.length := by omega
      have q3 : d + 11 ≤ k := by omega
      have w1 : wrap64 ((i : Int) + 1) = ((i + 1 : Nat) : Int) := (wz _ (by omega) (by omega)).trans (by simp)
      have hlen : ((L.take i).map (fun n => m - n) ++ L.drop i).length = L.length := by simp; omega
      have hv : 0 ≤ L.getD i 0 ∧ L.getD i 0 ≤ 65535 := by
        rw [List.getD_eq_getElem?_getD, List.getElem?_eq_getElem c1]
        exact hmem _ (List.getElem_mem c1)
      have w2 : wrap64 (m - L.getD i 0) = m - L.getD i 0 := wz _ (by omega) (by omega)
      have c2 : (i : Int) < (((L.take i).map (fun n => m - n) ++ L.drop i).length : Int) := by omega
      have c3 : (0 : Int) ≤ (i : Int) := by omega
      have hs := set_mapped (fun n => m - n) L i c1
      rw [chequerref01_Turned.l0, if_pos c2, if_pos c3, rd_mapped _ L i c1, w1, w2, Int.toNat_natCast, hs]
      exact ih (i + 1) k q1 q2 q3
    · exact ih i k (by omega) hi (by omega)
theorem refturned_is (p c m : Int) (h0 : 0 ≤ p) (h1 : p ≤ 18446744073709551615) (k : Nat) (hk : 20 ≤ k) : chequerref01_Turned.f k p c m = some (turnedZ p c m) := by
  unfold chequerref01_Turned.f turnedZ
  rw [reffits_is p c m h0 h1 k (by omega), Option.bind_some]
  by_cases hf : fitsP p c m = true
  · obtain ⟨hc, hm0, hm1, hlen, hall⟩ := fitsP_all hf
    have hl := pixL_len p
    rw [if_pos hf, if_pos hf, refunpack_is p h0 h1, Option.bind_some]
    exact refturned_go (pixL p) c m ⟨hm0, hm1⟩ (by omega) (pixL_mem p h0) (pixL p).length 0 k (by omega) (by omega) (by omega)
  · rw [if_neg hf, if_neg hf]

/-- A sample of another greatest one. -/
def scZ (fr t n : Int) : Int := (n * t + fr / 2) / fr
theorem scZ_range (fr t n : Int) (hf : 1 ≤ fr ∧ fr ≤ 65535) (ht : 1 ≤ t ∧ t ≤ 65535) (hn : 0 ≤ n ∧ n ≤ fr) : 0 ≤ scZ fr t n ∧ scZ fr t n ≤ t ∧ 0 ≤ n * t ∧ n * t + fr / 2 ≤ 5000000000 := by
  have a : 0 ≤ n * t := Int.mul_nonneg hn.1 (by omega)
  have b : n * t ≤ fr * t := Int.mul_le_mul_of_nonneg_right hn.2 (by omega)
  have b2 : fr * t ≤ 65535 * 65535 := Int.mul_le_mul hf.2 ht.2 (by omega) (by omega)
  have c : 0 ≤ fr / 2 ∧ fr / 2 < fr := by omega
  refine ⟨Int.ediv_nonneg (by omega) (by omega), ?_, a, by omega⟩
  have d : (n * t + fr / 2) / fr < t + 1 := by
    apply Int.ediv_lt_of_lt_mul (by omega)
    have e : (t + 1) * fr = fr * t + fr := by rw [Int.add_mul, Int.one_mul, Int.mul_comm]
    omega
  unfold scZ
  omega
theorem scZ_is (fr t n : Int) (hf : 1 ≤ fr ∧ fr ≤ 65535) (ht : 1 ≤ t ∧ t ≤ 65535) (hn : 0 ≤ n ∧ n ≤ fr) : wrap64 (Int.tdiv (wrap64 (wrap64 (n * t) + wrap64 (Int.tdiv fr 2))) fr) = scZ fr t n := by
  obtain ⟨a, b, c, d⟩ := scZ_range fr t n hf ht hn
  have e : Int.tdiv fr 2 = fr / 2 := Int.tdiv_eq_ediv_of_nonneg (by omega)
  have f : 0 ≤ n * t + fr / 2 := by omega
  rw [e, wz (n * t) (by omega) (by omega), wz (fr / 2) (by omega) (by omega), wz (n * t + fr / 2) (by omega) (by omega), Int.tdiv_eq_ediv_of_nonneg f]
  exact wz _ (by unfold scZ at a; omega) (by unfold scZ at b; omega)
def scaledZ (p fr t : Int) : Int × Int := if pixL p ≠ [] ∧ (1 ≤ fr ∧ fr ≤ 65535) ∧ (1 ≤ t ∧ t ≤ 65535) ∧ ∀ x ∈ pixL p, x ≤ fr then pixP ((pixL p).map (scZ fr t)) else (0, 1)
theorem pixL_ne (p : Int) : pixL p ≠ [] ↔ (pixL p).length = 1 ∨ (pixL p).length = 3 := by
  have := pixL_len p
  constructor
  · intro h
    have := List.length_pos_iff.2 h
    omega
  · intro h e
    rw [e] at h
    simp at h
theorem scaled_is (p fr t : Int) (h0 : 0 ≤ p) (h1 : p ≤ 18446744073709551615) (k : Nat) (hk : 10 ≤ k) : pix_Scaled.f k p fr t = some (scaledZ p fr t) := by
  unfold pix_Scaled.f scaledZ
  rw [pixunpack_is p h0 h1, Option.bind_some, fits_is p _ fr h0 h1 k hk, Option.bind_some]
  by_cases hf : fitsP p ((pixL p).length : Int) fr = true
  · obtain ⟨hc, hm0, hm1, hlen, hall⟩ := fitsP_all hf
    have hne : pixL p ≠ [] := (pixL_ne p).2 (by omega)
    have hmem := pixL_mem p h0
    rw [if_pos hf]
    by_cases ht : t < 1
    · rw [if_pos ht, if_neg (fun h => by have := h.2.2.1.1; omega)]
    · rw [if_neg ht]
      by_cases ht2 : t > 65535
      · rw [if_pos ht2, if_neg (fun h => by have := h.2.2.1.2; omega)]
      · rw [if_neg ht2, if_pos ⟨hne, ⟨hm0, hm1⟩, ⟨by omega, by omega⟩, hall⟩]
        unfold pix_each_Scaled.f
        have e : ((pixL p).map fun n => wrap64 (Int.tdiv (wrap64 (wrap64 (n * t) + wrap64 (Int.tdiv fr 2))) fr)) = (pixL p).map (scZ fr t) := map_wz _ _ _ (fun x hx => scZ_is fr t x ⟨hm0, hm1⟩ ⟨by omega, by omega⟩ ⟨(hmem x hx).1, hall x hx⟩)
        rw [pixunpack_is p h0 h1, Option.bind_some, if_neg (show ¬ fr = 0 by omega), e, pixpack_is _ 10 (by omega), Option.bind_some, Option.bind_some]
        have ok := pixP_ok ((pixL p).map (scZ fr t)) (by rw [List.length_map]; omega) (fun x hx => by
          obtain ⟨y, hy, rfl⟩ := List.mem_map.1 hx
          have a := scZ_range fr t y ⟨hm0, hm1⟩ ⟨by omega, by omega⟩ ⟨(hmem y hy).1, hall y hy⟩
          omega)
        rw [← ok]
  · rw [if_neg hf, if_neg]
    intro h
    apply hf
    have h3 := (pixL_ne p).1 h.1
    unfold fitsP formP
    simp only [Bool.and_eq_true, decide_eq_true_eq]
    exact ⟨⟨⟨by omega, h.2.1.1, h.2.1.2⟩, trivial⟩, h.2.2.2⟩
theorem refscaled_go (L : List Int) (fr t : Int) (hf : 1 ≤ fr ∧ fr ≤ 65535) (ht : 1 ≤ t ∧ t ≤ 65535) (hL : L.length ≤ 3) (hmem : ∀ x ∈ L, 0 ≤ x ∧ x ≤ 65535) : ∀ (d i k : Nat), L.length - i ≤ d → i ≤ L.length → d + 11 ≤ k →
    chequerref01_Scaled.l0 k fr t ((L.take i).map (scZ fr t) ++ L.drop i) (i : Int) = some (if ∀ x ∈ L.drop i, x ≤ fr then pixP (L.map (scZ fr t)) else (0, 1)) := by
  intro d
  induction d with
  | zero =>
    intro i k hd hi hk
    obtain ⟨k, rfl⟩ : ∃ n, k = n + 1 := ⟨k - 1, by omega⟩
    have hx : (L.take i).map (scZ fr t) ++ L.drop i = L.map (scZ fr t) := by rw [List.take_of_length_le (by omega), List.drop_of_length_le (by omega), List.append_nil]
    have hd0 : L.drop i = [] := List.drop_of_length_le (by omega)
    rw [hx, hd0, if_pos (by simp), chequerref01_Scaled.l0, if_neg (by rw [List.length_map]; omega), refpixpack_is _ k (by omega), Option.bind_some]
  | succ d ih =>
    intro i k hd hi hk
    by_cases c1 : i < L.length
    · obtain ⟨k, rfl⟩ : ∃ n, k = n + 1 := ⟨k - 1, by omega⟩
      have q1 : L.length - (i + 1) ≤ d := by omega
      have q2 : i + 1 ≤ L.length := by omega
      have q3 : d + 11 ≤ k := by omega
      have w1 : wrap64 ((i : Int) + 1) = ((i + 1 : Nat) : Int) := (wz _ (by omega) (by omega)).trans (by simp)
      have hlen : ((L.take i).map (scZ fr t) ++ L.drop i).length = L.length := by simp; omega
      have hg : L.getD i 0 = L[i] := by rw [List.getD_eq_getElem?_getD, List.getElem?_eq_getElem c1]; rfl
      have hv : 0 ≤ L.getD i 0 ∧ L.getD i 0 ≤ 65535 := by rw [hg]; exact hmem _ (List.getElem_mem c1)
      have c2 : (i : Int) < (((L.take i).map (scZ fr t) ++ L.drop i).length : Int) := by omega
      have c3 : (0 : Int) ≤ (i : Int) := by omega
      have hs := set_mapped (scZ fr t) L i c1
      have hdr : L.drop i = L.getD i 0 :: L.drop (i + 1) := by rw [hg]; exact List.drop_eq_getElem_cons c1
      rw [chequerref01_Scaled.l0, if_pos c2, if_pos c3, rd_mapped _ L i c1]
      by_cases hgt : L.getD i 0 > fr
      · rw [if_pos hgt, if_neg]
        intro h
        have := h (L.getD i 0) (by rw [hdr]; exact List.mem_cons_self)
        omega
      · have hall : (∀ x ∈ L.drop i, x ≤ fr) ↔ ∀ x ∈ L.drop (i + 1), x ≤ fr := by
          rw [hdr]
          constructor
          · exact fun h x hx => h x (List.mem_cons_of_mem _ hx)
          · intro h x hx
            rcases List.mem_cons.1 hx with rfl | hx
            · omega
            · exact h x hx
        rw [if_neg hgt, if_neg (show ¬ fr = 0 by omega), w1, scZ_is fr t _ hf ht ⟨hv.1, by omega⟩, Int.toNat_natCast, hs, ih (i + 1) k q1 q2 q3]
        simp only [hall]
    · exact ih i k (by omega) hi (by omega)
theorem refscaled_is (p fr t : Int) (h0 : 0 ≤ p) (h1 : p ≤ 18446744073709551615) (k : Nat) (hk : 20 ≤ k) : chequerref01_Scaled.f k p fr t = some (scaledZ p fr t) := by
  unfold chequerref01_Scaled.f scaledZ
  obtain ⟨k, rfl⟩ : ∃ n, k = n + 1 := ⟨k - 1, by omega⟩
  have hl := pixL_len p
  rw [refunpack_is p h0 h1, Option.bind_some]
  by_cases c0 : ((pixL p).length : Int) = 0
  · rw [if_pos c0, chequerref01_Scaled.j0, if_pos rfl, if_neg (fun h => by have := (pixL_ne p).1 h.1; omega)]
  · rw [if_neg c0]
    by_cases c1 : fr < 1
    · rw [if_pos c1, chequerref01_Scaled.j0, if_pos rfl, if_neg (fun h => by have := h.2.1; omega)]
    · rw [if_neg c1]
      by_cases c2 : fr > 65535
      · rw [if_pos c2, chequerref01_Scaled.j0, if_pos rfl, if_neg (fun h => by have := h.2.1; omega)]
      · rw [if_neg c2]
        by_cases c3 : t < 1
        · rw [if_pos c3, chequerref01_Scaled.j0, if_pos rfl, if_neg (fun h => by have := h.2.2.1; omega)]
        · rw [if_neg c3]
          by_cases c4 : t > 65535
          · rw [decide_eq_true c4, chequerref01_Scaled.j0, if_pos rfl, if_neg (fun h => by have := h.2.2.1; omega)]
          · have e := refscaled_go (pixL p) fr t ⟨by omega, by omega⟩ ⟨by omega, by omega⟩ (by omega) (pixL_mem p h0) (pixL p).length 0 k (by omega) (by omega) (by omega)
            rw [decide_eq_false c4, chequerref01_Scaled.j0, if_neg (by decide)]
            refine e.trans ?_
            congr 1
            rw [List.drop_zero]
            by_cases ha : ∀ x ∈ pixL p, x ≤ fr
            · rw [if_pos ha, if_pos ⟨(pixL_ne p).2 (by omega), ⟨by omega, by omega⟩, ⟨by omega, by omega⟩, ha⟩]
            · rw [if_neg ha, if_neg (fun h => ha h.2.2.2)]
end Go.Proofs.Ytjpaabjhlaibfaa.Q
