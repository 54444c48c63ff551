/- Dark for light, twice, is as it was: for any numbers, any format. No condition. -/
import Derived.Test.YtjpaabjhlaibfaaIpix_Unpack
import Derived.Test.YtjpaabjhlaibfaaLAround
import Derived.Test.YtjpaabjhlaibfaaLLives01
import Derived.Test.YtjpaabjhlaibfaaLPix
import Derived.Test.YtjpaabjhlaibfaaLPixDo
import Derived.Test.YtjpaabjhlaibfaaLPixMore
import Derived.Test.YtjpaabjhlaibfaaLPixUn
import Derived.Test.YtjpaabjhlaibfaaQ18
namespace Go.Proofs.Ytjpaabjhlaibfaa.Pure
open Go.RowKit Go.Proofs.Ytjpaabjhlaibfaa.Q Go.Proofs.YtjpaabjhlaibfaaW.PrintWords Go.Proofs.YtjpaabjhlaibfaaW.PrintLast
theorem fitsP_of (p c m : Int) (hc : c = 1 ∨ c = 3) (hm : 1 ≤ m ∧ m ≤ 65535) (hl : ((pixL p).length : Int) = c) (ha : ∀ x ∈ pixL p, x ≤ m) : fitsP p c m = true := by
  unfold fitsP formP
  simp only [Bool.and_eq_true, decide_eq_true_eq]
  exact ⟨⟨⟨hc, hm⟩, hl⟩, ha⟩
theorem gray_one (p m : Int) (h0 : 0 ≤ p) (h1 : p ≤ 18446744073709551615) (hl : (pixL p).length = 1 ∨ (pixL p).length = 3) (hm : 1 ≤ m ∧ m ≤ 65535) (ha : ∀ x ∈ pixL p, x ≤ m) : ∃ d x, grayZ p = (d, 0) ∧ 0 ≤ d ∧ d ≤ 18446744073709551615 ∧ pixL d = [x] ∧ 0 ≤ x ∧ x ≤ m := by
  have hmem := pixL_mem p h0
  unfold grayZ
  rcases hl with h | h
  · obtain ⟨a, e⟩ := list_1 h
    rw [e] at ha hmem
    exact ⟨p, a, by rw [e], h0, h1, e, (hmem a (by simp)).1, ha a (by simp)⟩
  · obtain ⟨a, b, c, e⟩ := list_3 h
    rw [e] at ha hmem
    have g := grayQ_range a b c m ⟨(hmem a (by simp)).1, ha a (by simp)⟩ ⟨(hmem b (by simp)).1, ha b (by simp)⟩ ⟨(hmem c (by simp)).1, ha c (by simp)⟩
    refine ⟨grayQ a b c + 281474976710656, grayQ a b c, ?_, by omega, by omega, pixL_1 _ (by omega), g.1, g.2⟩
    rw [e]
    exact pixP_1 _ (by omega)
theorem PixTurns : chequerlaw01_PixTurns.Pure := by
  intro l0 c m h1 h1' h2 h3 h4
  refine ⟨100, ?_⟩
  have m4 := wf_i64 h4
  have hm := maxZ_range m
  have hc := chanZ_or c
  obtain ⟨p, hp, p0, p1, pl, pp⟩ := good_pix l0 (chanZ c) (maxZ m) hc hm (fun y hy => wf_i64 (h2 y hy)) 100 (by omega)
  have hlen := goodL_len l0 (chanZ c) (maxZ m) hc
  have hmem := goodL_mem l0 (chanZ c) (maxZ m) hm
  unfold chequerlaw01_PixTurns.f
  rw [form_is _ _ m4.1 m4.2, Option.bind_some, hp, Option.bind_some]
  clear hp
  generalize chanZ c = c at *
  generalize maxZ m = m at *
  rw [← pl] at hlen hmem pp
  have fp := fitsP_of p c m hc hm hlen (fun x hx => (hmem x hx).2)
  -- dark for light
  obtain ⟨a, ha, a0, a1, al⟩ := pix_of ((pixL p).map fun n => m - n) (by rw [List.length_map]; omega) (fun x hx => by
    obtain ⟨y, hy, rfl⟩ := List.mem_map.1 hx
    have := hmem y hy
    omega)
  have ta : turnedZ p c m = (a, 0) := by unfold turnedZ; rw [if_pos fp, ha]
  have fa := fitsP_of a c m hc hm (by rw [al, List.length_map]; exact hlen) (fun x hx => by
    rw [al] at hx
    obtain ⟨y, hy, rfl⟩ := List.mem_map.1 hx
    have := hmem y hy
    omega)
  have tb : turnedZ a c m = (p, 0) := by
    unfold turnedZ
    rw [if_pos fa, al, List.map_map]
    have : ((fun n => m - n) ∘ fun n => m - n) = id := by funext n; simp; omega
    rw [this, List.map_id, pp]
  -- scaled to itself
  have hne : pixL p ≠ [] := (pixL_ne p).2 (by omega)
  have tc : scaledZ p m m = (p, 0) := by
    unfold scaledZ
    have : (pixL p).map (scZ m m) = (pixL p).map id := List.map_congr_left (fun x hx => by
      have hx' := hmem x hx
      unfold scZ
      rw [Int.add_comm, Int.add_mul_ediv_right _ _ (by omega), Int.ediv_eq_zero_of_lt (by omega) (by omega)]
      simp)
    rw [if_pos ⟨hne, hm, hm, fun x hx => (hmem x hx).2⟩, this, List.map_id, pp]
  obtain ⟨d, x, hd, d0, d1, dl, x0, x1⟩ := gray_one p m p0 p1 (by omega) hm (fun x hx => (hmem x hx).2)
  have hk : grayZ d = (d, 0) := by unfold grayZ; rw [dl]
  have fd := fitsP_of d 1 m (.inl rfl) hm (by rw [dl]; rfl) (fun y hy => by rw [dl] at hy; simp at hy; omega)
  rw [turned_is p c m p0 p1 _ (by omega), Option.bind_some, ta, turned_is a c m a0 a1 _ (by omega), Option.bind_some, tb, scaled_is p m m p0 p1 _ (by omega), Option.bind_some, tc, gray_is p p0 p1 _ (by omega), Option.bind_some, hd, gray_is d d0 d1 _ (by omega), Option.bind_some, hk, if_pos rfl, if_pos rfl, if_pos rfl, if_pos rfl, if_pos rfl, if_pos rfl, fits_is d 1 m d0 d1 _ (by omega), Option.bind_some, fd, if_pos rfl, lives01 _ (by omega)]
  rfl
end Go.Proofs.Ytjpaabjhlaibfaa.Pure
