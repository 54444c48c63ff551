/- Whether all numbers are pixels of a format is told as the document says: for any format, any numbers. No condition. -/
import Derived.Test.YtidpaaemfiopkaaIapi_Pixel_51
import Derived.Test.YtidpaaemfiopkaaLAround
import Derived.Test.YtidpaaemfiopkaaLLives03
import Derived.Test.YtidpaaemfiopkaaLPixFits
import Derived.Test.YtidpaaemfiopkaaLRect
import Derived.Test.YtidpaaemfiopkaaQ17
import Derived.Test.YtidpaaemfiopkaaQ19
import Derived.Test.YtidpaaemfiopkaaQ21
import Derived.Test.YtidpaaemfiopkaaQ22
import Derived.Test.YtidpaaemfiopkaaQ3
namespace Go.Proofs.Ytidpaaemfiopkaa.Pure
open Go.RowKit Go.Proofs.Ytidpaaemfiopkaa.Q Go.Proofs.YtidpaaemfiopkaaW.PrintWords Go.Proofs.YtidpaaemfiopkaaW.PrintLast
set_option linter.unusedVariables false
def pxL (L : List Int) : Prop := ∀ q ∈ L, 0 ≤ q ∧ q ≤ 18446744073709551615
theorem any_fits (c m : Int) : ∀ L : List Int, pxL L → (L.all fun p => (pix_Fits.f 10 p c m).isSome) = true ∧ (L.any fun p => pix_Fits.f 10 p c m == some false) = !(L.all fun q => fitsP q c m)
  | [], _ => ⟨rfl, rfl⟩
  | q :: r, h => by
    obtain ⟨h1, h2⟩ := any_fits c m r (fun x hx => h x (List.mem_cons_of_mem _ hx))
    have hq := h q (List.mem_cons_self ..)
    have e := fits_is q c m hq.1 hq.2 10 (Nat.le_refl _)
    rw [List.all_cons, List.any_cons, List.all_cons, h1, h2, e]
    refine ⟨rfl, ?_⟩
    cases fitsP q c m <;> cases (r.all fun q => fitsP q c m) <;> rfl
theorem rectfits_is (w h : Int) (L : List Int) (c m : Int) (hL : pxL L) (hl : L.length ≤ 1000) : rect_Fits.f w h L c m = some (mayP w h L && L.all fun q => fitsP q c m) := by
  obtain ⟨h1, h2⟩ := any_fits c m L hL
  unfold rect_Fits.f slices_ContainsFunc_Fits.f
  rw [may_is, Option.bind_some]
  cases mayP w h L with
  | false => rfl
  | true => rw [if_pos rfl, if_pos ⟨by omega, h1⟩, Option.bind_some, h2, Bool.not_not, Bool.true_and]
theorem rd_mid (pre r : List Int) (c : Int) : rd (pre ++ c :: r) (pre.length : Int) = c := by
  unfold rd
  rw [Int.toNat_natCast]
  simp
theorem reff_go (w h c m : Int) : ∀ (suf pre : List Int) (k : Nat), pxL (pre ++ suf) → (pre ++ suf).length ≤ 1000 → suf.length + 12 ≤ k → chequerref03_Fits.l0 k (pre.length : Int) w h (pre ++ suf) c m = some (suf.all fun q => fitsP q c m) := by
  intro suf
  induction suf with
  | nil =>
    intro pre k hp hl hk
    obtain ⟨k, rfl⟩ : ∃ q, k = q + 1 := ⟨k - 1, by omega⟩
    rw [chequerref03_Fits.l0, List.append_nil, if_neg (by omega)]
    rfl
  | cons q r ih =>
    intro pre k hp hl hk
    obtain ⟨k, rfl⟩ : ∃ q, k = q + 1 := ⟨k - 1, by omega⟩
    have e2 : pre ++ q :: r = (pre ++ [q]) ++ r := by simp
    have hl1 : (pre ++ [q]).length = pre.length + 1 := by simp
    have hlr : (pre ++ q :: r).length = pre.length + (r.length + 1) := by simp
    have hq := hp q (List.mem_append_right _ (List.mem_cons_self ..))
    have hk' : r.length + 12 ≤ k := by rw [List.length_cons] at hk; omega
    have ih' := ih (pre ++ [q]) k (e2 ▸ hp) (e2 ▸ hl) hk'
    have c1 : (pre.length : Int) < ((pre ++ q :: r).length : Int) := by omega
    have c2 : (0 : Int) ≤ (pre.length : Int) := by omega
    have hw : wrap64 ((pre.length : Int) + 1) = ((pre ++ [q]).length : Int) := by rw [hl1, wz _ (by omega) (by omega)]; push_cast; rfl
    rw [chequerref03_Fits.l0, if_pos c1, if_pos c2, rd_mid, reffits_is q c m hq.1 hq.2 k (by clear hw; omega), Option.bind_some, hw, List.all_cons]
    cases fitsP q c m with
    | false => rfl
    | true => rw [if_pos rfl, e2, ih', Bool.true_and]
theorem reff_is (w h : Int) (L : List Int) (c m : Int) (hL : pxL L) (hl : L.length ≤ 1000) (k : Nat) (hk : L.length + 12 ≤ k) : chequerref03_Fits.f k w h L c m = some (mayP w h L && L.all fun q => fitsP q c m) := by
  unfold chequerref03_Fits.f
  rw [refmayM_is, Option.bind_some]
  cases mayP w h L with
  | false => rfl
  | true => rw [if_pos rfl, Bool.true_and]; exact reff_go w h c m L [] k hL hl hk
theorem good_fits (l : List Int) (c m : Int) (hc : c = 1 ∨ c = 3) (hm : 1 ≤ m ∧ m ≤ 65535) (hl : ∀ y ∈ l, -9223372036854775808 ≤ y ∧ y ≤ 9223372036854775807) (k : Nat) (hk : 20 ≤ k) : ∃ q, chequerref01_Good.f k l c m = some q ∧ 0 ≤ q ∧ q ≤ 18446744073709551615 ∧ fitsP q c m = true := by
  obtain ⟨q, e, h0, h1, h2, _⟩ := good_pix l c m hc hm hl k hk
  refine ⟨q, e, h0, h1, ?_⟩
  unfold fitsP
  rw [h2, Bool.and_eq_true, Bool.and_eq_true]
  refine ⟨⟨decide_eq_true ⟨hc, hm.1, hm.2⟩, decide_eq_true (goodL_len l c m hc)⟩, decide_eq_true fun x hx => (goodL_mem l c m hm x hx).2⟩
theorem mn_le (a b : Int) : mn a b ≤ b := by unfold mn; split <;> omega
theorem mn_ge (a b : Int) (ha : 0 ≤ a) (hb : 0 ≤ b) : 0 ≤ mn a b := by unfold mn; split <;> omega
theorem fits_step (l : List Int) (hl : ∀ y ∈ l, -9223372036854775808 ≤ y ∧ y ≤ 9223372036854775807) (at_ p c m gc gm : Int) (hgc : gc = 1 ∨ gc = 3) (hgm : 1 ≤ gm ∧ gm ≤ 65535) (k : Nat) (hk : 20 ≤ k) (i : Nat) (hi : i < 4) (L : List Int) (hL : L.length ≤ 10) :
    ∃ q, 0 ≤ q ∧ q ≤ 18446744073709551615 ∧ fitsP q gc gm = true ∧ chequerlaw03_RectFits.l0 (k + 1) l at_ p (i : Int) c m gc gm 2 2 L = chequerlaw03_RectFits.l0 k l at_ p ((i + 1 : Nat) : Int) c m gc gm 2 2 (L ++ [q]) := by
  have w1 : wrap64 (3 * (i : Int)) = 3 * (i : Int) := wz _ (by omega) (by omega)
  have w2 : wrap64 ((i : Int) + 1) = ((i + 1 : Nat) : Int) := by rw [wz _ (by clear w1; omega) (by clear w1; omega)]; push_cast; rfl
  have c1 : (i : Int) < 4 := by clear w1 w2; omega
  have c2 : 0 ≤ mn (3 * (i : Int)) (l.length : Int) := mn_ge _ _ (by clear w1 w2; omega) (by clear w1 w2; omega)
  have c3 : mn (3 * (i : Int)) (l.length : Int) ≤ (l.length : Int) := mn_le _ _
  obtain ⟨q, e, h0, h1, h2⟩ := good_fits (l.drop (mn (3 * (i : Int)) (l.length : Int)).toNat) gc gm hgc hgm (fun y hy => hl y (List.mem_of_mem_drop hy)) k hk
  refine ⟨q, h0, h1, h2, ?_⟩
  have c4 : L.length < 17592186044416 := by clear w1 w2; omega
  rw [chequerlaw03_RectFits.l0, if_pos c1, w1, w2, if_pos c2, if_pos c3, e, Option.bind_some, if_pos c4]
theorem mem_set {L : List Int} {n : Nat} {p : Int} (hL : pxL L) (hp : 0 ≤ p ∧ p ≤ 18446744073709551615) : pxL (L.set n p) := fun q hq => by
  rcases List.mem_or_eq_of_mem_set hq with h | h
  · exact hL q h
  · rw [h]; exact hp
theorem RectFits : chequerlaw03_RectFits.Pure := by
  intro c m l at_ p hc hm h0 h1 hl hat hp
  obtain ⟨m0, m1⟩ := wf_i64 hm
  obtain ⟨t0, t1⟩ := wf_i64 hat
  have hp' := wf_u64 hp
  have hg := chanZ_or c
  have hgm := maxZ_range m
  have hl' : ∀ y ∈ l, -9223372036854775808 ≤ y ∧ y ≤ 9223372036854775807 := fun y hy => wf_i64 (hl y hy)
  refine ⟨200, ?_⟩
  unfold chequerlaw03_RectFits.f
  rw [form_is c m m0 m1, Option.bind_some]
  dsimp only
  generalize chanZ c = gc at *
  generalize maxZ m = gm at *
  obtain ⟨q0, a0, b0, f0, e0⟩ := fits_step l hl' at_ p c m gc gm hg hgm 199 (by omega) 0 (by omega) [] (by simp)
  obtain ⟨q1, a1, b1, f1, e1⟩ := fits_step l hl' at_ p c m gc gm hg hgm 198 (by omega) 1 (by omega) ([] ++ [q0]) (by simp)
  obtain ⟨q2, a2, b2, f2, e2⟩ := fits_step l hl' at_ p c m gc gm hg hgm 197 (by omega) 2 (by omega) ([] ++ [q0] ++ [q1]) (by simp)
  obtain ⟨q3, a3, b3, f3, e3⟩ := fits_step l hl' at_ p c m gc gm hg hgm 196 (by omega) 3 (by omega) ([] ++ [q0] ++ [q1] ++ [q2]) (by simp)
  rw [show (0 : Int) = ((0 : Nat) : Int) from rfl, e0, e1, e2, e3]
  have hL : pxL [q0, q1, q2, q3] := by
    intro q hq
    simp only [List.mem_cons, List.not_mem_nil, or_false] at hq
    rcases hq with rfl | rfl | rfl | rfl
    · exact ⟨a0, b0⟩
    · exact ⟨a1, b1⟩
    · exact ⟨a2, b2⟩
    · exact ⟨a3, b3⟩
  have hall : ([q0, q1, q2, q3] : List Int).all (fun q => fitsP q gc gm) = true := by simp [f0, f1, f2, f3]
  rw [show [] ++ [q0] ++ [q1] ++ [q2] ++ [q3] = [q0, q1, q2, q3] from rfl]
  have hlen : ([q0, q1, q2, q3] : List Int).length = 4 := rfl
  clear e0 e1 e2 e3
  generalize [q0, q1, q2, q3] = L at *
  have hmay : mayP 2 2 L = true := by
    unfold mayP
    rw [hlen]
    decide
  obtain ⟨r0, r1⟩ := aroundZ_range at_ 4 (by omega)
  rw [chequerlaw03_RectFits.l0, if_neg (by omega)]
  show ((chequerlaw03_of.f 2 2 L).bind _) = _
  unfold chequerlaw03_of.f
  rw [Option.bind_some]
  dsimp only
  rw [rectfits_is 2 2 L gc gm hL (by omega), Option.bind_some, Option.bind_some]
  dsimp only
  rw [rectfits_is 2 2 L c m hL (by omega), Option.bind_some, reff_is 2 2 L c m hL (by omega) 195 (by omega), Option.bind_some, around_is at_ 4 t0 t1 (by omega), Option.bind_some, if_pos r0, if_pos (by rw [hlen]; exact r1), Option.bind_some, hmay, hall, if_pos (by rfl), if_pos (by simp), Option.bind_some]
  dsimp only
  have hL2 := mem_set (n := (aroundZ at_ 4).toNat) hL hp'
  have hlen2 : (L.set (aroundZ at_ 4).toNat p).length = 4 := by rw [List.length_set, hlen]
  generalize L.set (aroundZ at_ 4).toNat p = L2 at *
  rw [rectfits_is 2 2 L2 gc gm hL2 (by omega), Option.bind_some, reff_is 2 2 L2 gc gm hL2 (by omega) 195 (by omega), Option.bind_some, if_pos (by simp), rectfits_is 0 0 [] gc gm (fun q hq => by cases hq) (by simp), Option.bind_some, show mayP 0 0 [] = false from by decide, Bool.false_and, if_neg (by decide), lives03 _ (by omega), Option.bind_some]
end Go.Proofs.Ytidpaaemfiopkaa.Pure
