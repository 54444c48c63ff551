/- A number's reader tells more, till the byte that ends it: for any number, any noughts ahead, any blank behind, any byte behind that. No condition. -/
import Derived.Test.YtbbgichpbjgifaaItoken_New
import Derived.Test.YtbbgichpbjgifaaLAround
import Derived.Test.YtbbgichpbjgifaaLDecRef
import Derived.Test.YtbbgichpbjgifaaLLives05
import Derived.Test.YtbbgichpbjgifaaLStep
import Derived.Test.YtbbgichpbjgifaaLToken
import Derived.Test.YtbbgichpbjgifaaQ11
import Derived.Test.YtbbgichpbjgifaaQ6
namespace Go.Proofs.Ytbbgichpbjgifaa.Pure
open Go.RowKit Go.Proofs.Ytbbgichpbjgifaa.Q Go.Proofs.YtbbgichpbjgifaaW.PrintWords Go.Proofs.YtbbgichpbjgifaaW.PrintLast
theorem tkS_digit (a n m c : Int) (ha : a = 0 ∨ a = 2) (hc : 48 ≤ c ∧ c ≤ 57) (hv : 10 * n + (c - 48) ≤ m) : tkS a n m 9 c = (2, 10 * n + (c - 48), 9, 0) := by
  have hs : stepS n c m = (10 * n + (c - 48), 0) := by
    unfold stepS
    rw [if_neg (by omega), if_neg (by omega)]
  have hb : ¬ blankP c := by unfold blankP; omega
  unfold tkS
  rw [if_neg (by omega), if_neg (by omega), if_neg (by omega), if_neg (by omega), if_neg (by omega), if_neg hb, hs, if_pos rfl]
theorem zeros_text : ∀ z : Fin 6, ((⟨#[48, 48, 48, 48, 48]⟩ : ByteArray).extract 0 z) = strOfNums (List.replicate z 48) := by decide +kernel
theorem blank_rd : ∀ z : Fin 6, blankP (rd [9, 10, 11, 12, 13, 32] ((z : Nat) : Int)) ∧ 0 ≤ rd [9, 10, 11, 12, 13, 32] ((z : Nat) : Int) ∧ rd [9, 10, 11, 12, 13, 32] ((z : Nat) : Int) ≤ 255 := by decide +kernel
theorem parts_loop (m : Int) (hm : m ≤ 4611686018427387904) (x2 x3 : Int) (hx2 : -9223372036854775808 ≤ x2 ∧ x2 ≤ 9223372036854775807) (hx3 : 0 ≤ x3 ∧ x3 ≤ 255) :
    ∀ (suf pre : List Int) (k : Nat), byteL (pre ++ suf) → (pre ++ suf).length ≤ 1000 → digs suf → suf.length + 5 ≤ k → ∀ (a n md : Int) (b : Bool), (a = 0 ∨ a = 2) → (a = 0 → b = false ∧ suf ≠ []) → (a = 2 → b = true) → 0 ≤ n → valL n suf ≤ m → valL n suf = m → tkR a md 0 →
      chequerlaw05_TokenParts.l0 k x2 x3 m (strOfNums (pre ++ suf)) (pre.length : Int) md m n b 0 9 = some true := by
  intro suf
  induction suf with
  | nil =>
    intro pre k hb hl hd hk a n md b ha h0 h2 hn hv hv2 hR
    obtain ⟨k, rfl⟩ : ∃ q, k = q + 2 := ⟨k - 2, by omega⟩
    have ha2 : a = 2 := by
      rcases ha with h | h
      · exact absurd rfl (h0 h).2
      · exact h
    subst ha2
    obtain rfl := h2 rfl
    rw [valL] at hv hv2
    subst hv2
    rw [List.append_nil] at *
    obtain ⟨z0, z1⟩ := aroundZ_range x2 6 (by omega)
    obtain ⟨z, hz⟩ : ∃ z : Nat, aroundZ x2 6 = (z : Int) := ⟨(aroundZ x2 6).toNat, by omega⟩
    obtain ⟨bl, c0, c1⟩ := blank_rd ⟨z, by omega⟩
    dsimp only at bl c0 c1
    obtain ⟨md', eq, hR'⟩ := put_is 2 n n 9 (rd [9, 10, 11, 12, 13, 32] ((z : Nat) : Int)) md 0 true hR (by omega) (fun _ => rfl) hn (Int.le_refl _) hm c0 c1
    have e35 : ¬ (rd [9, 10, 11, 12, 13, 32] ((z : Nat) : Int) = 35) := by unfold blankP at bl; omega
    have hS : tkS 2 n n 9 (rd [9, 10, 11, 12, 13, 32] ((z : Nat) : Int)) = (4, n, 0, 1) := by simp [tkS, bl, e35]
    rw [hS] at eq hR'
    obtain ⟨md2, eq2, hR2⟩ := put_is 4 n n 0 x3 md' 1 true hR' (by omega) (fun _ => rfl) hn (Int.le_refl _) hm hx3.1 hx3.2
    have hS2 : tkS 4 n n 0 x3 = (4, n, 0, 1) := by simp [tkS]
    rw [hS2] at eq2 hR2
    have hb1 : (true || decide (2 ≤ (4 : Int) ∧ (4 : Int) ≤ 4)) = true := by decide
    dsimp only at eq eq2
    rw [hb1] at eq eq2
    rw [chequerlaw05_TokenParts.l0, if_neg (by rw [strOfNums_size]; omega), Option.bind_some, around_is x2 6 hx2.1 hx2.2 (by omega), Option.bind_some, hz, if_pos (by omega), if_pos (by show ((z : Nat) : Int) < 6; omega), eq, Option.bind_some]
    dsimp only
    rw [if_pos rfl, eq2, Option.bind_some]
    dsimp only
    rw [show ((1 : Int) != 1) = false from by decide, chequerlaw05_TokenParts.j1, if_neg (by decide)]
    unfold token_Number_Value.f
    rw [if_pos rfl, Option.bind_some]
    dsimp only
    rw [if_pos rfl, if_pos rfl, lives05, Option.bind_some]
  | cons c r ih =>
    intro pre k hb hl hd hk a n md b ha h0 h2 hn hv hv2 hR
    obtain ⟨k, rfl⟩ : ∃ q, k = q + 1 := ⟨k - 1, by omega⟩
    have hc := hd c (List.mem_cons_self ..)
    have hr : digs r := fun x hx => hd x (List.mem_cons_of_mem _ hx)
    rw [valL] at hv hv2
    have hge := valL_ge r (10 * n + (c - 48)) (by omega) hr
    have hlen : (pre ++ c :: r).length = pre.length + (r.length + 1) := by simp
    obtain ⟨md', eq, hR'⟩ := put_is a n m 9 c md 0 b hR (fun h => (h0 (by omega)).1) (fun h => h2 (by omega)) hn (by omega) hm (by omega) (by omega)
    rw [tkS_digit a n m c ha hc (by omega)] at eq hR'
    have hb1 : (b || decide (2 ≤ (2 : Int) ∧ (2 : Int) ≤ 4)) = true := by simp
    dsimp only at eq
    rw [hb1] at eq
    rw [chequerlaw05_TokenParts.l0, if_pos (by rw [strOfNums_size]; omega), if_pos (by omega), bt_mid pre r c hb, eq, Option.bind_some]
    dsimp only
    rw [if_pos rfl]
    unfold token_Number_Begun.f
    rw [Option.bind_some]
    dsimp only
    rw [if_pos rfl]
    have e1 : wrap64 ((pre.length : Int) + 1) = ((pre ++ [c]).length : Int) := by rw [List.length_append]; unfold wrap64; simp; omega
    have e2 : pre ++ c :: r = (pre ++ [c]) ++ r := by simp
    rw [e1, e2]
    exact ih (pre ++ [c]) k (e2 ▸ hb) (e2 ▸ hl) hr (by simp at hk; omega) 2 _ md' true (.inr rfl) (fun h => by omega) (fun _ => rfl) (by omega) hv hv2 hR'
theorem TokenParts : chequerlaw05_TokenParts.Pure := by
  intro a0 a1 a2 a3 h0 h1 h2 h3
  obtain ⟨h0, h0'⟩ := wf_i64 h0
  have h1 := wf_i64 h1
  have h2 := wf_i64 h2
  have h3 := wf_u8 h3
  obtain ⟨m0, m1⟩ := aroundZ_range a0 4611686018427387904 (by omega)
  obtain ⟨z0, z1⟩ := aroundZ_range a1 6 (by omega)
  refine ⟨2000, ?_⟩
  unfold chequerlaw05_TokenParts.f
  rw [limit_is a0 h0 h0', Option.bind_some, around_is a1 6 h1.1 h1.2 (by omega), Option.bind_some]
  obtain ⟨u, hu⟩ : ∃ u : Nat, aroundZ a0 4611686018427387904 = (u : Int) := ⟨(aroundZ a0 4611686018427387904).toNat, by omega⟩
  obtain ⟨z, hz⟩ : ∃ z : Nat, aroundZ a1 6 = (z : Int) := ⟨(aroundZ a1 6).toNat, by omega⟩
  rw [hu] at m0 m1
  rw [hz] at z0 z1
  rw [hu, hz]
  have hu19 : u < 10 ^ 19 := by omega
  have hzt := zeros_text ⟨z, by omega⟩
  dsimp only at hzt
  have hlen := dg_len u hu19
  have hdz : digs (List.replicate z 48 ++ dg u) := fun x hx => by
    rcases List.mem_append.1 hx with h | h
    · rw [List.eq_of_mem_replicate h]; omega
    · exact dg_digs u x h
  rw [if_pos (by omega), if_pos (by omega), refdg_nat u 2000 hu19 (by omega) (by omega), Option.bind_some, Int.toNat_natCast, hzt, strOfNums_size, strOfNums_size, List.length_replicate, if_pos (by omega)]
  unfold token_New.f
  rw [Option.bind_some]
  dsimp only
  rw [← strOfNums_cat]
  have hv : valL 0 (List.replicate z 48 ++ dg u) = (u : Int) := by rw [valL_app, valL_zeros, valL_dg]
  have hne : List.replicate z 48 ++ dg u ≠ [] := fun h => by
    have h1_ := congrArg List.length h
    have h2_ := dg_ne u
    rw [List.length_append, List.length_nil] at h1_
    omega
  exact parts_loop (u : Int) (by omega) a2 a3 h2 h3 (List.replicate z 48 ++ dg u) [] 2000 (digs_byteL hdz) (by simp; omega) hdz (by simp; omega) 0 0 0 false (.inl rfl) (fun _ => ⟨rfl, hne⟩) (fun h => by omega) (by omega) (by rw [hv]; omega) hv (.inl ⟨rfl, rfl, by omega, by omega⟩)
end Go.Proofs.Ytbbgichpbjgifaa.Pure
