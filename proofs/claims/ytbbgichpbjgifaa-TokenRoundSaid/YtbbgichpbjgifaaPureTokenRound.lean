/- Numbers with blanks between are read as they were: for any numbers, any blanks. No condition. -/
import Derived.Test.YtbbgichpbjgifaaLAround
import Derived.Test.YtbbgichpbjgifaaLDecRef
import Derived.Test.YtbbgichpbjgifaaLLives05
import Derived.Test.YtbbgichpbjgifaaLSame
import Derived.Test.YtbbgichpbjgifaaLStep
import Derived.Test.YtbbgichpbjgifaaLTokAll
import Derived.Test.YtbbgichpbjgifaaLToken
import Derived.Test.YtbbgichpbjgifaaQ12
namespace Go.Proofs.Ytbbgichpbjgifaa.Pure
open Go.RowKit Go.Proofs.Ytbbgichpbjgifaa.Q Go.Proofs.YtbbgichpbjgifaaW.PrintWords Go.Proofs.YtbbgichpbjgifaaW.PrintLast
theorem wrap_succ (i : Nat) (h : i ≤ 1000) : wrap64 ((i : Int) + 1) = ((i + 1 : Nat) : Int) := by unfold wrap64; omega
theorem blank_of : ∀ z : Fin 6, blankP (rd [9, 10, 11, 12, 13, 32] ((z : Nat) : Int)) ∧ 0 ≤ rd [9, 10, 11, 12, 13, 32] ((z : Nat) : Int) ∧ rd [9, 10, 11, 12, 13, 32] ((z : Nat) : Int) ≤ 255 := by decide +kernel
/-- A text is read as these numbers, whatever stands behind it. -/
def readsAs (T ks : List Int) : Prop := ∀ rest, allS 4611686018427387903 (T ++ rest) 0 [] 0 0 0 9 = allS 4611686018427387903 rest (T.length : Int) ks (T.length : Int) 0 0 9
theorem readsAs_more (T ks : List Int) (u : Nat) (hu : u ≤ 4611686018427387903) (c : Int) (hc : blankP c) (h : readsAs T ks) : readsAs (T ++ dg u ++ [c]) (ks ++ [(u : Int)]) := by
  intro rest
  have e : T ++ dg u ++ [c] ++ rest = T ++ (dg u ++ c :: rest) := by simp
  rw [e, h, allS_num _ u (by omega) c hc]
  have : ((T ++ dg u ++ [c]).length : Int) = (T.length : Int) + (dg u).length + 1 := by simp; omega
  rw [this]
theorem rd_wf (l : List Int) (hl : ∀ x ∈ l, (Lit.int .i64 x).wf = true) (i : Nat) (h : i < l.length) : -9223372036854775808 ≤ rd l (i : Int) ∧ rd l (i : Int) ≤ 9223372036854775807 := by
  unfold rd
  rw [Int.toNat_natCast, List.getD_eq_getElem?_getD, List.getElem?_eq_getElem h]
  exact wf_i64 (hl _ (List.getElem_mem h))
set_option maxHeartbeats 1000000 in
theorem round_loop (l b : List Int) (hl : ∀ x ∈ l, (Lit.int .i64 x).wf = true) (hb : ∀ x ∈ b, (Lit.int .i64 x).wf = true) :
    ∀ (d i k : Nat) (T ks : List Int), i + d = 8 → 200 + 2 * d ≤ k → byteL T → T.length ≤ 30 * i → ks.length = i → readsAs T ks → chequerlaw05_TokenRound.l0 k l b (strOfNums T) ks (i : Int) = some true := by
  have fin : ∀ (k i : Nat) (T ks : List Int), 150 ≤ k → i ≤ 8 → byteL T → T.length ≤ 30 * i → ks.length = i → readsAs T ks → chequerlaw05_TokenRound.j1 k l b (strOfNums T) ks (i : Int) false = some true := by
    intro k i T ks hk hi hT hl hn hR
    obtain ⟨k, rfl⟩ : ∃ q, k = q + 1 := ⟨k - 1, by omega⟩
    have hr := hR []
    rw [List.append_nil, show allS 4611686018427387903 [] (T.length : Int) ks (T.length : Int) 0 0 9 = (ks, (T.length : Int), 0) from rfl] at hr
    rw [chequerlaw05_TokenRound.j1, if_neg (by decide), all_is _ (by omega) (by omega) T hT (by omega), hr, Option.bind_some]
    dsimp only
    rw [same_few ks ks rfl (by omega) k (by omega), Option.bind_some, decide_eq_true rfl, if_pos rfl, if_pos (by rw [strOfNums_size]), if_pos rfl, lives05, Option.bind_some]
  intro d
  induction d with
  | zero =>
    intro i k T ks hd hk hT hTl hn hR
    obtain ⟨k, rfl⟩ : ∃ q, k = q + 1 := ⟨k - 1, by omega⟩
    rw [chequerlaw05_TokenRound.l0]
    by_cases h : (i : Int) < (l.length : Int)
    · rw [if_pos h, decide_eq_false (by omega)]
      exact fin k i T ks (by omega) (by omega) hT hTl hn hR
    · rw [if_neg h]
      exact fin k i T ks (by omega) (by omega) hT hTl hn hR
  | succ d ih =>
    intro i k T ks hd hk hT hTl hn hR
    obtain ⟨k, rfl⟩ : ∃ q, k = q + 2 := ⟨k - 2, by omega⟩
    rw [chequerlaw05_TokenRound.l0]
    by_cases h : (i : Int) < (l.length : Int)
    · rw [if_pos h, decide_eq_true (by omega), chequerlaw05_TokenRound.j1, if_pos rfl, if_pos (by omega), if_pos h]
      obtain ⟨w0, w1⟩ := rd_wf l hl i (by omega)
      obtain ⟨m0, m1⟩ := aroundZ_range (rd l (i : Int)) 4611686018427387904 (by omega)
      obtain ⟨u, hu⟩ : ∃ u : Nat, aroundZ (rd l (i : Int)) 4611686018427387904 = (u : Int) := ⟨(aroundZ (rd l (i : Int)) 4611686018427387904).toNat, by omega⟩
      have hdl : (dg u).length ≤ 19 := dg_len u (by omega)
      have hdec := fun k hk => refdg_nat u k (by omega) (by omega) hk
      have step : ∀ c : Int, blankP c → 0 ≤ c ∧ c ≤ 255 → chequerlaw05_TokenRound.l0 k l b ((strOfNums T ++ strOfNums (dg u)) ++ strOfNums [c]) (ks ++ [(u : Int)]) ((i + 1 : Nat) : Int) = some true := by
        intro c hc hcb
        rw [← strOfNums_cat, ← strOfNums_cat]
        have hb1 : byteL [c] := fun x hx => by rw [List.mem_singleton.1 hx]; exact hcb
        clear hdec
        have hB2 : byteL (T ++ dg u ++ [c]) := byteL_app (byteL_app hT (digs_byteL (dg_digs u))) hb1
        have hL2 : (T ++ dg u ++ [c]).length ≤ 30 * (i + 1) := (by
          have e1 : (T ++ dg u ++ [c]).length = T.length + (dg u).length + 1 := by simp [Nat.add_assoc]
          have e2 := hTl
          have e3 := hdl
          clear hk m0 m1 w0 w1 hu hcb hR hn h hd
          omega)
        have hN2 : (ks ++ [(u : Int)]).length = i + 1 := by rw [List.length_append, List.length_singleton, hn]
        have hR2 := readsAs_more T ks u (by omega) c hc hR
        exact ih (i + 1) k (T ++ dg u ++ [c]) (ks ++ [(u : Int)]) (by omega) (by omega) hB2 hL2 hN2 hR2
      have hL : ks.length < 17592186044416 := Nat.lt_of_le_of_lt (show ks.length ≤ 8 by omega) (by decide)
      rw [limit_is _ w0 w1]
      rw [Option.bind_some]
      rw [hu]
      rw [if_pos hL]
      rw [Option.bind_some]
      have sz : (strOfNums T).size + (strOfNums (dg u)).size ≤ 9223372036854775807 := by rw [strOfNums_size, strOfNums_size]; omega
      have sz2 : ∀ c : Int, (strOfNums T ++ strOfNums (dg u)).size + (strOfNums [c]).size ≤ 9223372036854775807 := fun c => by rw [← strOfNums_cat, strOfNums_size, strOfNums_size]; simp; omega
      by_cases hbl : (i : Int) < (b.length : Int)
      · obtain ⟨v0, v1⟩ := rd_wf b hb i (by omega)
        obtain ⟨z0, z1⟩ := aroundZ_range (rd b (i : Int)) 6 (by omega)
        obtain ⟨z, hz⟩ : ∃ z : Nat, aroundZ (rd b (i : Int)) 6 = (z : Int) := ⟨(aroundZ (rd b (i : Int)) 6).toNat, by omega⟩
        obtain ⟨bl, c0, c1⟩ := blank_of ⟨z, by omega⟩
        dsimp only at bl c0 c1
        rw [if_pos hbl, Option.bind_some, around_is _ 6 v0 v1 (by omega), Option.bind_some, hz, if_pos (by omega), if_pos (by show ((z : Nat) : Int) < 6; omega), hdec k (by omega), Option.bind_some, if_pos sz, Option.bind_some, if_pos (sz2 _), wrap_succ i (by omega)]
        exact step _ bl ⟨c0, c1⟩
      · rw [if_neg hbl, hdec k (by omega), Option.bind_some, if_pos sz, Option.bind_some, if_pos (sz2 _), wrap_succ i (by omega)]
        exact step 32 (.inl rfl) (by omega)
    · rw [if_neg h]
      exact fin (k + 1) i T ks (by omega) (by omega) hT hTl hn hR
theorem TokenRound : chequerlaw05_TokenRound.Pure := by
  intro l b h0 h1 hl h2 h3 hb
  refine ⟨400, ?_⟩
  exact round_loop l b hl hb 8 0 400 [] [] (by omega) (by omega) (fun x hx => by cases hx) (by simp) rfl (fun rest => rfl)
end Go.Proofs.Ytbbgichpbjgifaa.Pure
