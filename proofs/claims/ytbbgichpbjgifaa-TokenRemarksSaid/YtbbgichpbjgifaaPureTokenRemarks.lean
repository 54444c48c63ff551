/- Remarks and blanks ahead change no number: for any number, any text in a remark, any blank. No condition. -/
import Derived.Test.YtbbgichpbjgifaaLAround
import Derived.Test.YtbbgichpbjgifaaLDecRef
import Derived.Test.YtbbgichpbjgifaaLLimit
import Derived.Test.YtbbgichpbjgifaaLLives05
import Derived.Test.YtbbgichpbjgifaaLSame
import Derived.Test.YtbbgichpbjgifaaLTokAll
import Derived.Test.YtbbgichpbjgifaaLTokSkip
import Derived.Test.YtbbgichpbjgifaaLToken
import Derived.Test.YtbbgichpbjgifaaQ12
namespace Go.Proofs.Ytbbgichpbjgifaa.Pure
open Go.RowKit Go.Proofs.Ytbbgichpbjgifaa.Q Go.Proofs.YtbbgichpbjgifaaW.PrintWords Go.Proofs.YtbbgichpbjgifaaW.PrintLast
set_option linter.unusedVariables false
theorem c13 : (⟨#[13]⟩ : ByteArray) = strOfNums [13] := rfl
theorem c32 : (⟨#[32]⟩ : ByteArray) = strOfNums [32] := rfl
theorem c35 : (⟨#[35]⟩ : ByteArray) = strOfNums [35] := rfl
theorem c109 : (⟨#[10, 9]⟩ : ByteArray) = strOfNums [10, 9] := rfl
theorem blank_of : ∀ z : Fin 6, blankP (rd [9, 10, 11, 12, 13, 32] ((z : Nat) : Int)) ∧ 0 ≤ rd [9, 10, 11, 12, 13, 32] ((z : Nat) : Int) ∧ rd [9, 10, 11, 12, 13, 32] ((z : Nat) : Int) ≤ 255 := by decide +kernel
def remOk (O : List Int) : Prop := ∀ x ∈ O, x ≠ 10 ∧ x ≠ 13
theorem allS_in (m e : Int) (he : e = 10 ∨ e = 13) : ∀ (O rest : List Int) (i : Int) (out : List Int) (used : Int), remOk O → allS m (O ++ e :: rest) i out used 1 0 9 = allS m rest (i + O.length + 1) out used 0 0 9 := by
  intro O
  induction O with
  | nil =>
    intro rest i out used _
    have hS : tkS 1 0 m 9 e = (0, 0, 9, 0) := by simp [tkS, he]
    rw [List.nil_append, allS, hS]
    simp
  | cons c r ih =>
    intro rest i out used hO
    have hc := hO c (List.mem_cons_self ..)
    have hn : ¬ (c = 10 ∨ c = 13) := by omega
    have hS : tkS 1 0 m 9 c = (1, 0, 9, 0) := by simp [tkS, hn]
    rw [List.cons_append, allS, hS]
    dsimp only
    rw [if_neg (by decide), if_neg (by decide), ih rest (i + 1) out used (fun x hx => hO x (List.mem_cons_of_mem _ hx)), List.length_cons]
    congr 1
    push_cast
    omega
theorem allS_remark (m e : Int) (he : e = 10 ∨ e = 13) (O rest : List Int) (i : Int) (out : List Int) (used : Int) (hO : remOk O) : allS m (35 :: (O ++ e :: rest)) i out used 0 0 9 = allS m rest (i + O.length + 2) out used 0 0 9 := by
  have hS : tkS 0 0 m 9 35 = (1, 0, 9, 0) := by simp [tkS]
  rw [allS, hS]
  dsimp only
  rw [if_neg (by decide), if_neg (by decide), allS_in m e he O rest (i + 1) out used hO]
  congr 1
  omega
theorem allS_ahead (m c : Int) (hb : blankP c) (rest : List Int) (i : Int) (out : List Int) (used : Int) : allS m (c :: rest) i out used 0 0 9 = allS m rest (i + 1) out used 0 0 9 := by
  have e35 : ¬ (c = 35) := by unfold blankP at hb; omega
  have hS : tkS 0 0 m 9 c = (0, 0, 9, 0) := by simp [tkS, hb, e35]
  rw [allS, hS]
  rfl
theorem allS_out (m e n : Int) (he : e = 10 ∨ e = 13) : ∀ (O rest : List Int) (i : Int) (out : List Int) (used : Int), remOk O → allS m (O ++ e :: rest) i out used 3 n 9 = allS m rest (i + O.length + 1) (out ++ [n]) (i + O.length + 1) 0 0 9 := by
  intro O
  induction O with
  | nil =>
    intro rest i out used _
    have hS : tkS 3 n m 9 e = (4, n, 0, 1) := by simp [tkS, he]
    rw [List.nil_append, allS, hS]
    simp
  | cons c r ih =>
    intro rest i out used hO
    have hc := hO c (List.mem_cons_self ..)
    have hn : ¬ (c = 10 ∨ c = 13) := by omega
    have hS : tkS 3 n m 9 c = (3, n, 9, 0) := by simp [tkS, hn]
    rw [List.cons_append, allS, hS]
    dsimp only
    rw [if_neg (by decide), if_neg (by decide), ih rest (i + 1) out used (fun x hx => hO x (List.mem_cons_of_mem _ hx)), List.length_cons]
    have h : i + 1 + (r.length : Int) + 1 = i + ((r.length + 1 : Nat) : Int) + 1 := by omega
    rw [h]
theorem allS_remend (m e n : Int) (he : e = 10 ∨ e = 13) (O rest : List Int) (i : Int) (out : List Int) (used : Int) (hO : remOk O) : allS m (35 :: (O ++ e :: rest)) i out used 2 n 9 = allS m rest (i + O.length + 2) (out ++ [n]) (i + O.length + 2) 0 0 9 := by
  have hS : tkS 2 n m 9 35 = (3, n, 9, 0) := by simp [tkS]
  rw [allS, hS]
  dsimp only
  rw [if_neg (by decide), if_neg (by decide), allS_out m e n he O rest (i + 1) out used hO]
  have h : i + 1 + (O.length : Int) + 1 = i + (O.length : Int) + 2 := by omega
  rw [h]
theorem skS_in : ∀ (O : List Int) (i : Int), remOk O → skS O true i = i + O.length
  | [], i, _ => by rw [skS]; simp
  | c :: r, i, hO => by
    have hc := hO c (List.mem_cons_self ..)
    rw [skS, if_neg (by omega), skS_in r (i + 1) (fun x hx => hO x (List.mem_cons_of_mem _ hx)), List.length_cons]
    push_cast
    omega
theorem skS_remark (O : List Int) (hO : remOk O) : skS (35 :: O) false 0 = ((35 :: O : List Int).length : Int) := by
  rw [skS, if_pos rfl, skS_in O _ hO, List.length_cons]
  push_cast
  omega
theorem ext_mid (pre r : List Int) (c : Int) : (strOfNums (pre ++ c :: r)).extract pre.length (pre.length + 1) = strOfNums [c] := by
  apply ByteArray.ext
  apply Array.toList_inj.1
  rw [ByteArray.data_extract, Array.toList_extract, strOfNums_data, strOfNums_data]
  simp [List.extract]
theorem wrap_nat (n : Int) (h0 : 0 ≤ n) (h : n ≤ 1000) : wrap64 n = n := by unfold wrap64; omega
set_option maxHeartbeats 1000000 in
theorem rem_end (u : Nat) (hu : u ≤ 4611686018427387903) (blank : Int) (hbl : -9223372036854775808 ≤ blank ∧ blank ≤ 9223372036854775807) (x1 : ByteArray) (i : Int) (hi : ¬ i < (x1.size : Int)) (O : List Int) (hO : remOk O) (hOb : byteL O) (hOl : O.length ≤ 30) (K : Nat) (hK : 200 ≤ K) :
    chequerlaw05_TokenRemarks.l0 K x1 blank (u : Int) (strOfNums (35 :: O)) i = some true := by
  obtain ⟨K, rfl⟩ : ∃ q, K = q + 1 := ⟨K - 1, by omega⟩
  have hd := dg_len u (by omega)
  have hdn : dg u ≠ [] := fun z => by have := dg_ne u; rw [z] at this; simp at this
  obtain ⟨r0, r1⟩ := aroundZ_range blank 6 (by omega)
  have hdec := refdg_nat u K (by omega) (by omega) (by omega)
  rw [chequerlaw05_TokenRemarks.l0, if_neg hi, Option.bind_some, around_is blank 6 hbl.1 hbl.2 (by omega), Option.bind_some]
  generalize aroundZ blank 6 = z at *
  obtain ⟨zn, rfl⟩ : ∃ q : Nat, z = (q : Int) := ⟨z.toNat, by omega⟩
  obtain ⟨cb, cb0, cb1⟩ := blank_of ⟨zn, by omega⟩
  dsimp only at cb cb0 cb1
  rw [if_pos r0, if_pos (by simp only [List.length_cons, List.length_nil]; omega)]
  generalize rd [9, 10, 11, 12, 13, 32] (zn : Int) = c at *
  have b1 : ∀ c : Int, 0 ≤ c ∧ c ≤ 255 → byteL [c] := fun c hc x hx => by rw [List.mem_singleton.1 hx]; exact hc
  have cons : ∀ (c : Int) (l : List Int), 0 ≤ c ∧ c ≤ 255 → byteL l → byteL (c :: l) := fun c l h1 h2 x hx => (List.mem_cons.1 hx).elim (fun e => e ▸ h1) (h2 x)
  have bd := digs_byteL (dg_digs u)
  have q : ∀ n : Nat, n ≤ 300 → n ≤ 9223372036854775807 := fun n h => by omega
  have hT1 : allS (u : Int) (32 :: 35 :: (O ++ 10 :: 9 :: (dg u ++ [c]))) 0 [] 0 0 0 9 = ([(u : Int)], ((32 :: 35 :: (O ++ 10 :: 9 :: (dg u ++ [c])) : List Int).length : Int), 0) := by
    rw [allS_ahead (u : Int) 32 (.inl rfl), allS_remark (u : Int) 10 (.inl rfl) O _ _ _ _ hO, allS_ahead (u : Int) 9 (.inr (by omega)), allS_num (u : Int) u (Int.le_refl _) c cb]
    rw [allS]
    have h : (0 : Int) + 1 + (O.length : Int) + 2 + 1 + ((dg u).length : Int) + 1 = ((32 :: 35 :: (O ++ 10 :: 9 :: (dg u ++ [c])) : List Int).length : Int) := by
      simp only [List.length_cons, List.length_append, List.length_nil]
      push_cast
      omega
    rw [h]
    rfl
  have hT2 : allS (u : Int) (dg u ++ 35 :: (O ++ [13])) 0 [] 0 0 0 9 = ([(u : Int)], ((dg u ++ 35 :: (O ++ [13]) : List Int).length : Int), 0) := by
    rw [allS_digs (u : Int) (dg u) _ 0 [] 0 0 0 (dg_digs u) (.inl rfl) (by omega) (by rw [valL_dg]; exact Int.le_refl _) hdn, valL_dg, allS_remend (u : Int) 13 (u : Int) (.inr rfl) O [] _ _ _ hO]
    rw [allS]
    have h : (0 : Int) + ((dg u).length : Int) + (O.length : Int) + 2 = ((dg u ++ 35 :: (O ++ [13]) : List Int).length : Int) := by
      simp only [List.length_cons, List.length_append, List.length_nil]
      push_cast
      omega
    rw [h]
    rfl
  have e1 : strOfNums [32] ++ strOfNums (35 :: O) ++ strOfNums [10, 9] ++ strOfNums (dg u) ++ strOfNums [c] = strOfNums (32 :: 35 :: (O ++ 10 :: 9 :: (dg u ++ [c]))) := by
    simp only [← strOfNums_cat]
    congr 1
    simp
  have e2 : strOfNums (dg u) ++ strOfNums (35 :: O) ++ strOfNums [13] = strOfNums (dg u ++ 35 :: (O ++ [13])) := by
    simp only [← strOfNums_cat]
    congr 1
    simp
  have y1 : byteL (32 :: 35 :: (O ++ 10 :: 9 :: (dg u ++ [c]))) := cons _ _ (by omega) (cons _ _ (by omega) (byteL_app hOb (cons _ _ (by omega) (cons _ _ (by omega) (byteL_app bd (b1 c ⟨cb0, cb1⟩))))))
  have y2 : byteL (dg u ++ 35 :: (O ++ [13])) := byteL_app bd (cons _ _ (by omega) (byteL_app hOb (b1 13 (by omega))))
  have y3 : byteL (35 :: O) := cons _ _ (by omega) hOb
  have l1 : (32 :: 35 :: (O ++ 10 :: 9 :: (dg u ++ [c])) : List Int).length ≤ 100 := by simp only [List.length_cons, List.length_append, List.length_nil]; omega
  have l2 : (dg u ++ 35 :: (O ++ [13]) : List Int).length ≤ 100 := by simp only [List.length_cons, List.length_append, List.length_nil]; omega
  have l3 : (35 :: O : List Int).length ≤ 100 := by simp only [List.length_cons]; omega
  have a1 := all_is (u : Int) (by omega) (by omega) _ y1 (by omega)
  have a2 := all_is (u : Int) (by omega) (by omega) _ y2 (by omega)
  have s3 := skip_is _ y3 (by omega)
  rw [hT1] at a1
  rw [hT2] at a2
  rw [skS_remark O hO] at s3
  have z1 : ((strOfNums (32 :: 35 :: (O ++ 10 :: 9 :: (dg u ++ [c])))).size : Int) = ((32 :: 35 :: (O ++ 10 :: 9 :: (dg u ++ [c])) : List Int).length : Int) := by rw [strOfNums_size]
  have z2 : wrap64 (wrap64 (((strOfNums (dg u)).size : Int) + ((strOfNums (35 :: O)).size : Int)) + 1) = ((dg u ++ 35 :: (O ++ [13]) : List Int).length : Int) := by
    rw [strOfNums_size, strOfNums_size]
    simp only [List.length_cons, List.length_append, List.length_nil]
    have w1 := wrap_nat (((dg u).length : Int) + ((O.length + 1 : Nat) : Int)) (by omega) (by omega)
    rw [w1]
    clear w1
    have w2 := wrap_nat (((dg u).length : Int) + ((O.length + 1 : Nat) : Int) + 1) (by omega) (by omega)
    rw [w2]
    clear w2
    push_cast
    omega
  have z3 : ((strOfNums (35 :: O)).size : Int) = ((35 :: O : List Int).length : Int) := by rw [strOfNums_size]
  have same1 := same_few [(u : Int)] [(u : Int)] rfl (by show 1 ≤ 1000; decide) K (by show 1 < K; omega)
  rw [decide_eq_true rfl] at same1
  simp only [c32, c109, c13]
  rw [hdec]
  simp only [Option.bind_some]
  rw [e1, e2, a1, a2]
  simp only [Option.bind_some]
  rw [same1, z1, z2]
  simp only [Option.bind_some]
  rw [s3, z3]
  simp only [Option.bind_some]
  have lv := lives05
  rw [lv]
  have f : ∀ (a b : List Int), a.length + b.length ≤ 300 → ((strOfNums a).size + (strOfNums b).size ≤ 9223372036854775807) := fun a b h => by rw [strOfNums_size, strOfNums_size]; exact q _ h
  have g1 : ∀ (a : List Int) (n : Nat), a.length + n ≤ 300 → ((strOfNums a).size + n ≤ 9223372036854775807) := fun a n h => by rw [strOfNums_size]; exact q _ h
  have g2 : ∀ (a : List Int) (n : Nat), n + a.length ≤ 300 → (n + (strOfNums a).size ≤ 9223372036854775807) := fun a n h => by rw [strOfNums_size]; exact q _ h
  simp only [← strOfNums_cat]
  rw [if_pos (g2 _ _ (by simp only [List.length_cons]; omega)), if_pos (g1 _ _ (by simp only [List.length_append, List.length_cons, List.length_nil]; omega)), if_pos (f _ _ (by simp only [List.length_append, List.length_cons, List.length_nil]; omega)), if_pos (f _ _ (by simp only [List.length_append, List.length_cons, List.length_nil]; omega)), if_pos (f _ _ (by simp only [List.length_append, List.length_cons, List.length_nil]; omega)), if_pos (g1 _ _ (by simp only [List.length_append, List.length_cons, List.length_nil]; omega))]
  simp
theorem rem_loop (u : Nat) (hu : u ≤ 4611686018427387903) (blank : Int) (hbl : -9223372036854775808 ≤ blank ∧ blank ≤ 9223372036854775807) : ∀ (suf pre O : List Int) (K : Nat), byteL (pre ++ suf) → (pre ++ suf).length ≤ 30 → remOk O → byteL O → O.length ≤ pre.length → 200 + suf.length ≤ K →
    chequerlaw05_TokenRemarks.l0 K (strOfNums (pre ++ suf)) blank (u : Int) (strOfNums (35 :: O)) (pre.length : Int) = some true := by
  intro suf
  induction suf with
  | nil =>
    intro pre O K hb hl hO hOb hOl hK
    rw [List.append_nil] at hl
    exact rem_end u hu blank hbl _ _ (by rw [strOfNums_size, List.append_nil]; omega) O hO hOb (by omega) K (by omega)
  | cons c r ih =>
    intro pre O K hb hl hO hOb hOl hK
    obtain ⟨K, rfl⟩ : ∃ q, K = q + 1 := ⟨K - 1, by omega⟩
    rw [List.length_cons] at hK
    have hc : 0 ≤ c ∧ c ≤ 255 := hb c (List.mem_append_right _ (List.mem_cons_self ..))
    have hlr : (pre ++ c :: r).length = pre.length + (r.length + 1) := by simp
    have e2 : pre ++ c :: r = (pre ++ [c]) ++ r := by simp
    have hl1 : (pre ++ [c]).length = pre.length + 1 := by simp
    have hsz : (strOfNums (pre ++ c :: r)).size = pre.length + (r.length + 1) := by rw [strOfNums_size, hlr]
    have hbt := bt_mid pre r c hb
    have next := fun O' h1 h2 h3 => ih (pre ++ [c]) O' K (e2 ▸ hb) (e2 ▸ hl) h1 h2 h3 (by omega)
    have hw : wrap64 ((pre.length : Int) + 1) = ((pre ++ [c]).length : Int) := by rw [hl1, wrap_nat _ (by omega) (by omega)]; push_cast; rfl
    rw [chequerlaw05_TokenRemarks.l0, if_pos (by clear hw; omega), if_pos (by clear hw; omega), hbt, hw]
    clear hw
    by_cases h10 : c = 10
    · rw [if_pos h10, e2]
      exact next O hO hOb (by omega)
    · rw [if_neg h10]
      by_cases h13 : c = 13
      · rw [if_pos h13, e2]
        exact next O hO hOb (by omega)
      · rw [if_neg h13, if_pos (by omega), if_pos (by omega)]
        have hx : (strOfNums (pre ++ c :: r)).extract ((pre.length : Int)).toNat (((pre ++ [c]).length : Int)).toNat = strOfNums [c] := by
          rw [Int.toNat_natCast, Int.toNat_natCast, hl1]
          exact ext_mid pre r c
        rw [hx, if_pos (by rw [strOfNums_size, strOfNums_size]; simp only [List.length_cons, List.length_nil]; omega), ← strOfNums_cat, e2]
        have e3 : (35 : Int) :: O ++ [c] = 35 :: (O ++ [c]) := rfl
        rw [e3]
        refine next (O ++ [c]) ?_ ?_ (by simp; omega)
        · intro x hx
          rcases List.mem_append.1 hx with h | h
          · exact hO x h
          · rw [List.mem_singleton.1 h]
            exact ⟨h10, h13⟩
        · exact byteL_app hOb (fun x hx => by rw [List.mem_singleton.1 hx]; exact hc)
theorem TokenRemarks : chequerlaw05_TokenRemarks.Pure := by
  intro n s blank hn hs hbl
  obtain ⟨h1, h1'⟩ := wf_i64 hn
  obtain ⟨m0, m1⟩ := aroundZ_range n 4611686018427387904 (by omega)
  refine ⟨400, ?_⟩
  unfold chequerlaw05_TokenRemarks.f
  have hf := few_is s 30
  rw [show ((30 : Nat) : Int) = 30 from rfl] at hf
  have hz := few_size s 30
  rw [limit_is n h1 h1', Option.bind_some, hf, Option.bind_some]
  generalize (if s.size > 30 then s.extract 0 30 else s) = t at *
  generalize aroundZ n 4611686018427387904 = k at *
  obtain ⟨u, rfl⟩ : ∃ q : Nat, k = (q : Int) := ⟨k.toNat, by omega⟩
  obtain ⟨L, hB, rfl, hl⟩ := str_nums t
  rw [c35]
  exact rem_loop u (by omega) blank (wf_i64 hbl) L [] [] 400 hB (by show L.length ≤ 30; omega) (fun x hx => by cases hx) (fun x hx => by cases hx) (Nat.le_refl _) (by omega)
end Go.Proofs.Ytbbgichpbjgifaa.Pure
