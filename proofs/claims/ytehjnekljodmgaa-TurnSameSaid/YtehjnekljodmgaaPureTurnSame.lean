/- The turns that lay a matrix as it is are the document's, and how many ways there are that are not the same: for any matrix. No condition. -/
import Derived.Test.YtehjnekljodmgaaLAround
import Derived.Test.YtehjnekljodmgaaLLay
import Derived.Test.YtehjnekljodmgaaLLives04
import Derived.Test.YtehjnekljodmgaaLOrbit
import Derived.Test.YtehjnekljodmgaaLRefLay
import Derived.Test.YtehjnekljodmgaaLSame
import Derived.Test.YtehjnekljodmgaaLTab
import Derived.Test.YtehjnekljodmgaaQ11
import Derived.Test.YtehjnekljodmgaaQ13
import Derived.Test.YtehjnekljodmgaaQ23
import Derived.Test.YtehjnekljodmgaaQ24
import Derived.Test.YtehjnekljodmgaaQ3
import Derived.Test.YtehjnekljodmgaaQ6
namespace Go.Proofs.Ytehjnekljodmgaa.Pure
open Go.RowKit Go.Proofs.Ytehjnekljodmgaa.Q Go.Proofs.YtehjnekljodmgaaW.PrintWords Go.Proofs.YtehjnekljodmgaaW.PrintLast
set_option linter.unusedVariables false
def oT (g h : Nat) : Nat := ((if h ≥ 4 then 4 - g % 4 else g % 4) + h % 4) % 4 + 4 * ((g / 4 + h / 4) % 2)
def oB (g : Nat) : Nat := if g ≥ 4 then g else (4 - g) % 4
theorem oT_lt (g h : Nat) (hg : g < 8) (hh : h < 8) : oT g h < 8 := by unfold oT; omega
theorem oB_lt (g : Nat) (hg : g < 8) : oB g < 8 := by unfold oB; split <;> omega
theorem olay_then (g h w t x y : Nat) (hg : g < 8) (hh : h < 8) (hx : x < layW (oT g h) w t) (hy : y < layH (oT g h) w t) :
    layX g w t (layX h (layW g w t) (layH g w t) x y) (layY h (layW g w t) (layH g w t) x y) = layX (oT g h) w t x y ∧ layY g w t (layX h (layW g w t) (layH g w t) x y) (layY h (layW g w t) (layH g w t) x y) = layY (oT g h) w t x y := by
  rcases turn8 hg with rfl | rfl | rfl | rfl | rfl | rfl | rfl | rfl <;> rcases turn8 hh with rfl | rfl | rfl | rfl | rfl | rfl | rfl | rfl <;> simp [layW, layH, layX, layY, oT] at * <;> omega
theorem olay_sizes (g h w t : Nat) (hg : g < 8) (hh : h < 8) : layW h (layW g w t) (layH g w t) = layW (oT g h) w t ∧ layH h (layW g w t) (layH g w t) = layH (oT g h) w t := by
  rcases turn8 hg with rfl | rfl | rfl | rfl | rfl | rfl | rfl | rfl <;> rcases turn8 hh with rfl | rfl | rfl | rfl | rfl | rfl | rfl | rfl <;> simp [layW, layH, oT]
theorem othen_tabs (g h w t : Nat) (f : Nat → Nat → Int) (hg : g < 8) (hh : h < 8) : tab (layW h (layW g w t) (layH g w t)) (layH h (layW g w t) (layH g w t)) (layF h (layW g w t) (layH g w t) (layF g w t f)) = tab (layW (oT g h) w t) (layH (oT g h) w t) (layF (oT g h) w t f) := by
  obtain ⟨e1, e2⟩ := olay_sizes g h w t hg hh
  rw [e1, e2]
  refine tab_congr _ _ _ _ (fun x y hx hy => ?_)
  obtain ⟨e3, e4⟩ := olay_then g h w t x y hg hh hx hy
  unfold layF
  rw [e3, e4]
theorem otab_inj (w h : Nat) (f g : Nat → Nat → Int) (e : tab w h f = tab w h g) (x y : Nat) (hx : x < w) (hy : y < h) : f x y = g x y := by
  have h1 := tab_get w h f x y hx hy
  have h2 := tab_get w h g x y hx hy
  rw [e, h2] at h1
  exact (Option.some.inj h1).symm
def matM (w h : Nat) (f : Nat → Nat → Int) (g : Nat) : TM := ((layW g w h : Int), (layH g w h : Int), tab (layW g w h) (layH g w h) (layF g w h f))
theorem mat_move (w h : Nat) (f : Nat → Nat → Int) (a c b : Nat) (ha : a < 8) (hc : c < 8) (hb : b < 8) (e : matM w h f a = matM w h f c) : matM w h f (oT a b) = matM w h f (oT c b) := by
  obtain ⟨e1, e2, e3⟩ := (tm_eq _ _).1 e
  have e1' : layW a w h = layW c w h := Int.natCast_inj.1 e1
  have e2' : layH a w h = layH c w h := Int.natCast_inj.1 e2
  have e3' : tab (layW a w h) (layH a w h) (layF a w h f) = tab (layW c w h) (layH c w h) (layF c w h f) := e3
  have s1 := olay_sizes a b w h ha hb
  have s2 := olay_sizes c b w h hc hb
  have t1 := othen_tabs a b w h f ha hb
  have t2 := othen_tabs c b w h f hc hb
  rw [e1', e2'] at s1 t1
  rw [e1', e2'] at e3'
  have key : tab (layW b (layW c w h) (layH c w h)) (layH b (layW c w h) (layH c w h)) (layF b (layW c w h) (layH c w h) (layF a w h f)) = tab (layW b (layW c w h) (layH c w h)) (layH b (layW c w h) (layH c w h)) (layF b (layW c w h) (layH c w h) (layF c w h f)) := by
    refine tab_congr _ _ _ _ (fun x y hx hy => ?_)
    obtain ⟨i1, i2⟩ := lay_in hb hx hy
    unfold layF
    exact otab_inj _ _ _ _ e3' _ _ i1 i2
  have hW : layW (oT a b) w h = layW (oT c b) w h := s1.1.symm.trans s2.1
  have hH : layH (oT a b) w h = layH (oT c b) w h := s1.2.symm.trans s2.2
  refine (tm_eq _ _).2 ⟨congrArg (fun n : Nat => (n : Int)) hW, congrArg (fun n : Nat => (n : Int)) hH, ?_⟩
  exact t1.symm.trans (key.trans t2)
def cntN (B : Nat → Nat → Bool) : List Nat → List Nat → Nat
  | [], _ => 0
  | g :: r, seen => if (seen.any fun g' => B g' g) = true then cntN B r (g :: seen) else cntN B r (g :: seen) + 1
theorem findT_mem (x : TM) : ∀ (l : List TM) (i : Nat), findT x i l < 0 ↔ x ∉ l
  | [], i => by simp [findT]
  | s :: r, i => by
    rw [findT]
    by_cases c : s = x
    · rw [if_pos c]
      simp [c]
    · rw [if_neg c, findT_mem x r (i + 1)]
      simp only [List.mem_cons, not_or]
      exact ⟨fun h => ⟨fun e => c e.symm, h⟩, fun h => h.2⟩
theorem orb_count (M : Nat → TM) : ∀ (l seen : List Nat) (out : List TM) (wh : List Int), (∀ g ∈ l, g < 8) → (∀ g, M g ∈ out ↔ ∃ g' ∈ seen, M g' = M g) → (orbS M (l.map fun g : Nat => (g : Int)) out wh).1.length = out.length + cntN (fun a b => decide (M a = M b)) l seen
  | [], seen, out, wh, _, _ => rfl
  | g :: r, seen, out, wh, hl, hs => by
    have hg := hl g (List.mem_cons_self ..)
    have hr : ∀ x ∈ r, x < 8 := fun x hx => hl x (List.mem_cons_of_mem _ hx)
    rw [List.map_cons, orbS, if_pos (by omega), Int.toNat_natCast, cntN]
    have hany : (seen.any fun g' => decide (M g' = M g)) = true ↔ ∃ g' ∈ seen, M g' = M g := by
      rw [List.any_eq_true]
      simp only [decide_eq_true_eq]
    by_cases c : findT (M g) 0 out < 0
    · have hn := (findT_mem (M g) out 0).1 c
      rw [if_pos c, if_neg (fun h => hn ((hs g).2 (hany.1 h)))]
      rw [orb_count M r (g :: seen) (out ++ [M g]) _ hr (fun x => by
        rw [List.mem_append, List.mem_singleton, hs x]
        constructor
        · rintro (⟨y, hy, e⟩ | e)
          · exact ⟨y, List.mem_cons_of_mem _ hy, e⟩
          · exact ⟨g, List.mem_cons_self .., e.symm⟩
        · rintro ⟨y, hy, e⟩
          rcases List.mem_cons.1 hy with h | h
          · exact Or.inr (by rw [← e, h])
          · exact Or.inl ⟨y, h, e⟩), List.length_append, List.length_singleton]
      omega
    · have hn : M g ∈ out := Classical.not_not.1 (fun h => c ((findT_mem (M g) out 0).2 h))
      rw [if_neg c, if_pos (hany.2 ((hs g).1 hn))]
      rw [orb_count M r (g :: seen) out _ hr (fun x => by
        rw [hs x]
        constructor
        · rintro ⟨y, hy, e⟩
          exact ⟨y, List.mem_cons_of_mem _ hy, e⟩
        · rintro ⟨y, hy, e⟩
          rcases List.mem_cons.1 hy with h | h
          · obtain ⟨z, hz, ez⟩ := (hs g).1 hn
            exact ⟨z, hz, by rw [ez, ← e, h]⟩
          · exact ⟨y, h, e⟩)]
def stabN (M : Nat → TM) (n : Nat) : List Int := ((List.range n).filter fun g => decide (M g = M 0)).map fun g : Nat => (g : Int)
theorem stab_succ (M : Nat → TM) (n : Nat) : stabN M (n + 1) = stabN M n ++ if M n = M 0 then [(n : Int)] else [] := by
  unfold stabN
  rw [List.range_succ, List.filter_append, List.map_append]
  congr 1
  by_cases c : M n = M 0 <;> simp [c]
theorem stab_len (M : Nat → TM) : ∀ n, (stabN M n).length ≤ n
  | 0 => Nat.le_refl _
  | n + 1 => by
    have := stab_len M n
    rw [stab_succ, List.length_append]
    split <;> simp <;> omega
def sel (s0 s1 s2 s3 s4 s5 s6 s7 : Bool) : Nat → Bool
  | 0 => s0 | 1 => s1 | 2 => s2 | 3 => s3 | 4 => s4 | 5 => s5 | 6 => s6 | 7 => s7 | _ => false
def closedB (s : Nat → Bool) : Bool := (List.range 8).all fun a => (List.range 8).all fun b => !(s a && s b) || s (oT a b)
def cnt8 (s : Nat → Bool) : Nat := cntN (fun a b => s (oT a (oB b))) (List.range 8) []
set_option maxRecDepth 100000 in
set_option maxHeartbeats 4000000 in
theorem orbit_stab : ∀ s1 s2 s3 s4 s5 s6 s7 : Bool, closedB (sel true s1 s2 s3 s4 s5 s6 s7) = true → cnt8 (sel true s1 s2 s3 s4 s5 s6 s7) * ((List.range 8).filter (sel true s1 s2 s3 s4 s5 s6 s7)).length = 8 := by decide +kernel
theorem o_round : ∀ a b : Fin 8, oT (oT (a : Nat) (oB (b : Nat))) (b : Nat) = (a : Nat) ∧ oT 0 (b : Nat) = (b : Nat) ∧ oT (b : Nat) (oB (b : Nat)) = 0 := by decide +kernel
theorem cntN_congr (B C : Nat → Nat → Bool) : ∀ (l seen : List Nat), (∀ a b, a < 8 → b < 8 → B a b = C a b) → (∀ g ∈ l, g < 8) → (∀ g ∈ seen, g < 8) → cntN B l seen = cntN C l seen
  | [], _, _, _, _ => rfl
  | g :: r, seen, h, hl, hs => by
    have hg := hl g (List.mem_cons_self ..)
    have e : (seen.any fun g' => B g' g) = (seen.any fun g' => C g' g) := by
      rw [Bool.eq_iff_iff, List.any_eq_true, List.any_eq_true]
      exact ⟨fun ⟨x, hx, e⟩ => ⟨x, hx, by rw [← h x g (hs x hx) hg]; exact e⟩, fun ⟨x, hx, e⟩ => ⟨x, hx, by rw [h x g (hs x hx) hg]; exact e⟩⟩
    rw [cntN, cntN, e, cntN_congr B C r (g :: seen) h (fun x hx => hl x (List.mem_cons_of_mem _ hx)) (fun x hx => (List.mem_cons.1 hx).elim (fun z => z ▸ hg) (hs x))]
theorem sel_at (s : Nat → Bool) (a : Nat) (ha : a < 8) : sel (s 0) (s 1) (s 2) (s 3) (s 4) (s 5) (s 6) (s 7) a = s a := by
  rcases turn8 ha with rfl | rfl | rfl | rfl | rfl | rfl | rfl | rfl <;> rfl
theorem orbit_eight (w h : Nat) (f : Nat → Nat → Int) : (orbS (matM w h f) [0, 1, 2, 3, 4, 5, 6, 7] [] []).1.length * (stabN (matM w h f) 8).length = 8 := by
  have hz : ∀ a b, a < 8 → b < 8 → decide (matM w h f a = matM w h f b) = decide (matM w h f (oT a (oB b)) = matM w h f 0) := by
    intro a b ha hb
    obtain ⟨r1, r2, r3⟩ := o_round ⟨a, ha⟩ ⟨b, hb⟩
    dsimp only at r1 r2 r3
    refine decide_eq_decide.2 ⟨fun e => ?_, fun e => ?_⟩
    · have := mat_move w h f a b (oB b) ha hb (oB_lt b hb) e
      rw [r3] at this
      exact this
    · have := mat_move w h f (oT a (oB b)) 0 b (oT_lt a _ ha (oB_lt b hb)) (by omega) hb e
      rw [r1, r2] at this
      exact this
  obtain ⟨s, hs⟩ : ∃ s : Nat → Bool, s = fun a => decide (matM w h f a = matM w h f 0) := ⟨_, rfl⟩
  have s0 : s 0 = true := by rw [hs]; exact decide_eq_true rfl
  have hcl : closedB s = true := by
    unfold closedB
    rw [List.all_eq_true]
    intro a ha
    rw [List.all_eq_true]
    intro b hb
    have ha := List.mem_range.1 ha
    have hb := List.mem_range.1 hb
    by_cases ca : s a = true
    · by_cases cb : s b = true
      · have e1 : matM w h f a = matM w h f 0 := by rw [hs] at ca; exact of_decide_eq_true ca
        have e2 : matM w h f b = matM w h f 0 := by rw [hs] at cb; exact of_decide_eq_true cb
        have := mat_move w h f a 0 b ha (by omega) hb e1
        rw [(o_round ⟨a, ha⟩ ⟨b, hb⟩).2.1] at this
        have e3 : s (oT a b) = true := by rw [hs]; exact decide_eq_true (this.trans e2)
        rw [e3, Bool.or_true]
      · rw [Bool.eq_false_iff.2 cb, Bool.and_false]
        rfl
    · rw [Bool.eq_false_iff.2 ca]
      rfl
  have c1 := orb_count (matM w h f) (List.range 8) [] [] [] (fun g hg => List.mem_range.1 hg) (fun g => by simp)
  have c2 : cntN (fun a b => decide (matM w h f a = matM w h f b)) (List.range 8) [] = cnt8 s := by
    unfold cnt8
    rw [hs]
    exact cntN_congr _ _ _ _ (fun a b ha hb => hz a b ha hb) (fun g hg => List.mem_range.1 hg) (fun g hg => by cases hg)
  have c3 : (stabN (matM w h f) 8).length = ((List.range 8).filter s).length := by
    unfold stabN
    rw [List.length_map, hs]
  have hsel : ∀ a, a < 8 → sel true (s 1) (s 2) (s 3) (s 4) (s 5) (s 6) (s 7) a = s a := fun a ha => by
    have := sel_at s a ha
    rw [s0] at this
    exact this
  have key := orbit_stab (s 1) (s 2) (s 3) (s 4) (s 5) (s 6) (s 7) (by
    refine Eq.trans ?_ hcl
    unfold closedB
    rw [Bool.eq_iff_iff, List.all_eq_true, List.all_eq_true]
    refine forall_congr' fun a => forall_congr' fun ha => ?_
    rw [List.all_eq_true, List.all_eq_true]
    refine forall_congr' fun b => forall_congr' fun hb => ?_
    have ha := List.mem_range.1 ha
    have hb := List.mem_range.1 hb
    rw [hsel a ha, hsel b hb, hsel _ (oT_lt a b ha hb)])
  have k1 : cnt8 (sel true (s 1) (s 2) (s 3) (s 4) (s 5) (s 6) (s 7)) = cnt8 s := cntN_congr _ _ _ _ (fun a b ha hb => hsel _ (oT_lt a _ ha (oB_lt b hb))) (fun g hg => List.mem_range.1 hg) (fun g hg => by cases hg)
  have k2 : ((List.range 8).filter (sel true (s 1) (s 2) (s 3) (s 4) (s 5) (s 6) (s 7))) = (List.range 8).filter s := List.filter_congr (fun a ha => hsel a (List.mem_range.1 ha))
  rw [k1, k2] at key
  rw [c3]
  refine Eq.trans ?_ key
  congr 1
  rw [← c2]
  have : ([0, 1, 2, 3, 4, 5, 6, 7] : List Int) = (List.range 8).map fun g : Nat => (g : Int) := rfl
  rw [this, c1]
  simp
section
variable (w h : Nat) (hw : 1 ≤ w ∧ w ≤ 4) (hh : 1 ≤ h ∧ h ≤ 4) (f : Nat → Nat → Int)
include hw hh
theorem matM_len (g : Nat) : (matM w h f g).2.2.length ≤ 16 := by
  have hm : h * w ≤ 4 * 4 := Nat.mul_le_mul hh.2 hw.2
  show (tab (layW g w h) (layH g w h) (layF g w h f)).length ≤ 16
  rw [tab_len]
  unfold layH layW
  split
  · omega
  · rw [Nat.mul_comm]; omega
theorem same_go : ∀ (d i k : Nat), i + d = 8 → 4400 + d < k → turn_Same.l0 k (stabN (matM w h f) i) (i : Int) (w : Int) (h : Int) (tab w h f) = some (stabN (matM w h f) 8) := by
  intro d
  induction d with
  | zero =>
    intro i k hd hk
    obtain ⟨k, rfl⟩ : ∃ m, k = m + 1 := ⟨k - 1, by omega⟩
    obtain rfl : i = 8 := by omega
    rw [turn_Same.l0, if_neg (by decide)]
  | succ d ih =>
    intro i k hd hk
    obtain ⟨k, rfl⟩ : ∃ m, k = m + 1 := ⟨k - 1, by omega⟩
    have hi : i < 8 := by omega
    have hsl := stab_len (matM w h f) i
    have hml := matM_len w h hw hh f 0
    have hn := ih (i + 1) k (by omega) (by omega)
    rw [stab_succ (matM w h f) i] at hn
    rw [turn_Same.l0, if_pos (by omega), turnlay_is i w h k hi (by omega) (by omega) f (by omega), Option.bind_some]
    dsimp only
    rw [if_pos rfl]
    show ((rect_Same.f k (matM w h f 0).1 (matM w h f 0).2.1 (matM w h f 0).2.2 (matM w h f i).1 (matM w h f i).2.1 (matM w h f i).2.2).bind _) = _
    rw [rsame_is k (matM w h f 0) (matM w h f i) (by omega) (by omega), Option.bind_some, tw ((i : Int) + 1) (by omega) (by omega)]
    by_cases c : matM w h f i = matM w h f 0
    · rw [decide_eq_true c.symm, if_pos rfl, if_pos (by omega)]
      rw [if_pos c] at hn
      exact hn
    · rw [decide_eq_false (fun e => c e.symm), if_neg (by decide)]
      rw [if_neg c, List.append_nil] at hn
      exact hn
theorem law_go : ∀ (d i k : Nat), i + d = 8 → 20000 + d < k → chequerlaw04_TurnSame.l0 k (stabN (matM w h f) 8) (stabN (matM w h f) i) (i : Int) (w : Int) (h : Int) (tab w h f) = some true := by
  intro d
  induction d with
  | zero =>
    intro i k hd hk
    obtain ⟨k, rfl⟩ : ∃ m, k = m + 1 := ⟨k - 1, by omega⟩
    obtain rfl : i = 8 := by omega
    have hm : h * w ≤ 4 * 4 := Nat.mul_le_mul hh.2 hw.2
    have hsl := stab_len (matM w h f) 8
    have h8 := orbit_eight w h f
    have hML : ∀ g, g < 8 → (matM w h f g).2.2.length = h * w := fun g _ => by
      show (tab (layW g w h) (layH g w h) (layF g w h f)).length = h * w
      rw [tab_len]
      unfold layH layW
      split
      · rfl
      · exact Nat.mul_comm ..
    have p1 := orbit_go (matM w h f) (h * w) (by omega) hML (w : Int) (h : Int) (tab w h f) (fun g k hg hk => turnlay_is g w h k hg (by omega) (by omega) f hk) (fun g k hg => turnlay_no k _ _ _ g hg) [0, 1, 2, 3, 4, 5, 6, 7] [] [] [] k (by decide) (Nat.le_refl _) rfl (fun s hs => by cases hs) (by simp; omega)
    rw [chequerlaw04_TurnSame.l0, if_neg (by decide)]
    unfold chequerlaw04_of.f turn_Orbit.f
    rw [Option.bind_some]
    dsimp only
    rw [List.nil_append] at p1
    rw [show (0 : Int) = ((([] : List Int).length : Nat) : Int) from rfl, show (([] : List S26)) = ([] : List TM).map mkP from rfl]
    rw [show ((([] : List Int).length : Nat) : Int) = 0 from rfl] at p1 ⊢
    rw [p1, Option.bind_some, same_few _ _ rfl (by omega) k (by omega), Option.bind_some, decide_eq_true rfl, if_pos rfl]
    dsimp only
    rw [List.length_map]
    have e8 : ((orbS (matM w h f) [0, 1, 2, 3, 4, 5, 6, 7] [] []).1.length : Int) * ((stabN (matM w h f) 8).length : Int) = 8 := by rw [← Int.natCast_mul, h8]; rfl
    rw [e8, tw 8 (by omega) (by omega), if_pos rfl, lives04 k (by omega)]
    rfl
  | succ d ih =>
    intro i k hd hk
    obtain ⟨k, rfl⟩ : ∃ m, k = m + 1 := ⟨k - 1, by omega⟩
    have hi : i < 8 := by omega
    have hsl := stab_len (matM w h f) i
    have hml := matM_len w h hw hh f i
    have hn := ih (i + 1) k (by omega) (by omega)
    rw [stab_succ (matM w h f) i] at hn
    rw [chequerlaw04_TurnSame.l0, if_pos (by omega), reflay_is i w h k hi (by omega) (by omega) f (by omega), Option.bind_some]
    dsimp only
    show ((chequerref03_Same.f k (matM w h f i).1 (matM w h f i).2.1 (matM w h f i).2.2 (matM w h f 0).1 (matM w h f 0).2.1 (matM w h f 0).2.2).bind _) = _
    rw [refsame_is k (matM w h f i) (matM w h f 0) (by omega) (by omega), Option.bind_some, tw ((i : Int) + 1) (by omega) (by omega)]
    by_cases c : matM w h f i = matM w h f 0
    · rw [decide_eq_true c, if_pos rfl, if_pos (by omega)]
      rw [if_pos c] at hn
      exact hn
    · rw [decide_eq_false c, if_neg (by decide)]
      rw [if_neg c, List.append_nil] at hn
      exact hn
end
theorem TurnSame : chequerlaw04_TurnSame.Pure := by
  intro m0 m1 l h0 h1
  intros
  obtain ⟨w, h, f, hw, hh, hG⟩ := good_is m0 m1 l 4 (by omega) (wf_i64 h0) (wf_i64 h1)
  refine ⟨100000, ?_⟩
  have e1 := hG 100000 (by omega)
  rw [show ((4 : Nat) : Int) = 4 from rfl] at e1
  unfold chequerlaw04_TurnSame.f
  rw [e1, Option.bind_some]
  unfold chequerlaw04_of.f turn_Same.f
  rw [Option.bind_some]
  dsimp only
  have s := same_go w h hw hh f 8 0 100000 (by omega) (by omega)
  rw [show stabN (matM w h f) 0 = [] from rfl, show ((0 : Nat) : Int) = 0 from rfl] at s
  rw [s, Option.bind_some]
  exact law_go w h hw hh f 8 0 100000 (by omega) (by omega)
end Go.Proofs.Ytehjnekljodmgaa.Pure
