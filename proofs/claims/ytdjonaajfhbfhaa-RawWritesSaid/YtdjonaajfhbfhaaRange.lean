/- A range over a function whose body is never left early: the law that our contracts use, out of the kit's laws on the statement's steps. -/
import Derived.RangeFuncNested
import Derived.RangeFuncBox
import Derived.RangeFuncLeaves
import Derived.WalkKit
namespace Go.Proofs.Ytdjonaajfhbfhaa.Rg
open Go.RowKit

variable {F : Fence} {n : Nat} {P : Program}

/-- What holds at the end: of no round at all, or behind the last one. -/
def EndOf (N : Nat) (J M : Nat → World → Prop) (W : World) : Prop := (N = 0 ∧ J 0 W) ∨ ∃ k, N = k + 1 ∧ M k W

/-- An iterator that gives x 0, .., x (N - 1), and takes a step of its own behind each round but the last. -/
def Gives {α : Type} (F : Fence) (n : Nat) (P : Program) (gf : Nat) (lb : Array Value) (encs : α → Array Value) (x : Nat → α) (N : Nat) (step : Nat → World → World) (I M : Nat → World → Prop) : Prop :=
  ∀ (l : Nat) (W : World) (J K : Nat → World → Prop), (∀ k W, J k W → I k W) → (∀ k W, K k W → M k W) → (∀ k W, k + 1 < N → K k W → J (k + 1) (step k W)) →
    (∀ k W, k < N → J k W → YieldAt F (n - 1) P l (encs (x k)) W fun e W' => e = .returned (.bool true) ∧ K k W') → J 0 W →
    CallsIn F n P gf (#[.func (.yield l) #[] #[]] ++ lb) W fun e W' => (∃ v, e = .returned v) ∧ EndOf N J K W'

/-- Steady: new blocks, and turns of blocks at or beyond B that are no cells, change nothing. -/
def Steady (B : Nat) (I : Nat → World → Prop) : Prop := (∀ k W o, I k W → I k (W.alloc o)) ∧ ∀ k W l o o', B ≤ l → W.heap[l]? = some o → o.isCells = false → I k W → I k (W.putObj l o')

theorem rangeAll {α : Type} {g : Operand} {ps : Array Tmp} {assign body : Code} {Q : Exit → Act → World → Prop} {a : Act} {w : World}
    (hro : F.round = none) (h1 : 1 ≤ n) {gf : Nat} {lb : Array Value} (hg : a.eval g = .func (.func gf) #[] lb) (hFg : F.fn gf) (eg : ∀ args w, (callFunc gf args).run P w = .ok (.enter gf args) w)
    {encs : α → Array Value} (hps : ∀ x, (encs x).size = ps.size) (x : Nat → α) (N : Nat) (step : Nat → World → World) (I M : Nat → World → Prop)
    (hit : Gives F (n - 1) P gf lb encs x N step I M) (hst : ∀ k W l, w.heap.size ≤ l → (step k W).heap[l]? = W.heap[l]?) (hMI : ∀ k W, k + 1 < N → M k W → I (k + 1) (step k W))
    (hI : Steady w.heap.size I) (hM : Steady w.heap.size M) (h0 : I 0 w) (a₁ : α → Act)
    (hassign : ∀ (l : Nat) (x : α) (W : World) (K : Act → World → Prop), K (a₁ x) W →
      assign.wpIn (F.inRound l) (n - 1 - 1) P (Exit.then K (fun _ _ _ => False)) { tmps := (ps.zip (encs x)).foldl (fun t (p, v) => t.setIfInBounds p v) a.tmps, defers := [] } W)
    (hbody : ∀ (l k : Nat) (W : World), k < N → I k W → body.wpIn (F.inRound l) (n - 1 - 1) P (Exit.then (fun _ W' => KeepsFrom w.heap.size W W' ∧ M k W') (fun _ _ _ => False)) (a₁ (x k)) W)
    (hdone : ∀ (D : Nat) (W : World), w.heap.size ≤ D → EndOf N I M W → W.heap[D]? = some (.deferred (some [])) → Q .normal { a with defers := { target := .collected D, args := #[] } :: a.defers } W) :
    (Code.rangeFunc g ps assign body).wpIn F n P Q a w := by
  refine wpIn_rangeFunc fun fn hfn => ?_
  rw [hro]
  let st : LoopState → Obj := fun s => .loop { state := s, pending := none, fn, tmps := a.tmps, params := ps, assign, body, defers := w.heap.size }
  have hd : ((w.alloc (.deferred (some []))).alloc (st .ready)).heap[w.heap.size]? = some (.deferred (some [])) := (Below.heap_alloc _ _ _ (by simp)).trans (World.alloc_heap_new w _)
  have hl : ((w.alloc (.deferred (some []))).alloc (st .ready)).heap[w.heap.size + 1]? = some (st .ready) := by
    have := World.alloc_heap_new (w.alloc (.deferred (some []))) (st .ready); rwa [World.size_alloc] at this
  refine ⟨w.heap.size + 1, [{ target := .collected w.heap.size, args := #[] }], _, { target := .fn (.func gf) lb, args := #[.func (.yield (w.heap.size + 1)) #[] #[]] }, _, gf,
    #[.func (.yield (w.heap.size + 1)) #[] #[]] ++ lb, _, run_enterLoop_outer _ _ _ _ _, by simp only [resolve, hg]; simp [go_sem]; rfl, fun f' hf' => by simp [Target.leads] at hf'; subst hf'; exact hFg,
    by simp [invoke, go_sem, eg]; rfl, fun _ => h1, ?_⟩
  refine (hit (w.heap.size + 1) _ (fun k W => I k W ∧ W.heap[w.heap.size + 1]? = some (st .ready) ∧ W.heap[w.heap.size]? = some (.deferred (some [])))
    (fun k W => M k W ∧ W.heap[w.heap.size + 1]? = some (st .ready) ∧ W.heap[w.heap.size]? = some (.deferred (some []))) (fun _ _ h => h.1) (fun _ _ h => h.1)
    (fun k W hk h => ⟨hMI k W hk h.1, (hst k W _ (by omega)).trans h.2.1, (hst k W _ (Nat.le_refl _)).trans h.2.2⟩) ?_ ⟨hI.1 _ _ _ (hI.1 _ _ _ h0), hl, hd⟩).mono ?_
  · rintro k W hk ⟨hi, hr, hq⟩
    have hlt : w.heap.size + 1 < W.heap.size := (Array.getElem?_eq_some_iff.1 hr).1
    refine ⟨fn, _, assign, body, run_yield (P := P) (args := encs (x k)) hr (hps _), roundIn_of_wpIn hfn (hassign _ (x k) W _ ⟨_, run_beginRound hr rfl, ?_⟩)⟩
    have hb : (W.putObj (w.heap.size + 1) (st .busy)).heap[w.heap.size + 1]? = some (st .busy) := World.putObj_heap_same hlt
    refine wpIn_mono (hbody _ k (W.putObj (w.heap.size + 1) (st .busy)) hk (hI.2 _ _ _ _ _ (by omega) hr rfl hi)) ?_
    rintro e a3 W3 hp
    cases e with
    | normal =>
      obtain ⟨hk3, hm⟩ := hp
      have h3 := hk3.same _ _ (by omega) hb rfl
      have h4 := hk3.same _ _ (Nat.le_refl _) ((World.putObj_heap_other (by omega)).trans hq) rfl
      exact ⟨_, _, run_endRound (P := P) none h3, rfl, hM.2 _ _ _ _ _ (by omega) h3 rfl hm, World.putObj_heap_same (Array.getElem?_eq_some_iff.1 h3).1, (World.putObj_heap_other (by omega)).trans h4⟩
    | ret => exact hp.elim
    | exit id => exact hp.elim
    | goto t => exact hp.elim
    | panic ch => exact hp.elim
    | outgrown => exact hp.elim
  · rintro e W2 ⟨⟨v, rfl⟩, he⟩
    have hr : W2.heap[w.heap.size + 1]? = some (st .ready) := by
      rcases he with ⟨_, h⟩ | ⟨k, _, h⟩
      · exact h.2.1
      · exact h.2.1
    have hq : W2.heap[w.heap.size]? = some (.deferred (some [])) := by
      rcases he with ⟨_, h⟩ | ⟨k, _, h⟩
      · exact h.2.2
      · exact h.2.2
    refine ⟨none, _, run_endLoop (P := P) hr (by simp), hdone _ _ (Nat.le_refl _) ?_ ((World.putObj_heap_other (by omega)).trans hq)⟩
    rcases he with ⟨hn, h⟩ | ⟨k, hn, h⟩
    · exact .inl ⟨hn, hI.2 _ _ _ _ _ (by omega) hr rfl h.1⟩
    · exact .inr ⟨k, hn, hM.2 _ _ _ _ _ (by omega) hr rfl h.1⟩
/-! ### A variable that collects a row, beside the two of an iterator over digits -/
theorem own_ne_row {W : World} {base size k : Nat} {e : TypeId} {v : Value} {xs : List Value} {row : Option Nat} (h : W.ownsRow base e size v k xs) (hrow : ∀ r, row = some r → ∀ cs fr, W.heap[r]? ≠ some (.cells cs e fr)) : v.ownBlock = none ∨ v.ownBlock ≠ row := by
  rcases h.2 with ⟨rfl, _⟩ | ⟨g, cap, cur, rfl, _, hgb, _⟩
  · exact .inl rfl
  · refine .inr fun e' => ?_
    exact hrow g (by simpa [Value.ownBlock] using e'.symm) _ _ hgb

structure Coll (B0 : Nat) (w : World) (t e tu : TypeId) (vn b : Nat) (xs : List Value) (W : World) : Prop where
  v : ∃ v, Boxed W B0 t v ∧ W.ownsRow B0 e 1 v xs.length xs
  n : Boxed W (B0 + 1) tu (.int .u64 vn)
  b : Boxed W (B0 + 2) tu (.int .u64 b)
  below : Below B0 w W

theorem Coll.kept {B0 : Nat} {w : World} {t e tu : TypeId} {vn b : Nat} {xs : List Value} {W W' : World} {row : Option Nat} (h : Coll B0 w t e tu vn b xs W) (hB : B0 ≤ w.heap.size) (hg : W.grownBy W' row)
    (hrow : ∀ r, row = some r → B0 + 2 < r ∧ ∀ cs fr, W.heap[r]? ≠ some (.cells cs e fr)) : Coll B0 w t e tu vn b xs W' := by
  obtain ⟨⟨v, hv, ho⟩, hn, hb, hl⟩ := h
  have hne : ∀ j, j ≤ B0 + 2 → some j ≠ row := fun j hj e => by have := (hrow j e.symm).1; omega
  exact ⟨⟨v, hv.kept hg (hne _ (by omega)), ho.kept hg (own_ne_row ho fun r e => (hrow r e).2)⟩, hn.kept hg (hne _ (by omega)), hb.kept hg (hne _ (by omega)), hl.grown hg (Nat.le_trans hB hl.size) (fun r e => by have := (hrow r e).1; omega)⟩
theorem Coll.alloc {B0 : Nat} {w : World} {t e tu : TypeId} {vn b : Nat} {xs : List Value} {W : World} (h : Coll B0 w t e tu vn b xs W) (hB : B0 ≤ w.heap.size) (o : Obj) : Coll B0 w t e tu vn b xs (W.alloc o) :=
  h.kept hB (World.grownBy_alloc W o none) (fun r e => by cases e)
theorem Coll.putObj {B0 : Nat} {w : World} {t e tu : TypeId} {vn b : Nat} {xs : List Value} {W : World} (h : Coll B0 w t e tu vn b xs W) (hB : B0 ≤ w.heap.size) {l : Nat} {o : Obj} (o' : Obj) (hl : B0 + 2 < l) (ho : W.heap[l]? = some o) (hc : o.isCells = false) : Coll B0 w t e tu vn b xs (W.putObj l o') :=
  h.kept hB (grownBy_putObj' W l o') (fun r e => by cases e; exact ⟨hl, fun cs fr he => by rw [ho] at he; cases he; cases hc⟩)
/-- The iterator's own step. -/
theorem Coll.step {B0 : Nat} {w : World} {t e tu : TypeId} {vn b : Nat} {xs : List Value} {W : World} (h : Coll B0 w t e tu vn b xs W) (hB : B0 ≤ w.heap.size) (hte : tu ≠ e) (vn' : Nat) : Coll B0 w t e tu vn' b xs (W.setCell ⟨B0 + 1, 0, none⟩ (.int .u64 vn')) := by
  obtain ⟨⟨v, hv, ho⟩, hn, hb, hl⟩ := h
  have hg := grownBy_setCell' W (B0 + 1) (.int .u64 vn')
  exact ⟨⟨v, hv.kept hg (by simp), ho.kept hg (own_ne_row ho fun r e cs fr he => by cases e; rw [show W.heap[B0 + 1]? = _ from hn] at he; cases he; exact hte rfl)⟩, hn.set _, hb.kept hg (by simp), hl.grown hg (Nat.le_trans hB hl.size) (fun r e => by cases e; omega)⟩
/-- 'out = append(out, y)' in the body. -/
theorem Coll.append {B0 : Nat} {w : World} {t e tu : TypeId} {vn b : Nat} {xs : List Value} {W w1 : World} {v v' : Value} {y : Value} {tmp : Obj} (h : Coll B0 w t e tu vn b xs W) (hB : B0 ≤ w.heap.size) (hte : t ≠ e) (htu : tu ≠ e)
    (hv : Boxed W B0 t v) (hrow : W.ownsRow B0 e 1 v xs.length xs) (hown' : w1.ownsRow B0 e 1 v' (xs.length + 1) (xs ++ [y])) (hgrow : (W.alloc tmp).grownBy w1 v.ownBlock) (L : Nat) :
    Boxed w1 B0 t v ∧ KeepsFrom L W (w1.setCell ⟨B0, 0, none⟩ v') ∧ Coll B0 w t e tu vn b (xs ++ [y]) (w1.setCell ⟨B0, 0, none⟩ v') := by
  obtain ⟨_, hn, hb, hl⟩ := h
  obtain ⟨h1, h2, h3, h4, h5⟩ := hv.appended hte hrow (Nat.le_trans hB hl.size) (Nat.le_refl _) hown' hgrow
  have hk : ∀ {j : Nat} {u : Value}, Boxed W (B0 + (j + 1)) tu u → Boxed (w1.setCell ⟨B0, 0, none⟩ v') (B0 + (j + 1)) tu u := fun hj => ((hj.alloc tmp).kept hgrow (hj.not_row htu hrow)).kept (grownBy_setCell' w1 B0 v') (by simp)
  exact ⟨h1, h4.from L, ⟨v', h2, by simpa using h3⟩, hk (j := 0) hn, hk (j := 1) hb, hl.trans h5⟩
end Go.Proofs.Ytdjonaajfhbfhaa.Rg
