/- A range over a function whose body is never left early, of an iterator that makes blocks of its own between its rounds. -/
import Derived.Test.YtdjonaajfhbfhaaRange
namespace Go.Proofs.Ytdjonaajfhbfhaa.Rg
open Go.RowKit
variable {F : Fence} {n : Nat} {P : Program}

/-- An iterator that gives x 0, .., x (N - 1), and in between makes blocks of its own, and changes nothing else. -/
def GivesB {α : Type} (F : Fence) (n : Nat) (P : Program) (gf : Nat) (lb : Array Value) (encs : α → Array Value) (x : Nat → α) (N : Nat) (I M : Nat → World → Prop) : Prop :=
  ∀ (l : Nat) (W : World) (J K : Nat → World → Prop), (∀ k W, J k W → I k W) → (∀ k W, K k W → M k W) → (∀ k W W', J k W → Below W.heap.size W W' → J k W') → (∀ k W W', K k W → Below W.heap.size W W' → K k W') → (∀ k W, k + 1 < N → K k W → J (k + 1) W) →
    (∀ k W, k < N → J k W → YieldAt F (n - 1) P l (encs (x k)) W fun e W' => e = .returned (.bool true) ∧ K k W') → J 0 W →
    CallsIn F n P gf (#[.func (.yield l) #[] #[]] ++ lb) W fun e W' => (∃ v, e = .returned v) ∧ EndOf N J K W'

/-- Steady: new blocks, and turns of blocks at or beyond B that are no cells, change nothing. -/
def SteadyB (B : Nat) (I : Nat → World → Prop) : Prop := (∀ k W W', I k W → Below W.heap.size W W' → I k W') ∧ ∀ k W l o o', B ≤ l → W.heap[l]? = some o → o.isCells = false → I k W → I k (W.putObj l o')

theorem below_newObj (W : World) (o : Obj) : Below W.heap.size W (W.alloc o) := (Below.refl _ W).alloc (Nat.le_refl _) o

theorem rangeAllB {α : Type} {g : Operand} {ps : Array Tmp} {assign body : Code} {Q : Exit → Act → World → Prop} {a : Act} {w : World}
    (hro : F.round = none) (h1 : 1 ≤ n) {gf : Nat} {lb : Array Value} (hg : a.eval g = .func (.func gf) #[] lb) (hFg : F.fn gf) (eg : ∀ args w, (callFunc gf args).run P w = .ok (.enter gf args) w)
    {encs : α → Array Value} (hps : ∀ x, (encs x).size = ps.size) (x : Nat → α) (N : Nat) (I M : Nat → World → Prop)
    (hit : GivesB F (n - 1) P gf lb encs x N I M) (hMI : ∀ k W, k + 1 < N → M k W → I (k + 1) W)
    (hI : SteadyB w.heap.size I) (hM : SteadyB w.heap.size M) (h0 : I 0 w) (a₁ : α → Act)
    (hassign : ∀ (l : Nat) (x : α) (W : World) (K : Act → World → Prop), K (a₁ x) W →
      assign.wpIn (F.inRound l) (n - 1 - 1) P (Exit.then K (fun _ _ _ => False)) { tmps := (ps.zip (encs x)).foldl (fun t (p, v) => t.setIfInBounds p v) a.tmps, defers := [] } W)
    (hbody : ∀ (l k : Nat) (W : World), k < N → I k W → body.wpIn (F.inRound l) (n - 1 - 1) P (Exit.then (fun _ W' => KeepsFrom w.heap.size W W' ∧ M k W') (fun _ _ _ => False)) (a₁ (x k)) W)
    (hdone : ∀ (D : Nat) (W : World), w.heap.size ≤ D → EndOf N I M W → W.heap[D]? = some (.deferred (some [])) → Q .normal { a with defers := { target := .collected D, args := #[] } :: a.defers } W) :
    (Code.rangeFunc g ps assign body).wpIn F n P Q a w := by
  refine wpIn_rangeFunc fun fn hfn => ?_
  rw [hro]
  let st : LoopState → Obj := fun s => .loop { state := s, pending := none, fn, tmps := a.tmps, params := ps, assign, body, defers := w.heap.size }
  have hd : ((w.alloc (.deferred (some []))).alloc (st .ready)).heap[w.heap.size]? = some (.deferred (some [])) := (Below.heap_alloc _ _ _ (by simp)).trans (World.alloc_heap_new w _)
  have hl : ((w.alloc (.deferred (some []))).alloc (st .ready)).heap[w.heap.size + 1]? = some (st .ready) := by
    have := World.alloc_heap_new (w.alloc (.deferred (some []))) (st .ready); rwa [World.size_alloc] at this
  have hstJ : ∀ (I : Nat → World → Prop), SteadyB w.heap.size I → ∀ k W W', (I k W ∧ W.heap[w.heap.size + 1]? = some (st .ready) ∧ W.heap[w.heap.size]? = some (.deferred (some []))) → Below W.heap.size W W' → (I k W' ∧ W'.heap[w.heap.size + 1]? = some (st .ready) ∧ W'.heap[w.heap.size]? = some (.deferred (some []))) := by
    intro I hI k W W' h hb
    refine ⟨hI.1 k W W' h.1 hb, (hb.block _ ?_).trans h.2.1, (hb.block _ ?_).trans h.2.2⟩
    · exact (Array.getElem?_eq_some_iff.1 h.2.1).1
    · exact (Array.getElem?_eq_some_iff.1 h.2.2).1
  refine ⟨w.heap.size + 1, [{ target := .collected w.heap.size, args := #[] }], _, { target := .fn (.func gf) lb, args := #[.func (.yield (w.heap.size + 1)) #[] #[]] }, _, gf,
    #[.func (.yield (w.heap.size + 1)) #[] #[]] ++ lb, _, run_enterLoop_outer _ _ _ _ _, by simp only [resolve, hg]; simp [go_sem]; rfl, fun f' hf' => by simp [Target.leads] at hf'; subst hf'; exact hFg,
    by simp [invoke, go_sem, eg]; rfl, fun _ => h1, ?_⟩
  refine (hit (w.heap.size + 1) _ (fun k W => I k W ∧ W.heap[w.heap.size + 1]? = some (st .ready) ∧ W.heap[w.heap.size]? = some (.deferred (some [])))
    (fun k W => M k W ∧ W.heap[w.heap.size + 1]? = some (st .ready) ∧ W.heap[w.heap.size]? = some (.deferred (some []))) (fun _ _ h => h.1) (fun _ _ h => h.1)
    (hstJ I hI) (hstJ M hM)
    (fun k W hk h => ⟨hMI k W hk h.1, h.2⟩) ?_ ⟨hI.1 _ _ _ (hI.1 _ _ _ h0 (below_newObj _ _)) (below_newObj _ _), hl, hd⟩).mono ?_
  · rintro k W hk ⟨hi, hr, hq⟩
    have hlt : w.heap.size + 1 < W.heap.size := (Array.getElem?_eq_some_iff.1 hr).1
    refine ⟨fn, _, assign, body, run_yield (P := P) (args := encs (x k)) hr (hps _), roundIn_of_wpIn hfn (hassign _ (x k) W _ ⟨_, run_beginRound hr rfl, ?_⟩)⟩
    have hb : (W.putObj (w.heap.size + 1) (st .busy)).heap[w.heap.size + 1]? = some (st .busy) := World.putObj_heap_same hlt
    refine wpIn_mono (hbody _ k (W.putObj (w.heap.size + 1) (st .busy)) hk (hI.2 _ _ _ _ _ (by omega) hr rfl hi)) ?_
    rintro e a3 W3 hp
    cases e with
    | normal =>
      obtain ⟨hk3, hm⟩ := hp
      have h3 := hk3.same _ _ (by omega) hb rfl
      have h4 := hk3.same _ _ (Nat.le_refl _) ((World.putObj_heap_other (by omega)).trans hq) rfl
      exact ⟨_, _, run_endRound (P := P) none h3, rfl, hM.2 _ _ _ _ _ (by omega) h3 rfl hm, World.putObj_heap_same (Array.getElem?_eq_some_iff.1 h3).1, (World.putObj_heap_other (by omega)).trans h4⟩
    | ret => exact hp.elim
    | exit id => exact hp.elim
    | goto t => exact hp.elim
    | panic ch => exact hp.elim
    | outgrown => exact hp.elim
  · rintro e W2 ⟨⟨v, rfl⟩, he⟩
    have hr : W2.heap[w.heap.size + 1]? = some (st .ready) := by
      rcases he with ⟨_, h⟩ | ⟨k, _, h⟩
      · exact h.2.1
      · exact h.2.1
    have hq : W2.heap[w.heap.size]? = some (.deferred (some [])) := by
      rcases he with ⟨_, h⟩ | ⟨k, _, h⟩
      · exact h.2.2
      · exact h.2.2
    refine ⟨none, _, run_endLoop (P := P) hr (by simp), hdone _ _ (Nat.le_refl _) ?_ ((World.putObj_heap_other (by omega)).trans hq)⟩
    rcases he with ⟨hn, h⟩ | ⟨k, hn, h⟩
    · exact .inl ⟨hn, hI.2 _ _ _ _ _ (by omega) hr rfl h.1⟩
    · exact .inr ⟨k, hn, hM.2 _ _ _ _ _ (by omega) hr rfl h.1⟩

/-! ### A variable that collects a row; others that stand as they are -/
structure CollB (B : Nat) (w0 : World) (Br Bv : Nat) (t e : TypeId) (others : List (Nat × TypeId × Value)) (xs : List Value) (W : World) : Prop where
  v : ∃ v, Boxed W Bv t v ∧ W.ownsRow Br e 1 v xs.length xs
  o : ∀ x ∈ others, Boxed W x.1 x.2.1 x.2.2
  below : Below B w0 W
variable {B : Nat} {w0 : World} {Br Bv : Nat} {t e : TypeId} {others : List (Nat × TypeId × Value)} {xs : List Value} {W W' : World}
theorem Boxed.lt' {W : World} {b : Nat} {t : TypeId} {v : Value} (h : Boxed W b t v) : b < W.heap.size := (Array.getElem?_eq_some_iff.1 (show W.heap[b]? = _ from h)).1
theorem CollB.kept {row : Option Nat} (h : CollB B w0 Br Bv t e others xs W) (hB : B ≤ w0.heap.size) (hg : W.grownBy W' row) (hv : some Bv ≠ row) (ho : ∀ x ∈ others, some x.1 ≠ row) (hr : ∀ r, row = some r → B ≤ r)
    (hrow : ∀ r, row = some r → ∀ cs fr, W.heap[r]? ≠ some (.cells cs e fr)) : CollB B w0 Br Bv t e others xs W' := by
  obtain ⟨⟨v, hv', hw⟩, hn, hl⟩ := h
  exact ⟨⟨v, hv'.kept hg hv, hw.kept hg (own_ne_row hw hrow)⟩, fun x hx => (hn x hx).kept hg (ho x hx), hl.grown hg (Nat.le_trans hB hl.size) hr⟩
theorem CollB.new (h : CollB B w0 Br Bv t e others xs W) (hB : B ≤ w0.heap.size) (hb : Below W.heap.size W W') : CollB B w0 Br Bv t e others xs W' :=
  h.kept (row := none) hB ⟨hb.os, hb.tape, hb.output, hb.size, fun k hk _ => hb.block k hk⟩ (by simp) (by simp) (by simp) (by simp)
theorem CollB.putObj (h : CollB B w0 Br Bv t e others xs W) (hB : B ≤ w0.heap.size) {l : Nat} {o : Obj} (o' : Obj) (hl : B ≤ l) (ho : W.heap[l]? = some o) (hc : o.isCells = false) : CollB B w0 Br Bv t e others xs (W.putObj l o') := by
  have ne : ∀ {b u} {v : Value}, Boxed W b u v → b ≠ l := fun hb e => by
    subst e
    rw [show W.heap[_]? = _ from hb] at ho
    cases ho
    cases hc
  refine h.kept hB (grownBy_putObj' W l o') (fun e => ?_) (fun x hx e => ?_) (fun r e => by cases e; exact hl) (fun r e cs fr he => by cases e; rw [ho] at he; cases he; cases hc)
  · obtain ⟨v, hv, _⟩ := h.v
    exact ne hv (by simpa using e)
  · exact ne (h.o x hx) (by simpa using e)
theorem not_row_lt {W : World} {b base size k : Nat} {e : TypeId} {v : Value} {xs : List Value} (hb : b < base) (hr : W.ownsRow base e size v k xs) : some b ≠ v.ownBlock := by
  rcases hr.2 with ⟨rfl, _⟩ | ⟨g, cap, cur, rfl, hg, _⟩
  · simp [Value.ownBlock]
  · intro e'
    simp [Value.ownBlock] at e'
    omega
/-- 'out = append(out, y)' in the body. -/
theorem CollB.append {w1 : World} {v v' : Value} {y : Value} {tmp : Obj} (h : CollB B w0 Br Bv t e others xs W) (hB : B ≤ Br) (hBv : Br ≤ Bv) (hte : t ≠ e) (hto : ∀ x ∈ others, (x.2.1 ≠ e ∨ x.1 < Br) ∧ x.1 ≠ Bv)
    (hv : Boxed W Bv t v) (hrow : W.ownsRow Br e 1 v xs.length xs) (hown' : w1.ownsRow Br e 1 v' (xs.length + 1) (xs ++ [y])) (hgrow : (W.alloc tmp).grownBy w1 v.ownBlock) (L : Nat) :
    Boxed w1 Bv t v ∧ KeepsFrom L W (w1.setCell ⟨Bv, 0, none⟩ v') ∧ CollB B w0 Br Bv t e others (xs ++ [y]) (w1.setCell ⟨Bv, 0, none⟩ v') := by
  obtain ⟨_, ho, hl⟩ := h
  have hlt := Boxed.lt' hv
  obtain ⟨h1, h2, h3, h4, h5⟩ := hv.appended hte hrow (by omega) hBv hown' hgrow
  have hne : ∀ x ∈ others, some x.1 ≠ v.ownBlock := fun x hx => by
    rcases (hto x hx).1 with h | h
    · exact (ho x hx).not_row h hrow
    · exact not_row_lt h hrow
  exact ⟨h1, h4.from L, ⟨v', h2, by simpa using h3⟩, fun x hx => (((ho x hx).alloc tmp).kept hgrow (hne x hx)).kept (grownBy_setCell' w1 Bv v') (by simpa using (hto x hx).2), hl.trans (h5.mono hB)⟩
end Go.Proofs.Ytdjonaajfhbfhaa.Rg
