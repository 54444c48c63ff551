/- A head's reader in memory: its own block, and its number's reader's. -/
import Derived.Test.YtmimfljiighbaaaTok
import Derived.Test.YtmimfljiighbaaaProg
set_option linter.unusedVariables false
namespace Go.Proofs.Ytmimfljiighbaaa.Q
open Go.RowKit Go.Proofs.YtmimfljiighbaaaW.PrintWords
/-- The pointer to the number's reader, if there is one. -/
def hdV (has : Bool) (gn : Nat) : Value := if has = true then .pointer (some ⟨gn, 0, none⟩) else .pointer none
@[go_sem] theorem run_store_hdV (P : Program) (w : World) (a : Addr) (m : Mode) (h : Bool) (g : Nat) : (store a (hdV h g) m).run P w = stored P w a (hdV h g) m := by
  cases h
  · exact run_store P w a _ m rfl
  · exact run_store P w a _ m rfl
def IsS77 (w0 W : World) (g : Nat) (f0 : Int) (f1 : Int) (f2 : Int) (f3 : Int) (f4 : Int) (f5 : Int) (f6 : Int) (f7 : Int) (f8 : Int) (f9 : Bool) (f10 : Int) (f11 : Int) (f12 : Int) (f13 : Bool) (f14 : Int) (f15 : Int) (f16 : Int) (f17 : Int) : Prop := ∃ gn : Nat, W.heap[g]? = some (.cells #[.int .i64 f0, .int .i64 f1, .int .i64 f2, .int .i64 f3, .int .i64 f4, .int .i64 f5, .int .i64 f6, .int .i64 f7, .int .i64 f8, hdV f9 gn, .int .i64 f16, .int .i64 f17] 77 (0, 0)) ∧ w0.heap.size ≤ g ∧ (f9 = true → IsS93 w0 W gn f10 f11 f12 f13 f14 f15)
theorem IsS77.below {w0 W : World} {g : Nat} {f0 : Int} {f1 : Int} {f2 : Int} {f3 : Int} {f4 : Int} {f5 : Int} {f6 : Int} {f7 : Int} {f8 : Int} {f9 : Bool} {f10 : Int} {f11 : Int} {f12 : Int} {f13 : Bool} {f14 : Int} {f15 : Int} {f16 : Int} {f17 : Int} {W1 : World} (h : IsS77 w0 W g f0 f1 f2 f3 f4 f5 f6 f7 f8 f9 f10 f11 f12 f13 f14 f15 f16 f17) (hw : Below W.heap.size W W1) : IsS77 w0 W1 g f0 f1 f2 f3 f4 f5 f6 f7 f8 f9 f10 f11 f12 f13 f14 f15 f16 f17 := by
  obtain ⟨gn, hb, hg, hn⟩ := h
  exact ⟨gn, blk_below hb hw, hg, fun h => (hn h).below hw⟩
theorem IsS77.alloc {w0 W : World} {g : Nat} {f0 : Int} {f1 : Int} {f2 : Int} {f3 : Int} {f4 : Int} {f5 : Int} {f6 : Int} {f7 : Int} {f8 : Int} {f9 : Bool} {f10 : Int} {f11 : Int} {f12 : Int} {f13 : Bool} {f14 : Int} {f15 : Int} {f16 : Int} {f17 : Int} (h : IsS77 w0 W g f0 f1 f2 f3 f4 f5 f6 f7 f8 f9 f10 f11 f12 f13 f14 f15 f16 f17) (o : Obj) : IsS77 w0 (W.alloc o) g f0 f1 f2 f3 f4 f5 f6 f7 f8 f9 f10 f11 f12 f13 f14 f15 f16 f17 := h.below (below_alloc (Below.refl _ _) o)
theorem IsS77.drewN {w0 W : World} {g : Nat} {f0 : Int} {f1 : Int} {f2 : Int} {f3 : Int} {f4 : Int} {f5 : Int} {f6 : Int} {f7 : Int} {f8 : Int} {f9 : Bool} {f10 : Int} {f11 : Int} {f12 : Int} {f13 : Bool} {f14 : Int} {f15 : Int} {f16 : Int} {f17 : Int} (h : IsS77 w0 W g f0 f1 f2 f3 f4 f5 f6 f7 f8 f9 f10 f11 f12 f13 f14 f15 f16 f17) (m : Nat) : IsS77 w0 (W.drewN m) g f0 f1 f2 f3 f4 f5 f6 f7 f8 f9 f10 f11 f12 f13 f14 f15 f16 f17 := h
theorem IsS77.drew {w0 W : World} {g : Nat} {f0 : Int} {f1 : Int} {f2 : Int} {f3 : Int} {f4 : Int} {f5 : Int} {f6 : Int} {f7 : Int} {f8 : Int} {f9 : Bool} {f10 : Int} {f11 : Int} {f12 : Int} {f13 : Bool} {f14 : Int} {f15 : Int} {f16 : Int} {f17 : Int} (h : IsS77 w0 W g f0 f1 f2 f3 f4 f5 f6 f7 f8 f9 f10 f11 f12 f13 f14 f15 f16 f17) : IsS77 w0 W.drew g f0 f1 f2 f3 f4 f5 f6 f7 f8 f9 f10 f11 f12 f13 f14 f15 f16 f17 := h
theorem IsS77.at_ {w0 W : World} {g : Nat} {f0 : Int} {f1 : Int} {f2 : Int} {f3 : Int} {f4 : Int} {f5 : Int} {f6 : Int} {f7 : Int} {f8 : Int} {f9 : Bool} {f10 : Int} {f11 : Int} {f12 : Int} {f13 : Bool} {f14 : Int} {f15 : Int} {f16 : Int} {f17 : Int} {w' : World} {m : Nat} (hq : W.drewN m = w') (h : IsS77 w0 W g f0 f1 f2 f3 f4 f5 f6 f7 f8 f9 f10 f11 f12 f13 f14 f15 f16 f17) : IsS77 w0 w' g f0 f1 f2 f3 f4 f5 f6 f7 f8 f9 f10 f11 f12 f13 f14 f15 f16 f17 := by subst hq; exact IsS77.drewN h m
theorem IsS77.lt {w0 W : World} {g : Nat} {f0 : Int} {f1 : Int} {f2 : Int} {f3 : Int} {f4 : Int} {f5 : Int} {f6 : Int} {f7 : Int} {f8 : Int} {f9 : Bool} {f10 : Int} {f11 : Int} {f12 : Int} {f13 : Bool} {f14 : Int} {f15 : Int} {f16 : Int} {f17 : Int} (h : IsS77 w0 W g f0 f1 f2 f3 f4 f5 f6 f7 f8 f9 f10 f11 f12 f13 f14 f15 f16 f17) : g < W.heap.size := by
  obtain ⟨gn, hb, hg, hn⟩ := h
  exact blk_lt hb
theorem IsS77.ge {w0 W : World} {g : Nat} {f0 : Int} {f1 : Int} {f2 : Int} {f3 : Int} {f4 : Int} {f5 : Int} {f6 : Int} {f7 : Int} {f8 : Int} {f9 : Bool} {f10 : Int} {f11 : Int} {f12 : Int} {f13 : Bool} {f14 : Int} {f15 : Int} {f16 : Int} {f17 : Int} (h : IsS77 w0 W g f0 f1 f2 f3 f4 f5 f6 f7 f8 f9 f10 f11 f12 f13 f14 f15 f16 f17) : w0.heap.size ≤ g := by
  obtain ⟨gn, hb, hg, hn⟩ := h
  exact hg
theorem IsS77.fresh {w0 W : World} {g : Nat} {f0 : Int} {f1 : Int} {f2 : Int} {f3 : Int} {f4 : Int} {f5 : Int} {f6 : Int} {f7 : Int} {f8 : Int} {f9 : Bool} {f10 : Int} {f11 : Int} {f12 : Int} {f13 : Bool} {f14 : Int} {f15 : Int} {f16 : Int} {f17 : Int} (h : IsS77 w0 W g f0 f1 f2 f3 f4 f5 f6 f7 f8 f9 f10 f11 f12 f13 f14 f15 f16 f17) : ∀ k, W.heap.size ≤ k → k ≠ g := by
  obtain ⟨gn, hb, hg, hn⟩ := h
  exact Kd.freshB hb
theorem IsS77.ne_blk {w0 W : World} {g : Nat} {f0 : Int} {f1 : Int} {f2 : Int} {f3 : Int} {f4 : Int} {f5 : Int} {f6 : Int} {f7 : Int} {f8 : Int} {f9 : Bool} {f10 : Int} {f11 : Int} {f12 : Int} {f13 : Bool} {f14 : Int} {f15 : Int} {f16 : Int} {f17 : Int} {a : Nat} {cs : Array Value} {t : TypeId} {fr : Nat × Nat} (h : IsS77 w0 W g f0 f1 f2 f3 f4 f5 f6 f7 f8 f9 f10 f11 f12 f13 f14 f15 f16 f17) (hb2 : W.heap[a]? = some (.cells cs t fr)) (ht : t ≠ 77) : g ≠ a := by
  obtain ⟨gn, hb, hg, hn⟩ := h
  rintro rfl
  rw [hb] at hb2
  injection hb2 with hb2
  injection hb2 with _ ht2
  exact ht ht2.symm
theorem IsS77.far {w0 W : World} {g : Nat} {f0 : Int} {f1 : Int} {f2 : Int} {f3 : Int} {f4 : Int} {f5 : Int} {f6 : Int} {f7 : Int} {f8 : Int} {f9 : Bool} {f10 : Int} {f11 : Int} {f12 : Int} {f13 : Bool} {f14 : Int} {f15 : Int} {f16 : Int} {f17 : Int} {p : Addr} {cs : Array Value} {t : TypeId} (h : IsS77 w0 W g f0 f1 f2 f3 f4 f5 f6 f7 f8 f9 f10 f11 f12 f13 f14 f15 f16 f17) (hb2 : W.heap[p.block]? = some (.cells cs t (0, 0))) (ht : t ≠ 77 ∧ t ≠ 93 := by decide) (u : Value) : IsS77 w0 (W.setCell p u) g f0 f1 f2 f3 f4 f5 f6 f7 f8 f9 f10 f11 f12 f13 f14 f15 f16 f17 := by
  have hgp : g ≠ p.block := IsS77.ne_blk h hb2 ht.1
  obtain ⟨gn, hb, hg, hn⟩ := h
  exact ⟨gn, blk_far hb hgp u, hg, fun h => (hn h).far (IsS93.ne_blk (hn h) hb2 ht.2) u⟩
/-- A block of a type. -/
def isTy (W : World) (b : Nat) (t : TypeId) : Prop := ∃ cs, W.heap[b]? = some (.cells cs t (0, 0))
theorem isTy_set {W : World} {b : Nat} {t : TypeId} (h : isTy W b t) (a j : Nat) (u : Value) : isTy (W.setCell ⟨a, j, none⟩ u) b t := by
  obtain ⟨cs, h⟩ := h
  by_cases e : b = a
  · subst e
    exact ⟨_, blk_set h j u⟩
  · exact ⟨_, blk_far (p := ⟨a, j, none⟩) h e u⟩
theorem isTy_drewN {W : World} {b : Nat} {t : TypeId} (h : isTy W b t) (m : Nat) : isTy (W.drewN m) b t := h
theorem isTy_drew {W : World} {b : Nat} {t : TypeId} (h : isTy W b t) : isTy W.drew b t := h
theorem isTy_alloc {W : World} {b : Nat} {t : TypeId} (h : isTy W b t) (o : Obj) : isTy (W.alloc o) b t := by
  obtain ⟨cs, h⟩ := h
  exact ⟨cs, blk_alloc h o⟩
@[go_sem] theorem run_field_format0 (w : World) (a b : Value) : (Instr.field 52 (.agg #[a, b]) 0).run Try.prog w = .ok a w := by kernel_rfl
@[go_sem] theorem run_field_format1 (w : World) (a b : Value) : (Instr.field 52 (.agg #[a, b]) 1).run Try.prog w = .ok b w := by kernel_rfl
/-- What a head's reader leaves alone: whatever is of another type. -/
def HdKeep (w w' : World) : Prop := w.heap.size ≤ w'.heap.size ∧ ∀ (i : Nat) (cs : Array Value) (t : TypeId), t ≠ 77 → t ≠ 93 → w.heap[i]? = some (.cells cs t (0, 0)) → w'.heap[i]? = some (.cells cs t (0, 0))
theorem HdKeep.blk {w w1 : World} {g g' : Nat} {o : Obj} (h : HdKeep w w1) (hb : w.heap[g']? = some o) (hg : g' ≠ g) (hr : True) (ho : ∃ cs t, o = .cells cs t (0, 0) ∧ t ≠ 77 ∧ t ≠ 93 := by exact ⟨_, _, rfl, by decide, by decide⟩) : w1.heap[g']? = some o := by
  obtain ⟨cs, t, rfl, h1, h2⟩ := ho
  exact h.2 _ _ _ h1 h2 hb
theorem HdKeep.refl (w : World) : HdKeep w w := ⟨Nat.le_refl _, fun _ _ _ _ _ h => h⟩
theorem HdKeep.trans {w w1 w2 : World} (h : HdKeep w w1) (k : HdKeep w1 w2) : HdKeep w w2 := ⟨Nat.le_trans h.1 k.1, fun i cs t h1 h2 hb => k.2 i cs t h1 h2 (h.2 i cs t h1 h2 hb)⟩
theorem HdKeep.below {w w1 : World} (h : Below w.heap.size w w1) : HdKeep w w1 := ⟨h.size, fun i cs t _ _ hb => blk_below hb h⟩
theorem HdKeep.keep {w w1 : World} {g : Nat} {cs : Array Value} {t : TypeId} (h : KeepBut w w1 g none) (hb : w.heap[g]? = some (.cells cs t (0, 0))) (ht : t = 77 ∨ t = 93) : HdKeep w w1 := ⟨h.1, fun i cs2 t2 h1 h2 hb2 => h.blk hb2 (by
  rintro rfl
  rw [hb] at hb2
  injection hb2 with hb2
  injection hb2 with _ e
  rcases ht with h | h
  · exact h1 (e.symm.trans h)
  · exact h2 (e.symm.trans h)) (by simp)⟩
theorem HdKeep.set_ {w w1 : World} {g : Nat} {cs : Array Value} {t : TypeId} (h : HdKeep w w1) (hb : w1.heap[g]? = some (.cells cs t (0, 0))) (ht : t = 77 ∨ t = 93) (j : Nat) (u : Value) : HdKeep w (w1.setCell ⟨g, j, none⟩ u) := h.trans (HdKeep.keep (KeepBut.set_ (KeepBut.refl _ _ _) j u) hb ht)
theorem IsS77.set_0 {w0 W : World} {g : Nat} {f0 : Int} {f1 : Int} {f2 : Int} {f3 : Int} {f4 : Int} {f5 : Int} {f6 : Int} {f7 : Int} {f8 : Int} {f9 : Bool} {f10 : Int} {f11 : Int} {f12 : Int} {f13 : Bool} {f14 : Int} {f15 : Int} {f16 : Int} {f17 : Int} (h : IsS77 w0 W g f0 f1 f2 f3 f4 f5 f6 f7 f8 f9 f10 f11 f12 f13 f14 f15 f16 f17) (x : Int) : IsS77 w0 (W.setCell ⟨g, 0, none⟩ (.int .i64 x)) g x f1 f2 f3 f4 f5 f6 f7 f8 f9 f10 f11 f12 f13 f14 f15 f16 f17 := by
  obtain ⟨gn, hb, hg, hn⟩ := h
  exact ⟨gn, blk_set hb 0 (.int .i64 x), hg, fun h => (hn h).far (IsS93.ne_blk (hn h) hb (by decide)) _⟩
theorem IsS77.set_1 {w0 W : World} {g : Nat} {f0 : Int} {f1 : Int} {f2 : Int} {f3 : Int} {f4 : Int} {f5 : Int} {f6 : Int} {f7 : Int} {f8 : Int} {f9 : Bool} {f10 : Int} {f11 : Int} {f12 : Int} {f13 : Bool} {f14 : Int} {f15 : Int} {f16 : Int} {f17 : Int} (h : IsS77 w0 W g f0 f1 f2 f3 f4 f5 f6 f7 f8 f9 f10 f11 f12 f13 f14 f15 f16 f17) (x : Int) : IsS77 w0 (W.setCell ⟨g, 1, none⟩ (.int .i64 x)) g f0 x f2 f3 f4 f5 f6 f7 f8 f9 f10 f11 f12 f13 f14 f15 f16 f17 := by
  obtain ⟨gn, hb, hg, hn⟩ := h
  exact ⟨gn, blk_set hb 1 (.int .i64 x), hg, fun h => (hn h).far (IsS93.ne_blk (hn h) hb (by decide)) _⟩
theorem IsS77.set_2 {w0 W : World} {g : Nat} {f0 : Int} {f1 : Int} {f2 : Int} {f3 : Int} {f4 : Int} {f5 : Int} {f6 : Int} {f7 : Int} {f8 : Int} {f9 : Bool} {f10 : Int} {f11 : Int} {f12 : Int} {f13 : Bool} {f14 : Int} {f15 : Int} {f16 : Int} {f17 : Int} (h : IsS77 w0 W g f0 f1 f2 f3 f4 f5 f6 f7 f8 f9 f10 f11 f12 f13 f14 f15 f16 f17) (x : Int) : IsS77 w0 (W.setCell ⟨g, 2, none⟩ (.int .i64 x)) g f0 f1 x f3 f4 f5 f6 f7 f8 f9 f10 f11 f12 f13 f14 f15 f16 f17 := by
  obtain ⟨gn, hb, hg, hn⟩ := h
  exact ⟨gn, blk_set hb 2 (.int .i64 x), hg, fun h => (hn h).far (IsS93.ne_blk (hn h) hb (by decide)) _⟩
theorem IsS77.set_3 {w0 W : World} {g : Nat} {f0 : Int} {f1 : Int} {f2 : Int} {f3 : Int} {f4 : Int} {f5 : Int} {f6 : Int} {f7 : Int} {f8 : Int} {f9 : Bool} {f10 : Int} {f11 : Int} {f12 : Int} {f13 : Bool} {f14 : Int} {f15 : Int} {f16 : Int} {f17 : Int} (h : IsS77 w0 W g f0 f1 f2 f3 f4 f5 f6 f7 f8 f9 f10 f11 f12 f13 f14 f15 f16 f17) (x : Int) : IsS77 w0 (W.setCell ⟨g, 3, none⟩ (.int .i64 x)) g f0 f1 f2 x f4 f5 f6 f7 f8 f9 f10 f11 f12 f13 f14 f15 f16 f17 := by
  obtain ⟨gn, hb, hg, hn⟩ := h
  exact ⟨gn, blk_set hb 3 (.int .i64 x), hg, fun h => (hn h).far (IsS93.ne_blk (hn h) hb (by decide)) _⟩
theorem IsS77.set_4 {w0 W : World} {g : Nat} {f0 : Int} {f1 : Int} {f2 : Int} {f3 : Int} {f4 : Int} {f5 : Int} {f6 : Int} {f7 : Int} {f8 : Int} {f9 : Bool} {f10 : Int} {f11 : Int} {f12 : Int} {f13 : Bool} {f14 : Int} {f15 : Int} {f16 : Int} {f17 : Int} (h : IsS77 w0 W g f0 f1 f2 f3 f4 f5 f6 f7 f8 f9 f10 f11 f12 f13 f14 f15 f16 f17) (x : Int) : IsS77 w0 (W.setCell ⟨g, 4, none⟩ (.int .i64 x)) g f0 f1 f2 f3 x f5 f6 f7 f8 f9 f10 f11 f12 f13 f14 f15 f16 f17 := by
  obtain ⟨gn, hb, hg, hn⟩ := h
  exact ⟨gn, blk_set hb 4 (.int .i64 x), hg, fun h => (hn h).far (IsS93.ne_blk (hn h) hb (by decide)) _⟩
theorem IsS77.set_5 {w0 W : World} {g : Nat} {f0 : Int} {f1 : Int} {f2 : Int} {f3 : Int} {f4 : Int} {f5 : Int} {f6 : Int} {f7 : Int} {f8 : Int} {f9 : Bool} {f10 : Int} {f11 : Int} {f12 : Int} {f13 : Bool} {f14 : Int} {f15 : Int} {f16 : Int} {f17 : Int} (h : IsS77 w0 W g f0 f1 f2 f3 f4 f5 f6 f7 f8 f9 f10 f11 f12 f13 f14 f15 f16 f17) (x : Int) : IsS77 w0 (W.setCell ⟨g, 5, none⟩ (.int .i64 x)) g f0 f1 f2 f3 f4 x f6 f7 f8 f9 f10 f11 f12 f13 f14 f15 f16 f17 := by
  obtain ⟨gn, hb, hg, hn⟩ := h
  exact ⟨gn, blk_set hb 5 (.int .i64 x), hg, fun h => (hn h).far (IsS93.ne_blk (hn h) hb (by decide)) _⟩
theorem IsS77.set_6 {w0 W : World} {g : Nat} {f0 : Int} {f1 : Int} {f2 : Int} {f3 : Int} {f4 : Int} {f5 : Int} {f6 : Int} {f7 : Int} {f8 : Int} {f9 : Bool} {f10 : Int} {f11 : Int} {f12 : Int} {f13 : Bool} {f14 : Int} {f15 : Int} {f16 : Int} {f17 : Int} (h : IsS77 w0 W g f0 f1 f2 f3 f4 f5 f6 f7 f8 f9 f10 f11 f12 f13 f14 f15 f16 f17) (x : Int) : IsS77 w0 (W.setCell ⟨g, 6, none⟩ (.int .i64 x)) g f0 f1 f2 f3 f4 f5 x f7 f8 f9 f10 f11 f12 f13 f14 f15 f16 f17 := by
  obtain ⟨gn, hb, hg, hn⟩ := h
  exact ⟨gn, blk_set hb 6 (.int .i64 x), hg, fun h => (hn h).far (IsS93.ne_blk (hn h) hb (by decide)) _⟩
theorem IsS77.set_7 {w0 W : World} {g : Nat} {f0 : Int} {f1 : Int} {f2 : Int} {f3 : Int} {f4 : Int} {f5 : Int} {f6 : Int} {f7 : Int} {f8 : Int} {f9 : Bool} {f10 : Int} {f11 : Int} {f12 : Int} {f13 : Bool} {f14 : Int} {f15 : Int} {f16 : Int} {f17 : Int} (h : IsS77 w0 W g f0 f1 f2 f3 f4 f5 f6 f7 f8 f9 f10 f11 f12 f13 f14 f15 f16 f17) (x : Int) : IsS77 w0 (W.setCell ⟨g, 7, none⟩ (.int .i64 x)) g f0 f1 f2 f3 f4 f5 f6 x f8 f9 f10 f11 f12 f13 f14 f15 f16 f17 := by
  obtain ⟨gn, hb, hg, hn⟩ := h
  exact ⟨gn, blk_set hb 7 (.int .i64 x), hg, fun h => (hn h).far (IsS93.ne_blk (hn h) hb (by decide)) _⟩
theorem IsS77.set_8 {w0 W : World} {g : Nat} {f0 : Int} {f1 : Int} {f2 : Int} {f3 : Int} {f4 : Int} {f5 : Int} {f6 : Int} {f7 : Int} {f8 : Int} {f9 : Bool} {f10 : Int} {f11 : Int} {f12 : Int} {f13 : Bool} {f14 : Int} {f15 : Int} {f16 : Int} {f17 : Int} (h : IsS77 w0 W g f0 f1 f2 f3 f4 f5 f6 f7 f8 f9 f10 f11 f12 f13 f14 f15 f16 f17) (x : Int) : IsS77 w0 (W.setCell ⟨g, 8, none⟩ (.int .i64 x)) g f0 f1 f2 f3 f4 f5 f6 f7 x f9 f10 f11 f12 f13 f14 f15 f16 f17 := by
  obtain ⟨gn, hb, hg, hn⟩ := h
  exact ⟨gn, blk_set hb 8 (.int .i64 x), hg, fun h => (hn h).far (IsS93.ne_blk (hn h) hb (by decide)) _⟩
theorem IsS77.set_16 {w0 W : World} {g : Nat} {f0 : Int} {f1 : Int} {f2 : Int} {f3 : Int} {f4 : Int} {f5 : Int} {f6 : Int} {f7 : Int} {f8 : Int} {f9 : Bool} {f10 : Int} {f11 : Int} {f12 : Int} {f13 : Bool} {f14 : Int} {f15 : Int} {f16 : Int} {f17 : Int} (h : IsS77 w0 W g f0 f1 f2 f3 f4 f5 f6 f7 f8 f9 f10 f11 f12 f13 f14 f15 f16 f17) (x : Int) : IsS77 w0 (W.setCell ⟨g, 10, none⟩ (.int .i64 x)) g f0 f1 f2 f3 f4 f5 f6 f7 f8 f9 f10 f11 f12 f13 f14 f15 x f17 := by
  obtain ⟨gn, hb, hg, hn⟩ := h
  exact ⟨gn, blk_set hb 10 (.int .i64 x), hg, fun h => (hn h).far (IsS93.ne_blk (hn h) hb (by decide)) _⟩
theorem IsS77.set_17 {w0 W : World} {g : Nat} {f0 : Int} {f1 : Int} {f2 : Int} {f3 : Int} {f4 : Int} {f5 : Int} {f6 : Int} {f7 : Int} {f8 : Int} {f9 : Bool} {f10 : Int} {f11 : Int} {f12 : Int} {f13 : Bool} {f14 : Int} {f15 : Int} {f16 : Int} {f17 : Int} (h : IsS77 w0 W g f0 f1 f2 f3 f4 f5 f6 f7 f8 f9 f10 f11 f12 f13 f14 f15 f16 f17) (x : Int) : IsS77 w0 (W.setCell ⟨g, 11, none⟩ (.int .i64 x)) g f0 f1 f2 f3 f4 f5 f6 f7 f8 f9 f10 f11 f12 f13 f14 f15 f16 x := by
  obtain ⟨gn, hb, hg, hn⟩ := h
  exact ⟨gn, blk_set hb 11 (.int .i64 x), hg, fun h => (hn h).far (IsS93.ne_blk (hn h) hb (by decide)) _⟩
theorem IsS77.set_n {w0 W : World} {g : Nat} {f0 : Int} {f1 : Int} {f2 : Int} {f3 : Int} {f4 : Int} {f5 : Int} {f6 : Int} {f7 : Int} {f8 : Int} {f9 : Bool} {f10 : Int} {f11 : Int} {f12 : Int} {f13 : Bool} {f14 : Int} {f15 : Int} {f16 : Int} {f17 : Int} (h : IsS77 w0 W g f0 f1 f2 f3 f4 f5 f6 f7 f8 f9 f10 f11 f12 f13 f14 f15 f16 f17) {gn : Nat} {m x n : Int} {b : Bool} {l e : Int} (hn : IsS93 w0 W gn m x n b l e) : IsS77 w0 (W.setCell ⟨g, 9, none⟩ (.pointer (some ⟨gn, 0, none⟩))) g f0 f1 f2 f3 f4 f5 f6 f7 f8 true m x n b l e f16 f17 := by
  obtain ⟨go, hb, hg, _⟩ := h
  exact ⟨gn, blk_set hb 9 (.pointer (some ⟨gn, 0, none⟩)), hg, fun _ => hn.far (IsS93.ne_blk hn hb (by decide)) _⟩
theorem IsS77.far2 {w0 W : World} {g : Nat} {f0 : Int} {f1 : Int} {f2 : Int} {f3 : Int} {f4 : Int} {f5 : Int} {f6 : Int} {f7 : Int} {f8 : Int} {f9 : Bool} {f10 : Int} {f11 : Int} {f12 : Int} {f13 : Bool} {f14 : Int} {f15 : Int} {f16 : Int} {f17 : Int} {t : TypeId} {a j : Nat} {u : Value} (h : IsS77 w0 W g f0 f1 f2 f3 f4 f5 f6 f7 f8 f9 f10 f11 f12 f13 f14 f15 f16 f17) (hb : isTy W a t) (ht : t ≠ 77 ∧ t ≠ 93) : IsS77 w0 (W.setCell ⟨a, j, none⟩ u) g f0 f1 f2 f3 f4 f5 f6 f7 f8 f9 f10 f11 f12 f13 f14 f15 f16 f17 := by
  obtain ⟨cs, hb⟩ := hb
  exact h.far (p := ⟨a, j, none⟩) hb ht u
theorem HdKeep.setS {w0 W : World} {g : Nat} {f0 : Int} {f1 : Int} {f2 : Int} {f3 : Int} {f4 : Int} {f5 : Int} {f6 : Int} {f7 : Int} {f8 : Int} {f9 : Bool} {f10 : Int} {f11 : Int} {f12 : Int} {f13 : Bool} {f14 : Int} {f15 : Int} {f16 : Int} {f17 : Int} {w : World} (k : HdKeep w W) (h : IsS77 w0 W g f0 f1 f2 f3 f4 f5 f6 f7 f8 f9 f10 f11 f12 f13 f14 f15 f16 f17) (j : Nat) (u : Value) : HdKeep w (W.setCell ⟨g, j, none⟩ u) := by
  obtain ⟨gn, hb, hg, hn⟩ := h
  exact k.set_ hb (.inl rfl) j u
end Go.Proofs.Ytmimfljiighbaaa.Q
