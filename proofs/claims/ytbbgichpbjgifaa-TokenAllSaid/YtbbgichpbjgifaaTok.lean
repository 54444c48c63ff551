/- A number's reader in memory: its mode stands for the method value that it holds. -/
import Derived.Test.YtbbgichpbjgifaaWMore
import Derived.Test.YtbbgichpbjgifaaWFoot
import Derived.Test.YtbbgichpbjgifaaWNEv
import Derived.Test.YtbbgichpbjgifaaWShare
import Derived.Laws.Pointers
import Derived.Laws.EntriesVeiled
set_option linter.unusedVariables false
namespace Go.Proofs.Ytbbgichpbjgifaa.Q
open Go.RowKit Go.Proofs.YtbbgichpbjgifaaW.PrintWords
/-- The method of a mode: ahead, in a remark ahead, behind a digit, in a remark behind. -/
def modeF (m : Int) : Nat := if m = 0 then 28 else if m = 1 then 35 else if m = 2 then 43 else 45
def modeV (g : Nat) (m : Int) : Value := .func (.func (modeF m)) #[.pointer (some ⟨g, 0, none⟩)] #[]
@[go_sem] theorem run_store_modeV (P : Program) (w : World) (a : Addr) (m : Mode) (g : Nat) (x : Int) : (store a (modeV g x) m).run P w = stored P w a (modeV g x) m := run_store P w a _ m rfl
/-- A state of type 52 at block g of W; what its slices lead to came in by w0. -/
def IsS52 (w0 W : World) (g : Nat) (f0 : Int) (f1 : Int) (f2 : Int) (f3 : Bool) (f4 : Int) (f5 : Int) : Prop := W.heap[g]? = some (.cells #[modeV g f0, .int .i64 f1, .int .i64 f2, .bool f3, .int .i64 f4, .int .i64 f5] 52 (0, 0)) ∧ w0.heap.size ≤ g
theorem IsS52.grown {w0 W : World} {g : Nat} {f0 : Int} {f1 : Int} {f2 : Int} {f3 : Bool} {f4 : Int} {f5 : Int} {W1 : World} {row : Option Nat} (h : IsS52 w0 W g f0 f1 f2 f3 f4 f5) (hw : W.grownBy W1 row) (hne : some g ≠ row) : IsS52 w0 W1 g f0 f1 f2 f3 f4 f5 := by
  obtain ⟨hb, hg⟩ := h
  exact ⟨blk_grown hb hw hne, hg⟩
theorem IsS52.own_neN {w0 W : World} {g : Nat} {f0 : Int} {f1 : Int} {f2 : Int} {f3 : Bool} {f4 : Int} {f5 : Int} {α : Type} {d : Kd α} {e : Nat} {base : Nat} {ok : Nat → Prop} {v : Value} {xs : List α} (h : IsS52 w0 W g f0 f1 f2 f3 f4 f5) (ho : Kd.N d e W base ok v xs) (ht : e ≠ 52) : some g ≠ v.ownBlock := by
  obtain ⟨hb, hg⟩ := h
  exact Kd.N_ne ho hb ht
theorem IsS52.fresh {w0 W : World} {g : Nat} {f0 : Int} {f1 : Int} {f2 : Int} {f3 : Bool} {f4 : Int} {f5 : Int} (h : IsS52 w0 W g f0 f1 f2 f3 f4 f5) : ∀ k, W.heap.size ≤ k → k ≠ g := by
  obtain ⟨hb, hg⟩ := h
  exact Kd.freshB hb
theorem IsS52.kept {w0 W : World} {g : Nat} {f0 : Int} {f1 : Int} {f2 : Int} {f3 : Bool} {f4 : Int} {f5 : Int} {W1 : World} {S : Nat → Prop} (h : IsS52 w0 W g f0 f1 f2 f3 f4 f5) (hk : Kept W W1 S) (hne : ¬ S g) : IsS52 w0 W1 g f0 f1 f2 f3 f4 f5 := by
  obtain ⟨hb, hg⟩ := h
  exact ⟨blk_kept hb hk hne, hg⟩
theorem IsS52.below {w0 W : World} {g : Nat} {f0 : Int} {f1 : Int} {f2 : Int} {f3 : Bool} {f4 : Int} {f5 : Int} {W1 : World} (h : IsS52 w0 W g f0 f1 f2 f3 f4 f5) (hw : Below W.heap.size W W1) : IsS52 w0 W1 g f0 f1 f2 f3 f4 f5 := h.grown (grown_of_below hw none) (by simp)
theorem IsS52.alloc {w0 W : World} {g : Nat} {f0 : Int} {f1 : Int} {f2 : Int} {f3 : Bool} {f4 : Int} {f5 : Int} (h : IsS52 w0 W g f0 f1 f2 f3 f4 f5) (o : Obj) : IsS52 w0 (W.alloc o) g f0 f1 f2 f3 f4 f5 := h.below (below_alloc (Below.refl _ _) o)
theorem IsS52.drewN {w0 W : World} {g : Nat} {f0 : Int} {f1 : Int} {f2 : Int} {f3 : Bool} {f4 : Int} {f5 : Int} (h : IsS52 w0 W g f0 f1 f2 f3 f4 f5) (m : Nat) : IsS52 w0 (W.drewN m) g f0 f1 f2 f3 f4 f5 := h
theorem IsS52.drew {w0 W : World} {g : Nat} {f0 : Int} {f1 : Int} {f2 : Int} {f3 : Bool} {f4 : Int} {f5 : Int} (h : IsS52 w0 W g f0 f1 f2 f3 f4 f5) : IsS52 w0 W.drew g f0 f1 f2 f3 f4 f5 := h
theorem IsS52.at_ {w0 W : World} {g : Nat} {f0 : Int} {f1 : Int} {f2 : Int} {f3 : Bool} {f4 : Int} {f5 : Int} {w' : World} {m : Nat} (hq : W.drewN m = w') (h : IsS52 w0 W g f0 f1 f2 f3 f4 f5) : IsS52 w0 w' g f0 f1 f2 f3 f4 f5 := by subst hq; exact IsS52.drewN h m
theorem IsS52.apart {w0 W : World} {g : Nat} {f0 : Int} {f1 : Int} {f2 : Int} {f3 : Bool} {f4 : Int} {f5 : Int} {α : Type} {d : Kd α} {e : Nat} {base : Nat} {ok : Nat → Prop} {v : Value} {xs : List α} (h : IsS52 w0 W g f0 f1 f2 f3 f4 f5) (ho : d.R e W base ok v xs) (ht : ∀ q, q ∈ e :: d.E → q ≠ 52) : d.R e W base (fun k => ok k ∧ k ≠ g) v xs := by
  obtain ⟨hb, hg⟩ := h
  exact Kd.R_types ho hb ht
theorem IsS52.own_ne {w0 W : World} {g : Nat} {f0 : Int} {f1 : Int} {f2 : Int} {f3 : Bool} {f4 : Int} {f5 : Int} {α : Type} {d : Kd α} {e : Nat} {base : Nat} {ok : Nat → Prop} {v : Value} {xs : List α} (h : IsS52 w0 W g f0 f1 f2 f3 f4 f5) (ho : d.R e W base ok v xs) (ht : e ≠ 52) : some g ≠ v.ownBlock := by
  obtain ⟨hb, hg⟩ := h
  exact Kd.R_ne ho hb ht
theorem IsS52.apartQ {w0 W : World} {g : Nat} {f0 : Int} {f1 : Int} {f2 : Int} {f3 : Bool} {f4 : Int} {f5 : Int} {α : Type} {d : Kd α} {e : Nat} {base : Nat} {ok : Nat → Prop} {v : Value} {xs : List α} (h : IsS52 w0 W g f0 f1 f2 f3 f4 f5) (ho : d.Q e W base ok v xs) (ht : ∀ q, q ∈ e :: d.E → q ≠ 52) : d.Q e W base (fun k => ok k ∧ k ≠ g) v xs := by
  obtain ⟨hb, hg⟩ := h
  exact Kd.Q_types ho hb ht
theorem IsS52.own_neQ {w0 W : World} {g : Nat} {f0 : Int} {f1 : Int} {f2 : Int} {f3 : Bool} {f4 : Int} {f5 : Int} {α : Type} {d : Kd α} {e : Nat} {base : Nat} {ok : Nat → Prop} {v : Value} {xs : List α} (h : IsS52 w0 W g f0 f1 f2 f3 f4 f5) (ho : d.Q e W base ok v xs) (ht : e ≠ 52) : some g ≠ v.ownBlock := by
  obtain ⟨hb, hg⟩ := h
  exact Kd.Q_ne ho hb ht
theorem IsS52.apartS {w0 W : World} {g : Nat} {f0 : Int} {f1 : Int} {f2 : Int} {f3 : Bool} {f4 : Int} {f5 : Int} {α : Type} {d : Kd α} {e : Nat} {base : Nat} {ok : Nat → Prop} {v : Value} {xs : List α} (h : IsS52 w0 W g f0 f1 f2 f3 f4 f5) (ho : d.S e W base ok v xs) (ht : ∀ q, q ∈ e :: d.E → q ≠ 52) : d.S e W base (fun k => ok k ∧ k ≠ g) v xs := by
  obtain ⟨hb, hg⟩ := h
  exact Kd.S_types ho hb ht
theorem IsS52.own_neS {w0 W : World} {g : Nat} {f0 : Int} {f1 : Int} {f2 : Int} {f3 : Bool} {f4 : Int} {f5 : Int} {α : Type} {d : Kd α} {e : Nat} {base : Nat} {ok : Nat → Prop} {v : Value} {xs : List α} (h : IsS52 w0 W g f0 f1 f2 f3 f4 f5) (ho : d.S e W base ok v xs) (ht : e ≠ 52) : some g ≠ v.ownBlock := by
  obtain ⟨hb, hg⟩ := h
  exact Kd.S_ne ho hb ht
theorem IsS52.lt {w0 W : World} {g : Nat} {f0 : Int} {f1 : Int} {f2 : Int} {f3 : Bool} {f4 : Int} {f5 : Int} (h : IsS52 w0 W g f0 f1 f2 f3 f4 f5) : g < W.heap.size := by
  obtain ⟨hb, hg⟩ := h
  exact blk_lt hb
theorem IsS52.ge {w0 W : World} {g : Nat} {f0 : Int} {f1 : Int} {f2 : Int} {f3 : Bool} {f4 : Int} {f5 : Int} (h : IsS52 w0 W g f0 f1 f2 f3 f4 f5) : w0.heap.size ≤ g := by
  obtain ⟨hb, hg⟩ := h
  exact hg
theorem IsS52.ne_blk {w0 W : World} {g : Nat} {f0 : Int} {f1 : Int} {f2 : Int} {f3 : Bool} {f4 : Int} {f5 : Int} {a : Nat} {cs : Array Value} {t : TypeId} {fr : Nat × Nat} (h : IsS52 w0 W g f0 f1 f2 f3 f4 f5) (hb2 : W.heap[a]? = some (.cells cs t fr)) (ht : t ≠ 52) : g ≠ a := by
  obtain ⟨hb, hg⟩ := h
  rintro rfl
  rw [hb] at hb2
  injection hb2 with hb2
  injection hb2 with _ ht2
  exact ht ht2.symm
theorem IsS52.far {w0 W : World} {g : Nat} {f0 : Int} {f1 : Int} {f2 : Int} {f3 : Bool} {f4 : Int} {f5 : Int} {p : Addr} (h : IsS52 w0 W g f0 f1 f2 f3 f4 f5) (hne : g ≠ p.block) (u : Value) : IsS52 w0 (W.setCell p u) g f0 f1 f2 f3 f4 f5 := by
  obtain ⟨hb, hg⟩ := h
  exact ⟨blk_far hb hne u, hg⟩
theorem cellS52_0 {W : World} {g : Nat} {f0 : Int} {f1 : Int} {f2 : Int} {f3 : Bool} {f4 : Int} {f5 : Int} (h : W.heap[g]? = some (.cells #[modeV g f0, .int .i64 f1, .int .i64 f2, .bool f3, .int .i64 f4, .int .i64 f5] 52 (0, 0))) : W.cell? ⟨g, 0, none⟩ = some (modeV g f0) := (blk_cell h 0).trans rfl
theorem IsS52.set_0 {w0 W : World} {g : Nat} {f0 : Int} {f1 : Int} {f2 : Int} {f3 : Bool} {f4 : Int} {f5 : Int} (h : IsS52 w0 W g f0 f1 f2 f3 f4 f5) (x : Int) : IsS52 w0 (W.setCell ⟨g, 0, none⟩ (modeV g x)) g x f1 f2 f3 f4 f5 := by
  obtain ⟨hb, hg⟩ := h
  exact ⟨by simpa using blk_set hb 0 (modeV g x), hg⟩
theorem cellS52_1 {W : World} {g : Nat} {f0 : Int} {f1 : Int} {f2 : Int} {f3 : Bool} {f4 : Int} {f5 : Int} (h : W.heap[g]? = some (.cells #[modeV g f0, .int .i64 f1, .int .i64 f2, .bool f3, .int .i64 f4, .int .i64 f5] 52 (0, 0))) : W.cell? ⟨g, 1, none⟩ = some (.int .i64 f1) := (blk_cell h 1).trans rfl
theorem IsS52.set_1 {w0 W : World} {g : Nat} {f0 : Int} {f1 : Int} {f2 : Int} {f3 : Bool} {f4 : Int} {f5 : Int} (h : IsS52 w0 W g f0 f1 f2 f3 f4 f5) (x : Int) : IsS52 w0 (W.setCell ⟨g, 1, none⟩ (.int .i64 x)) g f0 x f2 f3 f4 f5 := by
  obtain ⟨hb, hg⟩ := h
  exact ⟨by simpa using blk_set hb 1 (.int .i64 x), hg⟩
theorem cellS52_2 {W : World} {g : Nat} {f0 : Int} {f1 : Int} {f2 : Int} {f3 : Bool} {f4 : Int} {f5 : Int} (h : W.heap[g]? = some (.cells #[modeV g f0, .int .i64 f1, .int .i64 f2, .bool f3, .int .i64 f4, .int .i64 f5] 52 (0, 0))) : W.cell? ⟨g, 2, none⟩ = some (.int .i64 f2) := (blk_cell h 2).trans rfl
theorem IsS52.set_2 {w0 W : World} {g : Nat} {f0 : Int} {f1 : Int} {f2 : Int} {f3 : Bool} {f4 : Int} {f5 : Int} (h : IsS52 w0 W g f0 f1 f2 f3 f4 f5) (x : Int) : IsS52 w0 (W.setCell ⟨g, 2, none⟩ (.int .i64 x)) g f0 f1 x f3 f4 f5 := by
  obtain ⟨hb, hg⟩ := h
  exact ⟨by simpa using blk_set hb 2 (.int .i64 x), hg⟩
theorem cellS52_3 {W : World} {g : Nat} {f0 : Int} {f1 : Int} {f2 : Int} {f3 : Bool} {f4 : Int} {f5 : Int} (h : W.heap[g]? = some (.cells #[modeV g f0, .int .i64 f1, .int .i64 f2, .bool f3, .int .i64 f4, .int .i64 f5] 52 (0, 0))) : W.cell? ⟨g, 3, none⟩ = some (.bool f3) := (blk_cell h 3).trans rfl
theorem IsS52.set_3 {w0 W : World} {g : Nat} {f0 : Int} {f1 : Int} {f2 : Int} {f3 : Bool} {f4 : Int} {f5 : Int} (h : IsS52 w0 W g f0 f1 f2 f3 f4 f5) (x : Bool) : IsS52 w0 (W.setCell ⟨g, 3, none⟩ (.bool x)) g f0 f1 f2 x f4 f5 := by
  obtain ⟨hb, hg⟩ := h
  exact ⟨by simpa using blk_set hb 3 (.bool x), hg⟩
theorem cellS52_4 {W : World} {g : Nat} {f0 : Int} {f1 : Int} {f2 : Int} {f3 : Bool} {f4 : Int} {f5 : Int} (h : W.heap[g]? = some (.cells #[modeV g f0, .int .i64 f1, .int .i64 f2, .bool f3, .int .i64 f4, .int .i64 f5] 52 (0, 0))) : W.cell? ⟨g, 4, none⟩ = some (.int .i64 f4) := (blk_cell h 4).trans rfl
theorem IsS52.set_4 {w0 W : World} {g : Nat} {f0 : Int} {f1 : Int} {f2 : Int} {f3 : Bool} {f4 : Int} {f5 : Int} (h : IsS52 w0 W g f0 f1 f2 f3 f4 f5) (x : Int) : IsS52 w0 (W.setCell ⟨g, 4, none⟩ (.int .i64 x)) g f0 f1 f2 f3 x f5 := by
  obtain ⟨hb, hg⟩ := h
  exact ⟨by simpa using blk_set hb 4 (.int .i64 x), hg⟩
theorem cellS52_5 {W : World} {g : Nat} {f0 : Int} {f1 : Int} {f2 : Int} {f3 : Bool} {f4 : Int} {f5 : Int} (h : W.heap[g]? = some (.cells #[modeV g f0, .int .i64 f1, .int .i64 f2, .bool f3, .int .i64 f4, .int .i64 f5] 52 (0, 0))) : W.cell? ⟨g, 5, none⟩ = some (.int .i64 f5) := (blk_cell h 5).trans rfl
theorem IsS52.set_5 {w0 W : World} {g : Nat} {f0 : Int} {f1 : Int} {f2 : Int} {f3 : Bool} {f4 : Int} {f5 : Int} (h : IsS52 w0 W g f0 f1 f2 f3 f4 f5) (x : Int) : IsS52 w0 (W.setCell ⟨g, 5, none⟩ (.int .i64 x)) g f0 f1 f2 f3 f4 x := by
  obtain ⟨hb, hg⟩ := h
  exact ⟨by simpa using blk_set hb 5 (.int .i64 x), hg⟩
theorem IsS52.new (w0 W : World) (f0 : Int) (f1 : Int) (f2 : Int) (f3 : Bool) (f4 : Int) (f5 : Int) (hB : Below w0.heap.size w0 W) : IsS52 w0 (W.alloc (.cells #[modeV W.heap.size f0, .int .i64 f1, .int .i64 f2, .bool f3, .int .i64 f4, .int .i64 f5] 52)) W.heap.size f0 f1 f2 f3 f4 f5 := ⟨by simpa using heap_alloc_new W _, hB.size⟩
theorem IsS52.set_0a {w0 W : World} {g : Nat} {f0 f1 f2 : Int} {f3 : Bool} {f4 f5 : Int} (h : IsS52 w0 W g f0 f1 f2 f3 f4 f5) : IsS52 w0 (W.setCell ⟨g, 0, none⟩ (.func (.func 28) #[.pointer (some ⟨g, 0, none⟩)] #[])) g 0 f1 f2 f3 f4 f5 := h.set_0 0
theorem IsS52.set_0b {w0 W : World} {g : Nat} {f0 f1 f2 : Int} {f3 : Bool} {f4 f5 : Int} (h : IsS52 w0 W g f0 f1 f2 f3 f4 f5) : IsS52 w0 (W.setCell ⟨g, 0, none⟩ (.func (.func 35) #[.pointer (some ⟨g, 0, none⟩)] #[])) g 1 f1 f2 f3 f4 f5 := h.set_0 1
theorem IsS52.set_0c {w0 W : World} {g : Nat} {f0 f1 f2 : Int} {f3 : Bool} {f4 f5 : Int} (h : IsS52 w0 W g f0 f1 f2 f3 f4 f5) : IsS52 w0 (W.setCell ⟨g, 0, none⟩ (.func (.func 43) #[.pointer (some ⟨g, 0, none⟩)] #[])) g 2 f1 f2 f3 f4 f5 := h.set_0 2
theorem IsS52.set_0d {w0 W : World} {g : Nat} {f0 f1 f2 : Int} {f3 : Bool} {f4 f5 : Int} (h : IsS52 w0 W g f0 f1 f2 f3 f4 f5) : IsS52 w0 (W.setCell ⟨g, 0, none⟩ (.func (.func 45) #[.pointer (some ⟨g, 0, none⟩)] #[])) g 3 f1 f2 f3 f4 f5 := h.set_0 3
end Go.Proofs.Ytbbgichpbjgifaa.Q
