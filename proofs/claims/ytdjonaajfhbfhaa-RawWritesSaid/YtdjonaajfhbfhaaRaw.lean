/- A raster's reader in memory: its own block, and the block of the row that is told, which lies right ahead of it. -/
import Derived.Test.YtdjonaajfhbfhaaProg
import Derived.Test.YtdjonaajfhbfhaaWWords
import Derived.Test.YtdjonaajfhbfhaaWMore
import Derived.Test.YtdjonaajfhbfhaaPeel
set_option linter.unusedVariables false
namespace Go.Proofs.Ytdjonaajfhbfhaa.Q
open Go.RowKit Go.Proofs.YtdjonaajfhbfhaaW.PrintWords
@[go_sem] theorem run_field_format0 (w : World) (a b : Value) : (Instr.field 60 (.agg #[a, b]) 0).run Try.prog w = .ok a w := by kernel_rfl
@[go_sem] theorem run_field_format1 (w : World) (a b : Value) : (Instr.field 60 (.agg #[a, b]) 1).run Try.prog w = .ok b w := by kernel_rfl
/-- A reader's block: its head, the row that is told, how many bytes of it, how many rows, the last word, the error. -/
def rawObj (h0 h1 h2 h3 : Int) (A : Option Addr) (m c : Nat) (n rows last e : Int) : Obj := .cells #[.int .i64 h0, .int .i64 h1, .int .i64 h2, .int .i64 h3, .slice A m c, .int .i64 n, .int .i64 rows, .int .i64 last, .int .i64 e] 71 (0, 0)
/-- Bytes as one number, the first one lowest. -/
def encB : List Int → Int
  | [] => 0
  | x :: l => x + 256 * encB l
def decB : Nat → Int → List Int
  | 0, _ => []
  | n + 1, c => c % 256 :: decB n (c / 256)
def byteL (l : List Int) : Prop := ∀ x ∈ l, 0 ≤ x ∧ x ≤ 255
theorem dec_enc : ∀ l : List Int, byteL l → decB l.length (encB l) = l
  | [], _ => rfl
  | x :: l, h => by
    have hx := h x (List.mem_cons_self ..)
    have ih := dec_enc l (fun y hy => h y (List.mem_cons_of_mem _ hy))
    show (x + 256 * encB l) % 256 :: decB l.length ((x + 256 * encB l) / 256) = x :: l
    rw [show (x + 256 * encB l) % 256 = x by omega, show (x + 256 * encB l) / 256 = encB l by omega, ih]
theorem enc_snoc : ∀ (l : List Int) (c : Int), encB (l ++ [c]) = encB l + c * 256 ^ l.length
  | [], c => by simp [encB]
  | x :: l, c => by
    show x + 256 * encB (l ++ [c]) = x + 256 * encB l + c * 256 ^ (l.length + 1)
    rw [enc_snoc l c, Int.pow_succ, Int.mul_add]
    have : c * (256 ^ l.length * 256) = 256 * (c * 256 ^ l.length) := by rw [← Int.mul_assoc, Int.mul_comm]
    omega
/-- A head of a raster of bytes. -/
def rawMay (k w h m : Int) : Bool := decide (4 ≤ k ∧ k ≤ 6 ∧ 1 ≤ w ∧ w ≤ 4096 ∧ 1 ≤ h ∧ h ≤ 65536 ∧ 1 ≤ m ∧ m ≤ 65535 ∧ (k ≠ 4 ∨ m = 1))
theorem rawMay_is {k w h m : Int} (e : rawMay k w h m = true) : 4 ≤ k ∧ k ≤ 6 ∧ 1 ≤ w ∧ w ≤ 4096 ∧ 1 ≤ h ∧ h ≤ 65536 ∧ 1 ≤ m ∧ m ≤ 65535 ∧ (k ≠ 4 ∨ m = 1) := of_decide_eq_true e
/-- How many bytes a sample has, and a row. -/
def sampW (h3 : Int) : Nat := if h3 ≤ 255 then 1 else 2
def rawS (k w m : Int) : Nat := if k = 4 then (w.toNat + 7) / 8 else w.toNat * (if k = 6 then 3 else 1) * sampW m
theorem rawS_bound {k w h m : Int} (e : rawMay k w h m = true) : 1 ≤ rawS k w m ∧ rawS k w m ≤ 24576 := by
  have h1 := rawMay_is e
  unfold rawS sampW
  split
  · omega
  · split <;> split <;> omega
structure RawOk (f0 f1 f2 f3 f4 f5 f6 f7 : Int) (b : List Int) : Prop where
  may : rawMay f0 f1 f2 f3 = true
  len : b.length = rawS f0 f1 f3
  byte : byteL b
  n0 : 0 ≤ f5
  n1 : f5 ≤ (b.length : Int)
  code : f4 = encB (b.take f5.toNat)
  r0 : 0 ≤ f6
  r1 : f6 ≤ f2
  more : f7 = 0 → f5 < (b.length : Int) ∧ f6 < f2
def IsS71 (w0 W : World) (g : Nat) (f0 f1 f2 f3 f4 f5 f6 f7 f8 : Int) : Prop := ∃ (gb : Nat) (b : List Int), g = gb + 1 ∧ W.heap[g]? = some (rawObj f0 f1 f2 f3 (some ⟨gb, 0, none⟩) b.length b.length f5 f6 f7 f8) ∧ w0.heap.size ≤ gb ∧ W.heap[gb]? = some (.cells (b.map (Value.int .u8)).toArray 5 (0, 0)) ∧ RawOk f0 f1 f2 f3 f4 f5 f6 f7 b
section
variable {w0 W W1 : World} {g : Nat} {f0 f1 f2 f3 f4 f5 f6 f7 f8 : Int}
theorem IsS71.below (h : IsS71 w0 W g f0 f1 f2 f3 f4 f5 f6 f7 f8) (hw : Below W.heap.size W W1) : IsS71 w0 W1 g f0 f1 f2 f3 f4 f5 f6 f7 f8 := by
  obtain ⟨gb, b, e, hb, hg, hr, ok⟩ := h
  exact ⟨gb, b, e, blk_below hb hw, hg, blk_below hr hw, ok⟩
theorem IsS71.alloc (h : IsS71 w0 W g f0 f1 f2 f3 f4 f5 f6 f7 f8) (o : Obj) : IsS71 w0 (W.alloc o) g f0 f1 f2 f3 f4 f5 f6 f7 f8 := h.below (below_alloc (Below.refl _ _) o)
theorem IsS71.drewN (h : IsS71 w0 W g f0 f1 f2 f3 f4 f5 f6 f7 f8) (m : Nat) : IsS71 w0 (W.drewN m) g f0 f1 f2 f3 f4 f5 f6 f7 f8 := h
theorem IsS71.drew (h : IsS71 w0 W g f0 f1 f2 f3 f4 f5 f6 f7 f8) : IsS71 w0 W.drew g f0 f1 f2 f3 f4 f5 f6 f7 f8 := h
theorem IsS71.at_ {w' : World} {m : Nat} (hq : W.drewN m = w') (h : IsS71 w0 W g f0 f1 f2 f3 f4 f5 f6 f7 f8) : IsS71 w0 w' g f0 f1 f2 f3 f4 f5 f6 f7 f8 := by subst hq; exact IsS71.drewN h m
theorem IsS71.lt (h : IsS71 w0 W g f0 f1 f2 f3 f4 f5 f6 f7 f8) : g < W.heap.size := by
  obtain ⟨gb, b, e, hb, hg, hr, ok⟩ := h
  exact blk_lt hb
theorem IsS71.ge (h : IsS71 w0 W g f0 f1 f2 f3 f4 f5 f6 f7 f8) : w0.heap.size ≤ g := by
  obtain ⟨gb, b, e, hb, hg, hr, ok⟩ := h
  omega
theorem IsS71.ge1 (h : IsS71 w0 W g f0 f1 f2 f3 f4 f5 f6 f7 f8) : w0.heap.size + 1 ≤ g := by
  obtain ⟨gb, b, e, hb, hg, hr, ok⟩ := h
  omega
theorem IsS71.fresh (h : IsS71 w0 W g f0 f1 f2 f3 f4 f5 f6 f7 f8) : ∀ k, W.heap.size ≤ k → k ≠ g := by
  have := h.lt
  intro k hk
  omega
theorem IsS71.ne_blk {a : Nat} {cs : Array Value} {t : TypeId} {fr : Nat × Nat} (h : IsS71 w0 W g f0 f1 f2 f3 f4 f5 f6 f7 f8) (hb2 : W.heap[a]? = some (.cells cs t fr)) (ht : t ≠ 71) : g ≠ a := by
  obtain ⟨gb, b, e, hb, hg, hr, ok⟩ := h
  rintro rfl
  rw [hb] at hb2
  injection hb2 with hb2
  injection hb2 with _ ht2
  exact ht ht2.symm
/-- The other block of a reader. -/
theorem IsS71.ne_row {a : Nat} {cs : Array Value} {t : TypeId} {fr : Nat × Nat} (h : IsS71 w0 W g f0 f1 f2 f3 f4 f5 f6 f7 f8) (hb2 : W.heap[a]? = some (.cells cs t fr)) (ht : t ≠ 5) : g - 1 ≠ a := by
  obtain ⟨gb, b, e, hb, hg, hr, ok⟩ := h
  have e2 : g - 1 = gb := by omega
  rw [e2]
  rintro rfl
  rw [hr] at hb2
  injection hb2 with hb2
  injection hb2 with _ ht2
  exact ht ht2.symm
theorem IsS71.far {p : Addr} {cs : Array Value} {t : TypeId} (h : IsS71 w0 W g f0 f1 f2 f3 f4 f5 f6 f7 f8) (hb2 : W.heap[p.block]? = some (.cells cs t (0, 0))) (ht : t ≠ 71 ∧ t ≠ 5 := by decide) (u : Value) : IsS71 w0 (W.setCell p u) g f0 f1 f2 f3 f4 f5 f6 f7 f8 := by
  have h1 := h.ne_blk hb2 ht.1
  have h2 := h.ne_row hb2 ht.2
  obtain ⟨gb, b, e, hb, hg, hr, ok⟩ := h
  exact ⟨gb, b, e, blk_far hb h1 u, hg, blk_far hr (by omega) u, ok⟩
theorem IsS71.apart {α : Type} {d : Kd α} {e : Nat} {base : Nat} {ok : Nat → Prop} {v : Value} {xs : List α} (h : IsS71 w0 W g f0 f1 f2 f3 f4 f5 f6 f7 f8) (ho : d.R e W base ok v xs) (ht : ∀ q, q ∈ e :: d.E → q ≠ 71) : d.R e W base (fun k => ok k ∧ k ≠ g) v xs := by
  obtain ⟨gb, b, _, hb, hg, hr, _⟩ := h
  exact Kd.R_types ho hb ht
theorem IsS71.apart2 {α : Type} {d : Kd α} {e : Nat} {base : Nat} {ok : Nat → Prop} {v : Value} {xs : List α} (h : IsS71 w0 W g f0 f1 f2 f3 f4 f5 f6 f7 f8) (ho : d.R e W base ok v xs) (ht : ∀ q, q ∈ e :: d.E → q ≠ 5) : d.R e W base (fun k => ok k ∧ k ≠ g - 1) v xs := by
  obtain ⟨gb, b, e2, hb, hg, hr, _⟩ := h
  have e2 : g - 1 = gb := by omega
  rw [e2]
  exact Kd.R_types ho hr ht
theorem IsS71.own_ne {α : Type} {d : Kd α} {e : Nat} {base : Nat} {ok : Nat → Prop} {v : Value} {xs : List α} (h : IsS71 w0 W g f0 f1 f2 f3 f4 f5 f6 f7 f8) (ho : d.R e W base ok v xs) (ht : e ≠ 71) : some g ≠ v.ownBlock := by
  obtain ⟨gb, b, _, hb, hg, hr, _⟩ := h
  exact Kd.R_ne ho hb ht
theorem raw_hr {a : Nat} {cs : Array Value} {t : TypeId} {fr : Nat × Nat} (h : IsS71 w0 W g f0 f1 f2 f3 f4 f5 f6 f7 f8) (hb2 : W.heap[a]? = some (.cells cs t fr)) (ht : t ≠ 5) : some a ≠ some (g - 1) := fun e => h.ne_row hb2 ht (Option.some.inj e).symm
/-- A row that is neither of readers nor of bytes stays as it is. -/
theorem raw_row_keep {α : Type} {d : Kd α} {e : Nat} {base : Nat} {ok : Nat → Prop} {v : Value} {xs : List α} (h : IsS71 w0 W g f0 f1 f2 f3 f4 f5 f6 f7 f8) (ho : d.R e W base ok v xs) (hk : KeepBut W W1 g (some (g - 1))) (ht : ∀ q, q ∈ e :: d.E → q ≠ 71 ∧ q ≠ 5 := by decide) : d.R e W1 base ok v xs :=
  Kd.R_mono (Kd.R_step (h.apart2 (h.apart ho (fun q hq => (ht q hq).1)) (fun q hq => (ht q hq).2)) (fun k ho hlt => hk.2 k hlt ho.1.2 (by intro e; exact ho.2 (Option.some.inj e)))) (fun _ hk => hk.1.1)
end
end Go.Proofs.Ytdjonaajfhbfhaa.Q
