/- Facts at a world that has moved on by new blocks and draws alone: the moves, each with its last premise shown by a tactic of its own. -/
import Derived.Test.YtdjonaajfhbfhaaWMore
import Derived.Test.YtdjonaajfhbfhaaWShare
import Derived.Test.YtdjonaajfhbfhaaWAt
import Derived.Test.YtdjonaajfhbfhaaWLast
import Derived.Test.YtdjonaajfhbfhaaWWords
import Derived.Test.YtdjonaajfhbfhaaWTab
namespace Go.Proofs.Ytdjonaajfhbfhaa.Q
open Go.RowKit Go.Proofs.YtdjonaajfhbfhaaW.PrintWords Go.Proofs.YtdjonaajfhbfhaaW.PrintLast
theorem rp_ {α : Type} {d : Kd α} {e base : Nat} {ok : Nat → Prop} {W0 W : World} {v : Value} {xs : List α} (h : Kd.R d e W0 base ok v xs)
    (hs : Below W0.heap.size W0 W := by (with_reducible repeat (first | exact Below.refl _ _ | apply below_alloc | apply pw_below_drewN | apply below_drew))) : Kd.R d e W base ok v xs := Kd.R_below h hs
theorem vp_ {α : Type} {d : Kd α} {e base : Nat} {ok : Nat → Prop} {W0 W : World} {v : Value} {xs : List α} (h : Kd.V d e W0 base ok v xs)
    (hs : Below W0.heap.size W0 W := by (with_reducible repeat (first | exact Below.refl _ _ | apply below_alloc | apply pw_below_drewN | apply below_drew))) : Kd.V d e W base ok v xs := Kd.V_below h hs
theorem cp_ {α : Type} {d : Kd α} {A : Option Addr} {n : Nat} {W0 W : World} {xs : List α} (h : d.C W0 A n xs)
    (hs : Below W0.heap.size W0 W := by (with_reducible repeat (first | exact Below.refl _ _ | apply below_alloc | apply pw_below_drewN | apply below_drew))) : d.C W A n xs := Kd.C_below h hs
theorem hp_ {g : Nat} {o : Obj} {W0 W : World} (h : W0.heap[g]? = some o)
    (hs : Below W0.heap.size W0 W := by (with_reducible repeat (first | exact Below.refl _ _ | apply below_alloc | apply pw_below_drewN | apply below_drew))) : W.heap[g]? = some o :=
  (hs.block g (Array.getElem?_eq_some_iff.1 h).1).trans h
theorem bp_ {w W : World} (h : Below w.heap.size w W := by (repeat (first | exact Aside0.out (by with_reducible assumption) | (with_reducible first | apply below_alloc | apply pw_below_drewN | apply below_drew1) | refine below_set ?_ (Aside0.out (by with_reducible assumption)) | exact Aside0.out (by assumption)))) : Below w.heap.size w W := h
theorem qrp_ {α : Type} {d : Kd α} {e base m : Nat} {ok : Nat → Prop} {W0 W W' : World} {v : Value} {xs : List α} (hq : W.drewN m = W') (h : Kd.R d e W0 base ok v xs)
    (hs : Below W0.heap.size W0 W := by (with_reducible repeat (first | exact Below.refl _ _ | apply below_alloc | apply pw_below_drewN | apply below_drew))) : Kd.R d e W' base ok v xs := hq ▸ Kd.R_drewN (Kd.R_below h hs) m
theorem qvp_ {α : Type} {d : Kd α} {e base m : Nat} {ok : Nat → Prop} {W0 W W' : World} {v : Value} {xs : List α} (hq : W.drewN m = W') (h : Kd.V d e W0 base ok v xs)
    (hs : Below W0.heap.size W0 W := by (with_reducible repeat (first | exact Below.refl _ _ | apply below_alloc | apply pw_below_drewN | apply below_drew))) : Kd.V d e W' base ok v xs := hq ▸ Kd.V_drewN (Kd.V_below h hs) m
theorem qhp_ {g m : Nat} {o : Obj} {W0 W W' : World} (hq : W.drewN m = W') (h : W0.heap[g]? = some o)
    (hs : Below W0.heap.size W0 W := by (with_reducible repeat (first | exact Below.refl _ _ | apply below_alloc | apply pw_below_drewN | apply below_drew))) : W'.heap[g]? = some o := hq ▸ blk_drewN (hp_ h hs) m
theorem qbp_ {m : Nat} {w W W' : World} (hq : W.drewN m = W') (h : Below w.heap.size w W := by (repeat (first | exact Aside0.out (by with_reducible assumption) | (with_reducible first | apply below_alloc | apply pw_below_drewN | apply below_drew1) | refine below_set ?_ (Aside0.out (by with_reducible assumption)) | exact Aside0.out (by assumption)))) : Below w.heap.size w W' := hq ▸ pw_below_drewN h m
/-- All but one block is as it was. -/
def Far (g : Nat) (W0 W : World) : Prop := ∀ k, k < W0.heap.size → k ≠ g → W.heap[k]? = W0.heap[k]?
theorem Far.refl {g : Nat} {W : World} : Far g W W := fun _ _ _ => rfl
theorem Far.set {g i : Nat} {W0 W : World} {u : Value} (h : Far g W0 W) : Far g W0 (W.setCell ⟨g, i, none⟩ u) := fun k hk hne => (Below.heap_setCell W ⟨g, i, none⟩ u k hne).trans (h k hk hne)
theorem Far.below {g : Nat} {W0 W W1 : World} (h : Far g W0 W) (hz : W0.heap.size ≤ W.heap.size) (hb : Below W.heap.size W W1) : Far g W0 W1 := fun k hk hne => (hb.block k (Nat.lt_of_lt_of_le hk hz)).trans (h k hk hne)
theorem Far.drewN {g m : Nat} {W0 W : World} (h : Far g W0 W) : Far g W0 (W.drewN m) := h
theorem Far.drew {g : Nat} {W0 W : World} (h : Far g W0 W) : Far g W0 W.drew := h
theorem rf_ {α : Type} {d : Kd α} {e base : Nat} {ok ok' : Nat → Prop} {W0 W : World} {v : Value} {xs : List α} {g t : Nat} {cs : Array Value} (h : Kd.R d e W0 base ok v xs) (hb : W0.heap[g]? = some (.cells cs t (0, 0))) (ht : ∀ q, q ∈ e :: d.E → q ≠ t) (hok : ∀ k, ok k ∧ k ≠ g → ok' k)
    (hs : Far g W0 W := by (with_reducible repeat (first | exact Far.refl | apply Far.set | apply Far.drewN | apply Far.drew))) : Kd.R d e W base ok' v xs :=
  Kd.R_mono (Kd.R_step (Kd.R_types h hb ht) (fun k hk hlt => hs k hlt hk.2)) hok
theorem hf_ {g g' : Nat} {o : Obj} {W0 W : World} (h : W0.heap[g]? = some o) (hne : g ≠ g') (hs : Far g' W0 W := by (with_reducible repeat (first | exact Far.refl | apply Far.set | apply Far.drewN | apply Far.drew))) : W.heap[g]? = some o :=
  (hs g (Array.getElem?_eq_some_iff.1 h).1 hne).trans h
theorem np_ {α : Type} {d : Kd α} {e base : Nat} {ok : Nat → Prop} {W0 W : World} {v : Value} {xs : List α} (h : Kd.N d e W0 base ok v xs)
    (hs : Below W0.heap.size W0 W := by (with_reducible repeat (first | exact Below.refl _ _ | apply below_alloc | apply pw_below_drewN | apply below_drew))) : Kd.N d e W base ok v xs := Kd.N_below h hs
theorem rb_ {W' : World} {α : Type} {d : Kd α} {e base : Nat} {ok : Nat → Prop} {W0 W : World} {v : Value} {xs : List α} (h : Kd.R d e W0 base ok v xs) (hb : Below W.heap.size W W')
    (hs : Below W0.heap.size W0 W := by (with_reducible repeat (first | exact Below.refl _ _ | apply below_alloc | apply pw_below_drewN | apply below_drew))) : Aside0 (Kd.R d e W' base ok v xs) := ⟨Kd.R_below (rp_ h hs) hb⟩
theorem vb_ {W' : World} {α : Type} {d : Kd α} {e base : Nat} {ok : Nat → Prop} {W0 W : World} {v : Value} {xs : List α} (h : Kd.V d e W0 base ok v xs) (hb : Below W.heap.size W W')
    (hs : Below W0.heap.size W0 W := by (with_reducible repeat (first | exact Below.refl _ _ | apply below_alloc | apply pw_below_drewN | apply below_drew))) : Aside0 (Kd.V d e W' base ok v xs) := ⟨Kd.V_below (vp_ h hs) hb⟩
theorem nb_ {W' : World} {α : Type} {d : Kd α} {e base : Nat} {ok : Nat → Prop} {W0 W : World} {v : Value} {xs : List α} (h : Kd.N d e W0 base ok v xs) (hb : Below W.heap.size W W')
    (hs : Below W0.heap.size W0 W := by (with_reducible repeat (first | exact Below.refl _ _ | apply below_alloc | apply pw_below_drewN | apply below_drew))) : Aside0 (Kd.N d e W' base ok v xs) := ⟨Kd.N_below (np_ h hs) hb⟩
theorem kb_ {g : Nat} {o : Obj} {W0 W W' : World} (h : W0.heap[g]? = some o) (hb : Below W.heap.size W W')
    (hs : Below W0.heap.size W0 W := by (with_reducible repeat (first | exact Below.refl _ _ | apply below_alloc | apply pw_below_drewN | apply below_drew))) : Aside0 (W'.heap[g]? = some o) := ⟨blk_below (hp_ h hs) hb⟩
theorem cb_ {α : Type} {d : Kd α} {A : Option Addr} {n : Nat} {W0 W W' : World} {xs : List α} (h : d.C W0 A n xs) (hb : Below W.heap.size W W')
    (hs : Below W0.heap.size W0 W := by (with_reducible repeat (first | exact Below.refl _ _ | apply below_alloc | apply pw_below_drewN | apply below_drew))) : Aside0 (d.C W' A n xs) := ⟨Kd.C_below (cp_ h hs) hb⟩
theorem sc_ {W W' : World} {p : Addr} {v : Value} (hb : Below W.heap.size W W') (h : W.cell? p = some v) : W'.cell? p = some v := (hb.cell (World.block_lt_of_cell? _ _ h)).trans h
theorem bc_ {W : World} {g : Nat} {t : TypeId} {cs : Array Value} {v : Value} (h : W.heap[g]? = some (.cells cs t (0, 0))) (i : Nat) (e : cs[i]? = some v := by rfl) : W.cell? ⟨g, i, none⟩ = some v := (blk_cell h i).trans e
theorem vm_ {ok' : Nat → Prop} {α : Type} {d : Kd α} {e base : Nat} {ok : Nat → Prop} {W0 W : World} {v : Value} {xs : List α} (h : Kd.V d e W0 base ok v xs)
    (hs : Below W0.heap.size W0 W := by (with_reducible repeat (first | exact Below.refl _ _ | apply below_alloc | apply pw_below_drewN | apply below_drew))) (hm : ∀ k, ok k → ok' k := by (intro _ hk; simp only [ne_eq, hk, not_false_eq_true, and_self])) : Kd.V d e W base ok' v xs := Kd.V_mono (vp_ h hs) hm
theorem nm_ {ok' : Nat → Prop} {α : Type} {d : Kd α} {e base : Nat} {ok : Nat → Prop} {W0 W : World} {v : Value} {xs : List α} (h : Kd.N d e W0 base ok v xs)
    (hs : Below W0.heap.size W0 W := by (with_reducible repeat (first | exact Below.refl _ _ | apply below_alloc | apply pw_below_drewN | apply below_drew))) (hm : ∀ k, ok k → ok' k := by (intro _ hk; simp only [ne_eq, hk, not_false_eq_true, and_self])) : Kd.N d e W base ok' v xs := Kd.N_mono (np_ h hs) hm
theorem fr_ {α : Type} {d : Kd α} {e base : Nat} {ok : Nat → Prop} {W0 W : World} {v : Value} {xs : List α} (h : Kd.R d e W0 base ok v xs) (k : Nat)
    (hs : Below W0.heap.size W0 W := by (with_reducible repeat (first | exact Below.refl _ _ | apply below_alloc | apply pw_below_drewN | apply below_drew))) : W.heap.size ≤ k → some k ≠ v.ownBlock := fun hk => Kd.fresh' (Kd.R_lt (rp_ h hs)) k hk
theorem fn_ {α : Type} {d : Kd α} {e base : Nat} {ok : Nat → Prop} {W0 W : World} {v : Value} {xs : List α} (h : Kd.N d e W0 base ok v xs) (k : Nat)
    (hs : Below W0.heap.size W0 W := by (with_reducible repeat (first | exact Below.refl _ _ | apply below_alloc | apply pw_below_drewN | apply below_drew))) : W.heap.size ≤ k → some k ≠ v.ownBlock := fun hk => Kd.fresh' (Kd.N_lt (np_ h hs)) k hk
theorem fb_ {g : Nat} {o : Obj} {W0 W : World} (h : W0.heap[g]? = some o) (k : Nat)
    (hs : Below W0.heap.size W0 W := by (with_reducible repeat (first | exact Below.refl _ _ | apply below_alloc | apply pw_below_drewN | apply below_drew))) : W.heap.size ≤ k → k ≠ g := fun hk => Kd.freshB (hp_ h hs) k hk
theorem vw_ {α : Type} {d : Kd α} {e base g : Nat} {ok : Nat → Prop} {W0 W1 W : World} {v : Value} {xs : List α} (hW : W1 = W) (h : Kd.V d e W0 base ok v xs)
    (hs : Far g W0 W1 := by (with_reducible repeat (first | exact Far.refl | apply Far.set | apply Far.drewN | apply Far.drew))) (hg : ∀ k, ok k → k ≠ g := by (intro _ hk; simp only [ne_eq, hk, not_false_eq_true])) : Kd.V d e W base ok v xs :=
  hW ▸ Kd.V_step h (fun k hk hlt => hs k hlt (hg k hk))
theorem nw_ {α : Type} {d : Kd α} {e base g : Nat} {ok : Nat → Prop} {W0 W1 W : World} {v : Value} {xs : List α} (hW : W1 = W) (h : Kd.N d e W0 base ok v xs)
    (hs : Far g W0 W1 := by (with_reducible repeat (first | exact Far.refl | apply Far.set | apply Far.drewN | apply Far.drew))) (hg : ∀ k, ok k → k ≠ g := by (intro _ hk; simp only [ne_eq, hk, not_false_eq_true])) : Kd.N d e W base ok v xs :=
  hW ▸ Kd.N_step h (fun k hk hlt => hs k hlt (hg k hk))
theorem rw_ {α : Type} {d : Kd α} {e base g t : Nat} {ok : Nat → Prop} {W0 W1 W : World} {v : Value} {xs : List α} {cs : Array Value} (hW : W1 = W) (h : Kd.R d e W0 base ok v xs) (hb : W0.heap[g]? = some (.cells cs t (0, 0)))
    (hs : Far g W0 W1 := by (with_reducible repeat (first | exact Far.refl | apply Far.set | apply Far.drewN | apply Far.drew))) (ht : ∀ q, q ∈ e :: d.E → q ≠ t := by decide) : Kd.R d e W base ok v xs :=
  hW ▸ Kd.R_mono (Kd.R_step (Kd.R_types h hb ht) (fun k hk hlt => hs k hlt hk.2)) (fun _ hk => hk.1)
theorem bw_ {g g' : Nat} {o : Obj} {W0 W1 W : World} (hW : W1 = W) (h : W0.heap[g]? = some o) (hne : g ≠ g') (hs : Far g' W0 W1 := by (with_reducible repeat (first | exact Far.refl | apply Far.set | apply Far.drewN | apply Far.drew))) : W.heap[g]? = some o :=
  hW ▸ (hs g (Array.getElem?_eq_some_iff.1 h).1 hne).trans h
theorem bne_nil_ (l : List UInt8) : (l != []) = !l.isEmpty := by cases l <;> rfl
theorem nlt_ {W : World} {g g' : Nat} {o : Obj} (hg : g' = W.heap.size) (h : W.heap[g]? = some o) : g ≠ g' := by rw [hg]; exact Nat.ne_of_lt (blk_lt h)
theorem ngt_ {W : World} {g g' : Nat} {o : Obj} (hg : g' = W.heap.size) (h : W.heap[g]? = some o) : g' ≠ g := by rw [hg]; exact Nat.ne_of_gt (blk_lt h)
section
variable {P : Program} {ops : Array Oper} {Q : Exit → Act → World → Prop} {md : Region.Mode} {S : World → Prop} {ds : List Nat}
/-- An operation that yields in whatever world. -/
theorem pur_ {i : Nat} {N : Option Tmp} {oi : Oper} {v : Value} {fuel : Nat} {l : Array Bool} {a a' : Act} {w : World} (l' : Array Bool) (hc : anyB md ops l l' i = true) (h : wpAnyLast P md ops Q S ds fuel l' a' w)
    (hi : ops[i]? = some oi := by rfl) (hN : oi.dst = N := by rfl) (hQ : ∀ c a w, Q (.panic c) (a.put oi.dst v) w → Q (.panic c) a w := by exact fun _ _ _ h => h)
    (hw : Region.wanted oi (yielded ops a.tmps) = true := by rfl) (hy : ∀ w, (execOp a.eval oi).run P w = .ok (.value v) w := by (intro w'; go_simp; with_reducible rfl))
    (ha : a.put N v = a' := by (simp only [Act.put, List.setIfInBounds_toArray, List.set_cons_zero, List.set_cons_succ, i64_w, i32_w]; rfl)) : wpAnyLast P md ops Q S ds (fuel + 1) l a w :=
  pure_ l' hi hN hc hQ (Or.inl ⟨hw, hy⟩) ha h
/-- An operation whose guard shuts it. -/
theorem pun_ {i : Nat} {N : Option Tmp} {oi : Oper} {fuel : Nat} {l : Array Bool} {a a' : Act} {w : World} (l' : Array Bool) (hc : anyB md ops l l' i = true) (h : wpAnyLast P md ops Q S ds fuel l' a' w)
    (hi : ops[i]? = some oi := by rfl) (hN : oi.dst = N := by rfl) (hQ : ∀ c a w, Q (.panic c) (a.put oi.dst undef) w → Q (.panic c) a w := by exact fun _ _ _ h => h)
    (hw : Region.wanted oi (yielded ops a.tmps) = false := by rfl)
    (ha : a.put N undef = a' := by (simp only [Act.put, List.setIfInBounds_toArray, List.set_cons_zero, List.set_cons_succ, i64_w, i32_w]; rfl)) : wpAnyLast P md ops Q S ds (fuel + 1) l a w :=
  pure_ l' hi hN hc hQ (Or.inr ⟨hw, rfl⟩) ha h
/-- An operation that yields where what is held is so. -/
theorem tak_ {i : Nat} {N : Option Tmp} {oi : Oper} {v : Value} {fuel : Nat} {l : Array Bool} {a a' : Act} {w : World} (l' : Array Bool) (hc : takeB md ops ds l l' i = true) (hS : S w) (h : wpAnyLast P md ops Q S ds fuel l' a' w)
    (hi : ops[i]? = some oi := by rfl) (hN : oi.dst = N := by rfl) (hQ : ∀ c a w, Q (.panic c) (a.put oi.dst v) w → Q (.panic c) a w := by exact fun _ _ _ h => h)
    (hw : Region.wanted oi (yielded ops a.tmps) = true := by rfl) (hy : ∀ w', S w' → (execOp a.eval oi).run P w' = .ok (.value v) w' := by (rintro w' hs; (repeat obtain ⟨_, hs⟩ := hs); go_simp; with_reducible rfl))
    (ha : a.put N v = a' := by (simp only [Act.put, List.setIfInBounds_toArray, List.set_cons_zero, List.set_cons_succ, i64_w, i32_w]; rfl)) : wpAnyLast P md ops Q S ds (fuel + 1) l a w :=
  take_ l' hi hN hc hQ (Or.inl ⟨hw, hy⟩) hS ha h
/-- The frame behind a call, written out. -/
theorem nor_ {fuel : Nat} {l : Array Bool} {a a' : Act} {v : Value} {w : World} (N : Option Tmp) (h : wpAnyLast P md ops Q S ds fuel l a' w)
    (ha : a.put N v = a' := by (simp only [Act.put, List.setIfInBounds_toArray, List.set_cons_zero, List.set_cons_succ, i64_w, i32_w]; rfl)) : wpAnyLast P md ops Q S ds fuel l (a.put N v) w := norm_ ha h
/-- A call in a plain region. -/
theorem goQ_ {rest : List Oper} {oi : Oper} {a : Act} {w : World} (N : Option Tmp) {f : FuncId} {fn : Func} {as_ : Array Operand} {ts : Array TypeId} (hf : P.funcs[f]? = some fn) (args : Array Value)
    (h : Calls P f args w fun e w' => ∃ v, e = .returned v ∧ wpList P ops Q rest (a.put N v) w') (hd : oi.dst = N := by rfl) (hg : oi.guard = none := by rfl)
    (hname : (fn.name == "runtime.NumGoroutine") = false := by kernel_rfl) (hb : fn.body.isSome = true := by rfl)
    (hop : oi.op = .call { callee := .value (.func f), args := as_, argTypes := ts } := by rfl) (hargs : as_.map a.eval = args := by ((try simp only [List.map_toArray, List.map_cons, List.map_nil]); first | done | rfl | (simp only [List.length_drop, List.length_take]; rfl))) : wpList P ops Q (oi :: rest) a w :=
  goesL_ N hd hg hf hname hb args hop hargs h
/-- A call in a region. -/
theorem goZ_ {oi : Oper} {N : Option Tmp} {a : Act} {w : World} {K : Act → World → Prop} {f : FuncId} {fn : Func} {as_ : Array Operand} {ts : Array TypeId} {Q : Exit → Act → World → Prop} (hf : P.funcs[f]? = some fn) (args : Array Value)
    (h : Calls P f args w fun e w' => ∃ v, e = .returned v ∧ K (a.put N v) w') (hname : (fn.name == "runtime.NumGoroutine") = false := by kernel_rfl) (hb : fn.body.isSome = true := by rfl)
    (hw : Region.wanted oi (yielded ops a.tmps) = true := by rfl) (hN : oi.dst = N := by rfl) (hop : oi.op = .call { callee := .value (.func f), args := as_, argTypes := ts } := by rfl) (hargs : as_.map a.eval = args := by ((try simp only [List.map_toArray, List.map_cons, List.map_nil]); first | done | rfl | (simp only [List.length_drop, List.length_take]; rfl))) : if Region.wanted oi (yielded ops a.tmps) = true then Oper.wp P oi a w K Q else K (a.put N undef) w :=
  goes_ hf hname hb args hw hN hop hargs h
end
end Go.Proofs.Ytdjonaajfhbfhaa.Q
