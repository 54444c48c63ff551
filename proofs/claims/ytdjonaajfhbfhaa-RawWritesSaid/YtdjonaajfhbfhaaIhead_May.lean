/- Whether a head may be. -/
import Derived.Test.YtdjonaajfhbfhaaQ0
import Derived.Below
import Derived.Deep.Draws
import Derived.Deep.AppendLies
import Derived.Maps.AppendAt
import Derived.OwnWalk
import Derived.Laws.BytesArg
import Derived.Laws.MakeOwn
import Derived.Laws.OwnMore
import Derived.Deep.OwnRows
import Derived.Tactics
import Derived.Lib.ConvBytes
import Derived.Laws.Slices
import Derived.WalkKit
import Derived.KernelRfl
import Derived.RowKit3
import Derived.Deep.LoopGhost
import Derived.Deep.QuietTactic
import Derived.BigQuiet
import Derived.WideLaws
import Derived.Deep.DeepCutAuto
import Derived.Deep.CutBlock
import Derived.Deep.RegionHeld3
import Derived.Laws.Rows
import Derived.Lib.AppendStr
import Derived.ArgAppend
import Derived.Laws.IdiomCopy
import Derived.OrdersHeld
import Derived.Laws.BitsLemmas
import Derived.RowKit
import Derived.Test.YtdjonaajfhbfhaaMore
import Derived.Test.YtdjonaajfhbfhaaPeel
import Derived.Test.YtdjonaajfhbfhaaRaw
import Derived.Scope
import Derived.Test.YtdjonaajfhbfhaaWWords
import Derived.Test.YtdjonaajfhbfhaaWLast
import Derived.Test.YtdjonaajfhbfhaaWTab
import Derived.Test.YtdjonaajfhbfhaaWQPut
import Derived.Test.YtdjonaajfhbfhaaWApart
import Derived.Test.YtdjonaajfhbfhaaWArr
import Derived.Test.YtdjonaajfhbfhaaWZeros
import Derived.Test.YtdjonaajfhbfhaaWFoot
import Derived.Test.YtdjonaajfhbfhaaWKept
import Derived.Test.YtdjonaajfhbfhaaWShare
import Derived.Test.YtdjonaajfhbfhaaWN
import Derived.Test.YtdjonaajfhbfhaaWFootNe
import Derived.Test.YtdjonaajfhbfhaaWAt
import Derived.Test.YtdjonaajfhbfhaaWGuard
import Derived.Test.YtdjonaajfhbfhaaWNEv
import Derived.Test.YtdjonaajfhbfhaaWMore
import Derived.Deep.RegionWith
import Derived.StillTailTactics
namespace Go.Proofs.Ytdjonaajfhbfhaa.Q
open Go.RowKit Go.Proofs.YtdjonaajfhbfhaaW.PrintWords Go.Proofs.YtdjonaajfhbfhaaW.PrintLast Go.Proofs.YtdjonaajfhbfhaaW.PrintMore
set_option linter.unusedVariables false
set_option linter.unusedSimpArgs false
set_option maxRecDepth 100000 in
set_option maxHeartbeats 1000000 in
theorem head_in.is (n m : Int) (r : Bool) (hr : r = decide (1 ≤ n ∧ n ≤ m)) (w : World) : Calls Try.prog 58 #[.int .i64 n, .int .i64 m] w fun e w' => e = .returned (.bool r) ∧ w' = w := by
  subst hr
  by_cases h1 : n ≥ 1
  · have e1 : decide (n ≥ 1) = true := decide_eq_true h1
    have e1' : decide (1 ≤ n) = true := decide_eq_true h1
    by_cases h2 : n ≤ m
    · have e2 : decide (n ≤ m) = true := decide_eq_true h2
      rw [decide_eq_true ⟨h1, h2⟩]
      clear h1 h2
      go_enter Try.func58, Try.ntmps58
      go_wp2
      go_ret
      exact ⟨rfl, rfl⟩
    · have e2 : decide (n ≤ m) = false := decide_eq_false h2
      rw [decide_eq_false (fun h => h2 h.2)]
      clear h1 h2
      go_enter Try.func58, Try.ntmps58
      go_wp2
      go_ret
      exact ⟨rfl, rfl⟩
  · have e1 : decide (n ≥ 1) = false := decide_eq_false h1
    have e1' : decide (1 ≤ n) = false := decide_eq_false h1
    rw [decide_eq_false (fun h => h1 h.1)]
    clear h1
    go_enter Try.func58, Try.ntmps58
    go_wp2
    go_ret
    exact ⟨rfl, rfl⟩
set_option linter.unusedVariables false
set_option linter.unusedSimpArgs false
theorem head_bits9.is (k a b d : Int) (r : Bool) (w : World) (hr : r = decide (k = 1 ∨ k = 4)) : Calls Try.prog 59 #[.agg #[.int .i64 k, .int .i64 a, .int .i64 b, .int .i64 d]] w fun e w' => e = .returned (.bool r) ∧ Below w.heap.size w w' := by
  subst hr
  have hu := Try.underlying34
  by_cases h1 : k = 1
  · have e1 : (k == 1) = true := beq_iff_eq.2 h1
    rw [decide_eq_true (.inl h1)]
    clear h1
    go_enter Try.func59, Try.ntmps59
    go_wp2_with ((with_reducible refine gate_dst (N := 1) rfl ?_); refine box_event ?hg (N := 1) ?hd (cs := #[.int .i64 k, .int .i64 a, .int .i64 b, .int .i64 d]) (t := 34) ?hr ?_; (case hd => rfl); (case hg => rfl); (case hr => first | (go_simp; done) | (go_simp; rfl)); intro gb1 hg w2 hbox hb; have HB1 := Aside0.mk hb; have BK1 := Aside0.mk hbox; clear hb hbox hg; have hcz0 : w2.cell? ⟨gb1, 0, none⟩ = some (.int .i64 k) := (blk_cell BK1.out 0).trans rfl)
    go_ret
    exact ⟨rfl, HB1.out⟩
  · have e1 : (k == 1) = false := beq_eq_false_iff_ne.2 h1
    by_cases h4 : k = 4
    · have e2 : (k == 4) = true := beq_iff_eq.2 h4
      rw [decide_eq_true (.inr h4)]
      clear h1 h4
      go_enter Try.func59, Try.ntmps59
      go_wp2_with ((with_reducible refine gate_dst (N := 1) rfl ?_); refine box_event ?hg (N := 1) ?hd (cs := #[.int .i64 k, .int .i64 a, .int .i64 b, .int .i64 d]) (t := 34) ?hr ?_; (case hd => rfl); (case hg => rfl); (case hr => first | (go_simp; done) | (go_simp; rfl)); intro gb1 hg w2 hbox hb; have HB1 := Aside0.mk hb; have BK1 := Aside0.mk hbox; clear hb hbox hg; have hcz0 : w2.cell? ⟨gb1, 0, none⟩ = some (.int .i64 k) := (blk_cell BK1.out 0).trans rfl)
      go_ret
      exact ⟨rfl, HB1.out⟩
    · have e2 : (k == 4) = false := beq_eq_false_iff_ne.2 h4
      rw [decide_eq_false (fun h => h.elim h1 h4)]
      clear h1 h4
      go_enter Try.func59, Try.ntmps59
      go_wp2_with ((with_reducible refine gate_dst (N := 1) rfl ?_); refine box_event ?hg (N := 1) ?hd (cs := #[.int .i64 k, .int .i64 a, .int .i64 b, .int .i64 d]) (t := 34) ?hr ?_; (case hd => rfl); (case hg => rfl); (case hr => first | (go_simp; done) | (go_simp; rfl)); intro gb1 hg w2 hbox hb; have HB1 := Aside0.mk hb; have BK1 := Aside0.mk hbox; clear hb hbox hg; have hcz0 : w2.cell? ⟨gb1, 0, none⟩ = some (.int .i64 k) := (blk_cell BK1.out 0).trans rfl)
      go_ret
      exact ⟨rfl, HB1.out⟩
def head_May.f (a0_0 a0_1 a0_2 a0_3 : Int) : Option Bool := some (decide ((1 ≤ a0_0 ∧ a0_0 ≤ 6) ∧ (1 ≤ a0_1 ∧ a0_1 ≤ 4096) ∧ (1 ≤ a0_2 ∧ a0_2 ≤ 65536) ∧ (1 ≤ a0_3 ∧ a0_3 ≤ 65535) ∧ (¬ (a0_0 = 1 ∨ a0_0 = 4) ∨ a0_3 = 1)))
set_option maxRecDepth 100000 in
set_option maxHeartbeats 4000000 in
theorem head_May.calls (a0_0 a0_1 a0_2 a0_3 : Int) (r : Bool) (w : World) (h : head_May.f a0_0 a0_1 a0_2 a0_3 = some r) :
    Calls Try.prog 43 #[.agg #[.int .i64 a0_0, .int .i64 a0_1, .int .i64 a0_2, .int .i64 a0_3]] w fun e w' => e = .returned (.bool r) ∧ Below w.heap.size w w' := by
  obtain rfl := Option.some.inj h
  clear h
  have hu2 := Try.underlying34
  by_cases c0 : 1 ≤ a0_0 ∧ a0_0 ≤ 6
  · have H0 : Aside0 (true = decide (1 ≤ a0_0 ∧ a0_0 ≤ 6)) := ⟨(decide_eq_true c0).symm⟩
    by_cases c1 : 1 ≤ a0_1 ∧ a0_1 ≤ 4096
    · have H1 : Aside0 (true = decide (1 ≤ a0_1 ∧ a0_1 ≤ 4096)) := ⟨(decide_eq_true c1).symm⟩
      by_cases c2 : 1 ≤ a0_2 ∧ a0_2 ≤ 65536
      · have H2 : Aside0 (true = decide (1 ≤ a0_2 ∧ a0_2 ≤ 65536)) := ⟨(decide_eq_true c2).symm⟩
        by_cases c3 : 1 ≤ a0_3 ∧ a0_3 ≤ 65535
        · have H3 : Aside0 (true = decide (1 ≤ a0_3 ∧ a0_3 ≤ 65535)) := ⟨(decide_eq_true c3).symm⟩
          by_cases k : a0_0 = 1 ∨ a0_0 = 4
          · have HK : Aside0 (true = decide (a0_0 = 1 ∨ a0_0 = 4)) := ⟨(decide_eq_true k).symm⟩
            by_cases m1 : a0_3 = 1
            · have em : (a0_3 == 1) = true := beq_iff_eq.2 m1
              rw [decide_eq_true ⟨c0, c1, c2, c3, .inr m1⟩]
              clear c0 c1 c2 c3 k m1
              go_enter Try.func43, Try.ntmps43
              go_wp2_with (first | ((with_reducible refine gate_dst (N := 1) rfl ?_); refine box_event ?hg (N := 1) ?hd (cs := #[.int .i64 a0_0, .int .i64 a0_1, .int .i64 a0_2, .int .i64 a0_3]) (t := 34) ?hr ?_; (case hd => rfl); (case hg => rfl); (case hr => first | (go_simp; done) | (go_simp; rfl)); intro gb1 hg w2 hbox hb; have HB1 := Aside0.mk hb; have BK1 := Aside0.mk hbox; clear hb hbox hg; have hcb_0 : w2.cell? ⟨gb1, 0, none⟩ = some (.int .i64 a0_0) := (blk_cell BK1.out 0).trans rfl; have hfb_0 := blk_frozen BK1.out 0; have hcb_1 : w2.cell? ⟨gb1, 1, none⟩ = some (.int .i64 a0_1) := (blk_cell BK1.out 1).trans rfl; have hfb_1 := blk_frozen BK1.out 1; have hcb_2 : w2.cell? ⟨gb1, 2, none⟩ = some (.int .i64 a0_2) := (blk_cell BK1.out 2).trans rfl; have hfb_2 := blk_frozen BK1.out 2; have hcb_3 : w2.cell? ⟨gb1, 3, none⟩ = some (.int .i64 a0_3) := (blk_cell BK1.out 3).trans rfl; have hfb_3 := blk_frozen BK1.out 3) | (go_at_call 58; (first | (with_reducible refine (head_in.is a0_0 6 _ H0.out _).mono ?_) | (with_reducible refine (head_in.is a0_1 4096 _ H1.out _).mono ?_) | (with_reducible refine (head_in.is a0_2 65536 _ H2.out _).mono ?_) | (with_reducible refine (head_in.is a0_3 65535 _ H3.out _).mono ?_)); rintro e w3 ⟨rfl, rfl⟩) | (go_at_call 59; refine (head_bits9.is _ _ _ _ true _ HK.out).mono ?_; rintro e w8 ⟨rfl, hb8⟩; have HB8 := Aside0.mk (below_step HB1.out hb8); have hk8 := blk_below BK1.out hb8; have hc8 : w8.cell? ⟨gb1, 3, none⟩ = some (.int .i64 a0_3) := (blk_cell hk8 3).trans rfl; have hf8 := blk_frozen hk8 3; clear hb8 hk8))
              go_ret
              exact ⟨rfl, HB8.out⟩
            · have em : (a0_3 == 1) = false := beq_eq_false_iff_ne.2 m1
              rw [decide_eq_false (fun h => h.2.2.2.2.elim (fun z => z k) m1)]
              clear c0 c1 c2 c3 k m1
              go_enter Try.func43, Try.ntmps43
              go_wp2_with (first | ((with_reducible refine gate_dst (N := 1) rfl ?_); refine box_event ?hg (N := 1) ?hd (cs := #[.int .i64 a0_0, .int .i64 a0_1, .int .i64 a0_2, .int .i64 a0_3]) (t := 34) ?hr ?_; (case hd => rfl); (case hg => rfl); (case hr => first | (go_simp; done) | (go_simp; rfl)); intro gb1 hg w2 hbox hb; have HB1 := Aside0.mk hb; have BK1 := Aside0.mk hbox; clear hb hbox hg; have hcb_0 : w2.cell? ⟨gb1, 0, none⟩ = some (.int .i64 a0_0) := (blk_cell BK1.out 0).trans rfl; have hfb_0 := blk_frozen BK1.out 0; have hcb_1 : w2.cell? ⟨gb1, 1, none⟩ = some (.int .i64 a0_1) := (blk_cell BK1.out 1).trans rfl; have hfb_1 := blk_frozen BK1.out 1; have hcb_2 : w2.cell? ⟨gb1, 2, none⟩ = some (.int .i64 a0_2) := (blk_cell BK1.out 2).trans rfl; have hfb_2 := blk_frozen BK1.out 2; have hcb_3 : w2.cell? ⟨gb1, 3, none⟩ = some (.int .i64 a0_3) := (blk_cell BK1.out 3).trans rfl; have hfb_3 := blk_frozen BK1.out 3) | (go_at_call 58; (first | (with_reducible refine (head_in.is a0_0 6 _ H0.out _).mono ?_) | (with_reducible refine (head_in.is a0_1 4096 _ H1.out _).mono ?_) | (with_reducible refine (head_in.is a0_2 65536 _ H2.out _).mono ?_) | (with_reducible refine (head_in.is a0_3 65535 _ H3.out _).mono ?_)); rintro e w3 ⟨rfl, rfl⟩) | (go_at_call 59; refine (head_bits9.is _ _ _ _ true _ HK.out).mono ?_; rintro e w8 ⟨rfl, hb8⟩; have HB8 := Aside0.mk (below_step HB1.out hb8); have hk8 := blk_below BK1.out hb8; have hc8 : w8.cell? ⟨gb1, 3, none⟩ = some (.int .i64 a0_3) := (blk_cell hk8 3).trans rfl; have hf8 := blk_frozen hk8 3; clear hb8 hk8))
              go_ret
              exact ⟨rfl, HB8.out⟩
          · have HK : Aside0 (false = decide (a0_0 = 1 ∨ a0_0 = 4)) := ⟨(decide_eq_false k).symm⟩
            rw [decide_eq_true ⟨c0, c1, c2, c3, .inl k⟩]
            clear c0 c1 c2 c3 k
            go_enter Try.func43, Try.ntmps43
            go_wp2_with (first | ((with_reducible refine gate_dst (N := 1) rfl ?_); refine box_event ?hg (N := 1) ?hd (cs := #[.int .i64 a0_0, .int .i64 a0_1, .int .i64 a0_2, .int .i64 a0_3]) (t := 34) ?hr ?_; (case hd => rfl); (case hg => rfl); (case hr => first | (go_simp; done) | (go_simp; rfl)); intro gb1 hg w2 hbox hb; have HB1 := Aside0.mk hb; have BK1 := Aside0.mk hbox; clear hb hbox hg; have hcb_0 : w2.cell? ⟨gb1, 0, none⟩ = some (.int .i64 a0_0) := (blk_cell BK1.out 0).trans rfl; have hfb_0 := blk_frozen BK1.out 0; have hcb_1 : w2.cell? ⟨gb1, 1, none⟩ = some (.int .i64 a0_1) := (blk_cell BK1.out 1).trans rfl; have hfb_1 := blk_frozen BK1.out 1; have hcb_2 : w2.cell? ⟨gb1, 2, none⟩ = some (.int .i64 a0_2) := (blk_cell BK1.out 2).trans rfl; have hfb_2 := blk_frozen BK1.out 2; have hcb_3 : w2.cell? ⟨gb1, 3, none⟩ = some (.int .i64 a0_3) := (blk_cell BK1.out 3).trans rfl; have hfb_3 := blk_frozen BK1.out 3) | (go_at_call 58; (first | (with_reducible refine (head_in.is a0_0 6 _ H0.out _).mono ?_) | (with_reducible refine (head_in.is a0_1 4096 _ H1.out _).mono ?_) | (with_reducible refine (head_in.is a0_2 65536 _ H2.out _).mono ?_) | (with_reducible refine (head_in.is a0_3 65535 _ H3.out _).mono ?_)); rintro e w3 ⟨rfl, rfl⟩) | (go_at_call 59; refine (head_bits9.is _ _ _ _ false _ HK.out).mono ?_; rintro e w8 ⟨rfl, hb8⟩; have HB8 := Aside0.mk (below_step HB1.out hb8); have hk8 := blk_below BK1.out hb8; have hc8 : w8.cell? ⟨gb1, 3, none⟩ = some (.int .i64 a0_3) := (blk_cell hk8 3).trans rfl; have hf8 := blk_frozen hk8 3; clear hb8 hk8))
            go_ret
            exact ⟨rfl, HB8.out⟩
        · have H3 : Aside0 (false = decide (1 ≤ a0_3 ∧ a0_3 ≤ 65535)) := ⟨(decide_eq_false c3).symm⟩
          rw [decide_eq_false (fun h => c3 h.2.2.2.1)]
          clear c0 c1 c2 c3
          go_enter Try.func43, Try.ntmps43
          go_wp2_with (first | ((with_reducible refine gate_dst (N := 1) rfl ?_); refine box_event ?hg (N := 1) ?hd (cs := #[.int .i64 a0_0, .int .i64 a0_1, .int .i64 a0_2, .int .i64 a0_3]) (t := 34) ?hr ?_; (case hd => rfl); (case hg => rfl); (case hr => first | (go_simp; done) | (go_simp; rfl)); intro gb1 hg w2 hbox hb; have HB1 := Aside0.mk hb; have BK1 := Aside0.mk hbox; clear hb hbox hg; have hcb_0 : w2.cell? ⟨gb1, 0, none⟩ = some (.int .i64 a0_0) := (blk_cell BK1.out 0).trans rfl; have hfb_0 := blk_frozen BK1.out 0; have hcb_1 : w2.cell? ⟨gb1, 1, none⟩ = some (.int .i64 a0_1) := (blk_cell BK1.out 1).trans rfl; have hfb_1 := blk_frozen BK1.out 1; have hcb_2 : w2.cell? ⟨gb1, 2, none⟩ = some (.int .i64 a0_2) := (blk_cell BK1.out 2).trans rfl; have hfb_2 := blk_frozen BK1.out 2; have hcb_3 : w2.cell? ⟨gb1, 3, none⟩ = some (.int .i64 a0_3) := (blk_cell BK1.out 3).trans rfl; have hfb_3 := blk_frozen BK1.out 3) | (go_at_call 58; (first | (with_reducible refine (head_in.is a0_0 6 _ H0.out _).mono ?_) | (with_reducible refine (head_in.is a0_1 4096 _ H1.out _).mono ?_) | (with_reducible refine (head_in.is a0_2 65536 _ H2.out _).mono ?_) | (with_reducible refine (head_in.is a0_3 65535 _ H3.out _).mono ?_)); rintro e w3 ⟨rfl, rfl⟩))
          go_ret
          exact ⟨rfl, HB1.out⟩
      · have H2 : Aside0 (false = decide (1 ≤ a0_2 ∧ a0_2 ≤ 65536)) := ⟨(decide_eq_false c2).symm⟩
        rw [decide_eq_false (fun h => c2 h.2.2.1)]
        clear c0 c1 c2
        go_enter Try.func43, Try.ntmps43
        go_wp2_with (first | ((with_reducible refine gate_dst (N := 1) rfl ?_); refine box_event ?hg (N := 1) ?hd (cs := #[.int .i64 a0_0, .int .i64 a0_1, .int .i64 a0_2, .int .i64 a0_3]) (t := 34) ?hr ?_; (case hd => rfl); (case hg => rfl); (case hr => first | (go_simp; done) | (go_simp; rfl)); intro gb1 hg w2 hbox hb; have HB1 := Aside0.mk hb; have BK1 := Aside0.mk hbox; clear hb hbox hg; have hcb_0 : w2.cell? ⟨gb1, 0, none⟩ = some (.int .i64 a0_0) := (blk_cell BK1.out 0).trans rfl; have hfb_0 := blk_frozen BK1.out 0; have hcb_1 : w2.cell? ⟨gb1, 1, none⟩ = some (.int .i64 a0_1) := (blk_cell BK1.out 1).trans rfl; have hfb_1 := blk_frozen BK1.out 1; have hcb_2 : w2.cell? ⟨gb1, 2, none⟩ = some (.int .i64 a0_2) := (blk_cell BK1.out 2).trans rfl; have hfb_2 := blk_frozen BK1.out 2; have hcb_3 : w2.cell? ⟨gb1, 3, none⟩ = some (.int .i64 a0_3) := (blk_cell BK1.out 3).trans rfl; have hfb_3 := blk_frozen BK1.out 3) | (go_at_call 58; (first | (with_reducible refine (head_in.is a0_0 6 _ H0.out _).mono ?_) | (with_reducible refine (head_in.is a0_1 4096 _ H1.out _).mono ?_) | (with_reducible refine (head_in.is a0_2 65536 _ H2.out _).mono ?_)); rintro e w3 ⟨rfl, rfl⟩))
        go_ret
        exact ⟨rfl, HB1.out⟩
    · have H1 : Aside0 (false = decide (1 ≤ a0_1 ∧ a0_1 ≤ 4096)) := ⟨(decide_eq_false c1).symm⟩
      rw [decide_eq_false (fun h => c1 h.2.1)]
      clear c0 c1
      go_enter Try.func43, Try.ntmps43
      go_wp2_with (first | ((with_reducible refine gate_dst (N := 1) rfl ?_); refine box_event ?hg (N := 1) ?hd (cs := #[.int .i64 a0_0, .int .i64 a0_1, .int .i64 a0_2, .int .i64 a0_3]) (t := 34) ?hr ?_; (case hd => rfl); (case hg => rfl); (case hr => first | (go_simp; done) | (go_simp; rfl)); intro gb1 hg w2 hbox hb; have HB1 := Aside0.mk hb; have BK1 := Aside0.mk hbox; clear hb hbox hg; have hcb_0 : w2.cell? ⟨gb1, 0, none⟩ = some (.int .i64 a0_0) := (blk_cell BK1.out 0).trans rfl; have hfb_0 := blk_frozen BK1.out 0; have hcb_1 : w2.cell? ⟨gb1, 1, none⟩ = some (.int .i64 a0_1) := (blk_cell BK1.out 1).trans rfl; have hfb_1 := blk_frozen BK1.out 1; have hcb_2 : w2.cell? ⟨gb1, 2, none⟩ = some (.int .i64 a0_2) := (blk_cell BK1.out 2).trans rfl; have hfb_2 := blk_frozen BK1.out 2; have hcb_3 : w2.cell? ⟨gb1, 3, none⟩ = some (.int .i64 a0_3) := (blk_cell BK1.out 3).trans rfl; have hfb_3 := blk_frozen BK1.out 3) | (go_at_call 58; (first | (with_reducible refine (head_in.is a0_0 6 _ H0.out _).mono ?_) | (with_reducible refine (head_in.is a0_1 4096 _ H1.out _).mono ?_)); rintro e w3 ⟨rfl, rfl⟩))
      go_ret
      exact ⟨rfl, HB1.out⟩
  · have H0 : Aside0 (false = decide (1 ≤ a0_0 ∧ a0_0 ≤ 6)) := ⟨(decide_eq_false c0).symm⟩
    rw [decide_eq_false (fun h => c0 h.1)]
    clear c0
    go_enter Try.func43, Try.ntmps43
    go_wp2_with (first | ((with_reducible refine gate_dst (N := 1) rfl ?_); refine box_event ?hg (N := 1) ?hd (cs := #[.int .i64 a0_0, .int .i64 a0_1, .int .i64 a0_2, .int .i64 a0_3]) (t := 34) ?hr ?_; (case hd => rfl); (case hg => rfl); (case hr => first | (go_simp; done) | (go_simp; rfl)); intro gb1 hg w2 hbox hb; have HB1 := Aside0.mk hb; have BK1 := Aside0.mk hbox; clear hb hbox hg; have hcb_0 : w2.cell? ⟨gb1, 0, none⟩ = some (.int .i64 a0_0) := (blk_cell BK1.out 0).trans rfl; have hfb_0 := blk_frozen BK1.out 0; have hcb_1 : w2.cell? ⟨gb1, 1, none⟩ = some (.int .i64 a0_1) := (blk_cell BK1.out 1).trans rfl; have hfb_1 := blk_frozen BK1.out 1; have hcb_2 : w2.cell? ⟨gb1, 2, none⟩ = some (.int .i64 a0_2) := (blk_cell BK1.out 2).trans rfl; have hfb_2 := blk_frozen BK1.out 2; have hcb_3 : w2.cell? ⟨gb1, 3, none⟩ = some (.int .i64 a0_3) := (blk_cell BK1.out 3).trans rfl; have hfb_3 := blk_frozen BK1.out 3) | (go_at_call 58; (first | (with_reducible refine (head_in.is a0_0 6 _ H0.out _).mono ?_)); rintro e w3 ⟨rfl, rfl⟩))
    go_ret
    exact ⟨rfl, HB1.out⟩
end Go.Proofs.Ytdjonaajfhbfhaa.Q
