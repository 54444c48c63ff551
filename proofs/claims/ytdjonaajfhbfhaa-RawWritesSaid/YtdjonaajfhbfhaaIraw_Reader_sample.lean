/- A raster's reader: a sample of the row that is told. -/
import Derived.Test.YtdjonaajfhbfhaaQ0
import Derived.Test.YtdjonaajfhbfhaaQ4
import Derived.Below
import Derived.Deep.Draws
import Derived.Deep.AppendLies
import Derived.Maps.AppendAt
import Derived.OwnWalk
import Derived.Laws.BytesArg
import Derived.Laws.MakeOwn
import Derived.Laws.OwnMore
import Derived.Deep.OwnRows
import Derived.Tactics
import Derived.Lib.ConvBytes
import Derived.Laws.Slices
import Derived.WalkKit
import Derived.KernelRfl
import Derived.RowKit3
import Derived.Deep.LoopGhost
import Derived.Deep.QuietTactic
import Derived.BigQuiet
import Derived.WideLaws
import Derived.Deep.DeepCutAuto
import Derived.Deep.CutBlock
import Derived.Deep.RegionHeld3
import Derived.Laws.Rows
import Derived.Lib.AppendStr
import Derived.ArgAppend
import Derived.Laws.IdiomCopy
import Derived.OrdersHeld
import Derived.Laws.BitsLemmas
import Derived.RowKit
import Derived.Test.YtdjonaajfhbfhaaMore
import Derived.Test.YtdjonaajfhbfhaaPeel
import Derived.Test.YtdjonaajfhbfhaaRaw
import Derived.Scope
import Derived.Test.YtdjonaajfhbfhaaWWords
import Derived.Test.YtdjonaajfhbfhaaWLast
import Derived.Test.YtdjonaajfhbfhaaWTab
import Derived.Test.YtdjonaajfhbfhaaWQPut
import Derived.Test.YtdjonaajfhbfhaaWApart
import Derived.Test.YtdjonaajfhbfhaaWArr
import Derived.Test.YtdjonaajfhbfhaaWZeros
import Derived.Test.YtdjonaajfhbfhaaWFoot
import Derived.Test.YtdjonaajfhbfhaaWKept
import Derived.Test.YtdjonaajfhbfhaaWShare
import Derived.Test.YtdjonaajfhbfhaaWN
import Derived.Test.YtdjonaajfhbfhaaWFootNe
import Derived.Test.YtdjonaajfhbfhaaWAt
import Derived.Test.YtdjonaajfhbfhaaWGuard
import Derived.Test.YtdjonaajfhbfhaaWNEv
import Derived.Test.YtdjonaajfhbfhaaWMore
import Derived.Laws.BitsLemmas
namespace Go.Proofs.Ytdjonaajfhbfhaa.Q
open Go.RowKit Go.Proofs.YtdjonaajfhbfhaaW.PrintWords Go.Proofs.YtdjonaajfhbfhaaW.PrintLast Go.Proofs.YtdjonaajfhbfhaaW.PrintMore
set_option linter.unusedVariables false
set_option linter.unusedSimpArgs false
theorem raw_byte {b : List Int} {A : Option Addr} {w : World} (hr : Kd.C (Kd.int .u8) w A b.length b) (i : Nat) (hi : i < b.length) : ∃ ad, A = some ad ∧ w.cell? (ad.add i) = some (.int .u8 (b.getD i 0)) := by
  obtain ⟨ad, h1, h2⟩ := Kd.at_int hr (i : Int) (by omega) (by omega)
  refine ⟨ad, h1, ?_⟩
  rw [Int.toNat_natCast] at h2
  rw [h2]
  unfold rd
  rw [Int.toNat_natCast]
set_option maxRecDepth 100000 in
set_option maxHeartbeats 4000000 in
theorem raw_sample.narrow (g : Nat) (h0 h1 h2 h3 : Int) (A : Option Addr) (c : Nat) (b : List Int) (n rows last e : Int) (i : Nat) (w : World) (hb : w.heap[g]? = some (rawObj h0 h1 h2 h3 A b.length c n rows last e)) (hr : Kd.C (Kd.int .u8) w A b.length b) (hl : b.length ≤ 1000000) (h : h3 ≤ 255) (hi : i < b.length) (hx : 0 ≤ b.getD i 0 ∧ b.getD i 0 ≤ 255) :
    Calls Try.prog 45 #[.pointer (some ⟨g, 0, none⟩), .int .i64 (i : Int)] w fun e_ w' => e_ = .returned (.int .i64 (b.getD i 0)) ∧ Below w.heap.size w w' := by
  have hW : raw_wide.f h0 h1 h2 h3 = some 1 := by unfold raw_wide.f; rw [if_neg (by omega)]
  have HW := Aside0.mk hW
  have hu := Try.underlying71
  have hu2 := Try.underlying34
  unfold rawObj at hb
  obtain ⟨ad, rfl, hx1⟩ := raw_byte hr i hi
  have BK := Aside0.mk hb
  have HX := Aside0.mk hx1
  have hd : decide ((i : Int) < (b.length : Int)) = true := decide_eq_true (by omega)
  have hcz_0 := bc_ (v := .int .i64 h0) hb 0
  have hcz_1 := bc_ (v := .int .i64 h1) hb 1
  have hcz_2 := bc_ (v := .int .i64 h2) hb 2
  have hcz_3 := bc_ (v := .int .i64 h3) hb 3
  have hcz_4 := bc_ (v := .slice (some ad) b.length c) hb 4
  clear hb hr hW hx1
  generalize b.getD i 0 = x at *
  go_enter Try.func45, Try.ntmps45
  go_wp2_with (go_at_call 38; refine (raw_wide.calls h0 h1 h2 h3 1 _ HW.out).mono ?_; rintro e w2 ⟨rfl, hb⟩; have BK2 := Aside0.mk (blk_below BK.out hb); have hc2_4 := bc_ (v := .slice (some ad) b.length c) BK2.out 4; have hx2 := sc_ hb HX.out; have HB2 := Aside0.mk hb; clear hb)
  go_ret
  exact ⟨rfl, HB2.out⟩
theorem raw_wraps (n : Int) (h0 : 0 ≤ n) (h1 : n < 2 ^ 63) : IntKind.i64.wrap n = n := IntWalk.i64_in n ⟨by omega, by omega⟩
theorem raw_or (x y : Int) (hx : 0 ≤ x ∧ x ≤ 255) (hy : 0 ≤ y ∧ y ≤ 255) : Go.bits .or .i64 (x * 256) y = x * 256 + y := by
  rw [bits_join .i64 63 (by decide) raw_wraps 8 (x * 256) y (by omega) (by omega) (by omega) hy.1 (by omega) (by omega)]
set_option maxRecDepth 100000 in
set_option maxHeartbeats 4000000 in
theorem raw_sample.wide (g : Nat) (h0 h1 h2 h3 : Int) (A : Option Addr) (c : Nat) (b : List Int) (n rows last e : Int) (i : Nat) (w : World) (hb : w.heap[g]? = some (rawObj h0 h1 h2 h3 A b.length c n rows last e)) (hr : Kd.C (Kd.int .u8) w A b.length b) (hl : b.length ≤ 1000000) (h : ¬ h3 ≤ 255) (hi : 2 * i + 1 < b.length) (hx : 0 ≤ b.getD (2 * i) 0 ∧ b.getD (2 * i) 0 ≤ 255) (hy : 0 ≤ b.getD (2 * i + 1) 0 ∧ b.getD (2 * i + 1) 0 ≤ 255) :
    Calls Try.prog 45 #[.pointer (some ⟨g, 0, none⟩), .int .i64 (i : Int)] w fun e_ w' => e_ = .returned (.int .i64 (b.getD (2 * i) 0 * 256 + b.getD (2 * i + 1) 0)) ∧ Below w.heap.size w w' := by
  have hW : raw_wide.f h0 h1 h2 h3 = some 2 := by unfold raw_wide.f; rw [if_pos (by omega)]
  have HW := Aside0.mk hW
  have hu := Try.underlying71
  have hu2 := Try.underlying34
  unfold rawObj at hb
  obtain ⟨ad, rfl, hx1⟩ := raw_byte hr (2 * i) (by omega)
  obtain ⟨ad', e1, hy1⟩ := raw_byte hr (2 * i + 1) (by omega)
  obtain rfl := Option.some.inj e1
  have BK := Aside0.mk hb
  have HX := Aside0.mk hx1
  have HY := Aside0.mk hy1
  obtain ⟨p, hp⟩ : ∃ p, p = 2 * i := ⟨_, rfl⟩
  obtain ⟨q, hq⟩ : ∃ q, q = 2 * i + 1 := ⟨_, rfl⟩
  have w1 : IntKind.i64.wrap (2 * (i : Int)) = (p : Int) := (i64_w _).trans (by unfold wrap64; omega)
  have w2 : IntKind.i64.wrap ((p : Int) + 1) = (q : Int) := (i64_w _).trans (by unfold wrap64; omega)
  have hd : decide ((p : Int) < (b.length : Int)) = true := decide_eq_true (by omega)
  have hd2 : decide ((q : Int) < (b.length : Int)) = true := decide_eq_true (by omega)
  have hpl : p < b.length := by omega
  have hql : q < b.length := by omega
  rw [← hp] at HX hx
  rw [← hq] at HY hy
  rw [← hq, ← hp]
  clear hp hq
  have hcz_0 := bc_ (v := .int .i64 h0) hb 0
  have hcz_1 := bc_ (v := .int .i64 h1) hb 1
  have hcz_2 := bc_ (v := .int .i64 h2) hb 2
  have hcz_3 := bc_ (v := .int .i64 h3) hb 3
  have hcz_4 := bc_ (v := .slice (some ad) b.length c) hb 4
  clear hb hr hW hx1 hy1
  generalize b.getD p 0 = x at *
  generalize b.getD q 0 = y at *
  go_enter Try.func45, Try.ntmps45
  go_wp2_with (go_at_call 38; refine (raw_wide.calls h0 h1 h2 h3 2 _ HW.out).mono ?_; rintro e w2 ⟨rfl, hb⟩; have BK2 := Aside0.mk (blk_below BK.out hb); have hc2_4 := bc_ (v := .slice (some ad) b.length c) BK2.out 4; have hx2 := sc_ hb HX.out; have hy2 := sc_ hb HY.out; have HB2 := Aside0.mk hb; clear hb)
  repeat (go_quiet (first | (go_at_call 38; refine (raw_wide.calls h0 h1 h2 h3 2 _ HW.out).mono ?_; rintro e w2 ⟨rfl, hb⟩)))
  rw [raw_or x y hx hy]
  go_wp2
  go_ret
  exact ⟨rfl, pw_below_drewN HB2.out _⟩
end Go.Proofs.Ytdjonaajfhbfhaa.Q
