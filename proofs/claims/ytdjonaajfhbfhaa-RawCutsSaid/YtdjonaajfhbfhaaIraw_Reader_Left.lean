/- How many bytes a raster's reader must be told still. -/
import Derived.Test.YtdjonaajfhbfhaaQ0
import Derived.Below
import Derived.Deep.Draws
import Derived.Deep.AppendLies
import Derived.Maps.AppendAt
import Derived.OwnWalk
import Derived.Laws.BytesArg
import Derived.Laws.MakeOwn
import Derived.Laws.OwnMore
import Derived.Deep.OwnRows
import Derived.Tactics
import Derived.Lib.ConvBytes
import Derived.Laws.Slices
import Derived.WalkKit
import Derived.KernelRfl
import Derived.RowKit3
import Derived.Deep.LoopGhost
import Derived.Deep.QuietTactic
import Derived.BigQuiet
import Derived.WideLaws
import Derived.Deep.DeepCutAuto
import Derived.Deep.CutBlock
import Derived.Deep.RegionHeld3
import Derived.Laws.Rows
import Derived.Lib.AppendStr
import Derived.ArgAppend
import Derived.Laws.IdiomCopy
import Derived.OrdersHeld
import Derived.Laws.BitsLemmas
import Derived.RowKit
import Derived.Test.YtdjonaajfhbfhaaMore
import Derived.Test.YtdjonaajfhbfhaaPeel
import Derived.Test.YtdjonaajfhbfhaaRaw
import Derived.Scope
import Derived.Test.YtdjonaajfhbfhaaWWords
import Derived.Test.YtdjonaajfhbfhaaWLast
import Derived.Test.YtdjonaajfhbfhaaWTab
import Derived.Test.YtdjonaajfhbfhaaWFour
import Derived.Test.YtdjonaajfhbfhaaWQPut
import Derived.Test.YtdjonaajfhbfhaaWApart
import Derived.Test.YtdjonaajfhbfhaaWArr
import Derived.Test.YtdjonaajfhbfhaaWZeros
import Derived.Test.YtdjonaajfhbfhaaWFoot
import Derived.Test.YtdjonaajfhbfhaaWKept
import Derived.Test.YtdjonaajfhbfhaaWShare
import Derived.Test.YtdjonaajfhbfhaaWN
import Derived.Test.YtdjonaajfhbfhaaWFootNe
import Derived.Test.YtdjonaajfhbfhaaWAt
import Derived.Test.YtdjonaajfhbfhaaWEqStruct
import Derived.Test.YtdjonaajfhbfhaaWRepsOne
import Derived.Test.YtdjonaajfhbfhaaWInv
import Derived.Test.YtdjonaajfhbfhaaWInvWords
import Derived.Test.YtdjonaajfhbfhaaWGuard
import Derived.Test.YtdjonaajfhbfhaaWNEv
import Derived.Test.YtdjonaajfhbfhaaWMore
import Derived.BigQuiet
import Derived.Deep.QuietTactic
namespace Go.Proofs.Ytdjonaajfhbfhaa.Q
open Go.RowKit Go.Proofs.YtdjonaajfhbfhaaW.PrintWords Go.Proofs.YtdjonaajfhbfhaaW.PrintLast Go.Proofs.YtdjonaajfhbfhaaW.PrintMore
set_option linter.unusedVariables false
set_option linter.unusedSimpArgs false
def raw_Reader_Left.f (f0 f1 f2 f3 f4 f5 f6 f7 f8 : Int) : Option (Int × Int × Int × Int × Int × Int × Int × Int × Int × Int) := some ((if f7 = 0 then (f2 - f6) * (rawS f0 f1 f3 : Nat) - f5 else 0), f0, f1, f2, f3, f4, f5, f6, f7, f8)
set_option maxRecDepth 100000 in
set_option maxHeartbeats 4000000 in
theorem raw_Reader_Left.calls (g : Nat) (f0 f1 f2 f3 f4 f5 f6 f7 f8 : Int) (r1 r2 r3 r4 r5 r6 r7 r8 r9 r10 : Int) (w0 w : World) (hI : IsS71 w0 w g f0 f1 f2 f3 f4 f5 f6 f7 f8) (hB : Below w0.heap.size w0 w) (h : raw_Reader_Left.f f0 f1 f2 f3 f4 f5 f6 f7 f8 = some (r1, r2, r3, r4, r5, r6, r7, r8, r9, r10)) :
    Calls Try.prog 20 #[.pointer (some ⟨g, 0, none⟩)] w fun e w' => e = .returned (.int .i64 r1) ∧ IsS71 w0 w' g r2 r3 r4 r5 r6 r7 r8 r9 r10 ∧ Below w0.heap.size w0 w' ∧ KeepBut w w' g (some (g - 1)) := by
  have hv := Option.some.inj h
  simp only [Prod.mk.injEq] at hv
  obtain ⟨hv, rfl, rfl, rfl, rfl, rfl, rfl, rfl, rfl, rfl⟩ := hv
  have HV := Aside0.mk hv
  have HI := Aside0.mk hI
  have HB := Aside0.mk hB
  have hu := Try.underlying71
  have hu2 := Try.underlying34
  obtain ⟨gb, b, rfl, hobj, hg, hrw, ok⟩ := hI
  have OK := Aside0.mk ok
  have hc2 : w.cell? ⟨gb + 1, 2, none⟩ = some (.int .i64 f2) := blk_cell hobj 2
  have hc4 : w.cell? ⟨gb + 1, 4, none⟩ = some (.slice (some ⟨gb, 0, none⟩) b.length b.length) := blk_cell hobj 4
  have hc5 : w.cell? ⟨gb + 1, 5, none⟩ = some (.int .i64 f5) := blk_cell hobj 5
  have hc6 : w.cell? ⟨gb + 1, 6, none⟩ = some (.int .i64 f6) := blk_cell hobj 6
  have hc7 : w.cell? ⟨gb + 1, 7, none⟩ = some (.int .i64 f7) := blk_cell hobj 7
  clear hobj hg hrw ok hB h
  by_cases hl : f7 = 0
  · have e0 : (f7 == 0) = true := beq_iff_eq.2 hl
    have e1 : (f7 != 0) = false := bne_eq_false_iff_eq.2 hl
    rw [if_pos hl] at hv
    have hmay := rawMay_is OK.out.may
    have hsb := rawS_bound OK.out.may
    have hr0 := OK.out.r0
    have hr1 := OK.out.r1
    have hn0 := OK.out.n0
    have hn1 := OK.out.n1
    have hlen := OK.out.len
    rw [← hlen] at hv hsb
    have hp0 : 0 ≤ (f2 - f6) * (b.length : Int) := Int.mul_nonneg (by omega) (by omega)
    have hp1 : (f2 - f6) * (b.length : Int) ≤ 65536 * 24576 := Int.mul_le_mul (by omega) (by omega) (by omega) (by omega)
    obtain ⟨d, hd⟩ : ∃ d, d = f2 - f6 := ⟨_, rfl⟩
    have h1 : wrap64 (f2 - f6) = d := by rw [hd]; unfold wrap64; omega
    rw [← hd] at hp0 hp1 hv
    obtain ⟨p, hp⟩ : ∃ p, p = d * (b.length : Int) := ⟨_, rfl⟩
    rw [← hp] at hp0 hp1 hv
    have h2 : wrap64 (d * (b.length : Int)) = p := by rw [← hp]; clear h1 hp; unfold wrap64; omega
    have h3 : wrap64 (p - f5) = r1 := by rw [← hv]; clear h1 h2 hp; unfold wrap64; omega
    have k1 : IntKind.i64.wrap (f2 - f6) = d := (i64_w _).trans h1
    have k2 : IntKind.i64.wrap (d * (b.length : Int)) = p := (i64_w _).trans h2
    have k3 : IntKind.i64.wrap (p - f5) = r1 := (i64_w _).trans h3
    clear hv hl hmay hsb hr0 hr1 hn0 hn1 hlen hp0 hp1 hd hp
    go_enter Try.func20, Try.ntmps20
    go_wp2_with fail
    go_quiet (fail)
    go_wp2
    go_ret
    exact ⟨rfl, HI.out.drewN _, pw_below_drewN HB.out _, KeepBut.of_below (pw_below_drewN (Below.refl _ _) _) _ _⟩
  · have e0 : (f7 == 0) = false := beq_eq_false_iff_ne.2 hl
    have e1 : (f7 != 0) = true := bne_iff_ne.2 hl
    rw [if_neg hl] at hv
    subst hv
    clear hl
    go_enter Try.func20, Try.ntmps20
    go_wp2
    go_ret
    exact ⟨rfl, HI.out, HB.out, KeepBut.refl _ _ _⟩
end Go.Proofs.Ytdjonaajfhbfhaa.Q
