/- How many rows a raster's reader was told. -/
import Derived.Test.YtdjonaajfhbfhaaQ0
import Derived.Below
import Derived.Deep.Draws
import Derived.Deep.AppendLies
import Derived.Maps.AppendAt
import Derived.OwnWalk
import Derived.Laws.BytesArg
import Derived.Laws.MakeOwn
import Derived.Laws.OwnMore
import Derived.Deep.OwnRows
import Derived.Tactics
import Derived.Lib.ConvBytes
import Derived.Laws.Slices
import Derived.WalkKit
import Derived.KernelRfl
import Derived.RowKit3
import Derived.Deep.LoopGhost
import Derived.Deep.QuietTactic
import Derived.BigQuiet
import Derived.WideLaws
import Derived.Deep.DeepCutAuto
import Derived.Deep.CutBlock
import Derived.Deep.RegionHeld3
import Derived.Laws.Rows
import Derived.Lib.AppendStr
import Derived.ArgAppend
import Derived.Laws.IdiomCopy
import Derived.OrdersHeld
import Derived.Laws.BitsLemmas
import Derived.RowKit
import Derived.Test.YtdjonaajfhbfhaaMore
import Derived.Test.YtdjonaajfhbfhaaPeel
import Derived.Test.YtdjonaajfhbfhaaRaw
import Derived.Scope
import Derived.Test.YtdjonaajfhbfhaaWWords
import Derived.Test.YtdjonaajfhbfhaaWLast
import Derived.Test.YtdjonaajfhbfhaaWTab
import Derived.Test.YtdjonaajfhbfhaaWFour
import Derived.Test.YtdjonaajfhbfhaaWQPut
import Derived.Test.YtdjonaajfhbfhaaWApart
import Derived.Test.YtdjonaajfhbfhaaWArr
import Derived.Test.YtdjonaajfhbfhaaWZeros
import Derived.Test.YtdjonaajfhbfhaaWFoot
import Derived.Test.YtdjonaajfhbfhaaWKept
import Derived.Test.YtdjonaajfhbfhaaWShare
import Derived.Test.YtdjonaajfhbfhaaWN
import Derived.Test.YtdjonaajfhbfhaaWFootNe
import Derived.Test.YtdjonaajfhbfhaaWAt
import Derived.Test.YtdjonaajfhbfhaaWEqStruct
import Derived.Test.YtdjonaajfhbfhaaWRepsOne
import Derived.Test.YtdjonaajfhbfhaaWInv
import Derived.Test.YtdjonaajfhbfhaaWInvWords
import Derived.Test.YtdjonaajfhbfhaaWGuard
import Derived.Test.YtdjonaajfhbfhaaWNEv
import Derived.Test.YtdjonaajfhbfhaaWMore
import Derived.BigQuiet
import Derived.Deep.QuietTactic
namespace Go.Proofs.Ytdjonaajfhbfhaa.Q
open Go.RowKit Go.Proofs.YtdjonaajfhbfhaaW.PrintWords Go.Proofs.YtdjonaajfhbfhaaW.PrintLast Go.Proofs.YtdjonaajfhbfhaaW.PrintMore
set_option linter.unusedVariables false
set_option linter.unusedSimpArgs false
def raw_Reader_Rows.f (f0 f1 f2 f3 f4 f5 f6 f7 f8 : Int) : Option (Int × Int × Int × Int × Int × Int × Int × Int × Int × Int) := some (f6, f0, f1, f2, f3, f4, f5, f6, f7, f8)
set_option maxRecDepth 100000 in
set_option maxHeartbeats 4000000 in
theorem raw_Reader_Rows.calls (g : Nat) (f0 f1 f2 f3 f4 f5 f6 f7 f8 : Int) (r1 r2 r3 r4 r5 r6 r7 r8 r9 r10 : Int) (w0 w : World) (hI : IsS71 w0 w g f0 f1 f2 f3 f4 f5 f6 f7 f8) (hB : Below w0.heap.size w0 w) (h : raw_Reader_Rows.f f0 f1 f2 f3 f4 f5 f6 f7 f8 = some (r1, r2, r3, r4, r5, r6, r7, r8, r9, r10)) :
    Calls Try.prog 21 #[.pointer (some ⟨g, 0, none⟩)] w fun e w' => e = .returned (.int .i64 r1) ∧ IsS71 w0 w' g r2 r3 r4 r5 r6 r7 r8 r9 r10 ∧ Below w0.heap.size w0 w' ∧ KeepBut w w' g (some (g - 1)) := by
  have hv := Option.some.inj h
  simp only [Prod.mk.injEq] at hv
  obtain ⟨hv, rfl, rfl, rfl, rfl, rfl, rfl, rfl, rfl, rfl⟩ := hv
  have HV := Aside0.mk hv
  have HI := Aside0.mk hI
  have HB := Aside0.mk hB
  have hu := Try.underlying71
  have hu2 := Try.underlying34
  obtain ⟨gb, b, rfl, hobj, hg, hrw, ok⟩ := hI
  have OK := Aside0.mk ok
  have hc : w.cell? ⟨gb + 1, 6, none⟩ = some (.int .i64 f6) := blk_cell hobj 6
  subst hv
  clear hobj hg hrw ok hB h
  go_enter Try.func21, Try.ntmps21
  go_wp2
  go_ret
  exact ⟨rfl, HI.out, HB.out, KeepBut.refl _ _ _⟩
end Go.Proofs.Ytdjonaajfhbfhaa.Q
