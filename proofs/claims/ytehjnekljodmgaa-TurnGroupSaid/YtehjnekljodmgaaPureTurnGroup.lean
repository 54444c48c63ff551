/- Turns one behind the other may be put together in any way; the first one changes nothing: for any three numbers. No condition. -/
import Derived.Test.YtehjnekljodmgaaLAround
import Derived.Test.YtehjnekljodmgaaLLives04
import Derived.Test.YtehjnekljodmgaaQ5
import Derived.Test.YtehjnekljodmgaaQ6
namespace Go.Proofs.Ytehjnekljodmgaa.Pure
open Go.RowKit Go.Proofs.Ytehjnekljodmgaa.Q Go.Proofs.YtehjnekljodmgaaW.PrintWords Go.Proofs.YtehjnekljodmgaaW.PrintLast
def grpF (t296 t297 t298 : Int) (L : Option Bool) : Option Bool := ((turn_Then.f 100 t296 t297).bind fun t299 => ((turn_Then.f 100 t299 t298).bind fun t300 => ((turn_Then.f 100 t297 t298).bind fun t301 => ((turn_Then.f 100 t296 t301).bind fun t302 => (if t300 = t302 then ((turn_Then.f 100 t296 0).bind fun t303 => (if t303 = t296 then ((turn_Then.f 100 0 t296).bind fun t304 => (if t304 = t296 then ((turn_Back.f 100 t296).bind fun t305 => ((turn_Then.f 100 t296 t305).bind fun t306 => (if t306 = 0 then ((turn_Back.f 100 t296).bind fun t307 => ((turn_Then.f 100 t307 t296).bind fun t308 => (if t308 = 0 then ((turn_Back.f 100 t296).bind fun t309 => ((turn_Back.f 100 t309).bind fun t310 => (if t310 = t296 then (L.bind fun t311 => (some t311)) else (some false)))) else (some false)))) else (some false)))) else (some false))) else (some false))) else (some false))))))
set_option maxRecDepth 100000 in
theorem grp_all : ∀ a b c : Fin 8, grpF ((a : Nat) : Int) ((b : Nat) : Int) ((c : Nat) : Int) (some true) = some true := by decide +kernel
theorem TurnGroup : chequerlaw04_TurnGroup.Pure := by
  intro a b c h0 h1 h2
  refine ⟨100, ?_⟩
  have ma := wf_i64 h0
  have mb := wf_i64 h1
  have mc := wf_i64 h2
  unfold chequerlaw04_TurnGroup.f
  rw [around_is a 8 ma.1 ma.2 (by omega), Option.bind_some, around_is b 8 mb.1 mb.2 (by omega), Option.bind_some, around_is c 8 mc.1 mc.2 (by omega), Option.bind_some]
  obtain ⟨a0, a1⟩ := aroundZ_range a 8 (by omega)
  obtain ⟨b0, b1⟩ := aroundZ_range b 8 (by omega)
  obtain ⟨c0, c1⟩ := aroundZ_range c 8 (by omega)
  generalize aroundZ a 8 = x at *
  generalize aroundZ b 8 = y at *
  generalize aroundZ c 8 = z at *
  have e := grp_all ⟨x.toNat, by omega⟩ ⟨y.toNat, by omega⟩ ⟨z.toNat, by omega⟩
  simp only [Int.toNat_of_nonneg a0, Int.toNat_of_nonneg b0, Int.toNat_of_nonneg c0] at e
  exact (congrArg (grpF x y z) (lives04 100 (by omega))).trans e
end Go.Proofs.Ytehjnekljodmgaa.Pure
