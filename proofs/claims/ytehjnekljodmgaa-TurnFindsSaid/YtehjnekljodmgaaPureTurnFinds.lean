/- A part that is laid stands in a matrix that is laid as often as the part does in the matrix: for any two matrices, any turn. No condition. -/
import Derived.Test.YtehjnekljodmgaaLAround
import Derived.Test.YtehjnekljodmgaaLFind4
import Derived.Test.YtehjnekljodmgaaLLay
import Derived.Test.YtehjnekljodmgaaLLives04
import Derived.Test.YtehjnekljodmgaaLTab
import Derived.Test.YtehjnekljodmgaaQ18
import Derived.Test.YtehjnekljodmgaaQ3
namespace Go.Proofs.Ytehjnekljodmgaa.Pure
open Go.RowKit Go.Proofs.Ytehjnekljodmgaa.Q Go.Proofs.YtehjnekljodmgaaW.PrintWords Go.Proofs.YtehjnekljodmgaaW.PrintLast
theorem TurnFinds : chequerlaw04_TurnFinds.Pure := by
  intro m0 m1 l o0 o1 lo n h0 h1 hl hx h3 h4 hlo hxo hn
  obtain ⟨w, h, f, hw, hh, hG⟩ := good_is m0 m1 l 6 (by omega) (wf_i64 h0) (wf_i64 h1)
  obtain ⟨p, q, o, hp, hq, hO⟩ := good_is o0 o1 lo 2 (by omega) (wf_i64 h3) (wf_i64 h4)
  have hn2 := wf_i64 hn
  refine ⟨60000, ?_⟩
  obtain ⟨a0, a1⟩ := aroundZ_range n 8 (by omega)
  obtain ⟨g, hg⟩ : ∃ g : Nat, aroundZ n 8 = (g : Int) := ⟨(aroundZ n 8).toNat, by omega⟩
  have hg8 : g < 8 := by omega
  have e1 := hG 60000 (by omega)
  have e2 := hO 60000 (by omega)
  rw [show ((6 : Nat) : Int) = 6 from rfl] at e1
  rw [show ((2 : Nat) : Int) = 2 from rfl] at e2
  have hw' : 1 ≤ w ∧ w ≤ 64 := by omega
  have hh' : 1 ≤ h ∧ h ≤ 64 := by omega
  have hp' : 1 ≤ p ∧ p ≤ 64 := by omega
  have hq' : 1 ≤ q ∧ q ≤ 64 := by omega
  obtain ⟨sw, sh⟩ := lay_small (g := g) hw' hh'
  unfold chequerlaw04_TurnFinds.f
  rw [e1, Option.bind_some, e2, Option.bind_some, around_is n 8 hn2.1 hn2.2 (by omega), Option.bind_some, hg]
  unfold chequerlaw04_of.f
  rw [Option.bind_some]
  dsimp only
  rw [turnlay_is g w h _ hg8 hw' hh' f (by omega), Option.bind_some, Option.bind_some]
  dsimp only
  rw [turnlay_is g p q _ hg8 hp' hq' o (by omega), Option.bind_some]
  dsimp only
  rw [if_pos rfl, if_pos rfl]
  obtain ⟨r1, f1, c1⟩ := find_is (layW g w h) (layH g w h) (layW g p q) (layH g p q) sw sh (layF g w h f) (layF g p q o) 60000 (by omega)
  obtain ⟨r2, f2, c2⟩ := reffind_is w h p q hw' hh' f o 60000 (by omega)
  rw [f1, Option.bind_some, f2, Option.bind_some, c1, c2, stand_turn g w h p q hg8 hp'.1 hq'.1 f o, if_pos rfl, lives04 60000 (by omega)]
  rfl
end Go.Proofs.Ytehjnekljodmgaa.Pure
