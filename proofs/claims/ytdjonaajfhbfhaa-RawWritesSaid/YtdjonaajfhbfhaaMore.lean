/- Small words beside the print's: what came in may be shared. -/
import Derived.Test.YtdjonaajfhbfhaaWMore
import Derived.Test.YtdjonaajfhbfhaaWFoot
import Derived.Test.YtdjonaajfhbfhaaWNEv
set_option linter.unusedVariables false
namespace Go.Proofs.Ytdjonaajfhbfhaa.Mo
open Go.RowKit Go.Proofs.YtdjonaajfhbfhaaW.PrintWords
theorem V_any {α : Type} {d : Kd α} (hd : Kd.Heap d) {e base : Nat} {w : World} {A : Option Addr} {c : Nat} {l : List α} (h : d.C w A l.length l) (hc : l.length ≤ c) :
    Kd.V d e w base (fun k_ => (fun _ => True) k_) (.slice A l.length c) l := ⟨A, c, rfl, hc, fun W' hW => hd.C (fun j hj => hW j trivial hj) h⟩
theorem C_len {α : Type} {d : Kd α} {w : World} {A : Option Addr} {m n : Nat} {l : List α} (h : m = n) (hC : d.C w A m l) : ReadsRow (d.K w) d.sz w A n l := by subst h; exact hC
end Go.Proofs.Ytdjonaajfhbfhaa.Mo
