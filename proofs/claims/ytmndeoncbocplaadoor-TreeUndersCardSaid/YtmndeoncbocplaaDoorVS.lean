/- Texts that the claim's law stands on, cut down to what it reaches. -/
import Derived.Test.YtmndeoncbocplaaDoorVD
import Derived.Deep.RegionHeldLaw
import Derived.Deep.RegionHeld3
import Derived.Deep.LoopGhost
set_option linter.unusedVariables false
set_option linter.unusedSimpArgs false
section
set_option linter.unusedVariables false
set_option linter.unusedSimpArgs false
namespace Go.Proofs.YtmndeoncbocplaaDoor.C
open Go.RowKit Go.Proofs.YtmndeoncbocplaaDoor.Q Go.Proofs.YtmndeoncbocplaaDoorW.PrintWords Go.Proofs.YtmndeoncbocplaaDoorW.PrintLast Go.Proofs.YtmndeoncbocplaaDoorW.PrintMore
attribute [local go_sem ↓] rd_at50 wr_at50 al_at50
attribute [local go_sem] wr50_new al50
theorem rjoin_f (ns : List (List UInt8)) (n : List UInt8) (hn : ∀ x ∈ ns, L.Nm x) (h1 : (L.render ns).length ≤ 1000) (h2 : n.length ≤ 1000) : donjonref7_Join.f (pth ns) ⟨n.toArray⟩ = some (pth (ns ++ [n])) := join_f ns n hn h1 h2
end Go.Proofs.YtmndeoncbocplaaDoor.C
end
