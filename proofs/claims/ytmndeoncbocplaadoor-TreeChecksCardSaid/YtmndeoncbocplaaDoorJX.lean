/- Texts that the claim's law stands on, cut down to what it reaches. -/
import Derived.Test.YtmndeoncbocplaaDoorJS
import Derived.Deep.LoopGhost
import Derived.Deep.RegionHeldLaw
import Derived.Deep.RegionHeld3
set_option linter.unusedVariables false
set_option linter.unusedSimpArgs false
section
set_option linter.unusedVariables false
set_option linter.unusedSimpArgs false
namespace Go.Proofs.YtmndeoncbocplaaDoor.C
open Go.RowKit Go.Proofs.YtmndeoncbocplaaDoor.Q Go.Proofs.YtmndeoncbocplaaDoorW.PrintWords Go.Proofs.YtmndeoncbocplaaDoorW.PrintLast Go.Proofs.YtmndeoncbocplaaDoorW.PrintMore
attribute [local go_sem ↓] rd_at50 wr_at50 al_at50
attribute [local go_sem] rd50_new wr50_new al50
theorem pparent_f {ns : List (List UInt8)} (hok : Okp ns) (hne : ns ≠ []) : P.path_Parent.f (pth ns) = some (pth ns.dropLast) := by
  have hz := check_len hok.2
  rw [P.parent_f (pth ns) (by rw [pth_size]; omega) ns (pth_data ns) hok.1]
  unfold P.upL
  rw [if_neg hne]
  rfl
end Go.Proofs.YtmndeoncbocplaaDoor.C
end
