/- Texts that the claim's law stands on, cut down to what it reaches. -/
import Derived.Test.YtmndeoncbocplaaDoorVD
import Derived.Test.YtmndeoncbocplaaDoorVQT
import Derived.Deep.RegionHeldLaw
import Derived.Deep.RegionHeld3
import Derived.Deep.LoopGhost
import Derived.Test.YtmndeoncbocplaaDoorVP
import Derived.Test.YtmndeoncbocplaaDoorVX
set_option linter.unusedVariables false
set_option linter.unusedSimpArgs false
section
set_option linter.unusedVariables false
set_option linter.unusedSimpArgs false
namespace Go.Proofs.YtmndeoncbocplaaDoor.C
open Go.RowKit Go.Proofs.YtmndeoncbocplaaDoor.Q Go.Proofs.YtmndeoncbocplaaDoorW.PrintWords Go.Proofs.YtmndeoncbocplaaDoorW.PrintLast Go.Proofs.YtmndeoncbocplaaDoorW.PrintMore
attribute [local go_sem ↓] rd_at50 wr_at50 al_at50
attribute [local go_sem] wr50_new al50
def parP (s : ByteArray) : ByteArray := (P.path_Parent.f s).getD ⟨#[]⟩
end Go.Proofs.YtmndeoncbocplaaDoor.C
end
section
set_option linter.unusedVariables false
set_option linter.unusedSimpArgs false
namespace Go.Proofs.YtmndeoncbocplaaDoor.C
open Go.RowKit Go.Proofs.YtmndeoncbocplaaDoor.Q Go.Proofs.YtmndeoncbocplaaDoorW.PrintWords Go.Proofs.YtmndeoncbocplaaDoorW.PrintLast Go.Proofs.YtmndeoncbocplaaDoorW.PrintMore
attribute [local go_sem ↓] rd_at50 wr_at50 al_at50
attribute [local go_sem] wr50_new al50
theorem pth_nil : (pth []).toList = [47] := by rw [Lib.toList_data, pth_data]; rfl
theorem tree_par {t : List S50} (T : Tree t) : ∀ n ∈ t, ∃ q, P.path_Parent.f n.f0 = some q := by
  intro n hn
  obtain ⟨ns, hok, hp⟩ := tree_path T hn
  have hz := check_len hok.2
  exact ⟨_, by rw [hp]; exact P.parent_f (pth ns) (by rw [pth_size]; omega) ns (pth_data ns) hok.1⟩
end Go.Proofs.YtmndeoncbocplaaDoor.C
end
