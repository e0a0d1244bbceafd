/- PathChecks, without the program: the printed functions of names and checks agree. No condition beyond the form's own reach. -/
import Derived.Test.YtmndeoncbocplaaDoorLOf
import Derived.Test.YtmndeoncbocplaaDoorP6
namespace Go.Proofs.YtmndeoncbocplaaDoor.Pure
open Go.RowKit Go.Proofs.YtmndeoncbocplaaDoor.P Go.Proofs.YtmndeoncbocplaaDoor.L Go.Proofs.YtmndeoncbocplaaDoorW.PrintWords Go.Proofs.YtmndeoncbocplaaDoorW.PrintLast

theorem PathChecks : donjonlaw7_PathChecks.Pure := by
  intro s hs
  refine ⟨2000, ?_⟩
  unfold donjonlaw7_PathChecks.f
  rw [known_f]
  simp only [Option.bind_some]
  rw [if_pos trivial]
  by_cases h : (s.size : Int) > 1000
  · rw [if_pos h]
  · rw [if_neg h, ref_name s (by omega) 2000 (by omega), path_check s 2000 (by omega), ref_check s 2000 (by omega)]
    unfold path_Name.f
    simp

end Go.Proofs.YtmndeoncbocplaaDoor.Pure
