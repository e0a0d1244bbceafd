/- Texts that the claim's law stands on, cut down to what it reaches. -/
import Derived.Test.YtmndeoncbocplaaDoorVT3
import Derived.Test.YtmndeoncbocplaaDoorVK
import Derived.Test.YtmndeoncbocplaaDoorVS
import Derived.Deep.RegionHeldLaw
import Derived.Deep.RegionHeld3
import Derived.Deep.LoopGhost
set_option linter.unusedVariables false
set_option linter.unusedSimpArgs false
section
set_option linter.unusedVariables false
set_option linter.unusedSimpArgs false
namespace Go.Proofs.YtmndeoncbocplaaDoor.C
open Go.RowKit Go.Proofs.YtmndeoncbocplaaDoor.Q Go.Proofs.YtmndeoncbocplaaDoorW.PrintWords Go.Proofs.YtmndeoncbocplaaDoorW.PrintLast Go.Proofs.YtmndeoncbocplaaDoorW.PrintMore
attribute [local go_sem ↓] rd_at50 wr_at50 al_at50
attribute [local go_sem] wr50_new al50
theorem tfind_d {t : List S50} (T : Tree t) {dn : S50} (hd : dn ∈ t) (A : Option Addr) (c : Nat) (w : World) (hC : Kd.C k50 w A t.length t) (hc : t.length ≤ c) :
    Calls Tryd.prog 53 #[.slice A t.length c, .string dn.f0] w fun e w' => ∃ D6 d6 D11 d11, e = .returned (.tuple #[.agg #[.string dn.f0, .bool dn.f1, .int .i64 dn.f2.f0, .int .i64 dn.f2.f1, .int .i64 dn.f2.f2, .int .i64 dn.f2.f3, .slice D6 dn.f3.length d6, .int .i64 dn.f4.f0, .int .i64 dn.f4.f1, .int .i64 dn.f4.f2, .int .i64 dn.f4.f3, .slice D11 dn.f5.length d11, .int .i64 dn.f6.f0, .int .i64 dn.f6.f1, .int .i64 dn.f6.f2, .int .i64 dn.f6.f3], .bool true]) ∧ Below w.heap.size w w' := by
  obtain ⟨i1, i2⟩ := is_at T.asc hd
  obtain ⟨s1, s2, s3⟩ := tree_srch T
  refine (tfind t dn.f0 A c w hC hc (by have := T.len; omega) (s2 _) s3).mono ?_
  rintro e w' ⟨cs, rfl, hK, hb⟩
  rw [i2] at hK
  rw [i1]
  obtain ⟨D6, d6, D11, d11, rfl, _⟩ := k50_open (Kd.FK_now hK)
  exact ⟨D6, d6, D11, d11, rfl, hb⟩
end Go.Proofs.YtmndeoncbocplaaDoor.C
end
