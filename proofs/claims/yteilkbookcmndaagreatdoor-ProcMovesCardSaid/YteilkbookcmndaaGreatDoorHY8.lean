/- Texts that the claim's law stands on, cut down to what it reaches. -/
import Derived.Test.YteilkbookcmndaaGreatDoorHY7
import Derived.Deep.RegionHeldLaw
import Derived.Deep.RegionHeld3
import Derived.Deep.LoopGhost
set_option linter.unusedVariables false
set_option linter.unusedSimpArgs false
section
set_option linter.unusedVariables false
set_option linter.unusedSimpArgs false
namespace Go.Proofs.YteilkbookcmndaaGreatDoor.C
open Go.RowKit Go.Proofs.YteilkbookcmndaaGreatDoor.Q Go.Proofs.YteilkbookcmndaaGreatDoorW.PrintWords Go.Proofs.YteilkbookcmndaaGreatDoorW.PrintLast Go.Proofs.YteilkbookcmndaaGreatDoorW.PrintMore
attribute [local go_sem ↓] rd_at50 wr_at50 al_at50
attribute [local go_sem] rd50_new wr50_new al50
attribute [local go_sem ↓] rd_at45 wr_at45 rd_at150 wr_at150 rd_at47b wr_at47b rd_at77 wr_at77 rd_at41p wr_at41p
attribute [local go_sem] rd45_new wr45_new rd150_new wr150_new wr47b_new
attribute [local go_sem] max2_mx max_two
theorem mr_4 : PProcLimits.ring_MayRead.f 4 4 4 0 (mx 4 4) = some true := by kernel_rfl
def gR (off a : Int) : Nat → Int := fun i => match i with | 1 => off | 2 => 4 | 3 => a | 6 => 4 | 7 => 1 | 9 => 4 | 10 => 2 | 12 => 4 | 13 => 3 | 15 => 4 | _ => 0
end Go.Proofs.YteilkbookcmndaaGreatDoor.C
end
section
set_option linter.unusedVariables false
set_option linter.unusedSimpArgs false
namespace Go.Proofs.YteilkbookcmndaaGreatDoor.C
open Go.RowKit Go.Proofs.YteilkbookcmndaaGreatDoor.Q Go.Proofs.YteilkbookcmndaaGreatDoorW.PrintWords Go.Proofs.YteilkbookcmndaaGreatDoorW.PrintLast Go.Proofs.YteilkbookcmndaaGreatDoorW.PrintMore
attribute [local go_sem ↓] rd_at50 wr_at50 al_at50
attribute [local go_sem] rd50_new wr50_new al50
attribute [local go_sem ↓] rd_at45 wr_at45 rd_at150 wr_at150 rd_at47b wr_at47b rd_at77 wr_at77 rd_at41p wr_at41p
attribute [local go_sem] rd45_new wr45_new rd150_new wr150_new wr47b_new
attribute [local go_sem] max2_mx max_two
theorem strC2 {w : World} {g : Nat} {s t : ByteArray} (hg : w.heap[g]? = some (.cells #[.string s, .string t] 9 (0, 0))) : Kd.C Kd.string w (some ⟨g, 0, none⟩) [s, t].length [s, t] := by
 refine ⟨rfl, by show 2 ≤ 9223372036854775807; decide, fun _ => ⟨_, rfl, fun j q hj => ?_⟩⟩
 have hadd : ∀ k : Nat, ((⟨g, 0, none⟩ : Addr).add k) = ⟨g, k, none⟩ := fun k => by unfold Addr.add; split <;> simp_all
 have hj2 : j < 2 := (List.getElem?_eq_some_iff.1 hj).1
 rcases j with _ | _ | j
 ·obtain rfl : s = q := by simpa using hj
  refine ⟨[.string s], rfl, rfl, fun i u hu => ?_⟩
  rcases i with _ | i
  ·obtain rfl : Value.string s = u := by simpa using hu
   show w.cell? ((⟨g, 0, none⟩ : Addr).add 0) = _
   rw [hadd]; exact (blk_cell hg 0).trans rfl
  ·simp at hu
 ·obtain rfl : t = q := by simpa using hj
  refine ⟨[.string t], rfl, rfl, fun i u hu => ?_⟩
  rcases i with _ | i
  ·obtain rfl : Value.string t = u := by simpa using hu
   show w.cell? ((⟨g, 0, none⟩ : Addr).add 1) = _
   rw [hadd]; exact (blk_cell hg 1).trans rfl
  ·simp at hu
 ·omega
theorem addr_add0 (a : Addr) : a.add 0 = a := by unfold Addr.add; split <;> simp_all
end Go.Proofs.YteilkbookcmndaaGreatDoor.C
end
