/- Texts that the claim's law stands on, cut down to what it reaches. -/
import Derived.Test.YtmndeoncbocplaaDoorND
import Derived.Deep.RegionHeldLaw
import Derived.Deep.RegionHeld3
import Derived.Deep.LoopGhost
set_option linter.unusedVariables false
set_option linter.unusedSimpArgs false
section
set_option linter.unusedVariables false
set_option linter.unusedSimpArgs false
namespace Go.Proofs.YtmndeoncbocplaaDoor.C
open Go.RowKit Go.Proofs.YtmndeoncbocplaaDoor.Q Go.Proofs.YtmndeoncbocplaaDoorW.PrintWords Go.Proofs.YtmndeoncbocplaaDoorW.PrintLast Go.Proofs.YtmndeoncbocplaaDoorW.PrintMore
attribute [local go_sem high] eqA41
attribute [local go_sem ↓] rd_at50 wr_at50 al_at50
attribute [local go_sem] rd50_new wr50_new al50
end Go.Proofs.YtmndeoncbocplaaDoor.C
namespace Go.Proofs.YtmndeoncbocplaaDoor.C
open Go.RowKit Go.Proofs.YtmndeoncbocplaaDoor.Q Go.Proofs.YtmndeoncbocplaaDoorW.PrintWords Go.Proofs.YtmndeoncbocplaaDoorW.PrintLast Go.Proofs.YtmndeoncbocplaaDoorW.PrintMore
/-- Where one is, going up: behind the root there is nothing. -/
def upP (ns : List (List UInt8)) (m : Nat) : ByteArray := if m = 0 then ⟨#[]⟩ else pth (ns.take (m - 1))
theorem upP_zero (ns : List (List UInt8)) : (upP ns 0).toList = [] := by unfold upP; rw [if_pos rfl, Lib.toList_data]
theorem okp_take {t : List S50} (T : Tree t) {n : S50} (hn : n ∈ t) {ns : List (List UInt8)} (hok : Okp ns) (he : n.f0 = pth ns) (j : Nat) (hj : j ≤ ns.length) : Okp (ns.take j) := by
  obtain ⟨d, hd, h0, _⟩ := tree_anc T _ ns n j hn hok.1 he hj rfl
  obtain ⟨ms, hm, hp⟩ := tree_path T hd
  have : ns.take j = ms := pth_inj (fun x hx => hok.1 x (List.mem_of_mem_take hx)) hm.1 (h0.symm.trans hp)
  rw [this]; exact hm
theorem up_parent {ns : List (List UInt8)} (hok : ∀ j, j ≤ ns.length → Okp (ns.take j)) (m : Nat) (h1 : 1 ≤ m) (hm : m ≤ ns.length + 1) (k : Nat) (hk : 1001 < k) : donjonref7_Parent.f k (pth (ns.take (m - 1))) = some (upP ns (m - 1)) := by
  unfold upP
  by_cases h0 : m - 1 = 0
  · rw [h0, if_pos rfl, List.take_zero]
    unfold donjonref7_Parent.f
    rw [if_pos (by rw [pth_size]; decide)]
  · rw [if_neg h0]
    have ho := hok (m - 1) (by omega)
    have hne : ns.take (m - 1) ≠ [] := by
      intro e
      have := congrArg List.length e
      rw [List.length_take, List.length_nil] at this
      omega
    have e : min (min (m - 1) ns.length - 1) (m - 1) = m - 1 - 1 := by omega
    rw [rparent_f _ ho.1 hne ho.2 k hk, List.dropLast_eq_take, List.take_take, List.length_take, e]
theorem up_top {t : List S50} (T : Tree t) {n : S50} (hn : n ∈ t) {ns : List (List UInt8)} (hok : Okp ns) (he : n.f0 = pth ns) (k : Nat) (hk : 1001 < k) : donjonref7_Parent.f k (pth ns) = some (upP ns ns.length) := by
  have h := up_parent (fun j hj => okp_take T hn hok he j hj) (ns.length + 1) (by omega) (Nat.le_refl _) k hk
  rw [Nat.add_sub_cancel, List.take_length] at h
  exact h
theorem up_some (ns : List (List UInt8)) (m : Nat) (h : ¬ m = 0) : (upP ns m).toList = [] → False := by
  intro e
  unfold upP at e
  rw [if_neg h, Lib.toList_data, pth_data] at e
  have := L.render_flat
  cases hn : ns.take (m - 1) with
  | nil => rw [hn] at e; revert e; decide
  | cons x s => rw [hn, L.render_cons] at e; cases e
attribute [local go_sem ↓] rd_at50 wr_at50 al_at50
attribute [local go_sem] rd50_new wr50_new al50
end Go.Proofs.YtmndeoncbocplaaDoor.C
end
