/- Texts that the claim's law stands on, cut down to what it reaches. -/
import Derived.Test.YteilkbookcmndaaGreatDoorHB
import Derived.Deep.RegionHeldLaw
import Derived.Deep.RegionHeld3
import Derived.Test.YteilkbookcmndaaGreatDoorHA2
import Derived.Deep.LoopGhost
import Derived.Test.YteilkbookcmndaaGreatDoorHA
import Derived.Test.YteilkbookcmndaaGreatDoorHQ
set_option linter.unusedVariables false
set_option linter.unusedSimpArgs false
section
set_option linter.unusedVariables false
set_option linter.unusedSimpArgs false
namespace Go.Proofs.YteilkbookcmndaaGreatDoor.C
open Go.RowKit Go.Proofs.YteilkbookcmndaaGreatDoor.Q Go.Proofs.YteilkbookcmndaaGreatDoorW.PrintWords Go.Proofs.YteilkbookcmndaaGreatDoorW.PrintLast Go.Proofs.YteilkbookcmndaaGreatDoorW.PrintMore
attribute [local go_sem ↓] rd_at50 wr_at50 al_at50
attribute [local go_sem] rd50_new wr50_new al50
/-- A region, by its number. -/
def regIn : Code → Nat → Option Code
  | .region id ops b, k => if id == k then some (.region id ops b) else none
  | .seq a b, k => match regIn a k with
    | some o => some o
    | none => regIn b k
  | .cond _ a b, k => match regIn a k with
    | some o => some o
    | none => regIn b k
  | .block _ c, k => regIn c k
  | .loop c, k => regIn c k
  | .scope c, k => regIn c k
  | _, _ => none
end Go.Proofs.YteilkbookcmndaaGreatDoor.C
end
section
set_option linter.unusedVariables false
set_option linter.unusedSimpArgs false
namespace Go.Proofs.YteilkbookcmndaaGreatDoor.C
open Go.RowKit Go.Proofs.YteilkbookcmndaaGreatDoor.Q Go.Proofs.YteilkbookcmndaaGreatDoorW.PrintWords Go.Proofs.YteilkbookcmndaaGreatDoorW.PrintLast Go.Proofs.YteilkbookcmndaaGreatDoorW.PrintMore
attribute [local go_sem ↓] rd_at50 wr_at50 al_at50
attribute [local go_sem] rd50_new wr50_new al50
theorem below_join {B B2 : Nat} {w w1 w2 : World} (h : Below B w w1) (h2 : Below B2 w1 w2) (hB : B ≤ B2) : Below B w w2 :=
  ⟨h2.os.trans h.os, h2.tape.trans h.tape, h2.output.trans h.output, Nat.le_trans h.size h2.size, fun k hk => (h2.block k (by omega)).trans (h.block k hk)⟩
theorem below_put {B g j : Nat} {w W : World} {v : Value} (h : Below B w W) (hg : B ≤ g) : Below B w (W.setCell ⟨g, j, none⟩ v) :=
  h.setCell hg _
/-- A node is put: a tree again. -/
theorem put_tree {t : List S50} (T : Tree t) (hlen : t.length < 900) (ns : List (List UInt8)) (hok : Okp ns) (hne : ns ≠ []) (dn : S50) (hd : nodeN t (pth ns.dropLast) = dn) (h1 : isN t (pth ns.dropLast) = true) (h2 : dn.f1 = true) (h3 : isN t (pth ns) = false) (n : S50) (h0 : n.f0 = pth ns) (hl : Lab n.f2) (hb : Lab n.f6) (ha : GoodAcl 5 n.f3) (hw : n.f5.length ≤ 16) (hdir : n.f1 = true → n.f5 = [] ∧ n.f4 = z47) (hr : 0 ≤ n.f4.f0 ∧ n.f4.f0 ≤ n.f4.f1 ∧ n.f4.f1 ≤ n.f4.f2 ∧ n.f4.f2 < 8 ∧ 0 ≤ n.f4.f3 ∧ n.f4.f3 < 17) (ho : lover n.f2 dn.f2 = true) (hs : n.f1 = false → n.f2 = dn.f2) : Tree (putN t n) ∧ (putN t n).length ≤ t.length + 1 := by
  obtain ⟨m1, m2⟩ := is_mem h1
  rw [hd] at m1 m2
  exact ⟨tree_put T hlen n ⟨hl, hb, ha, hw, hdir, hr⟩ ns hok h0 hne h3 dn m1 m2 h2 ho hs, put_len t n⟩
end Go.Proofs.YteilkbookcmndaaGreatDoor.C
end
section
set_option linter.unusedVariables false
set_option linter.unusedSimpArgs false
namespace Go.Proofs.YteilkbookcmndaaGreatDoor.C
open Go.RowKit Go.Proofs.YteilkbookcmndaaGreatDoor.Q Go.Proofs.YteilkbookcmndaaGreatDoorW.PrintWords Go.Proofs.YteilkbookcmndaaGreatDoorW.PrintLast Go.Proofs.YteilkbookcmndaaGreatDoorW.PrintMore
attribute [local go_sem ↓] rd_at50 wr_at50 al_at50
attribute [local go_sem] rd50_new wr50_new al50
theorem C50_of' {w W : World} {A : Option Addr} {xs : List S50} (h : ReadsRow (k50.K w) 16 W A xs.length xs) (hb : Below w.heap.size w W) : Kd.C k50 W A xs.length xs :=
  ReadsRow.imp_ h (Below.refl _ _) (fun _ _ h => k50.K_below hb h)
end Go.Proofs.YteilkbookcmndaaGreatDoor.C
namespace Go.Proofs.YteilkbookcmndaaGreatDoor.C
open Go.RowKit Go.Proofs.YteilkbookcmndaaGreatDoor.Q Go.Proofs.YteilkbookcmndaaGreatDoorW.PrintWords Go.Proofs.YteilkbookcmndaaGreatDoorW.PrintLast Go.Proofs.YteilkbookcmndaaGreatDoorW.PrintMore
end Go.Proofs.YteilkbookcmndaaGreatDoor.C
namespace Go.Proofs.YteilkbookcmndaaGreatDoor.C
open Go.RowKit Go.Proofs.YteilkbookcmndaaGreatDoor.Q Go.Proofs.YteilkbookcmndaaGreatDoorW.PrintWords Go.Proofs.YteilkbookcmndaaGreatDoorW.PrintLast Go.Proofs.YteilkbookcmndaaGreatDoorW.PrintMore
attribute [local go_sem ↓] rd_at50 wr_at50 al_at50
attribute [local go_sem] rd50_new wr50_new al50
attribute [local go_sem high] eqA41
end Go.Proofs.YteilkbookcmndaaGreatDoor.C
end
section
set_option linter.unusedVariables false
set_option linter.unusedSimpArgs false
namespace Go.Proofs.YteilkbookcmndaaGreatDoor.C
open Go.RowKit Go.Proofs.YteilkbookcmndaaGreatDoor.Q Go.Proofs.YteilkbookcmndaaGreatDoorW.PrintWords Go.Proofs.YteilkbookcmndaaGreatDoorW.PrintLast Go.Proofs.YteilkbookcmndaaGreatDoorW.PrintMore
theorem add_block (a : Addr) (n : Nat) : (a.add n).block = a.block := by unfold Addr.add; split <;> rfl
end Go.Proofs.YteilkbookcmndaaGreatDoor.C
namespace Go.Proofs.YteilkbookcmndaaGreatDoor.C
open Go.RowKit Go.Proofs.YteilkbookcmndaaGreatDoor.Q Go.Proofs.YteilkbookcmndaaGreatDoorW.PrintWords Go.Proofs.YteilkbookcmndaaGreatDoorW.PrintLast Go.Proofs.YteilkbookcmndaaGreatDoorW.PrintMore
noncomputable def cReg (f : Func) (k : Nat) : Code := (f.body.bind fun c => regIn c k).getD .skip
theorem take_at {P : Program} {md : Region.Mode} {ops : Array Oper} {Q : Exit → Act → World → Prop} {S : World → Prop} (i d : Nat) {oi : Oper} {v : Value} {fuel : Nat} {listed : Array Bool} {a : Act} {w : World} (hi : ops.toList[i]? = some oi) (hd : oi.dst = some d)
    (hs : Region.noSelect ops = true) (hf : Region.free md ops listed i = true) (hr : (Region.ready md ops listed).contains i = true)
    (hQ : ∀ c a w, Q (.panic c) (a.put oi.dst v) w → Q (.panic c) a w) (hy : YieldsIf P ops S oi v a) (hS : S w)
    (h : wpAnyH P md ops Q S fuel (listed.setIfInBounds i true) (a.put (some d) v) w) : wpAnyH P md ops Q S (fuel + 1) listed a w :=
  wpAnyH_take (by rw [← Array.getElem?_toList]; exact hi) hs hf hr hQ hy hS (by rw [hd]; exact h)
end Go.Proofs.YteilkbookcmndaaGreatDoor.C
end
