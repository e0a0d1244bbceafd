/- ProcMoves: a process copies a word into a segment just if the list lets it read and write: the walk. -/
import Derived.Test.YteilkbookcmndaaGreatDoorHZ2
import Derived.Test.YteilkbookcmndaaGreatDoorHY8
import Derived.Deep.RegionHeldLaw
import Derived.Deep.RegionHeld3
import Derived.Deep.LoopGhost
set_option linter.unusedVariables false
set_option linter.unusedSimpArgs false
section
set_option linter.unusedVariables false
set_option linter.unusedSimpArgs false
namespace Go.Proofs.YteilkbookcmndaaGreatDoor.C
open Go.RowKit Go.Proofs.YteilkbookcmndaaGreatDoor.Q Go.Proofs.YteilkbookcmndaaGreatDoorW.PrintWords Go.Proofs.YteilkbookcmndaaGreatDoorW.PrintLast Go.Proofs.YteilkbookcmndaaGreatDoorW.PrintMore
attribute [local go_sem ↓] rd_at50 wr_at50 al_at50
attribute [local go_sem] rd50_new wr50_new al50
attribute [local go_sem ↓] rd_at45 wr_at45 rd_at150 wr_at150 rd_at47b wr_at47b rd_at77 wr_at77 rd_at41p wr_at41p
attribute [local go_sem] rd45_new wr45_new rd150_new wr150_new wr47b_new
attribute [local go_sem] max2_mx max_two
def wsM : List Int := [72057594037927942, 144396663052566529, 72339069014638593, 1585267068834414592, 0, 0, 0]
def aclM (m : Int) : List S96 := if m = 0 then [] else [⟨⟨#[42]⟩, m⟩]
theorem dcm0 : PProcLimits.isa_Decode.f (wsM.getD 0 0) = some (1, 0, 6, 0) := by kernel_rfl
theorem dcm1 : PProcLimits.isa_Decode.f (wsM.getD 1 0) = some (2, 1, 1, 0) := by kernel_rfl
theorem dcm2 : PProcLimits.isa_Decode.f (wsM.getD 2 0) = some (1, 1, 1, 0) := by kernel_rfl
theorem dcm3 : PProcLimits.isa_Decode.f (wsM.getD 3 0) = some (22, 0, 0, 0) := by kernel_rfl
theorem dcm4 : PProcLimits.isa_Decode.f (wsM.getD 4 0) = some (0, 0, 0, 0) := by kernel_rfl
theorem mw_4 : PProcLimits.ring_MayWrite.f 4 4 4 0 (mx 4 4) = some true := by kernel_rfl
theorem good_M {m : Int} (h0 : 0 ≤ m) (h7 : m < 8) : GoodAcl 5 (aclM m) := by
 unfold aclM
 split
 ·exact ⟨[], by simp, by simp, by simp, by simp, by simp⟩
 ·exact good_star m (by omega) (by omega)
theorem tree_M (ds : List Int) (hd : ds.length ≤ 16) {m : Int} (h0 : 0 ≤ m) (h7 : m < 8) : Tree (tS wsM ds (aclM m)) := tree_s _ _ _ (by decide) hd (good_M h0 h7)
theorem put_M (a b : Int) (acl : List S96) : (tS wsM [a, b] acl).set (atN (tS wsM [a, b] acl) ⟨#[47, 100]⟩) (nDs [a, 0] acl) = tS wsM [a, 0] acl := by kernel_rfl
theorem at_M (ds : List Int) (acl : List S96) : (tS wsM ds acl)[atN (tS wsM ds acl) ⟨#[47, 100]⟩]? = some (nDs ds acl) := by kernel_rfl
theorem is_M (ds : List Int) (acl : List S96) : isN (tS wsM ds acl) ⟨#[47, 100]⟩ = true := by kernel_rfl
theorem find_M (ds : List Int) (acl : List S96) : findL (tS wsM ds acl) ⟨#[47, 100]⟩ = some (nDs ds acl) := by kernel_rfl
theorem len_M (ds : List Int) (acl : List S96) : (tS wsM ds acl).length = 4 := by kernel_rfl
theorem mayM_0_1 (ds : List Int) : (mayR (tS wsM ds (aclM 0)) botS uA [[100]] 1).2 = 16 := by kernel_rfl
theorem mayM_0_2 (ds : List Int) : (mayR (tS wsM ds (aclM 0)) botS uA [[100]] 2).2 = 16 := by kernel_rfl
theorem mayM_0_4 (ds : List Int) : (mayR (tS wsM ds (aclM 0)) botS uA [[100]] 4).2 = 16 := by kernel_rfl
theorem moM_0 (ds : List Int) : moA (fun md => (mayR (tS wsM ds (aclM 0)) botS uA [[100]] md).2) 3 = 0 := by
 show (if (mayR (tS wsM ds (aclM 0)) botS uA [[100]] 4).2 = 0 then bits .or .i64 (if (mayR (tS wsM ds (aclM 0)) botS uA [[100]] 2).2 = 0 then bits .or .i64 (if (mayR (tS wsM ds (aclM 0)) botS uA [[100]] 1).2 = 0 then bits .or .i64 0 1 else 0) 2 else (if (mayR (tS wsM ds (aclM 0)) botS uA [[100]] 1).2 = 0 then bits .or .i64 0 1 else 0)) 4 else (if (mayR (tS wsM ds (aclM 0)) botS uA [[100]] 2).2 = 0 then bits .or .i64 (if (mayR (tS wsM ds (aclM 0)) botS uA [[100]] 1).2 = 0 then bits .or .i64 0 1 else 0) 2 else (if (mayR (tS wsM ds (aclM 0)) botS uA [[100]] 1).2 = 0 then bits .or .i64 0 1 else 0))) = 0
 rw [mayM_0_1, mayM_0_2, mayM_0_4]
 kernel_rfl
theorem mayM_1_1 (ds : List Int) : (mayR (tS wsM ds (aclM 1)) botS uA [[100]] 1).2 = 0 := by kernel_rfl
theorem mayM_1_2 (ds : List Int) : (mayR (tS wsM ds (aclM 1)) botS uA [[100]] 2).2 = 16 := by kernel_rfl
theorem mayM_1_4 (ds : List Int) : (mayR (tS wsM ds (aclM 1)) botS uA [[100]] 4).2 = 16 := by kernel_rfl
theorem moM_1 (ds : List Int) : moA (fun md => (mayR (tS wsM ds (aclM 1)) botS uA [[100]] md).2) 3 = 1 := by
 show (if (mayR (tS wsM ds (aclM 1)) botS uA [[100]] 4).2 = 0 then bits .or .i64 (if (mayR (tS wsM ds (aclM 1)) botS uA [[100]] 2).2 = 0 then bits .or .i64 (if (mayR (tS wsM ds (aclM 1)) botS uA [[100]] 1).2 = 0 then bits .or .i64 0 1 else 0) 2 else (if (mayR (tS wsM ds (aclM 1)) botS uA [[100]] 1).2 = 0 then bits .or .i64 0 1 else 0)) 4 else (if (mayR (tS wsM ds (aclM 1)) botS uA [[100]] 2).2 = 0 then bits .or .i64 (if (mayR (tS wsM ds (aclM 1)) botS uA [[100]] 1).2 = 0 then bits .or .i64 0 1 else 0) 2 else (if (mayR (tS wsM ds (aclM 1)) botS uA [[100]] 1).2 = 0 then bits .or .i64 0 1 else 0))) = 1
 rw [mayM_1_1, mayM_1_2, mayM_1_4]
 kernel_rfl
theorem mayM_2_1 (ds : List Int) : (mayR (tS wsM ds (aclM 2)) botS uA [[100]] 1).2 = 16 := by kernel_rfl
theorem mayM_2_2 (ds : List Int) : (mayR (tS wsM ds (aclM 2)) botS uA [[100]] 2).2 = 0 := by kernel_rfl
theorem mayM_2_4 (ds : List Int) : (mayR (tS wsM ds (aclM 2)) botS uA [[100]] 4).2 = 16 := by kernel_rfl
theorem moM_2 (ds : List Int) : moA (fun md => (mayR (tS wsM ds (aclM 2)) botS uA [[100]] md).2) 3 = 2 := by
 show (if (mayR (tS wsM ds (aclM 2)) botS uA [[100]] 4).2 = 0 then bits .or .i64 (if (mayR (tS wsM ds (aclM 2)) botS uA [[100]] 2).2 = 0 then bits .or .i64 (if (mayR (tS wsM ds (aclM 2)) botS uA [[100]] 1).2 = 0 then bits .or .i64 0 1 else 0) 2 else (if (mayR (tS wsM ds (aclM 2)) botS uA [[100]] 1).2 = 0 then bits .or .i64 0 1 else 0)) 4 else (if (mayR (tS wsM ds (aclM 2)) botS uA [[100]] 2).2 = 0 then bits .or .i64 (if (mayR (tS wsM ds (aclM 2)) botS uA [[100]] 1).2 = 0 then bits .or .i64 0 1 else 0) 2 else (if (mayR (tS wsM ds (aclM 2)) botS uA [[100]] 1).2 = 0 then bits .or .i64 0 1 else 0))) = 2
 rw [mayM_2_1, mayM_2_2, mayM_2_4]
 kernel_rfl
theorem mayM_3_1 (ds : List Int) : (mayR (tS wsM ds (aclM 3)) botS uA [[100]] 1).2 = 0 := by kernel_rfl
theorem mayM_3_2 (ds : List Int) : (mayR (tS wsM ds (aclM 3)) botS uA [[100]] 2).2 = 0 := by kernel_rfl
theorem mayM_3_4 (ds : List Int) : (mayR (tS wsM ds (aclM 3)) botS uA [[100]] 4).2 = 16 := by kernel_rfl
theorem moM_3 (ds : List Int) : moA (fun md => (mayR (tS wsM ds (aclM 3)) botS uA [[100]] md).2) 3 = 3 := by
 show (if (mayR (tS wsM ds (aclM 3)) botS uA [[100]] 4).2 = 0 then bits .or .i64 (if (mayR (tS wsM ds (aclM 3)) botS uA [[100]] 2).2 = 0 then bits .or .i64 (if (mayR (tS wsM ds (aclM 3)) botS uA [[100]] 1).2 = 0 then bits .or .i64 0 1 else 0) 2 else (if (mayR (tS wsM ds (aclM 3)) botS uA [[100]] 1).2 = 0 then bits .or .i64 0 1 else 0)) 4 else (if (mayR (tS wsM ds (aclM 3)) botS uA [[100]] 2).2 = 0 then bits .or .i64 (if (mayR (tS wsM ds (aclM 3)) botS uA [[100]] 1).2 = 0 then bits .or .i64 0 1 else 0) 2 else (if (mayR (tS wsM ds (aclM 3)) botS uA [[100]] 1).2 = 0 then bits .or .i64 0 1 else 0))) = 3
 rw [mayM_3_1, mayM_3_2, mayM_3_4]
 kernel_rfl
theorem mayM_4_1 (ds : List Int) : (mayR (tS wsM ds (aclM 4)) botS uA [[100]] 1).2 = 16 := by kernel_rfl
theorem mayM_4_2 (ds : List Int) : (mayR (tS wsM ds (aclM 4)) botS uA [[100]] 2).2 = 16 := by kernel_rfl
theorem mayM_4_4 (ds : List Int) : (mayR (tS wsM ds (aclM 4)) botS uA [[100]] 4).2 = 0 := by kernel_rfl
theorem moM_4 (ds : List Int) : moA (fun md => (mayR (tS wsM ds (aclM 4)) botS uA [[100]] md).2) 3 = 4 := by
 show (if (mayR (tS wsM ds (aclM 4)) botS uA [[100]] 4).2 = 0 then bits .or .i64 (if (mayR (tS wsM ds (aclM 4)) botS uA [[100]] 2).2 = 0 then bits .or .i64 (if (mayR (tS wsM ds (aclM 4)) botS uA [[100]] 1).2 = 0 then bits .or .i64 0 1 else 0) 2 else (if (mayR (tS wsM ds (aclM 4)) botS uA [[100]] 1).2 = 0 then bits .or .i64 0 1 else 0)) 4 else (if (mayR (tS wsM ds (aclM 4)) botS uA [[100]] 2).2 = 0 then bits .or .i64 (if (mayR (tS wsM ds (aclM 4)) botS uA [[100]] 1).2 = 0 then bits .or .i64 0 1 else 0) 2 else (if (mayR (tS wsM ds (aclM 4)) botS uA [[100]] 1).2 = 0 then bits .or .i64 0 1 else 0))) = 4
 rw [mayM_4_1, mayM_4_2, mayM_4_4]
 kernel_rfl
theorem mayM_5_1 (ds : List Int) : (mayR (tS wsM ds (aclM 5)) botS uA [[100]] 1).2 = 0 := by kernel_rfl
theorem mayM_5_2 (ds : List Int) : (mayR (tS wsM ds (aclM 5)) botS uA [[100]] 2).2 = 16 := by kernel_rfl
theorem mayM_5_4 (ds : List Int) : (mayR (tS wsM ds (aclM 5)) botS uA [[100]] 4).2 = 0 := by kernel_rfl
theorem moM_5 (ds : List Int) : moA (fun md => (mayR (tS wsM ds (aclM 5)) botS uA [[100]] md).2) 3 = 5 := by
 show (if (mayR (tS wsM ds (aclM 5)) botS uA [[100]] 4).2 = 0 then bits .or .i64 (if (mayR (tS wsM ds (aclM 5)) botS uA [[100]] 2).2 = 0 then bits .or .i64 (if (mayR (tS wsM ds (aclM 5)) botS uA [[100]] 1).2 = 0 then bits .or .i64 0 1 else 0) 2 else (if (mayR (tS wsM ds (aclM 5)) botS uA [[100]] 1).2 = 0 then bits .or .i64 0 1 else 0)) 4 else (if (mayR (tS wsM ds (aclM 5)) botS uA [[100]] 2).2 = 0 then bits .or .i64 (if (mayR (tS wsM ds (aclM 5)) botS uA [[100]] 1).2 = 0 then bits .or .i64 0 1 else 0) 2 else (if (mayR (tS wsM ds (aclM 5)) botS uA [[100]] 1).2 = 0 then bits .or .i64 0 1 else 0))) = 5
 rw [mayM_5_1, mayM_5_2, mayM_5_4]
 kernel_rfl
theorem mayM_6_1 (ds : List Int) : (mayR (tS wsM ds (aclM 6)) botS uA [[100]] 1).2 = 16 := by kernel_rfl
theorem mayM_6_2 (ds : List Int) : (mayR (tS wsM ds (aclM 6)) botS uA [[100]] 2).2 = 0 := by kernel_rfl
theorem mayM_6_4 (ds : List Int) : (mayR (tS wsM ds (aclM 6)) botS uA [[100]] 4).2 = 0 := by kernel_rfl
theorem moM_6 (ds : List Int) : moA (fun md => (mayR (tS wsM ds (aclM 6)) botS uA [[100]] md).2) 3 = 6 := by
 show (if (mayR (tS wsM ds (aclM 6)) botS uA [[100]] 4).2 = 0 then bits .or .i64 (if (mayR (tS wsM ds (aclM 6)) botS uA [[100]] 2).2 = 0 then bits .or .i64 (if (mayR (tS wsM ds (aclM 6)) botS uA [[100]] 1).2 = 0 then bits .or .i64 0 1 else 0) 2 else (if (mayR (tS wsM ds (aclM 6)) botS uA [[100]] 1).2 = 0 then bits .or .i64 0 1 else 0)) 4 else (if (mayR (tS wsM ds (aclM 6)) botS uA [[100]] 2).2 = 0 then bits .or .i64 (if (mayR (tS wsM ds (aclM 6)) botS uA [[100]] 1).2 = 0 then bits .or .i64 0 1 else 0) 2 else (if (mayR (tS wsM ds (aclM 6)) botS uA [[100]] 1).2 = 0 then bits .or .i64 0 1 else 0))) = 6
 rw [mayM_6_1, mayM_6_2, mayM_6_4]
 kernel_rfl
theorem mayM_7_1 (ds : List Int) : (mayR (tS wsM ds (aclM 7)) botS uA [[100]] 1).2 = 0 := by kernel_rfl
theorem mayM_7_2 (ds : List Int) : (mayR (tS wsM ds (aclM 7)) botS uA [[100]] 2).2 = 0 := by kernel_rfl
theorem mayM_7_4 (ds : List Int) : (mayR (tS wsM ds (aclM 7)) botS uA [[100]] 4).2 = 0 := by kernel_rfl
theorem moM_7 (ds : List Int) : moA (fun md => (mayR (tS wsM ds (aclM 7)) botS uA [[100]] md).2) 3 = 7 := by
 show (if (mayR (tS wsM ds (aclM 7)) botS uA [[100]] 4).2 = 0 then bits .or .i64 (if (mayR (tS wsM ds (aclM 7)) botS uA [[100]] 2).2 = 0 then bits .or .i64 (if (mayR (tS wsM ds (aclM 7)) botS uA [[100]] 1).2 = 0 then bits .or .i64 0 1 else 0) 2 else (if (mayR (tS wsM ds (aclM 7)) botS uA [[100]] 1).2 = 0 then bits .or .i64 0 1 else 0)) 4 else (if (mayR (tS wsM ds (aclM 7)) botS uA [[100]] 2).2 = 0 then bits .or .i64 (if (mayR (tS wsM ds (aclM 7)) botS uA [[100]] 1).2 = 0 then bits .or .i64 0 1 else 0) 2 else (if (mayR (tS wsM ds (aclM 7)) botS uA [[100]] 1).2 = 0 then bits .or .i64 0 1 else 0))) = 7
 rw [mayM_7_1, mayM_7_2, mayM_7_4]
 kernel_rfl
theorem moM (ds : List Int) {m : Int} (h0 : 0 ≤ m) (h7 : m < 8) : moA (fun md => (mayR (tS wsM ds (aclM m)) botS uA [[100]] md).2) 3 = m := by
 have : m = 0 ∨ m = 1 ∨ m = 2 ∨ m = 3 ∨ m = 4 ∨ m = 5 ∨ m = 6 ∨ m = 7 := by omega
 rcases this with rfl | rfl | rfl | rfl | rfl | rfl | rfl | rfl
 ·exact moM_0 ds
 ·exact moM_1 ds
 ·exact moM_2 ds
 ·exact moM_3 ds
 ·exact moM_4 ds
 ·exact moM_5 ds
 ·exact moM_6 ds
 ·exact moM_7 ds
theorem mayM1 (ds : List Int) {m : Int} (h0 : 0 ≤ m) (h7 : m < 8) : (mayR (tS wsM ds (aclM m)) botS uA [[100]] 1).2 = if bits .and .i64 m 1 = 0 then 16 else 0 := by
 have : m = 0 ∨ m = 1 ∨ m = 2 ∨ m = 3 ∨ m = 4 ∨ m = 5 ∨ m = 6 ∨ m = 7 := by omega
 rcases this with rfl | rfl | rfl | rfl | rfl | rfl | rfl | rfl
 ·rw [mayM_0_1 ds]; rfl
 ·rw [mayM_1_1 ds]; rfl
 ·rw [mayM_2_1 ds]; rfl
 ·rw [mayM_3_1 ds]; rfl
 ·rw [mayM_4_1 ds]; rfl
 ·rw [mayM_5_1 ds]; rfl
 ·rw [mayM_6_1 ds]; rfl
 ·rw [mayM_7_1 ds]; rfl
theorem bitsM {m : Int} (h0 : 0 ≤ m) (h7 : m < 8) : (bits .and .i64 m 1 = 0 ∨ bits .and .i64 m 1 = 1) ∧ (bits .and .i64 m 2 = 0 ∨ bits .and .i64 m 2 = 2) := by
 have : m = 0 ∨ m = 1 ∨ m = 2 ∨ m = 3 ∨ m = 4 ∨ m = 5 ∨ m = 6 ∨ m = 7 := by omega
 rcases this with rfl | rfl | rfl | rfl | rfl | rfl | rfl | rfl <;> decide
/-- What is kept of a tree of ProcMoves. -/
structure SimM (t : List S50) (ds : List Int) (m : Int) : Prop where
 eq : t = tS wsM ds (aclM m)
 T : Tree t
 see : seeR t botS [] [[112]] = (nPs wsM, 0)
 mo : moA (fun md => (mayR t botS uA [[112]] md).2) 3 = 7
 seed : seeR t botS [] [[100]] = (nDs ds (aclM m), 0)
 mod : moA (fun md => (mayR t botS uA [[100]] md).2) 3 = m
 no : isN t ⟨#[]⟩ = false
 may : mayR t botS uA [[112]] 4 = (nPs wsM, 0)
 mayd : (mayR t botS uA [[100]] 1).2 = if bits .and .i64 m 1 = 0 then 16 else 0
 len : t.length = 4
theorem sim_M (ds : List Int) (hd : ds.length ≤ 16) {m : Int} (h0 : 0 ≤ m) (h7 : m < 8) : SimM (tS wsM ds (aclM m)) ds m := ⟨rfl, tree_M ds hd h0 h7, see_p _ _ _, mo_p _ _ _, see_d _ _ _, moM ds h0 h7, no_root _ _ _, may_p4 _ _ _, mayM1 ds h0 h7, len_M _ _⟩
def mS (k : Nat) : (Nat → Int) × Bool := (gR (k : Int) 0, decide (k = 5))
def mT (k : Nat) : Bool := decide (k = 3)
def mO (_ : Nat) : Int := 0
end Go.Proofs.YteilkbookcmndaaGreatDoor.C
end
section
set_option linter.unusedVariables false
set_option linter.unusedSimpArgs false
namespace Go.Proofs.YteilkbookcmndaaGreatDoor.C
open Go.RowKit Go.Proofs.YteilkbookcmndaaGreatDoor.Q Go.Proofs.YteilkbookcmndaaGreatDoorW.PrintWords Go.Proofs.YteilkbookcmndaaGreatDoorW.PrintLast Go.Proofs.YteilkbookcmndaaGreatDoorW.PrintMore
attribute [local go_sem ↓] rd_at50 wr_at50 al_at50
attribute [local go_sem] rd50_new wr50_new al50
attribute [local go_sem ↓] rd_at45 wr_at45 rd_at150 wr_at150 rd_at47b wr_at47b rd_at77 wr_at77 rd_at41p wr_at41p
attribute [local go_sem] rd45_new wr45_new rd150_new wr150_new wr47b_new
attribute [local go_sem] max2_mx max_two
def mTr (x y m : Int) (k : Nat) : List S50 := tS wsM (if k ≤ 1 then [x, y] else [x, 0]) (aclM m)
theorem sim_Mk (x y : Int) {m : Int} (h0 : 0 ≤ m) (h7 : m < 8) (k : Nat) : SimM (mTr x y m k) (if k ≤ 1 then [x, y] else [x, 0]) m := sim_M _ (by split <;> simp) h0 h7
theorem below_as_grown {w w' : World} (h : Below w.heap.size w w') (r : Option Nat) : w.grownBy w' r := ⟨h.os, h.tape, h.output, h.size, fun k hk _ => h.block k hk⟩
theorem keep_step {args : Array Value} {E : Ending} {gm : Nat} {wr : World} {A1 B1 : Option Addr} {c1 b1 : Nat} {t t2 : List S50} (ht : t2 = t) (hm : wr.heap[gm]? = some (.cells #[.slice A1 t.length c1, .string uA, .int .i64 botS.f0, .int .i64 botS.f1, .int .i64 botS.f2, .int .i64 botS.f3, .slice B1 [(⟨#[47, 112]⟩ : ByteArray), (⟨#[47, 100]⟩ : ByteArray)].length b1] 105 (0, 0))) (hc : t.length ≤ c1)
  (h : Calls Tryz.prog 34 args wr fun e w' => e = E ∧ Below wr.heap.size wr w') :
  Calls Tryz.prog 34 args wr fun e w' => e = E ∧ wr.grownBy w' (some gm) ∧ ∃ A2 c2, w'.heap[gm]? = some (.cells #[.slice A2 t2.length c2, .string uA, .int .i64 botS.f0, .int .i64 botS.f1, .int .i64 botS.f2, .int .i64 botS.f3, .slice B1 [(⟨#[47, 112]⟩ : ByteArray), (⟨#[47, 100]⟩ : ByteArray)].length b1] 105 (0, 0)) ∧ t2.length ≤ c2 ∧ ∀ ok : Nat → Prop, (∀ j, wr.heap.size ≤ j → ok j) → Kd.F k50 wr ok A1 t.length t → Kd.F k50 w' ok A2 t2.length t2 := by
 subst ht
 refine h.mono ?_
 rintro e w' ⟨rfl, hb⟩
 exact ⟨rfl, below_as_grown hb _, A1, c1, blk_below hm hb, hc, fun ok _ hF => Kd.F_below hF hb⟩
set_option maxHeartbeats 16000000 in
set_option maxRecDepth 1000000 in
theorem m_step (x y m : Int) (h0 : 0 ≤ m) (h7 : m < 8) (hm1 : bits .and .i64 m 1 = 1) (hm2 : bits .and .i64 m 2 = 2) (gm : Nat) (B1 : Option Addr) (b1 k : Nat) (wr : World) (A1 : Option Addr) (c1 : Nat) (hk : k < 5)
  (hm : wr.heap[gm]? = some (.cells #[.slice A1 (mTr x y m k).length c1, .string uA, .int .i64 botS.f0, .int .i64 botS.f1, .int .i64 botS.f2, .int .i64 botS.f3, .slice B1 [(⟨#[47, 112]⟩ : ByteArray), (⟨#[47, 100]⟩ : ByteArray)].length b1] 105 (0, 0))) (hc : (mTr x y m k).length ≤ c1) (hC : Kd.C k50 wr A1 (mTr x y m k).length (mTr x y m k)) (hb : [(⟨#[47, 112]⟩ : ByteArray), (⟨#[47, 100]⟩ : ByteArray)].length ≤ b1) (hB : Kd.C Kd.string wr B1 [(⟨#[47, 112]⟩ : ByteArray), (⟨#[47, 100]⟩ : ByteArray)].length [(⟨#[47, 112]⟩ : ByteArray), (⟨#[47, 100]⟩ : ByteArray)]) :
  Calls Tryz.prog 34 #[.agg #[.int .i64 ((mS k).1 0), .int .i64 ((mS k).1 1), .int .i64 ((mS k).1 2), .int .i64 ((mS k).1 3), .int .i64 ((mS k).1 4), .int .i64 ((mS k).1 5), .int .i64 ((mS k).1 6), .int .i64 ((mS k).1 7), .int .i64 ((mS k).1 8), .int .i64 ((mS k).1 9), .int .i64 ((mS k).1 10), .int .i64 ((mS k).1 11), .int .i64 ((mS k).1 12), .int .i64 ((mS k).1 13), .int .i64 ((mS k).1 14), .int .i64 ((mS k).1 15), .slice none 0 0, .bool false], .iface 103 (.pointer (some ⟨gm, 0, none⟩))] wr fun e w' => e = .returned (.tuple #[.agg #[.int .i64 ((mS (k + 1)).1 0), .int .i64 ((mS (k + 1)).1 1), .int .i64 ((mS (k + 1)).1 2), .int .i64 ((mS (k + 1)).1 3), .int .i64 ((mS (k + 1)).1 4), .int .i64 ((mS (k + 1)).1 5), .int .i64 ((mS (k + 1)).1 6), .int .i64 ((mS (k + 1)).1 7), .int .i64 ((mS (k + 1)).1 8), .int .i64 ((mS (k + 1)).1 9), .int .i64 ((mS (k + 1)).1 10), .int .i64 ((mS (k + 1)).1 11), .int .i64 ((mS (k + 1)).1 12), .int .i64 ((mS (k + 1)).1 13), .int .i64 ((mS (k + 1)).1 14), .int .i64 ((mS (k + 1)).1 15), .slice none 0 0, .bool (mS (k + 1)).2], .int .i64 (mO k), .bool (mT k), .int .i64 0]) ∧ wr.grownBy w' (some gm) ∧ ∃ A2 c2, w'.heap[gm]? = some (.cells #[.slice A2 (mTr x y m (k + 1)).length c2, .string uA, .int .i64 botS.f0, .int .i64 botS.f1, .int .i64 botS.f2, .int .i64 botS.f3, .slice B1 [(⟨#[47, 112]⟩ : ByteArray), (⟨#[47, 100]⟩ : ByteArray)].length b1] 105 (0, 0)) ∧ (mTr x y m (k + 1)).length ≤ c2 ∧ ∀ ok : Nat → Prop, (∀ j, wr.heap.size ≤ j → ok j) → Kd.F k50 wr ok A1 (mTr x y m k).length (mTr x y m k) → Kd.F k50 w' ok A2 (mTr x y m (k + 1)).length (mTr x y m (k + 1)) := by
 have hks : k = 0 ∨ k = 1 ∨ k = 2 ∨ k = 3 ∨ k = 4 := by omega
 rcases hks with rfl | rfl | rfl | rfl | rfl
 ·have HS := sim_Mk x y h0 h7 0
  refine keep_step (t := (mTr x y m 0)) (t2 := (mTr x y m (0 + 1))) rfl hm hc ?_
  show Calls Tryz.prog 34 #[.agg #[.int .i64 0, .int .i64 0, .int .i64 4, .int .i64 0, .int .i64 0, .int .i64 0, .int .i64 4, .int .i64 1, .int .i64 0, .int .i64 4, .int .i64 2, .int .i64 0, .int .i64 4, .int .i64 3, .int .i64 0, .int .i64 4, .slice none 0 0, .bool false], .iface 103 (.pointer (some ⟨gm, 0, none⟩))] wr fun e w' => e = .returned (.tuple #[.agg #[.int .i64 0, .int .i64 1, .int .i64 4, .int .i64 0, .int .i64 0, .int .i64 0, .int .i64 4, .int .i64 1, .int .i64 0, .int .i64 4, .int .i64 2, .int .i64 0, .int .i64 4, .int .i64 3, .int .i64 0, .int .i64 4, .slice none 0 0, .bool false], .int .i64 0, .bool false, .int .i64 0]) ∧ Below wr.heap.size wr w'
  exact st_lda0 gm 0 7 4 4 4 0 6 wsM 0 4 0 0 0 4 1 0 4 2 0 4 3 0 4 wr wr (Below.refl _ _) (mem_seg HS.T uA botS [[112]] okp_p (nPs wsM) HS.see rfl [(⟨#[47, 112]⟩ : ByteArray), (⟨#[47, 100]⟩ : ByteArray)] 0 (by decide) rfl gm c1 b1 A1 B1 wr hm hc hC hb hB 7 HS.mo) (by decide +kernel) me_4 (by decide) (by decide) dcm0 7 4 4 4 0 0 wsM 6 (mem_seg HS.T uA botS [[112]] okp_p (nPs wsM) HS.see rfl [(⟨#[47, 112]⟩ : ByteArray), (⟨#[47, 100]⟩ : ByteArray)] 0 (by decide) rfl gm c1 b1 A1 B1 wr hm hc hC hb hB 7 HS.mo) (by decide +kernel) (by decide +kernel) mr_4 (by decide) rfl (by decide)
 ·have HS := sim_Mk x y h0 h7 1
  have hgm : gm < wr.heap.size := blk_lt hm
  refine Calls.mono (?_ : Calls Tryz.prog 34 #[.agg #[.int .i64 0, .int .i64 1, .int .i64 4, .int .i64 0, .int .i64 0, .int .i64 0, .int .i64 4, .int .i64 1, .int .i64 0, .int .i64 4, .int .i64 2, .int .i64 0, .int .i64 4, .int .i64 3, .int .i64 0, .int .i64 4, .slice none 0 0, .bool false], .iface 103 (.pointer (some ⟨gm, 0, none⟩))] wr fun e w' => e = .returned (.tuple #[.agg #[.int .i64 0, .int .i64 2, .int .i64 4, .int .i64 0, .int .i64 0, .int .i64 0, .int .i64 4, .int .i64 1, .int .i64 0, .int .i64 4, .int .i64 2, .int .i64 0, .int .i64 4, .int .i64 3, .int .i64 0, .int .i64 4, .slice none 0 0, .bool false], .int .i64 0, .bool false, .int .i64 0]) ∧ (fun w' => ∃ A' c', w'.heap[gm]? = some (.cells #[.slice A' (mTr x y m 2).length c', .string uA, .int .i64 botS.f0, .int .i64 botS.f1, .int .i64 botS.f2, .int .i64 botS.f3, .slice B1 [(⟨#[47, 112]⟩ : ByteArray), (⟨#[47, 100]⟩ : ByteArray)].length b1] 105 (0, 0)) ∧ (mTr x y m 2).length ≤ c' ∧ Kd.F k50 w' (fun j => wr.heap.size + 6 ≤ j) A' (mTr x y m 2).length (mTr x y m 2)) w' ∧ wr.grownBy w' (some gm)) ?_
  ·refine st_sta1 gm 1 (fun w' => ∃ A' c', w'.heap[gm]? = some (.cells #[.slice A' (mTr x y m 2).length c', .string uA, .int .i64 botS.f0, .int .i64 botS.f1, .int .i64 botS.f2, .int .i64 botS.f3, .slice B1 [(⟨#[47, 112]⟩ : ByteArray), (⟨#[47, 100]⟩ : ByteArray)].length b1] 105 (0, 0)) ∧ (mTr x y m 2).length ≤ c' ∧ Kd.F k50 w' (fun j => wr.heap.size + 6 ≤ j) A' (mTr x y m 2).length (mTr x y m 2)) 7 4 4 4 0 1 wsM 0 4 0 0 0 4 1 0 4 2 0 4 3 0 4 wr wr (Below.refl _ _) hgm (mem_seg HS.T uA botS [[112]] okp_p (nPs wsM) HS.see rfl [(⟨#[47, 112]⟩ : ByteArray), (⟨#[47, 100]⟩ : ByteArray)] 0 (by decide) rfl gm c1 b1 A1 B1 wr hm hc hC hb hB 7 HS.mo) (by decide +kernel) me_4 (by decide) (by decide) dcm1 m 4 4 4 0 [x, y] 1 (mem_seg HS.T uA botS [[100]] okp_d (nDs [x, y] (aclM m)) HS.seed rfl [(⟨#[47, 112]⟩ : ByteArray), (⟨#[47, 100]⟩ : ByteArray)] 1 (by decide) rfl gm c1 b1 A1 B1 wr hm hc hC hb hB m HS.mod) (by decide +kernel) hm2 mw_4 (by simp) (by simp) ?_ ?_
   ·rintro w3 w4 ⟨A', c', hm3, hc3, hF3⟩ hj
    exact ⟨A', c', (hj gm (Or.inl hgm)).trans hm3, hc3, Kd.F_step hF3 (fun j hj2 _ => hj j (Or.inr hj2))⟩
   ·intro w2 hb2 hz2 _
    obtain ⟨bd, hBd, hbc⟩ := str_get (Kd.C_below hB hb2) 1 (by decide)
    subst hBd
    refine Calls.mono (write_c gm 1 1 c1 [(⟨#[47, 112]⟩ : ByteArray), (⟨#[47, 100]⟩ : ByteArray)].length b1 A1 bd uA (⟨#[47, 100]⟩ : ByteArray) botS 0 (nDs [x, y] (aclM m)) (mTr x y m 1) (mTr x y m 2) w2 (blk_below hm hb2) hbc (by decide) hb (Kd.C_below hC hb2) hc (by rw [HS.len]; decide) (asc_rising HS.T.asc _) (fun n hn => node_fits (HS.T.ok n hn)) (is_M _ _) (at_M _ _) rfl (by show 1 < [x, y].length; simp) (put_M x y (aclM m))) ?_
    rintro e w' ⟨rfl, A', c', hm3, hc3, hF3, hg⟩
    exact ⟨rfl, ⟨A', c', hm3, hc3, Kd.F_mono hF3 (fun j hj => Nat.le_trans hz2 hj)⟩, hg⟩
  ·rintro e w' ⟨rfl, ⟨A', c', hm3, hc3, hF3⟩, hg⟩
   exact ⟨rfl, hg, A', c', hm3, hc3, fun ok hok _ => Kd.F_mono hF3 (fun j hj => hok j (by omega))⟩
 ·have HS := sim_Mk x y h0 h7 2
  refine keep_step (t := (mTr x y m 2)) (t2 := (mTr x y m (2 + 1))) rfl hm hc ?_
  show Calls Tryz.prog 34 #[.agg #[.int .i64 0, .int .i64 2, .int .i64 4, .int .i64 0, .int .i64 0, .int .i64 0, .int .i64 4, .int .i64 1, .int .i64 0, .int .i64 4, .int .i64 2, .int .i64 0, .int .i64 4, .int .i64 3, .int .i64 0, .int .i64 4, .slice none 0 0, .bool false], .iface 103 (.pointer (some ⟨gm, 0, none⟩))] wr fun e w' => e = .returned (.tuple #[.agg #[.int .i64 0, .int .i64 3, .int .i64 4, .int .i64 0, .int .i64 0, .int .i64 0, .int .i64 4, .int .i64 1, .int .i64 0, .int .i64 4, .int .i64 2, .int .i64 0, .int .i64 4, .int .i64 3, .int .i64 0, .int .i64 4, .slice none 0 0, .bool false], .int .i64 0, .bool false, .int .i64 0]) ∧ Below wr.heap.size wr w'
  exact st_lda1 gm 2 7 4 4 4 0 1 wsM 0 4 0 0 0 4 1 0 4 2 0 4 3 0 4 wr wr (Below.refl _ _) (mem_seg HS.T uA botS [[112]] okp_p (nPs wsM) HS.see rfl [(⟨#[47, 112]⟩ : ByteArray), (⟨#[47, 100]⟩ : ByteArray)] 0 (by decide) rfl gm c1 b1 A1 B1 wr hm hc hC hb hB 7 HS.mo) (by decide +kernel) me_4 (by decide) (by decide) dcm2 m 4 4 4 0 0 [x, 0] 1 (mem_seg HS.T uA botS [[100]] okp_d (nDs [x, 0] (aclM m)) HS.seed rfl [(⟨#[47, 112]⟩ : ByteArray), (⟨#[47, 100]⟩ : ByteArray)] 1 (by decide) rfl gm c1 b1 A1 B1 wr hm hc hC hb hB m HS.mod) (by decide +kernel) hm1 mr_4 (by simp) rfl (by simp)
 ·have HS := sim_Mk x y h0 h7 3
  refine keep_step (t := (mTr x y m 3)) (t2 := (mTr x y m (3 + 1))) rfl hm hc ?_
  show Calls Tryz.prog 34 #[.agg #[.int .i64 0, .int .i64 3, .int .i64 4, .int .i64 0, .int .i64 0, .int .i64 0, .int .i64 4, .int .i64 1, .int .i64 0, .int .i64 4, .int .i64 2, .int .i64 0, .int .i64 4, .int .i64 3, .int .i64 0, .int .i64 4, .slice none 0 0, .bool false], .iface 103 (.pointer (some ⟨gm, 0, none⟩))] wr fun e w' => e = .returned (.tuple #[.agg #[.int .i64 0, .int .i64 4, .int .i64 4, .int .i64 0, .int .i64 0, .int .i64 0, .int .i64 4, .int .i64 1, .int .i64 0, .int .i64 4, .int .i64 2, .int .i64 0, .int .i64 4, .int .i64 3, .int .i64 0, .int .i64 4, .slice none 0 0, .bool false], .int .i64 0, .bool true, .int .i64 0]) ∧ Below wr.heap.size wr w'
  exact st_out gm 3 7 4 4 4 0 0 0 wsM 0 4 0 0 0 4 1 0 4 2 0 4 3 0 4 wr wr (Below.refl _ _) (mem_seg HS.T uA botS [[112]] okp_p (nPs wsM) HS.see rfl [(⟨#[47, 112]⟩ : ByteArray), (⟨#[47, 100]⟩ : ByteArray)] 0 (by decide) rfl gm c1 b1 A1 B1 wr hm hc hC hb hB 7 HS.mo) (by decide +kernel) me_4 (by decide) (by decide) dcm3
 ·have HS := sim_Mk x y h0 h7 4
  refine keep_step (t := (mTr x y m 4)) (t2 := (mTr x y m (4 + 1))) rfl hm hc ?_
  show Calls Tryz.prog 34 #[.agg #[.int .i64 0, .int .i64 4, .int .i64 4, .int .i64 0, .int .i64 0, .int .i64 0, .int .i64 4, .int .i64 1, .int .i64 0, .int .i64 4, .int .i64 2, .int .i64 0, .int .i64 4, .int .i64 3, .int .i64 0, .int .i64 4, .slice none 0 0, .bool false], .iface 103 (.pointer (some ⟨gm, 0, none⟩))] wr fun e w' => e = .returned (.tuple #[.agg #[.int .i64 0, .int .i64 5, .int .i64 4, .int .i64 0, .int .i64 0, .int .i64 0, .int .i64 4, .int .i64 1, .int .i64 0, .int .i64 4, .int .i64 2, .int .i64 0, .int .i64 4, .int .i64 3, .int .i64 0, .int .i64 4, .slice none 0 0, .bool true], .int .i64 0, .bool false, .int .i64 0]) ∧ Below wr.heap.size wr w'
  exact st_halt gm 4 7 4 4 4 0 0 0 wsM 0 4 0 0 0 4 1 0 4 2 0 4 3 0 4 wr wr (Below.refl _ _) (mem_seg HS.T uA botS [[112]] okp_p (nPs wsM) HS.see rfl [(⟨#[47, 112]⟩ : ByteArray), (⟨#[47, 100]⟩ : ByteArray)] 0 (by decide) rfl gm c1 b1 A1 B1 wr hm hc hC hb hB 7 HS.mo) (by decide +kernel) me_4 (by decide) (by decide) dcm4
set_option maxHeartbeats 16000000 in
set_option maxRecDepth 1000000 in
theorem m_fault (t : List S50) (x y m : Int) (HS : SimM t [x, y] m) (hm2 : bits .and .i64 m 2 = 0) (gm : Nat) (wr w9 : World) (A1 B1 : Option Addr) (c1 b1 : Nat)
  (hm : wr.heap[gm]? = some (.cells #[.slice A1 t.length c1, .string uA, .int .i64 botS.f0, .int .i64 botS.f1, .int .i64 botS.f2, .int .i64 botS.f3, .slice B1 [(⟨#[47, 112]⟩ : ByteArray), (⟨#[47, 100]⟩ : ByteArray)].length b1] 105 (0, 0))) (hc : t.length ≤ c1) (hC : Kd.C k50 wr A1 t.length t) (hb : [(⟨#[47, 112]⟩ : ByteArray), (⟨#[47, 100]⟩ : ByteArray)].length ≤ b1) (hB : Kd.C Kd.string wr B1 [(⟨#[47, 112]⟩ : ByteArray), (⟨#[47, 100]⟩ : ByteArray)].length [(⟨#[47, 112]⟩ : ByteArray), (⟨#[47, 100]⟩ : ByteArray)]) (hb9 : Below wr.heap.size wr w9) :
  Calls Tryz.prog 34 #[.agg #[.int .i64 ((mS 1).1 0), .int .i64 ((mS 1).1 1), .int .i64 ((mS 1).1 2), .int .i64 ((mS 1).1 3), .int .i64 ((mS 1).1 4), .int .i64 ((mS 1).1 5), .int .i64 ((mS 1).1 6), .int .i64 ((mS 1).1 7), .int .i64 ((mS 1).1 8), .int .i64 ((mS 1).1 9), .int .i64 ((mS 1).1 10), .int .i64 ((mS 1).1 11), .int .i64 ((mS 1).1 12), .int .i64 ((mS 1).1 13), .int .i64 ((mS 1).1 14), .int .i64 ((mS 1).1 15), .slice none 0 0, .bool false], .iface 103 (.pointer (some ⟨gm, 0, none⟩))] w9 fun e w' => e = .returned (.tuple #[.agg #[.int .i64 0, .int .i64 0, .int .i64 0, .int .i64 0, .int .i64 0, .int .i64 0, .int .i64 0, .int .i64 0, .int .i64 0, .int .i64 0, .int .i64 0, .int .i64 0, .int .i64 0, .int .i64 0, .int .i64 0, .int .i64 0, .slice none 0 0, .bool false], .int .i64 0, .bool false, .int .i64 32]) ∧ Below w9.heap.size w9 w' := by
 have hgm : gm < wr.heap.size := blk_lt hm
 show Calls Tryz.prog 34 #[.agg #[.int .i64 0, .int .i64 1, .int .i64 4, .int .i64 0, .int .i64 0, .int .i64 0, .int .i64 4, .int .i64 1, .int .i64 0, .int .i64 4, .int .i64 2, .int .i64 0, .int .i64 4, .int .i64 3, .int .i64 0, .int .i64 4, .slice none 0 0, .bool false], .iface 103 (.pointer (some ⟨gm, 0, none⟩))] w9 fun e w' => e = .returned (.tuple #[.agg #[.int .i64 0, .int .i64 0, .int .i64 0, .int .i64 0, .int .i64 0, .int .i64 0, .int .i64 0, .int .i64 0, .int .i64 0, .int .i64 0, .int .i64 0, .int .i64 0, .int .i64 0, .int .i64 0, .int .i64 0, .int .i64 0, .slice none 0 0, .bool false], .int .i64 0, .bool false, .int .i64 32]) ∧ Below w9.heap.size w9 w'
 exact st_staf1 gm 1 7 4 4 4 0 1 wsM 0 4 0 0 0 4 1 0 4 2 0 4 3 0 4 wr w9 hb9 hgm (mem_seg HS.T uA botS [[112]] okp_p (nPs wsM) HS.see rfl [(⟨#[47, 112]⟩ : ByteArray), (⟨#[47, 100]⟩ : ByteArray)] 0 (by decide) rfl gm c1 b1 A1 B1 wr hm hc hC hb hB 7 HS.mo) (by decide +kernel) me_4 (by decide) (by decide) dcm1 m 4 4 4 0 [x, y] 1 (mem_seg HS.T uA botS [[100]] okp_d (nDs [x, y] (aclM m)) HS.seed rfl [(⟨#[47, 112]⟩ : ByteArray), (⟨#[47, 100]⟩ : ByteArray)] 1 (by decide) rfl gm c1 b1 A1 B1 wr hm hc hC hb hB m HS.mod) (by decide +kernel) hm2 mw_4 (by simp) (by simp)
set_option maxHeartbeats 16000000 in
set_option maxRecDepth 1000000 in
theorem m_first (t : List S50) (x y m : Int) (HS : SimM t [x, y] m) (gm : Nat) (wr w9 : World) (A1 B1 : Option Addr) (c1 b1 : Nat)
  (hm : wr.heap[gm]? = some (.cells #[.slice A1 t.length c1, .string uA, .int .i64 botS.f0, .int .i64 botS.f1, .int .i64 botS.f2, .int .i64 botS.f3, .slice B1 [(⟨#[47, 112]⟩ : ByteArray), (⟨#[47, 100]⟩ : ByteArray)].length b1] 105 (0, 0))) (hc : t.length ≤ c1) (hC : Kd.C k50 wr A1 t.length t) (hb : [(⟨#[47, 112]⟩ : ByteArray), (⟨#[47, 100]⟩ : ByteArray)].length ≤ b1) (hB : Kd.C Kd.string wr B1 [(⟨#[47, 112]⟩ : ByteArray), (⟨#[47, 100]⟩ : ByteArray)].length [(⟨#[47, 112]⟩ : ByteArray), (⟨#[47, 100]⟩ : ByteArray)]) (hb9 : Below wr.heap.size wr w9) (k : Nat) (hk : k < 1) :
  Calls Tryz.prog 34 #[.agg #[.int .i64 ((mS k).1 0), .int .i64 ((mS k).1 1), .int .i64 ((mS k).1 2), .int .i64 ((mS k).1 3), .int .i64 ((mS k).1 4), .int .i64 ((mS k).1 5), .int .i64 ((mS k).1 6), .int .i64 ((mS k).1 7), .int .i64 ((mS k).1 8), .int .i64 ((mS k).1 9), .int .i64 ((mS k).1 10), .int .i64 ((mS k).1 11), .int .i64 ((mS k).1 12), .int .i64 ((mS k).1 13), .int .i64 ((mS k).1 14), .int .i64 ((mS k).1 15), .slice none 0 0, .bool false], .iface 103 (.pointer (some ⟨gm, 0, none⟩))] w9 fun e w' => e = .returned (.tuple #[.agg #[.int .i64 ((mS (k + 1)).1 0), .int .i64 ((mS (k + 1)).1 1), .int .i64 ((mS (k + 1)).1 2), .int .i64 ((mS (k + 1)).1 3), .int .i64 ((mS (k + 1)).1 4), .int .i64 ((mS (k + 1)).1 5), .int .i64 ((mS (k + 1)).1 6), .int .i64 ((mS (k + 1)).1 7), .int .i64 ((mS (k + 1)).1 8), .int .i64 ((mS (k + 1)).1 9), .int .i64 ((mS (k + 1)).1 10), .int .i64 ((mS (k + 1)).1 11), .int .i64 ((mS (k + 1)).1 12), .int .i64 ((mS (k + 1)).1 13), .int .i64 ((mS (k + 1)).1 14), .int .i64 ((mS (k + 1)).1 15), .slice none 0 0, .bool (mS (k + 1)).2], .int .i64 (mO k), .bool (mT k), .int .i64 0]) ∧ Below w9.heap.size w9 w' := by
 obtain rfl : k = 0 := by omega
 show Calls Tryz.prog 34 #[.agg #[.int .i64 0, .int .i64 0, .int .i64 4, .int .i64 0, .int .i64 0, .int .i64 0, .int .i64 4, .int .i64 1, .int .i64 0, .int .i64 4, .int .i64 2, .int .i64 0, .int .i64 4, .int .i64 3, .int .i64 0, .int .i64 4, .slice none 0 0, .bool false], .iface 103 (.pointer (some ⟨gm, 0, none⟩))] w9 fun e w' => e = .returned (.tuple #[.agg #[.int .i64 0, .int .i64 1, .int .i64 4, .int .i64 0, .int .i64 0, .int .i64 0, .int .i64 4, .int .i64 1, .int .i64 0, .int .i64 4, .int .i64 2, .int .i64 0, .int .i64 4, .int .i64 3, .int .i64 0, .int .i64 4, .slice none 0 0, .bool false], .int .i64 0, .bool false, .int .i64 0]) ∧ Below w9.heap.size w9 w'
 exact st_lda0 gm 0 7 4 4 4 0 6 wsM 0 4 0 0 0 4 1 0 4 2 0 4 3 0 4 wr w9 hb9 (mem_seg HS.T uA botS [[112]] okp_p (nPs wsM) HS.see rfl [(⟨#[47, 112]⟩ : ByteArray), (⟨#[47, 100]⟩ : ByteArray)] 0 (by decide) rfl gm c1 b1 A1 B1 wr hm hc hC hb hB 7 HS.mo) (by decide +kernel) me_4 (by decide) (by decide) dcm0 7 4 4 4 0 0 wsM 6 (mem_seg HS.T uA botS [[112]] okp_p (nPs wsM) HS.see rfl [(⟨#[47, 112]⟩ : ByteArray), (⟨#[47, 100]⟩ : ByteArray)] 0 (by decide) rfl gm c1 b1 A1 B1 wr hm hc hC hb hB 7 HS.mo) (by decide +kernel) (by decide +kernel) mr_4 (by decide) rfl (by decide)
end Go.Proofs.YteilkbookcmndaaGreatDoor.C
end
section
set_option linter.unusedVariables false
set_option linter.unusedSimpArgs false
namespace Go.Proofs.YteilkbookcmndaaGreatDoor.C
open Go.RowKit Go.Proofs.YteilkbookcmndaaGreatDoor.Q Go.Proofs.YteilkbookcmndaaGreatDoorW.PrintWords Go.Proofs.YteilkbookcmndaaGreatDoorW.PrintLast Go.Proofs.YteilkbookcmndaaGreatDoorW.PrintMore
attribute [local go_sem ↓] rd_at50 wr_at50 al_at50
attribute [local go_sem] rd50_new wr50_new al50
attribute [local go_sem ↓] rd_at45 wr_at45 rd_at150 wr_at150 rd_at47b wr_at47b rd_at77 wr_at77 rd_at41p wr_at41p
attribute [local go_sem] rd45_new wr45_new rd150_new wr150_new wr47b_new
attribute [local go_sem] max2_mx max_two
theorem mov_I (w1 : World) : ∀ i, i < 7 → ∀ w2 : World, Below (w1.alloc (.cells #[.int .i64 1, .int .i64 0, .int .i64 6, .int .i64 2, .int .i64 1, .int .i64 1, .int .i64 1, .int .i64 1, .int .i64 1, .int .i64 22, .int .i64 0, .int .i64 0, .int .i64 0, .int .i64 0, .int .i64 0, .int .i64 0, .int .i64 0, .int .i64 0, .int .i64 0, .int .i64 0, .int .i64 0] 77)).heap.size (w1.alloc (.cells #[.int .i64 1, .int .i64 0, .int .i64 6, .int .i64 2, .int .i64 1, .int .i64 1, .int .i64 1, .int .i64 1, .int .i64 1, .int .i64 22, .int .i64 0, .int .i64 0, .int .i64 0, .int .i64 0, .int .i64 0, .int .i64 0, .int .i64 0, .int .i64 0, .int .i64 0, .int .i64 0, .int .i64 0] 77)) w2 → (rdS 77 (.pointer (some ((⟨w1.heap.size, 0, none⟩ : Addr).add (i * 3))))).run Tryz.prog w2 = .ok (.agg #[.int .i64 ((fun i => if i = 0 then 1 else if i = 1 then 2 else if i = 2 then 1 else if i = 3 then 22 else 0 : Nat → Int) i), .int .i64 ((fun i => if i = 1 then 1 else if i = 2 then 1 else 0 : Nat → Int) i), .int .i64 ((fun i => if i = 0 then 6 else if i = 1 then 1 else if i = 2 then 1 else 0 : Nat → Int) i)]) w2 := by
 intro i hi w2 hb
 have hk := blk_below (blk_new w1 (.cells #[.int .i64 1, .int .i64 0, .int .i64 6, .int .i64 2, .int .i64 1, .int .i64 1, .int .i64 1, .int .i64 1, .int .i64 1, .int .i64 22, .int .i64 0, .int .i64 0, .int .i64 0, .int .i64 0, .int .i64 0, .int .i64 0, .int .i64 0, .int .i64 0, .int .i64 0, .int .i64 0, .int .i64 0] 77)) hb
 rcases i with _ | _ | _ | _ | _ | _ | _ | i
 ·show (rdS 77 (.pointer (some ⟨w1.heap.size, 0, none⟩))).run Tryz.prog w2 = .ok (.agg #[.int .i64 1, .int .i64 0, .int .i64 6]) w2
  exact rd_in (t := 77) (k := 3) (o := 0) hk Tryz.isAgg77 Tryz.sizeOf77 (by show 0 + 3 ≤ 21; omega)
 ·show (rdS 77 (.pointer (some ⟨w1.heap.size, 3, none⟩))).run Tryz.prog w2 = .ok (.agg #[.int .i64 2, .int .i64 1, .int .i64 1]) w2
  exact rd_in (t := 77) (k := 3) (o := 3) hk Tryz.isAgg77 Tryz.sizeOf77 (by show 3 + 3 ≤ 21; omega)
 ·show (rdS 77 (.pointer (some ⟨w1.heap.size, 6, none⟩))).run Tryz.prog w2 = .ok (.agg #[.int .i64 1, .int .i64 1, .int .i64 1]) w2
  exact rd_in (t := 77) (k := 3) (o := 6) hk Tryz.isAgg77 Tryz.sizeOf77 (by show 6 + 3 ≤ 21; omega)
 ·show (rdS 77 (.pointer (some ⟨w1.heap.size, 9, none⟩))).run Tryz.prog w2 = .ok (.agg #[.int .i64 22, .int .i64 0, .int .i64 0]) w2
  exact rd_in (t := 77) (k := 3) (o := 9) hk Tryz.isAgg77 Tryz.sizeOf77 (by show 9 + 3 ≤ 21; omega)
 ·show (rdS 77 (.pointer (some ⟨w1.heap.size, 12, none⟩))).run Tryz.prog w2 = .ok (.agg #[.int .i64 0, .int .i64 0, .int .i64 0]) w2
  exact rd_in (t := 77) (k := 3) (o := 12) hk Tryz.isAgg77 Tryz.sizeOf77 (by show 12 + 3 ≤ 21; omega)
 ·show (rdS 77 (.pointer (some ⟨w1.heap.size, 15, none⟩))).run Tryz.prog w2 = .ok (.agg #[.int .i64 0, .int .i64 0, .int .i64 0]) w2
  exact rd_in (t := 77) (k := 3) (o := 15) hk Tryz.isAgg77 Tryz.sizeOf77 (by show 15 + 3 ≤ 21; omega)
 ·show (rdS 77 (.pointer (some ⟨w1.heap.size, 18, none⟩))).run Tryz.prog w2 = .ok (.agg #[.int .i64 0, .int .i64 0, .int .i64 0]) w2
  exact rd_in (t := 77) (k := 3) (o := 18) hk Tryz.isAgg77 Tryz.sizeOf77 (by show 18 + 3 ≤ 21; omega)
 ·omega
theorem mov_E : ∀ i, i < 7 → PProcLimits.donjonref15_Encode.f 100 ((fun i => if i = 0 then 1 else if i = 1 then 2 else if i = 2 then 1 else if i = 3 then 22 else 0 : Nat → Int) i) ((fun i => if i = 1 then 1 else if i = 2 then 1 else 0 : Nat → Int) i) ((fun i => if i = 0 then 6 else if i = 1 then 1 else if i = 2 then 1 else 0 : Nat → Int) i) = some ((fun i => wsM.getD i 0 : Nat → Int) i, ((fun _ => 0) : Nat → Int) i) := by
 intro i hi
 rcases i with _ | _ | _ | _ | _ | _ | _ | i
 ·kernel_rfl
 ·kernel_rfl
 ·kernel_rfl
 ·kernel_rfl
 ·kernel_rfl
 ·kernel_rfl
 ·kernel_rfl
 ·omega
theorem intC2 {w : World} {g : Nat} {s t : Int} (hg : w.heap[g]? = some (.cells #[.int .i64 s, .int .i64 t] 2 (0, 0))) : Kd.C (Kd.int .i64) w (some ⟨g, 0, none⟩) [s, t].length [s, t] := by
 refine ⟨rfl, by show 2 ≤ 9223372036854775807; decide, fun _ => ⟨_, rfl, fun j q hj => ?_⟩⟩
 have hj2 : j < 2 := (List.getElem?_eq_some_iff.1 hj).1
 rcases j with _ | _ | j
 ·obtain rfl : s = q := by simpa using hj
  refine ⟨[.int .i64 s], rfl, rfl, fun i u hu => ?_⟩
  rcases i with _ | i
  ·obtain rfl : Value.int .i64 s = u := by simpa using hu
   show w.cell? ((⟨g, 0, none⟩ : Addr).add 0) = _
   rw [add_plain]; exact (blk_cell hg 0).trans rfl
  ·simp at hu
 ·obtain rfl : t = q := by simpa using hj
  refine ⟨[.int .i64 t], rfl, rfl, fun i u hu => ?_⟩
  rcases i with _ | i
  ·obtain rfl : Value.int .i64 t = u := by simpa using hu
   show w.cell? ((⟨g, 0, none⟩ : Addr).add 1) = _
   rw [add_plain]; exact (blk_cell hg 1).trans rfl
  ·simp at hu
 ·omega
theorem simple_M (g0 g1 : Nat) (x y m : Int) (h0 : 0 ≤ m) (h7 : m < 8) (W : World) (hI : ∀ i, i < 7 → ∀ w2 : World, Below W.heap.size W w2 → (rdS 77 (.pointer (some ((⟨g0, 0, none⟩ : Addr).add (i * 3))))).run Tryz.prog w2 = .ok (.agg #[.int .i64 ((fun i => if i = 0 then 1 else if i = 1 then 2 else if i = 2 then 1 else if i = 3 then 22 else 0 : Nat → Int) i), .int .i64 ((fun i => if i = 1 then 1 else if i = 2 then 1 else 0 : Nat → Int) i), .int .i64 ((fun i => if i = 0 then 6 else if i = 1 then 1 else if i = 2 then 1 else 0 : Nat → Int) i)]) w2) (hD : W.heap[g1]? = some (.cells #[.int .i64 x, .int .i64 y] 2 (0, 0))) :
  Calls Tryz.prog 21 #[.slice (some ⟨g0, 0, none⟩) 7 7, .slice (some ⟨g1, 0, none⟩) 2 2, .int .i64 m] W fun e w' => ∃ A' c' t, e = .returned (.slice A' (List.length t) c') ∧ SimM t [x, y] m ∧ t.length ≤ c' ∧ Kd.C k50 w' A' t.length t ∧ Below W.heap.size W w' := by
 by_cases hm : m = 0
 ·refine (simple_z 7 ⟨g0, 0, none⟩ 7 (fun i => if i = 0 then 1 else if i = 1 then 2 else if i = 2 then 1 else if i = 3 then 22 else 0) (fun i => if i = 1 then 1 else if i = 2 then 1 else 0) (fun i => if i = 0 then 6 else if i = 1 then 1 else if i = 2 then 1 else 0) (fun i => wsM.getD i 0) (fun _ => 0) [x, y] (some ⟨g1, 0, none⟩) 2 m W hm (by decide) (by decide) (by simp) (by simp) hI mov_E (intC2 hD)).mono ?_
  rintro e w' ⟨A', c', t, rfl, ht, hc, hC, hb⟩
  refine ⟨A', c', t, rfl, ?_, hc, hC, hb⟩
  subst hm
  have h2 : t = tS wsM [x, y] (aclM 0) := ht.trans (by kernel_rfl)
  rw [h2]
  exact sim_M [x, y] (by simp) h0 h7
 ·refine (simple_p 7 ⟨g0, 0, none⟩ 7 (fun i => if i = 0 then 1 else if i = 1 then 2 else if i = 2 then 1 else if i = 3 then 22 else 0) (fun i => if i = 1 then 1 else if i = 2 then 1 else 0) (fun i => if i = 0 then 6 else if i = 1 then 1 else if i = 2 then 1 else 0) (fun i => wsM.getD i 0) (fun _ => 0) [x, y] (some ⟨g1, 0, none⟩) 2 m W (by omega) (by decide) (by decide) (by simp) (by simp) hI mov_E (intC2 hD)).mono ?_
  rintro e w' ⟨A', c', t, rfl, ht, hc, hC, hb⟩
  refine ⟨A', c', t, rfl, ?_, hc, hC, hb⟩
  have ha : aclM m = [⟨⟨#[42]⟩, m⟩] := if_neg hm
  have h2 : t = tS wsM [x, y] [⟨⟨#[42]⟩, m⟩] := ht.trans (by kernel_rfl)
  rw [h2, ← ha]
  exact sim_M [x, y] (by simp) h0 h7
theorem mayMn (t : List S50) (x y m : Int) (HS : SimM t [x, y] m) (h0 : 0 ≤ m) (h7 : m < 8) (hm1 : bits .and .i64 m 1 = 1) : mayR t botS uA [[100]] 1 = (nDs [x, y] (aclM m), 0) := by
 rw [HS.eq]
 have : m = 0 ∨ m = 1 ∨ m = 2 ∨ m = 3 ∨ m = 4 ∨ m = 5 ∨ m = 6 ∨ m = 7 := by omega
 rcases this with rfl | rfl | rfl | rfl | rfl | rfl | rfl | rfl
 ·exact absurd hm1 (by decide)
 ·show mayR (tS wsM [x, y] (aclM 1)) botS uA [[100]] 1 = (nDs [x, y] (aclM 1), 0)
  kernel_rfl
 ·exact absurd hm1 (by decide)
 ·show mayR (tS wsM [x, y] (aclM 3)) botS uA [[100]] 1 = (nDs [x, y] (aclM 3), 0)
  kernel_rfl
 ·exact absurd hm1 (by decide)
 ·show mayR (tS wsM [x, y] (aclM 5)) botS uA [[100]] 1 = (nDs [x, y] (aclM 5), 0)
  kernel_rfl
 ·exact absurd hm1 (by decide)
 ·show mayR (tS wsM [x, y] (aclM 7)) botS uA [[100]] 1 = (nDs [x, y] (aclM 7), 0)
  kernel_rfl
theorem find_D (x y : Int) (acl : List S96) (t : List S50) (ht : t = tS wsM [x, y] acl) (A : Option Addr) (c : Nat) (w : World) (hC : Kd.C k50 w A t.length t) (hc : t.length ≤ c) :
  Calls Tryz.prog 16 #[.slice A t.length c, .string (⟨#[47, 100]⟩ : ByteArray)] w fun e w' => ∃ A6 c6 ad c11, e = .returned (.tuple #[.agg #[.string (⟨#[47, 100]⟩ : ByteArray), .bool false, .int .i64 0, .int .i64 0, .int .i64 3, .int .i64 255, .slice A6 acl.length c6, .int .i64 4, .int .i64 4, .int .i64 4, .int .i64 0, .slice (some ad) 2 c11, .int .i64 0, .int .i64 0, .int .i64 0, .int .i64 0], .bool true]) ∧ 2 ≤ c11 ∧ w'.cell? ad = some (.int .i64 x) ∧ w'.cell? ⟨ad.block, ad.off + 1, none⟩ = some (.int .i64 y) ∧ Below w.heap.size w w' := by
 refine (find_c t (⟨#[47, 100]⟩ : ByteArray) A c w hC hc).mono ?_
 rintro e w' ⟨cs, rfl, hK, hb⟩
 subst ht
 rw [find_M] at hK ⊢
 obtain ⟨A6, c6, A11, c11, rfl, l6, g6, l11, g11⟩ := k50_open hK
 have h0 := word_at (xs := [x, y]) g11 0 (by simp)
 have h1 := word_at (xs := [x, y]) g11 1 (by simp)
 obtain ⟨ad, rfl, hw0⟩ := h0
 obtain ⟨ad2, he2, hw1⟩ := h1
 cases he2
 exact ⟨A6, c6, ad, c11, rfl, l11, by rw [addr_add0] at hw0; exact hw0, hw1, hb⟩
set_option maxHeartbeats 16000000 in
set_option maxRecDepth 1000000 in
theorem mv15 (gd tc c6 c11 : Nat) (tw ad : Addr) (A6 : Option Addr) (cs : Array Value) (u0 u1 u2 u3 u4 u5 u6 u7 u8 u9 u10 u11 u12 u14 u17 u18 u19 u20 u21 u22 u23 u24 u25 u26 u27 u28 u29 u30 u31 u32 u33 u34 u35 u36 u37 u38 u39 u40 u41 u42 u43 u44 u45 u46 u47 u48 u49 u50 u51 u52 u53 u54 u55 u56 u57 u58 u59 u60 u61 u62 u63 u64 u65 u66 u67 u68 u69 u70 u71 u72 u73 u74 u75 u76 u77 u78 u79 u80 u81 u82 u83 u84 u85 u86 u87 u88 u89 u90 u91 u92 u93 u94 u95 u96 u97 u98 u99 u100 u101 u102 u103 u104 u105 u106 u107 u108 u109 u110 u111 u112 u113 u114 u115 u116 u117 u118 u119 u120 u121 u122 u123 u124 u125 : Value) (W : World) (Q : Exit → Act → World → Prop)
  (hd : W.heap[gd]? = some (.cells cs 36 (0, 0))) (h11 : cs[11]? = some (.slice (some ad) 2 c11)) (ht : W.cell? tw = some (.int .i64 0)) (ha : W.cell? ⟨ad.block, ad.off + 1, none⟩ = some (.int .i64 0)) (htc : 1 ≤ tc) (hcc : 2 ≤ c11)
  (hpost : ∀ (t102 t103 t104 t105 t106 t107 t108 t109 t110 t111 t112 t113 t114 t115 t116 t117 t118 t119 t120 t121 t122 t123 t124 t125 : Value), Q .normal ⟨#[u0, u1, u2, u3, u4, u5, .bool true, u7, u8, u9, u10, u11, u12, .slice (some tw) 1 tc, u14, .int .i64 0, .pointer (some ⟨gd, 0, none⟩), u17, u18, u19, u20, u21, u22, u23, u24, u25, u26, u27, u28, u29, u30, u31, u32, u33, u34, u35, u36, u37, u38, u39, u40, u41, u42, u43, u44, u45, u46, u47, u48, u49, u50, u51, u52, u53, u54, u55, u56, u57, u58, u59, u60, u61, u62, u63, u64, u65, u66, u67, u68, u69, u70, u71, u72, u73, u74, u75, u76, u77, u78, u79, u80, u81, u82, u83, u84, u85, u86, u87, u88, u89, u90, u91, u92, u93, u94, u95, u96, u97, u98, u99, u100, u101, t102, t103, t104, t105, t106, t107, t108, t109, t110, t111, t112, t113, t114, t115, t116, t117, t118, t119, t120, t121, t122, t123, t124, t125], []⟩ W.drew) :
  Code.wp Tryz.prog (cReg Tryz.f7 15) Q ⟨#[u0, u1, u2, u3, u4, u5, u6, u7, u8, u9, u10, u11, u12, .slice (some tw) 1 tc, u14, .int .i64 0, .pointer (some ⟨gd, 0, none⟩), u17, u18, u19, u20, u21, u22, u23, u24, u25, u26, u27, u28, u29, u30, u31, u32, u33, u34, u35, u36, u37, u38, u39, u40, u41, u42, u43, u44, u45, u46, u47, u48, u49, u50, u51, u52, u53, u54, u55, u56, u57, u58, u59, u60, u61, u62, u63, u64, u65, u66, u67, u68, u69, u70, u71, u72, u73, u74, u75, u76, u77, u78, u79, u80, u81, u82, u83, u84, u85, u86, u87, u88, u89, u90, u91, u92, u93, u94, u95, u96, u97, u98, u99, u100, u101, u102, u103, u104, u105, u106, u107, u108, u109, u110, u111, u112, u113, u114, u115, u116, u117, u118, u119, u120, u121, u122, u123, u124, u125], []⟩ W := by
 have HPO := Lib.hid hpost
 have ED := Lib.hid hd
 have HT := Lib.hid ht
 have HA := Lib.hid ha
 clear hd ht ha hpost
 have HB := Lib.hid (below_drew1 (Below.refl W.heap.size W))
 conv => arg 2; whnf
 refine wp_region_noPanic ?_
 refine wp_region_held_drew (S := fun W1 => W1.cell? tw = some (.int .i64 0) ∧ W1.cell? ⟨gd, 11, none⟩ = some (.slice (some ad) 2 c11) ∧ W1.cell? ⟨ad.block, ad.off + 1, none⟩ = some (.int .i64 0)) (by kernel_rfl) ?_ (fun hHeld => ?_)
 focus ((try dsimp only); exact ⟨HT.out, (blk_cell (blk_drew ED.out) 11).trans h11, HA.out⟩)
 refine tk 0 102 (v := ?_) rfl rfl (by kernel_rfl) rfl ?_ (by assumption) ?_; rotate_left; focus (intro w hSw; go_simp; try with_reducible rfl)
 try simp only [Act.put, List.setIfInBounds_toArray, List.set_cons_zero, List.set_cons_succ]
 refine tk 1 103 (v := ?_) rfl rfl (by kernel_rfl) rfl ?_ (by assumption) ?_; rotate_left; focus (intro w hSw; go_simp; try with_reducible rfl)
 try simp only [Act.put, List.setIfInBounds_toArray, List.set_cons_zero, List.set_cons_succ]
 refine tk 2 104 (v := ?_) rfl rfl (by kernel_rfl) rfl ?_ (by assumption) ?_; rotate_left; focus (intro w hSw; go_simp; try with_reducible rfl)
 try simp only [Act.put, List.setIfInBounds_toArray, List.set_cons_zero, List.set_cons_succ]
 refine tk 3 105 (v := ?_) rfl rfl (by kernel_rfl) rfl ?_ (by assumption) ?_; rotate_left; focus (intro w hSw; go_simp; try with_reducible rfl)
 try simp only [Act.put, List.setIfInBounds_toArray, List.set_cons_zero, List.set_cons_succ]
 refine tk 4 106 (v := ?_) rfl rfl (by kernel_rfl) rfl ?_ (by assumption) ?_; rotate_left; focus (intro w hSw; go_simp; try with_reducible rfl)
 try simp only [Act.put, List.setIfInBounds_toArray, List.set_cons_zero, List.set_cons_succ]
 refine tk 5 107 (v := ?_) rfl rfl (by kernel_rfl) rfl ?_ (by assumption) ?_; rotate_left; focus (intro w hSw; go_simp; try with_reducible rfl)
 try simp only [Act.put, List.setIfInBounds_toArray, List.set_cons_zero, List.set_cons_succ]
 refine tk 6 108 (v := ?_) rfl rfl (by kernel_rfl) rfl ?_ (by assumption) ?_; rotate_left; focus (intro w hSw; go_simp; try with_reducible rfl)
 try simp only [Act.put, List.setIfInBounds_toArray, List.set_cons_zero, List.set_cons_succ]
 refine tk 7 109 (v := ?_) rfl rfl (by kernel_rfl) rfl ?_ (by assumption) ?_; rotate_left; focus (intro w hSw; go_simp; try with_reducible rfl)
 try simp only [Act.put, List.setIfInBounds_toArray, List.set_cons_zero, List.set_cons_succ]
 refine tk 8 110 (v := ?_) rfl rfl (by kernel_rfl) rfl ?_ (by assumption) ?_; rotate_left; focus (intro w hSw; go_simp; try with_reducible rfl)
 try simp only [Act.put, List.setIfInBounds_toArray, List.set_cons_zero, List.set_cons_succ]
 refine tk 9 111 (v := ?_) rfl rfl (by kernel_rfl) rfl ?_ (by assumption) ?_; rotate_left; focus (intro w hSw; go_simp; try with_reducible rfl)
 try simp only [Act.put, List.setIfInBounds_toArray, List.set_cons_zero, List.set_cons_succ]
 refine tk 10 112 (v := ?_) rfl rfl (by kernel_rfl) rfl ?_ (by assumption) ?_; rotate_left; focus (intro w hSw; go_simp; try with_reducible rfl)
 try simp only [Act.put, List.setIfInBounds_toArray, List.set_cons_zero, List.set_cons_succ]
 refine tk 11 113 (v := ?_) rfl rfl (by kernel_rfl) rfl ?_ (by assumption) ?_; rotate_left; focus (intro w hSw; go_simp; try with_reducible rfl)
 try simp only [Act.put, List.setIfInBounds_toArray, List.set_cons_zero, List.set_cons_succ]
 refine tk 12 114 (v := ?_) rfl rfl (by kernel_rfl) rfl ?_ (by assumption) ?_; rotate_left; focus (intro w hSw; go_simp; try with_reducible rfl)
 try simp only [Act.put, List.setIfInBounds_toArray, List.set_cons_zero, List.set_cons_succ]
 refine tk 13 115 (v := ?_) rfl rfl (by kernel_rfl) rfl ?_ (by assumption) ?_; rotate_left; focus (intro w hSw; go_simp; try with_reducible rfl)
 try simp only [Act.put, List.setIfInBounds_toArray, List.set_cons_zero, List.set_cons_succ]
 refine tk 14 116 (v := ?_) rfl rfl (by kernel_rfl) rfl ?_ (by assumption) ?_; rotate_left; focus (intro w hSw; go_simp; try with_reducible rfl)
 try simp only [Act.put, List.setIfInBounds_toArray, List.set_cons_zero, List.set_cons_succ]
 refine tk 15 117 (v := ?_) rfl rfl (by kernel_rfl) rfl ?_ (by assumption) ?_; rotate_left; focus (intro w hSw; go_simp; try with_reducible rfl)
 try simp only [Act.put, List.setIfInBounds_toArray, List.set_cons_zero, List.set_cons_succ]
 refine tk 16 118 (v := ?_) rfl rfl (by kernel_rfl) rfl ?_ (by assumption) ?_; rotate_left; focus (intro w hSw; go_simp; try with_reducible rfl)
 try simp only [Act.put, List.setIfInBounds_toArray, List.set_cons_zero, List.set_cons_succ]
 refine tk 17 119 (v := ?_) rfl rfl (by kernel_rfl) rfl ?_ (by assumption) ?_; rotate_left; focus (intro w hSw; go_simp; try with_reducible rfl)
 try simp only [Act.put, List.setIfInBounds_toArray, List.set_cons_zero, List.set_cons_succ]
 refine tk 18 120 (v := ?_) rfl rfl (by kernel_rfl) rfl ?_ (by assumption) ?_; rotate_left; focus (intro w hSw; go_simp; try with_reducible rfl)
 try simp only [Act.put, List.setIfInBounds_toArray, List.set_cons_zero, List.set_cons_succ]
 refine tk 19 121 (v := ?_) rfl rfl (by kernel_rfl) rfl ?_ (by assumption) ?_; rotate_left; focus (intro w hSw; go_simp; try with_reducible rfl)
 try simp only [Act.put, List.setIfInBounds_toArray, List.set_cons_zero, List.set_cons_succ]
 refine tk 20 122 (v := ?_) rfl rfl (by kernel_rfl) rfl ?_ (by assumption) ?_; rotate_left; focus (intro w hSw; go_simp; try with_reducible rfl)
 try simp only [Act.put, List.setIfInBounds_toArray, List.set_cons_zero, List.set_cons_succ]
 refine tk 21 123 (v := ?_) rfl rfl (by kernel_rfl) rfl ?_ (by assumption) ?_; rotate_left; focus (intro w hSw; go_simp; try with_reducible rfl)
 try simp only [Act.put, List.setIfInBounds_toArray, List.set_cons_zero, List.set_cons_succ]
 refine tk 22 124 (v := ?_) rfl rfl (by kernel_rfl) rfl ?_ (by assumption) ?_; rotate_left; focus (intro w hSw; go_simp; try with_reducible rfl)
 try simp only [Act.put, List.setIfInBounds_toArray, List.set_cons_zero, List.set_cons_succ]
 refine tk 23 125 (v := ?_) rfl rfl (by kernel_rfl) rfl ?_ (by assumption) ?_; rotate_left; focus (intro w hSw; go_simp; try with_reducible rfl)
 try simp only [Act.put, List.setIfInBounds_toArray, List.set_cons_zero, List.set_cons_succ]
 refine tk 24 6 (v := ?_) rfl rfl (by kernel_rfl) rfl ?_ (by assumption) ?_; rotate_left; focus (intro w hSw; go_simp; try with_reducible rfl)
 try simp only [Act.put, List.setIfInBounds_toArray, List.set_cons_zero, List.set_cons_succ]
 refine wpAnyH_done (by kernel_rfl) ?_ _
 refine NoPanic.normal ?_
 exact HPO.out _ _ _ _ _ _ _ _ _ _ _ _ _ _ _ _ _ _ _ _ _ _ _ _
set_option maxHeartbeats 16000000 in
set_option maxRecDepth 1000000 in
theorem moves_n (hkn : ∀ w : World, Calls Tryz.prog 9 #[] w fun e w' => e = .returned (.bool true) ∧ Below w.heap.size w w') (n x y m : Int) (hft : PProcLimits.donjonlaw17_within.f n 8 = some m) (h0 : 0 ≤ m) (h7 : m < 8) (hm1 : bits .and .i64 m 1 = 0) (W : World) : Calls Tryz.prog 7 #[.int .i64 n, .int .i64 x, .int .i64 y] W fun e w' => e = .returned (.bool true) ∧ Below W.heap.size W w' := by
 have H0 := Lib.hid h0
 have H7 := Lib.hid h7
 have HFT := Lib.hid hft
 have HM1 := Lib.hid hm1
 skip
 clear h0 h7 hft
 go_enter Tryz.func7, Tryz.ntmps7
 go_wp2_with (first
  | (go_at_call 12; have hgate := HE52.out; clear hgate; go_loud (refine (make_bad t.length c1 2 1 A1 (some ⟨w4.heap.size + 1, 0, none⟩) uA botS [(⟨#[47, 112]⟩ : ByteArray), (⟨#[47, 100]⟩ : ByteArray)] (fun i => if i = 0 then nPs wsM else (mayR t botS uA [[100]] 1).1) (fun i => if i = 0 then 0 else 16) _ (by decide) (by decide) (by decide) (strC2 (by have h := blk_new (w4.alloc (.cells #[.string (⟨#[97]⟩ : ByteArray), .int .i64 0, .int .i64 0, .int .i64 3, .int .i64 255] 52)) (.cells #[.string (⟨#[47, 112]⟩ : ByteArray), .string (⟨#[47, 100]⟩ : ByteArray)] 9); simp only [World.size_alloc] at h; exact h)) (fun i hi => by obtain rfl : i = 0 := (by omega); exact ⟨rfl, rfl⟩) (by decide) (by decide) ?hM).mono ?_; (case hM => (intro i hi hl w5 hb; have hi2 : i = 0 ∨ i = 1 := (by have : i < 2 := hl; omega); rcases hi2 with rfl | rfl; (refine (may_tF2 HSIM.out.T uA botS [[112]] okp_p (⟨#[47, 112]⟩ : ByteArray) rfl 4 (nPs wsM) 0 HSIM.out.may A1 c1 w5 (Kd.C_below HC.out (below_step (below_alloc (below_alloc (Below.refl _ _) (.cells #[.string (⟨#[97]⟩ : ByteArray), .int .i64 0, .int .i64 0, .int .i64 3, .int .i64 255] 52)) (.cells #[.string (⟨#[47, 112]⟩ : ByteArray), .string (⟨#[47, 100]⟩ : ByteArray)] 9)) hb)) HCL.out).mono ?_; rintro e w' ⟨A6, c6, A11, c11, rfl, _, hb2⟩; exact ⟨A6, c6, A11, c11, rfl, hb2⟩); (refine (may_tF2 HSIM.out.T uA botS [[100]] okp_d (⟨#[47, 100]⟩ : ByteArray) rfl 1 (mayR t botS uA [[100]] 1).1 16 (Prod.ext rfl (HSIM.out.mayd.trans (if_pos HM1.out))) A1 c1 w5 (Kd.C_below HC.out (below_step (below_alloc (below_alloc (Below.refl _ _) (.cells #[.string (⟨#[97]⟩ : ByteArray), .int .i64 0, .int .i64 0, .int .i64 3, .int .i64 255] 52)) (.cells #[.string (⟨#[47, 112]⟩ : ByteArray), .string (⟨#[47, 100]⟩ : ByteArray)] 9)) hb)) HCL.out).mono ?_; rintro e w' ⟨A6, c6, A11, c11, rfl, _, hb2⟩; exact ⟨A6, c6, A11, c11, rfl, hb2⟩))); rintro e w6 ⟨rfl, hb⟩; have HB6 := Lib.hid (below_step (below_alloc (below_alloc HB4.out (.cells #[.string (⟨#[97]⟩ : ByteArray), .int .i64 0, .int .i64 0, .int .i64 3, .int .i64 255] 52)) (.cells #[.string (⟨#[47, 112]⟩ : ByteArray), .string (⟨#[47, 100]⟩ : ByteArray)] 9)) hb); clear hb))
  | (go_at_call 22; refine (donjonref4_Bottom.calls 0 0 3 255 _ rfl).mono ?_; rintro e w4 ⟨rfl, hb⟩; have HB4 := Lib.hid (below_step HB3.out hb); have HC := Lib.hid (Kd.C_below HC.out hb); have HE52 := Lib.hid (blk_alloc (blk_new w4 (.cells #[.string (⟨#[97]⟩ : ByteArray), .int .i64 0, .int .i64 0, .int .i64 3, .int .i64 255] 52)) (.cells #[.string (⟨#[47, 112]⟩ : ByteArray), .string (⟨#[47, 100]⟩ : ByteArray)] 9)); clear hb)
  | (go_at_call 21; go_loud (refine (simple_M w2.heap.size (w2.heap.size + 1) x y m H0.out H7.out ((w2.alloc (.cells #[.int .i64 1, .int .i64 0, .int .i64 6, .int .i64 2, .int .i64 1, .int .i64 1, .int .i64 1, .int .i64 1, .int .i64 1, .int .i64 22, .int .i64 0, .int .i64 0, .int .i64 0, .int .i64 0, .int .i64 0, .int .i64 0, .int .i64 0, .int .i64 0, .int .i64 0, .int .i64 0, .int .i64 0] 77)).alloc (.cells #[.int .i64 x, .int .i64 y] 2)) (fun i hi w3 hb => mov_I w2 i hi w3 (below_step (below_alloc (Below.refl _ _) (.cells #[.int .i64 x, .int .i64 y] 2)) hb)) (by have h := blk_new (w2.alloc (.cells #[.int .i64 1, .int .i64 0, .int .i64 6, .int .i64 2, .int .i64 1, .int .i64 1, .int .i64 1, .int .i64 1, .int .i64 1, .int .i64 22, .int .i64 0, .int .i64 0, .int .i64 0, .int .i64 0, .int .i64 0, .int .i64 0, .int .i64 0, .int .i64 0, .int .i64 0, .int .i64 0, .int .i64 0] 77)) (.cells #[.int .i64 x, .int .i64 y] 2); simp only [World.size_alloc] at h; exact h)).mono ?_; rintro e w3 ⟨A1, c1, t, rfl, hS, hc1, hC, hb⟩; have HSIM := Lib.hid hS; have HC := Lib.hid hC; have HCL := Lib.hid hc1; have HB3 := Lib.hid (below_step (below_alloc (below_alloc HB2.out (.cells #[.int .i64 1, .int .i64 0, .int .i64 6, .int .i64 2, .int .i64 1, .int .i64 1, .int .i64 1, .int .i64 1, .int .i64 1, .int .i64 22, .int .i64 0, .int .i64 0, .int .i64 0, .int .i64 0, .int .i64 0, .int .i64 0, .int .i64 0, .int .i64 0, .int .i64 0, .int .i64 0, .int .i64 0] 77)) (.cells #[.int .i64 x, .int .i64 y] 2)) hb); clear hS hC hb hc1))
  | (go_at_call 11; go_loud (refine (PProcLimits.donjonlaw17_within.calls n 8 m _ HFT.out).mono ?_; rintro e w2 ⟨rfl, hd⟩; have hb := drawn_below hd; clear hd; have HB2 := Lib.hid (below_step HB1.out hb); clear hb))
  | (go_at_call 9; refine (hkn _).mono ?_; rintro e w1 ⟨rfl, hb⟩; have HB1 := Lib.hid hb; clear hb))
 refine bodyPost_ret (results_tmp rfl _ _ _) rfl ⟨rfl, below_alloc HB6.out _⟩
set_option maxHeartbeats 16000000 in
set_option maxRecDepth 1000000 in
theorem moves_r (hkn : ∀ w : World, Calls Tryz.prog 9 #[] w fun e w' => e = .returned (.bool true) ∧ Below w.heap.size w w') (n x y m : Int) (hft : PProcLimits.donjonlaw17_within.f n 8 = some m) (h0 : 0 ≤ m) (h7 : m < 8) (hm1 : bits .and .i64 m 1 = 1) (hm2 : bits .and .i64 m 2 = 0) (W : World) : Calls Tryz.prog 7 #[.int .i64 n, .int .i64 x, .int .i64 y] W fun e w' => e = .returned (.bool true) ∧ Below W.heap.size W w' := by
 have H0 := Lib.hid h0
 have H7 := Lib.hid h7
 have HFT := Lib.hid hft
 have HM1 := Lib.hid hm1
 have HM2 := Lib.hid hm2
 clear h0 h7 hft
 go_enter Tryz.func7, Tryz.ntmps7
 go_wp2_with (first
  | (go_at_call 16; have hgate := HB7.out; clear hgate; go_loud (refine (find_D x y (aclM m) t HSIM.out.eq A7 c7 _ HC.out HCL.out).mono ?_; rintro e w8 ⟨A6, c6, ad, c11, rfl, hcc, hx, hz, hb⟩; have HX := Lib.hid (pw_cell_below (below_alloc (Below.refl _ _) (.cells #[.string (⟨#[47, 100]⟩ : ByteArray), .bool false, .int .i64 0, .int .i64 0, .int .i64 3, .int .i64 255, .slice A6 (aclM m).length c6, .int .i64 4, .int .i64 4, .int .i64 4, .int .i64 0, .slice (some ad) 2 c11, .int .i64 0, .int .i64 0, .int .i64 0, .int .i64 0] 36)) hx); have HZ := Lib.hid (pw_cell_below (below_alloc (Below.refl _ _) (.cells #[.string (⟨#[47, 100]⟩ : ByteArray), .bool false, .int .i64 0, .int .i64 0, .int .i64 3, .int .i64 255, .slice A6 (aclM m).length c6, .int .i64 4, .int .i64 4, .int .i64 4, .int .i64 0, .slice (some ad) 2 c11, .int .i64 0, .int .i64 0, .int .i64 0, .int .i64 0] 36)) hz); have HX2 := HX.out; have HZ2 := HZ.out; have HCC := Lib.hid hcc; have ED := Lib.hid (blk_new w8 (.cells #[.string (⟨#[47, 100]⟩ : ByteArray), .bool false, .int .i64 0, .int .i64 0, .int .i64 3, .int .i64 255, .slice A6 (aclM m).length c6, .int .i64 4, .int .i64 4, .int .i64 4, .int .i64 0, .slice (some ad) 2 c11, .int .i64 0, .int .i64 0, .int .i64 0, .int .i64 0] 36)); have HB8 := Lib.hid (below_alloc (below_step HB7.out hb) (.cells #[.string (⟨#[47, 100]⟩ : ByteArray), .bool false, .int .i64 0, .int .i64 0, .int .i64 3, .int .i64 255, .slice A6 (aclM m).length c6, .int .i64 4, .int .i64 4, .int .i64 4, .int .i64 0, .slice (some ad) 2 c11, .int .i64 0, .int .i64 0, .int .i64 0, .int .i64 0] 36)); have d11 := (blk_cell ED.out 11).trans rfl; skip; clear hb hx hz))
  | (go_at_call 17; have hgate := HE52.out; clear hgate; go_loud (refine (run_f t.length c1 b2 50 1 32 A1 B2 uA botS t [(⟨#[47, 112]⟩ : ByteArray), (⟨#[47, 100]⟩ : ByteArray)] mS mT mO _ (by decide) (by decide) (by decide) (fun k hk => by have : ¬ k = 5 := (by omega); show decide (k = 5) = false; exact decide_eq_false this) (fun w7 hb => tdrop0_cF t ⟨#[]⟩ A1 c1 w7 (Kd.C_below HC.out hb) HCL.out (by have := HSIM.out.T.len; omega) (asc_rising HSIM.out.T.asc _) (fun m hm => node_fits (HSIM.out.T.ok m hm)) HSIM.out.no) HBM.out (by decide) (fun gm W0 A1' c1' B1' b1' hm hc hC hb hB k hk w9 hb2 => m_first t x y m HSIM.out gm W0 w9 A1' B1' c1' b1' hm hc hC hb hB hb2 k hk) (fun gm W0 A1' c1' B1' b1' hm hc hC hb hB w9 hb2 => m_fault t x y m HSIM.out HM2.out gm W0 w9 A1' B1' c1' b1' hm hc hC hb hB hb2)).mono ?_; rintro e w7 ⟨A7, c7, B7, b7, Tw, tc, he, hc7, hC7, _, _, htc, hTo, hb⟩; rw [show outs mT mO 1 = [] from rfl] at he; subst he; have HCL := Lib.hid hc7; have HC := Lib.hid (Kd.C_below hC7 (below_alloc (Below.refl _ _) (.cells #[.slice B7 2 b7, .int .i64 ((mS 1).1 0), .int .i64 ((mS 1).1 1), .int .i64 ((mS 1).1 2), .int .i64 ((mS 1).1 3), .int .i64 ((mS 1).1 4), .int .i64 ((mS 1).1 5), .int .i64 ((mS 1).1 6), .int .i64 ((mS 1).1 7), .int .i64 ((mS 1).1 8), .int .i64 ((mS 1).1 9), .int .i64 ((mS 1).1 10), .int .i64 ((mS 1).1 11), .int .i64 ((mS 1).1 12), .int .i64 ((mS 1).1 13), .int .i64 ((mS 1).1 14), .int .i64 ((mS 1).1 15), .slice none 0 0, .bool false] 47))); have HB7 := Lib.hid (below_alloc (below_step HB6.out hb) (.cells #[.slice B7 2 b7, .int .i64 ((mS 1).1 0), .int .i64 ((mS 1).1 1), .int .i64 ((mS 1).1 2), .int .i64 ((mS 1).1 3), .int .i64 ((mS 1).1 4), .int .i64 ((mS 1).1 5), .int .i64 ((mS 1).1 6), .int .i64 ((mS 1).1 7), .int .i64 ((mS 1).1 8), .int .i64 ((mS 1).1 9), .int .i64 ((mS 1).1 10), .int .i64 ((mS 1).1 11), .int .i64 ((mS 1).1 12), .int .i64 ((mS 1).1 13), .int .i64 ((mS 1).1 14), .int .i64 ((mS 1).1 15), .slice none 0 0, .bool false] 47)); clear hb hc7 hC7 htc hTo))
  | (go_at_call 12; have hgate := HE52.out; clear hgate; go_loud (refine (make_ok t.length c1 2 2 A1 (some ⟨w4.heap.size + 1, 0, none⟩) uA botS [(⟨#[47, 112]⟩ : ByteArray), (⟨#[47, 100]⟩ : ByteArray)] (fun i => if i = 0 then nPs wsM else (nDs [x, y] (aclM m))) (fun _ => 0) _ (by decide) (by decide) (by decide) (strC2 (by have h := blk_new (w4.alloc (.cells #[.string (⟨#[97]⟩ : ByteArray), .int .i64 0, .int .i64 0, .int .i64 3, .int .i64 255] 52)) (.cells #[.string (⟨#[47, 112]⟩ : ByteArray), .string (⟨#[47, 100]⟩ : ByteArray)] 9); simp only [World.size_alloc] at h; exact h)) (fun i hi => ⟨rfl, by show (if i = 0 then nPs wsM else (nDs [x, y] (aclM m))).f1 = false; split <;> rfl⟩) rfl ?hM).mono ?_; (case hM => (intro i hi hl w5 hb; have hi2 : i = 0 ∨ i = 1 := (by have : i < 2 := hl; omega); rcases hi2 with rfl | rfl; (refine (may_tF2 HSIM.out.T uA botS [[112]] okp_p (⟨#[47, 112]⟩ : ByteArray) rfl 4 (nPs wsM) 0 HSIM.out.may A1 c1 w5 (Kd.C_below HC.out (below_step (below_alloc (below_alloc (Below.refl _ _) (.cells #[.string (⟨#[97]⟩ : ByteArray), .int .i64 0, .int .i64 0, .int .i64 3, .int .i64 255] 52)) (.cells #[.string (⟨#[47, 112]⟩ : ByteArray), .string (⟨#[47, 100]⟩ : ByteArray)] 9)) hb)) HCL.out).mono ?_; rintro e w' ⟨A6, c6, A11, c11, rfl, _, hb2⟩; exact ⟨A6, c6, A11, c11, rfl, hb2⟩); (refine (may_tF2 HSIM.out.T uA botS [[100]] okp_d (⟨#[47, 100]⟩ : ByteArray) rfl 1 (nDs [x, y] (aclM m)) 0 (mayMn t x y m HSIM.out H0.out H7.out HM1.out) A1 c1 w5 (Kd.C_below HC.out (below_step (below_alloc (below_alloc (Below.refl _ _) (.cells #[.string (⟨#[97]⟩ : ByteArray), .int .i64 0, .int .i64 0, .int .i64 3, .int .i64 255] 52)) (.cells #[.string (⟨#[47, 112]⟩ : ByteArray), .string (⟨#[47, 100]⟩ : ByteArray)] 9)) hb)) HCL.out).mono ?_; rintro e w' ⟨A6, c6, A11, c11, rfl, _, hb2⟩; exact ⟨A6, c6, A11, c11, rfl, hb2⟩))); rintro e w6 ⟨B2, b2, rfl, hb2, hCB, hb⟩; have HBM := Lib.hid (Kd.C_below hCB (below_alloc (Below.refl _ _) (.cells #[.slice B2 2 b2, .int .i64 0, .int .i64 0, .int .i64 4, .int .i64 0, .int .i64 0, .int .i64 0, .int .i64 4, .int .i64 1, .int .i64 0, .int .i64 4, .int .i64 2, .int .i64 0, .int .i64 4, .int .i64 3, .int .i64 0, .int .i64 4, .slice none 0 0, .bool false] 47))); have HC := Lib.hid (Kd.C_below HC.out (below_step (below_step (below_alloc (below_alloc (Below.refl _ _) (.cells #[.string (⟨#[97]⟩ : ByteArray), .int .i64 0, .int .i64 0, .int .i64 3, .int .i64 255] 52)) (.cells #[.string (⟨#[47, 112]⟩ : ByteArray), .string (⟨#[47, 100]⟩ : ByteArray)] 9)) hb) (below_alloc (Below.refl _ _) (.cells #[.slice B2 2 b2, .int .i64 0, .int .i64 0, .int .i64 4, .int .i64 0, .int .i64 0, .int .i64 0, .int .i64 4, .int .i64 1, .int .i64 0, .int .i64 4, .int .i64 2, .int .i64 0, .int .i64 4, .int .i64 3, .int .i64 0, .int .i64 4, .slice none 0 0, .bool false] 47)))); have HE52 := Lib.hid (blk_alloc (blk_below HE52.out hb) (.cells #[.slice B2 2 b2, .int .i64 0, .int .i64 0, .int .i64 4, .int .i64 0, .int .i64 0, .int .i64 0, .int .i64 4, .int .i64 1, .int .i64 0, .int .i64 4, .int .i64 2, .int .i64 0, .int .i64 4, .int .i64 3, .int .i64 0, .int .i64 4, .slice none 0 0, .bool false] 47)); have EP := Lib.hid (blk_new w6 (.cells #[.slice B2 2 b2, .int .i64 0, .int .i64 0, .int .i64 4, .int .i64 0, .int .i64 0, .int .i64 0, .int .i64 4, .int .i64 1, .int .i64 0, .int .i64 4, .int .i64 2, .int .i64 0, .int .i64 4, .int .i64 3, .int .i64 0, .int .i64 4, .slice none 0 0, .bool false] 47)); have HB6 := Lib.hid (below_alloc (below_step (below_alloc (below_alloc HB4.out (.cells #[.string (⟨#[97]⟩ : ByteArray), .int .i64 0, .int .i64 0, .int .i64 3, .int .i64 255] 52)) (.cells #[.string (⟨#[47, 112]⟩ : ByteArray), .string (⟨#[47, 100]⟩ : ByteArray)] 9)) hb) (.cells #[.slice B2 2 b2, .int .i64 0, .int .i64 0, .int .i64 4, .int .i64 0, .int .i64 0, .int .i64 0, .int .i64 4, .int .i64 1, .int .i64 0, .int .i64 4, .int .i64 2, .int .i64 0, .int .i64 4, .int .i64 3, .int .i64 0, .int .i64 4, .slice none 0 0, .bool false] 47)); have hrp := rd47b_blk EP.out rfl; have g0 := (blk_cell HE52.out 0).trans rfl; have g1 := (blk_cell HE52.out 1).trans rfl; have g2 := (blk_cell HE52.out 2).trans rfl; have g3 := (blk_cell HE52.out 3).trans rfl; have g4 := (blk_cell HE52.out 4).trans rfl; clear hb hb2 hCB))
  | (go_at_call 22; refine (donjonref4_Bottom.calls 0 0 3 255 _ rfl).mono ?_; rintro e w4 ⟨rfl, hb⟩; have HB4 := Lib.hid (below_step HB3.out hb); have HC := Lib.hid (Kd.C_below HC.out hb); have HE52 := Lib.hid (blk_alloc (blk_new w4 (.cells #[.string (⟨#[97]⟩ : ByteArray), .int .i64 0, .int .i64 0, .int .i64 3, .int .i64 255] 52)) (.cells #[.string (⟨#[47, 112]⟩ : ByteArray), .string (⟨#[47, 100]⟩ : ByteArray)] 9)); clear hb)
  | (go_at_call 21; go_loud (refine (simple_M w2.heap.size (w2.heap.size + 1) x y m H0.out H7.out ((w2.alloc (.cells #[.int .i64 1, .int .i64 0, .int .i64 6, .int .i64 2, .int .i64 1, .int .i64 1, .int .i64 1, .int .i64 1, .int .i64 1, .int .i64 22, .int .i64 0, .int .i64 0, .int .i64 0, .int .i64 0, .int .i64 0, .int .i64 0, .int .i64 0, .int .i64 0, .int .i64 0, .int .i64 0, .int .i64 0] 77)).alloc (.cells #[.int .i64 x, .int .i64 y] 2)) (fun i hi w3 hb => mov_I w2 i hi w3 (below_step (below_alloc (Below.refl _ _) (.cells #[.int .i64 x, .int .i64 y] 2)) hb)) (by have h := blk_new (w2.alloc (.cells #[.int .i64 1, .int .i64 0, .int .i64 6, .int .i64 2, .int .i64 1, .int .i64 1, .int .i64 1, .int .i64 1, .int .i64 1, .int .i64 22, .int .i64 0, .int .i64 0, .int .i64 0, .int .i64 0, .int .i64 0, .int .i64 0, .int .i64 0, .int .i64 0, .int .i64 0, .int .i64 0, .int .i64 0] 77)) (.cells #[.int .i64 x, .int .i64 y] 2); simp only [World.size_alloc] at h; exact h)).mono ?_; rintro e w3 ⟨A1, c1, t, rfl, hS, hc1, hC, hb⟩; have HSIM := Lib.hid hS; have HC := Lib.hid hC; have HCL := Lib.hid hc1; have HB3 := Lib.hid (below_step (below_alloc (below_alloc HB2.out (.cells #[.int .i64 1, .int .i64 0, .int .i64 6, .int .i64 2, .int .i64 1, .int .i64 1, .int .i64 1, .int .i64 1, .int .i64 1, .int .i64 22, .int .i64 0, .int .i64 0, .int .i64 0, .int .i64 0, .int .i64 0, .int .i64 0, .int .i64 0, .int .i64 0, .int .i64 0, .int .i64 0, .int .i64 0] 77)) (.cells #[.int .i64 x, .int .i64 y] 2)) hb); clear hS hC hb hc1))
  | (go_at_call 11; go_loud (refine (PProcLimits.donjonlaw17_within.calls n 8 m _ HFT.out).mono ?_; rintro e w2 ⟨rfl, hd⟩; have hb := drawn_below hd; clear hd; have HB2 := Lib.hid (below_step HB1.out hb); clear hb))
  | (go_at_call 9; refine (hkn _).mono ?_; rintro e w1 ⟨rfl, hb⟩; have HB1 := Lib.hid hb; clear hb))
 refine bodyPost_ret (results_tmp rfl _ _ _) rfl ⟨rfl, HB8.out⟩
set_option maxHeartbeats 16000000 in
set_option maxRecDepth 1000000 in
theorem moves_w (hkn : ∀ w : World, Calls Tryz.prog 9 #[] w fun e w' => e = .returned (.bool true) ∧ Below w.heap.size w w') (n x y m : Int) (hft : PProcLimits.donjonlaw17_within.f n 8 = some m) (h0 : 0 ≤ m) (h7 : m < 8) (hm1 : bits .and .i64 m 1 = 1) (hm2 : bits .and .i64 m 2 = 2) (W : World) : Calls Tryz.prog 7 #[.int .i64 n, .int .i64 x, .int .i64 y] W fun e w' => e = .returned (.bool true) ∧ Below W.heap.size W w' := by
 have H0 := Lib.hid h0
 have H7 := Lib.hid h7
 have HFT := Lib.hid hft
 have HM1 := Lib.hid hm1
 have HM2 := Lib.hid hm2
 clear h0 h7 hft
 go_enter Tryz.func7, Tryz.ntmps7
 go_wp2_with (first
  | (go_at_call 16; have hgate := HB7.out; clear hgate; go_loud (refine (find_D x 0 (aclM m) t2 HT2.out A7 c7 _ HC.out HCL.out).mono ?_; rintro e w8 ⟨A6, c6, ad, c11, rfl, hcc, hx, hz, hb⟩; have HX := Lib.hid (pw_cell_below (below_alloc (Below.refl _ _) (.cells #[.string (⟨#[47, 100]⟩ : ByteArray), .bool false, .int .i64 0, .int .i64 0, .int .i64 3, .int .i64 255, .slice A6 (aclM m).length c6, .int .i64 4, .int .i64 4, .int .i64 4, .int .i64 0, .slice (some ad) 2 c11, .int .i64 0, .int .i64 0, .int .i64 0, .int .i64 0] 36)) hx); have HZ := Lib.hid (pw_cell_below (below_alloc (Below.refl _ _) (.cells #[.string (⟨#[47, 100]⟩ : ByteArray), .bool false, .int .i64 0, .int .i64 0, .int .i64 3, .int .i64 255, .slice A6 (aclM m).length c6, .int .i64 4, .int .i64 4, .int .i64 4, .int .i64 0, .slice (some ad) 2 c11, .int .i64 0, .int .i64 0, .int .i64 0, .int .i64 0] 36)) hz); have HX2 := HX.out; have HZ2 := HZ.out; have HCC := Lib.hid hcc; have ED := Lib.hid (blk_new w8 (.cells #[.string (⟨#[47, 100]⟩ : ByteArray), .bool false, .int .i64 0, .int .i64 0, .int .i64 3, .int .i64 255, .slice A6 (aclM m).length c6, .int .i64 4, .int .i64 4, .int .i64 4, .int .i64 0, .slice (some ad) 2 c11, .int .i64 0, .int .i64 0, .int .i64 0, .int .i64 0] 36)); have HB8 := Lib.hid (below_alloc (below_step HB7.out hb) (.cells #[.string (⟨#[47, 100]⟩ : ByteArray), .bool false, .int .i64 0, .int .i64 0, .int .i64 3, .int .i64 255, .slice A6 (aclM m).length c6, .int .i64 4, .int .i64 4, .int .i64 4, .int .i64 0, .slice (some ad) 2 c11, .int .i64 0, .int .i64 0, .int .i64 0, .int .i64 0] 36)); have d11 := (blk_cell ED.out 11).trans rfl; have HTW := Lib.hid (pw_cell_below (below_step hb (below_alloc (Below.refl _ _) (.cells #[.string (⟨#[47, 100]⟩ : ByteArray), .bool false, .int .i64 0, .int .i64 0, .int .i64 3, .int .i64 255, .slice A6 (aclM m).length c6, .int .i64 4, .int .i64 4, .int .i64 4, .int .i64 0, .slice (some ad) 2 c11, .int .i64 0, .int .i64 0, .int .i64 0, .int .i64 0] 36))) HTW.out); clear hb hx hz))
  | (go_at_call 17; have hgate := HE52.out; clear hgate; go_loud (refine (run_w t.length c1 b2 50 5 A1 B2 uA botS (mTr x y m) [(⟨#[47, 112]⟩ : ByteArray), (⟨#[47, 100]⟩ : ByteArray)] mS mT mO _ (by decide) (by decide) (fun k hk => by have : ¬ k = 5 := (by omega); show decide (k = 5) = false; exact decide_eq_false this) (Or.inr rfl) ?hDrop HBM.out (by decide) (fun gm B1' b1' k wr A1' c1' hk hm hc hC hb hB => m_step x y m H0.out H7.out HM1.out HM2.out gm B1' b1' k wr A1' c1' hk hm hc hC hb hB)).mono ?_; (case hDrop => (have he := HSIM.out.eq; have he2 : mTr x y m 0 = t := he.symm; rw [he2]; exact (fun w7 hb => tdrop0_cF t ⟨#[]⟩ A1 c1 w7 (Kd.C_below HC.out hb) HCL.out (by have := HSIM.out.T.len; omega) (asc_rising HSIM.out.T.asc _) (fun m hm => node_fits (HSIM.out.T.ok m hm)) HSIM.out.no))); rintro e w7 ⟨A7, c7, B7, b7, Tw, tc, he, hc7, hC7, _, _, htc, hTo, hb⟩; rw [show outs mT mO 5 = [0] from rfl] at he hTo htc; obtain ⟨tw, rfl, htw⟩ := word_at hTo 0 (by simp); rw [addr_add0] at htw; obtain ⟨t2, ht2⟩ : ∃ t2, mTr x y m 5 = t2 := ⟨_, rfl⟩; rw [ht2] at he hc7 hC7; have HT2 := Lib.hid (ht2.symm.trans (show mTr x y m 5 = tS wsM [x, 0] (aclM m) from rfl)); subst he; have HCL := Lib.hid hc7; have HC := Lib.hid (Kd.C_below hC7 (below_alloc (Below.refl _ _) (.cells #[.slice B7 2 b7, .int .i64 ((mS 5).1 0), .int .i64 ((mS 5).1 1), .int .i64 ((mS 5).1 2), .int .i64 ((mS 5).1 3), .int .i64 ((mS 5).1 4), .int .i64 ((mS 5).1 5), .int .i64 ((mS 5).1 6), .int .i64 ((mS 5).1 7), .int .i64 ((mS 5).1 8), .int .i64 ((mS 5).1 9), .int .i64 ((mS 5).1 10), .int .i64 ((mS 5).1 11), .int .i64 ((mS 5).1 12), .int .i64 ((mS 5).1 13), .int .i64 ((mS 5).1 14), .int .i64 ((mS 5).1 15), .slice none 0 0, .bool true] 47))); have HTC := Lib.hid htc; have HTW := Lib.hid (pw_cell_below (below_alloc (Below.refl _ _) (.cells #[.slice B7 2 b7, .int .i64 ((mS 5).1 0), .int .i64 ((mS 5).1 1), .int .i64 ((mS 5).1 2), .int .i64 ((mS 5).1 3), .int .i64 ((mS 5).1 4), .int .i64 ((mS 5).1 5), .int .i64 ((mS 5).1 6), .int .i64 ((mS 5).1 7), .int .i64 ((mS 5).1 8), .int .i64 ((mS 5).1 9), .int .i64 ((mS 5).1 10), .int .i64 ((mS 5).1 11), .int .i64 ((mS 5).1 12), .int .i64 ((mS 5).1 13), .int .i64 ((mS 5).1 14), .int .i64 ((mS 5).1 15), .slice none 0 0, .bool true] 47)) htw); have HB7 := Lib.hid (below_alloc (below_step HB6.out hb) (.cells #[.slice B7 2 b7, .int .i64 ((mS 5).1 0), .int .i64 ((mS 5).1 1), .int .i64 ((mS 5).1 2), .int .i64 ((mS 5).1 3), .int .i64 ((mS 5).1 4), .int .i64 ((mS 5).1 5), .int .i64 ((mS 5).1 6), .int .i64 ((mS 5).1 7), .int .i64 ((mS 5).1 8), .int .i64 ((mS 5).1 9), .int .i64 ((mS 5).1 10), .int .i64 ((mS 5).1 11), .int .i64 ((mS 5).1 12), .int .i64 ((mS 5).1 13), .int .i64 ((mS 5).1 14), .int .i64 ((mS 5).1 15), .slice none 0 0, .bool true] 47)); clear hb hc7 hC7 htc hTo htw ht2))
  | (go_at_call 12; have hgate := HE52.out; clear hgate; go_loud (refine (make_ok t.length c1 2 2 A1 (some ⟨w4.heap.size + 1, 0, none⟩) uA botS [(⟨#[47, 112]⟩ : ByteArray), (⟨#[47, 100]⟩ : ByteArray)] (fun i => if i = 0 then nPs wsM else (nDs [x, y] (aclM m))) (fun _ => 0) _ (by decide) (by decide) (by decide) (strC2 (by have h := blk_new (w4.alloc (.cells #[.string (⟨#[97]⟩ : ByteArray), .int .i64 0, .int .i64 0, .int .i64 3, .int .i64 255] 52)) (.cells #[.string (⟨#[47, 112]⟩ : ByteArray), .string (⟨#[47, 100]⟩ : ByteArray)] 9); simp only [World.size_alloc] at h; exact h)) (fun i hi => ⟨rfl, by show (if i = 0 then nPs wsM else (nDs [x, y] (aclM m))).f1 = false; split <;> rfl⟩) rfl ?hM).mono ?_; (case hM => (intro i hi hl w5 hb; have hi2 : i = 0 ∨ i = 1 := (by have : i < 2 := hl; omega); rcases hi2 with rfl | rfl; (refine (may_tF2 HSIM.out.T uA botS [[112]] okp_p (⟨#[47, 112]⟩ : ByteArray) rfl 4 (nPs wsM) 0 HSIM.out.may A1 c1 w5 (Kd.C_below HC.out (below_step (below_alloc (below_alloc (Below.refl _ _) (.cells #[.string (⟨#[97]⟩ : ByteArray), .int .i64 0, .int .i64 0, .int .i64 3, .int .i64 255] 52)) (.cells #[.string (⟨#[47, 112]⟩ : ByteArray), .string (⟨#[47, 100]⟩ : ByteArray)] 9)) hb)) HCL.out).mono ?_; rintro e w' ⟨A6, c6, A11, c11, rfl, _, hb2⟩; exact ⟨A6, c6, A11, c11, rfl, hb2⟩); (refine (may_tF2 HSIM.out.T uA botS [[100]] okp_d (⟨#[47, 100]⟩ : ByteArray) rfl 1 (nDs [x, y] (aclM m)) 0 (mayMn t x y m HSIM.out H0.out H7.out HM1.out) A1 c1 w5 (Kd.C_below HC.out (below_step (below_alloc (below_alloc (Below.refl _ _) (.cells #[.string (⟨#[97]⟩ : ByteArray), .int .i64 0, .int .i64 0, .int .i64 3, .int .i64 255] 52)) (.cells #[.string (⟨#[47, 112]⟩ : ByteArray), .string (⟨#[47, 100]⟩ : ByteArray)] 9)) hb)) HCL.out).mono ?_; rintro e w' ⟨A6, c6, A11, c11, rfl, _, hb2⟩; exact ⟨A6, c6, A11, c11, rfl, hb2⟩))); rintro e w6 ⟨B2, b2, rfl, hb2, hCB, hb⟩; have HBM := Lib.hid (Kd.C_below hCB (below_alloc (Below.refl _ _) (.cells #[.slice B2 2 b2, .int .i64 0, .int .i64 0, .int .i64 4, .int .i64 0, .int .i64 0, .int .i64 0, .int .i64 4, .int .i64 1, .int .i64 0, .int .i64 4, .int .i64 2, .int .i64 0, .int .i64 4, .int .i64 3, .int .i64 0, .int .i64 4, .slice none 0 0, .bool false] 47))); have HC := Lib.hid (Kd.C_below HC.out (below_step (below_step (below_alloc (below_alloc (Below.refl _ _) (.cells #[.string (⟨#[97]⟩ : ByteArray), .int .i64 0, .int .i64 0, .int .i64 3, .int .i64 255] 52)) (.cells #[.string (⟨#[47, 112]⟩ : ByteArray), .string (⟨#[47, 100]⟩ : ByteArray)] 9)) hb) (below_alloc (Below.refl _ _) (.cells #[.slice B2 2 b2, .int .i64 0, .int .i64 0, .int .i64 4, .int .i64 0, .int .i64 0, .int .i64 0, .int .i64 4, .int .i64 1, .int .i64 0, .int .i64 4, .int .i64 2, .int .i64 0, .int .i64 4, .int .i64 3, .int .i64 0, .int .i64 4, .slice none 0 0, .bool false] 47)))); have HE52 := Lib.hid (blk_alloc (blk_below HE52.out hb) (.cells #[.slice B2 2 b2, .int .i64 0, .int .i64 0, .int .i64 4, .int .i64 0, .int .i64 0, .int .i64 0, .int .i64 4, .int .i64 1, .int .i64 0, .int .i64 4, .int .i64 2, .int .i64 0, .int .i64 4, .int .i64 3, .int .i64 0, .int .i64 4, .slice none 0 0, .bool false] 47)); have EP := Lib.hid (blk_new w6 (.cells #[.slice B2 2 b2, .int .i64 0, .int .i64 0, .int .i64 4, .int .i64 0, .int .i64 0, .int .i64 0, .int .i64 4, .int .i64 1, .int .i64 0, .int .i64 4, .int .i64 2, .int .i64 0, .int .i64 4, .int .i64 3, .int .i64 0, .int .i64 4, .slice none 0 0, .bool false] 47)); have HB6 := Lib.hid (below_alloc (below_step (below_alloc (below_alloc HB4.out (.cells #[.string (⟨#[97]⟩ : ByteArray), .int .i64 0, .int .i64 0, .int .i64 3, .int .i64 255] 52)) (.cells #[.string (⟨#[47, 112]⟩ : ByteArray), .string (⟨#[47, 100]⟩ : ByteArray)] 9)) hb) (.cells #[.slice B2 2 b2, .int .i64 0, .int .i64 0, .int .i64 4, .int .i64 0, .int .i64 0, .int .i64 0, .int .i64 4, .int .i64 1, .int .i64 0, .int .i64 4, .int .i64 2, .int .i64 0, .int .i64 4, .int .i64 3, .int .i64 0, .int .i64 4, .slice none 0 0, .bool false] 47)); have hrp := rd47b_blk EP.out rfl; have g0 := (blk_cell HE52.out 0).trans rfl; have g1 := (blk_cell HE52.out 1).trans rfl; have g2 := (blk_cell HE52.out 2).trans rfl; have g3 := (blk_cell HE52.out 3).trans rfl; have g4 := (blk_cell HE52.out 4).trans rfl; clear hb hb2 hCB))
  | (go_at_call 22; refine (donjonref4_Bottom.calls 0 0 3 255 _ rfl).mono ?_; rintro e w4 ⟨rfl, hb⟩; have HB4 := Lib.hid (below_step HB3.out hb); have HC := Lib.hid (Kd.C_below HC.out hb); have HE52 := Lib.hid (blk_alloc (blk_new w4 (.cells #[.string (⟨#[97]⟩ : ByteArray), .int .i64 0, .int .i64 0, .int .i64 3, .int .i64 255] 52)) (.cells #[.string (⟨#[47, 112]⟩ : ByteArray), .string (⟨#[47, 100]⟩ : ByteArray)] 9)); clear hb)
  | (go_at_call 21; go_loud (refine (simple_M w2.heap.size (w2.heap.size + 1) x y m H0.out H7.out ((w2.alloc (.cells #[.int .i64 1, .int .i64 0, .int .i64 6, .int .i64 2, .int .i64 1, .int .i64 1, .int .i64 1, .int .i64 1, .int .i64 1, .int .i64 22, .int .i64 0, .int .i64 0, .int .i64 0, .int .i64 0, .int .i64 0, .int .i64 0, .int .i64 0, .int .i64 0, .int .i64 0, .int .i64 0, .int .i64 0] 77)).alloc (.cells #[.int .i64 x, .int .i64 y] 2)) (fun i hi w3 hb => mov_I w2 i hi w3 (below_step (below_alloc (Below.refl _ _) (.cells #[.int .i64 x, .int .i64 y] 2)) hb)) (by have h := blk_new (w2.alloc (.cells #[.int .i64 1, .int .i64 0, .int .i64 6, .int .i64 2, .int .i64 1, .int .i64 1, .int .i64 1, .int .i64 1, .int .i64 1, .int .i64 22, .int .i64 0, .int .i64 0, .int .i64 0, .int .i64 0, .int .i64 0, .int .i64 0, .int .i64 0, .int .i64 0, .int .i64 0, .int .i64 0, .int .i64 0] 77)) (.cells #[.int .i64 x, .int .i64 y] 2); simp only [World.size_alloc] at h; exact h)).mono ?_; rintro e w3 ⟨A1, c1, t, rfl, hS, hc1, hC, hb⟩; have HSIM := Lib.hid hS; have HC := Lib.hid hC; have HCL := Lib.hid hc1; have HB3 := Lib.hid (below_step (below_alloc (below_alloc HB2.out (.cells #[.int .i64 1, .int .i64 0, .int .i64 6, .int .i64 2, .int .i64 1, .int .i64 1, .int .i64 1, .int .i64 1, .int .i64 1, .int .i64 22, .int .i64 0, .int .i64 0, .int .i64 0, .int .i64 0, .int .i64 0, .int .i64 0, .int .i64 0, .int .i64 0, .int .i64 0, .int .i64 0, .int .i64 0] 77)) (.cells #[.int .i64 x, .int .i64 y] 2)) hb); clear hS hC hb hc1))
  | (go_at_call 11; go_loud (refine (PProcLimits.donjonlaw17_within.calls n 8 m _ HFT.out).mono ?_; rintro e w2 ⟨rfl, hd⟩; have hb := drawn_below hd; clear hd; have HB2 := Lib.hid (below_step HB1.out hb); clear hb))
  | (go_at_call 9; refine (hkn _).mono ?_; rintro e w1 ⟨rfl, hb⟩; have HB1 := Lib.hid hb; clear hb))
 refine mv15 w8.heap.size tc c6 c11 tw ad A6 _ _ _ _ _ _ _ _ _ _ _ _ _ _ _ _ _ _ _ _ _ _ _ _ _ _ _ _ _ _ _ _ _ _ _ _ _ _ _ _ _ _ _ _ _ _ _ _ _ _ _ _ _ _ _ _ _ _ _ _ _ _ _ _ _ _ _ _ _ _ _ _ _ _ _ _ _ _ _ _ _ _ _ _ _ _ _ _ _ _ _ _ _ _ _ _ _ _ _ _ _ _ _ _ _ _ _ _ _ _ _ _ _ _ _ _ _ _ _ _ _ _ _ _ _ _ ED.out rfl HTW.out HZ.out HTC.out HCC.out ?_
 intro t102 t103 t104 t105 t106 t107 t108 t109 t110 t111 t112 t113 t114 t115 t116 t117 t118 t119 t120 t121 t122 t123 t124 t125
 go_wp2
 refine bodyPost_ret (results_tmp rfl _ _ _) rfl ⟨rfl, below_drew1 HB8.out⟩
theorem moves_c (n x y : Int) (W : World) : Calls Tryz.prog 7 #[.int .i64 n, .int .i64 x, .int .i64 y] W fun e w' => e = .returned (.bool true) ∧ Below W.heap.size W w' := by
 obtain ⟨m, hft, h0, h8⟩ := within17 n 8 (by decide) (by decide)
 rcases (bitsM h0 h8).1 with h1 | h1
 ·exact moves_n known_c n x y m hft h0 h8 h1 W
 ·rcases (bitsM h0 h8).2 with h2 | h2
  ·exact moves_r known_c n x y m hft h0 h8 h1 h2 W
  ·exact moves_w known_c n x y m hft h0 h8 h1 h2 W
end Go.Proofs.YteilkbookcmndaaGreatDoor.C
end
