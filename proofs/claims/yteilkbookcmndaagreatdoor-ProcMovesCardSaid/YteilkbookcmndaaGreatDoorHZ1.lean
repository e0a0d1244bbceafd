/- Texts that the claim's law stands on, cut down to what it reaches. -/
import Derived.Test.YteilkbookcmndaaGreatDoorHY9
import Derived.Test.YteilkbookcmndaaGreatDoorHY1
import Derived.Deep.RegionHeldLaw
import Derived.Deep.RegionHeld3
import Derived.Deep.LoopGhost
import Derived.Test.YteilkbookcmndaaGreatDoorHY7
set_option linter.unusedVariables false
set_option linter.unusedSimpArgs false
section
set_option linter.unusedVariables false
set_option linter.unusedSimpArgs false
namespace Go.Proofs.YteilkbookcmndaaGreatDoor.C
open Go.RowKit Go.Proofs.YteilkbookcmndaaGreatDoor.Q Go.Proofs.YteilkbookcmndaaGreatDoorW.PrintWords Go.Proofs.YteilkbookcmndaaGreatDoorW.PrintLast Go.Proofs.YteilkbookcmndaaGreatDoorW.PrintMore
attribute [local go_sem ↓] rd_at50 wr_at50 al_at50
attribute [local go_sem] rd50_new wr50_new al50
attribute [local go_sem ↓] rd_at45 wr_at45 rd_at150 wr_at150 rd_at47b wr_at47b rd_at77 wr_at77 rd_at41p wr_at41p
attribute [local go_sem] rd45_new wr45_new rd150_new wr150_new wr47b_new
attribute [local go_sem] max2_mx max_two
theorem meth_wr2 (gm : Nat) : ∀ w : World, (method 322 103 (.pointer (some ⟨gm, 0, none⟩)) "Write").run Tryz.prog w = .ok (149, .pointer (some ⟨gm, 0, none⟩)) w := fun _ => by kernel_rfl
set_option maxHeartbeats 16000000 in
set_option maxRecDepth 1000000 in
theorem wr4_1 (gm gi : Nat) (op nn off : Int) (gr : Nat) (s0 s1 s2 s3 s4 s5 s6 s7 s8 s9 s10 s11 s12 s13 s14 s15 : Int) (sA : Option Addr) (sn sc : Nat) (hl tb : Bool) (ov : Int) (Rr : World → Prop) (u1 u2 u4 u6 u7 u8 u9 u10 u11 u12 u13 u14 u15 u16 u17 u18 u19 u20 u21 u22 u23 u24 u25 u26 u27 u28 u29 u30 u31 u32 u33 u34 u35 u36 u37 u38 u39 u40 u41 u42 u43 u44 u45 u46 u47 u48 u49 u50 : Value) (W : World) (Q : Exit → Act → World → Prop)
  (hr : W.heap[gr]? = some (.cells #[.int .i64 s0, .int .i64 s1, .int .i64 s2, .int .i64 s3, .int .i64 s4, .int .i64 s5, .int .i64 s6, .int .i64 s7, .int .i64 s8, .int .i64 s9, .int .i64 s10, .int .i64 s11, .int .i64 s12, .int .i64 s13, .int .i64 s14, .int .i64 s15, .slice sA sn sc, .bool hl, .iface 103 (.pointer (some ⟨gm, 0, none⟩)), .bool tb, .int .i64 ov] 134 (0, 0))) (hi : W.heap[gi]? = some (.cells #[.int .i64 op, .int .i64 1, .int .i64 nn] 77 (0, 0))) (hne : gr ≠ gm ∧ gi ≠ gm)
  (hW : Calls Tryz.prog 149 #[.pointer (some ⟨gm, 0, none⟩), .int .i64 s7, .int .i64 off, .int .i64 s3] W.drew fun e w' => e = .returned (.tuple #[]) ∧ Rr w' ∧ W.drew.grownBy w' (some gm))
  (hpost : ∀ (w' : World) (t29 t30 t31 t32 t33 t34 t35 t36 t37 t38 t39 t40 t41 t42 t43 t44 t45 t46 t47 t48 t49 t50 : Value), Rr w' → W.drew.grownBy w' (some gm) → Q .normal ⟨#[.pointer (some ⟨gr, 0, none⟩), u1, u2, .pointer (some ⟨gi, 0, none⟩), u4, .int .i64 off, u6, u7, u8, u9, u10, u11, u12, u13, u14, u15, u16, u17, u18, u19, u20, u21, u22, u23, u24, u25, u26, u27, u28, t29, t30, t31, t32, t33, t34, t35, t36, t37, t38, t39, t40, t41, t42, t43, t44, t45, t46, t47, t48, t49, t50], []⟩ w') :
  Code.wp Tryz.prog (cReg Tryz.f74 4) Q ⟨#[.pointer (some ⟨gr, 0, none⟩), u1, u2, .pointer (some ⟨gi, 0, none⟩), u4, .int .i64 off, u6, u7, u8, u9, u10, u11, u12, u13, u14, u15, u16, u17, u18, u19, u20, u21, u22, u23, u24, u25, u26, u27, u28, u29, u30, u31, u32, u33, u34, u35, u36, u37, u38, u39, u40, u41, u42, u43, u44, u45, u46, u47, u48, u49, u50], []⟩ W := by
 have HPO := Lib.hid hpost
 have ER := Lib.hid hr
 have EI := Lib.hid hi
 have HW := Lib.hid hW
 clear hr hi hpost hW
 have HB := Lib.hid (below_drew1 (Below.refl W.heap.size W))
 have ER := Lib.hid (show W.drew.heap[gr]? = _ from ER.out)
 have EI := Lib.hid (show W.drew.heap[gi]? = _ from EI.out)
 conv => arg 2; whnf
 refine wp_region_noPanic ?_
 refine wp_region_held_drew (S := fun W1 => W1.cell? ⟨gr, 18, none⟩ = some (.iface 103 (.pointer (some ⟨gm, 0, none⟩))) ∧ W1.cell? ⟨gi, 1, none⟩ = some (.int .i64 1) ∧ W1.cell? ⟨gr, 7, none⟩ = some (.int .i64 s7) ∧ W1.cell? ⟨gr, 3, none⟩ = some (.int .i64 s3)) (by kernel_rfl) ?_ (fun hHeld => ?_)
 focus ((try dsimp only); exact ⟨(blk_cell ER.out 18).trans rfl, (blk_cell EI.out 1).trans rfl, (blk_cell ER.out 7).trans rfl, (blk_cell ER.out 3).trans rfl⟩)
 refine tk 0 29 (v := ?_) rfl rfl (by kernel_rfl) rfl ?_ (by assumption) ?_; rotate_left; focus (intro w hSw; go_simp; try with_reducible rfl)
 try simp only [Act.put, List.setIfInBounds_toArray, List.set_cons_zero, List.set_cons_succ]
 refine tk 1 30 (v := ?_) rfl rfl (by kernel_rfl) rfl ?_ (by assumption) ?_; rotate_left; focus (intro w hSw; go_simp; try with_reducible rfl)
 try simp only [Act.put, List.setIfInBounds_toArray, List.set_cons_zero, List.set_cons_succ]
 refine tk 2 31 (v := ?_) rfl rfl (by kernel_rfl) rfl ?_ (by assumption) ?_; rotate_left; focus (intro w hSw; go_simp; try with_reducible rfl)
 try simp only [Act.put, List.setIfInBounds_toArray, List.set_cons_zero, List.set_cons_succ]
 refine tk 3 32 (v := ?_) rfl rfl (by kernel_rfl) rfl ?_ (by assumption) ?_; rotate_left; focus (intro w hSw; go_simp; try with_reducible rfl)
 try simp only [Act.put, List.setIfInBounds_toArray, List.set_cons_zero, List.set_cons_succ]
 refine tk 4 33 (v := ?_) rfl rfl (by kernel_rfl) rfl ?_ (by assumption) ?_; rotate_left; focus (intro w hSw; go_simp; try with_reducible rfl)
 try simp only [Act.put, List.setIfInBounds_toArray, List.set_cons_zero, List.set_cons_succ]
 refine tk 5 34 (v := ?_) rfl rfl (by kernel_rfl) rfl ?_ (by assumption) ?_; rotate_left; focus (intro w hSw; go_simp; try with_reducible rfl)
 try simp only [Act.put, List.setIfInBounds_toArray, List.set_cons_zero, List.set_cons_succ]
 refine tk 6 35 (v := ?_) rfl rfl (by kernel_rfl) rfl ?_ (by assumption) ?_; rotate_left; focus (intro w hSw; go_simp; try with_reducible rfl)
 try simp only [Act.put, List.setIfInBounds_toArray, List.set_cons_zero, List.set_cons_succ]
 refine tk 7 36 (v := ?_) rfl rfl (by kernel_rfl) rfl ?_ (by assumption) ?_; rotate_left; focus (intro w hSw; go_simp; try with_reducible rfl)
 try simp only [Act.put, List.setIfInBounds_toArray, List.set_cons_zero, List.set_cons_succ]
 refine tk 8 37 (v := ?_) rfl rfl (by kernel_rfl) rfl ?_ (by assumption) ?_; rotate_left; focus (intro w hSw; go_simp; try with_reducible rfl)
 try simp only [Act.put, List.setIfInBounds_toArray, List.set_cons_zero, List.set_cons_succ]
 refine tk 9 38 (v := ?_) rfl rfl (by kernel_rfl) rfl ?_ (by assumption) ?_; rotate_left; focus (intro w hSw; go_simp; try with_reducible rfl)
 try simp only [Act.put, List.setIfInBounds_toArray, List.set_cons_zero, List.set_cons_succ]
 refine tk 10 39 (v := ?_) rfl rfl (by kernel_rfl) rfl ?_ (by assumption) ?_; rotate_left; focus (intro w hSw; go_simp; try with_reducible rfl)
 try simp only [Act.put, List.setIfInBounds_toArray, List.set_cons_zero, List.set_cons_succ]
 refine tk 11 40 (v := ?_) rfl rfl (by kernel_rfl) rfl ?_ (by assumption) ?_; rotate_left; focus (intro w hSw; go_simp; try with_reducible rfl)
 try simp only [Act.put, List.setIfInBounds_toArray, List.set_cons_zero, List.set_cons_succ]
 refine tk 12 41 (v := ?_) rfl rfl (by kernel_rfl) rfl ?_ (by assumption) ?_; rotate_left; focus (intro w hSw; go_simp; try with_reducible rfl)
 try simp only [Act.put, List.setIfInBounds_toArray, List.set_cons_zero, List.set_cons_succ]
 refine tk 13 42 (v := ?_) rfl rfl (by kernel_rfl) rfl ?_ (by assumption) ?_; rotate_left; focus (intro w hSw; go_simp; try with_reducible rfl)
 try simp only [Act.put, List.setIfInBounds_toArray, List.set_cons_zero, List.set_cons_succ]
 refine tk 14 43 (v := ?_) rfl rfl (by kernel_rfl) rfl ?_ (by assumption) ?_; rotate_left; focus (intro w hSw; go_simp; try with_reducible rfl)
 try simp only [Act.put, List.setIfInBounds_toArray, List.set_cons_zero, List.set_cons_succ]
 refine tk 15 44 (v := ?_) rfl rfl (by kernel_rfl) rfl ?_ (by assumption) ?_; rotate_left; focus (intro w hSw; go_simp; try with_reducible rfl)
 try simp only [Act.put, List.setIfInBounds_toArray, List.set_cons_zero, List.set_cons_succ]
 refine tk 16 45 (v := ?_) rfl rfl (by kernel_rfl) rfl ?_ (by assumption) ?_; rotate_left; focus (intro w hSw; go_simp; try with_reducible rfl)
 try simp only [Act.put, List.setIfInBounds_toArray, List.set_cons_zero, List.set_cons_succ]
 refine tk 17 46 (v := ?_) rfl rfl (by kernel_rfl) rfl ?_ (by assumption) ?_; rotate_left; focus (intro w hSw; go_simp; try with_reducible rfl)
 try simp only [Act.put, List.setIfInBounds_toArray, List.set_cons_zero, List.set_cons_succ]
 refine tk 18 47 (v := ?_) rfl rfl (by kernel_rfl) rfl ?_ (by assumption) ?_; rotate_left; focus (intro w hSw; go_simp; try with_reducible rfl)
 try simp only [Act.put, List.setIfInBounds_toArray, List.set_cons_zero, List.set_cons_succ]
 refine tk 19 48 (v := ?_) rfl rfl (by kernel_rfl) rfl ?_ (by assumption) ?_; rotate_left; focus (intro w hSw; go_simp; try with_reducible rfl)
 try simp only [Act.put, List.setIfInBounds_toArray, List.set_cons_zero, List.set_cons_succ]
 refine tk 20 49 (v := ?_) rfl rfl (by kernel_rfl) rfl ?_ (by assumption) ?_; rotate_left; focus (intro w hSw; go_simp; try with_reducible rfl)
 try simp only [Act.put, List.setIfInBounds_toArray, List.set_cons_zero, List.set_cons_succ]
 refine wpAnyH_ready (rs := [21]) (by kernel_rfl) (by simp) ?_
 refine AllReadyH.cons rfl (fun K hK => ?_) ?_
 ·have hmt := meth_wr2 gm
  go_simp
  go_wp2_with (go_at_call 149; refine (HW.out).mono ?_; rintro e wa ⟨rfl, hR, hg⟩; have HRR := Lib.hid hR; have ER := Lib.hid (blk_grown (w := W.drew) ER.out hg (fun e => hne.1 (Option.some.inj e))); have EI := Lib.hid (blk_grown (w := W.drew) EI.out hg (fun e => hne.2 (Option.some.inj e))); have HG := Lib.hid hg; clear hg hR)
  refine hK.out _ _ ?_ (fun hHeld => ?_)
  focus ((try dsimp only); exact ⟨(blk_cell ER.out 18).trans rfl, (blk_cell EI.out 1).trans rfl, (blk_cell ER.out 7).trans rfl, (blk_cell ER.out 3).trans rfl⟩)
  clear hK K
  refine wpAnyH_done (by kernel_rfl) ?_ _
  refine NoPanic.normal ?_
  exact HPO.out _ _ _ _ _ _ _ _ _ _ _ _ _ _ _ _ _ _ _ _ _ _ _ HRR.out HG.out
 exact AllReadyH.nil
set_option maxHeartbeats 16000000 in
set_option maxRecDepth 1000000 in
theorem wrt_c1 (gm : Nat) (op nn m r1 r2 r3 r4 : Int) (o : Nat) (xs : List Int) (gr : Nat) (s0 s1 s2 s3 s4 s5 s6 s7 s8 s9 s10 s11 s12 s13 s14 s15 : Int) (sA : Option Addr) (sn sc : Nat) (hl tb : Bool) (ov : Int) (Rr : World → Prop) (w : World) (hr : w.heap[gr]? = some (.cells #[.int .i64 s0, .int .i64 s1, .int .i64 s2, .int .i64 s3, .int .i64 s4, .int .i64 s5, .int .i64 s6, .int .i64 s7, .int .i64 s8, .int .i64 s9, .int .i64 s10, .int .i64 s11, .int .i64 s12, .int .i64 s13, .int .i64 s14, .int .i64 s15, .slice sA sn sc, .bool hl, .iface 103 (.pointer (some ⟨gm, 0, none⟩)), .bool tb, .int .i64 ov] 134 (0, 0))) (hne : gr ≠ gm) (hgm : gm < w.heap.size)
  (hS : ∀ w1 : World, Below gr w w1 → w1.heap[gr]? = w.heap[gr]? → Calls Tryz.prog 85 #[.pointer (some ⟨gr, 0, none⟩), .int .i64 s7] w1 fun e w' => ∃ A11 c11, e = .returned (.agg #[.slice A11 xs.length c11, .int .i64 m, .int .i64 r1, .int .i64 r2, .int .i64 r3, .int .i64 r4]) ∧ xs.length ≤ c11 ∧ Kd.F (Kd.int .i64) w' (fun j => w1.heap.size < j) A11 xs.length xs ∧ Below w1.heap.size w1 w')
  (hoff : IntKind.i64.wrap (s8 + nn) = (o : Int)) (hm1 : bits .and .i64 m 2 = 2) (hme : PProcLimits.ring_MayWrite.f r1 r2 r3 r4 (mx s2 s9) = some true) (ho : o < xs.length) (hxl : xs.length < 1000000)
  (hW : ∀ w1 : World, Below gr w w1 → w1.heap[gr]? = w.heap[gr]? → Calls Tryz.prog 149 #[.pointer (some ⟨gm, 0, none⟩), .int .i64 s7, .int .i64 (o : Int), .int .i64 s3] w1 fun e w' => e = .returned (.tuple #[]) ∧ Rr w' ∧ w1.grownBy w' (some gm)) :
  Calls Tryz.prog 74 #[.pointer (some ⟨gr, 0, none⟩), .agg #[.int .i64 op, .int .i64 1, .int .i64 nn]] w fun e w' => e = .returned (.tuple #[]) ∧ Rr w' ∧ w.grownBy w' (some gm) := by
 have HS := Lib.hid hS
 have ER := Lib.hid hr
 have HW := Lib.hid hW
 have hgr := blk_lt hr
 clear hS hr hW
 have HB0 := Lib.hid (below_alloc (Below.refl w.heap.size w) (.cells #[.int .i64 op, .int .i64 1, .int .i64 nn] 77))
 have E0 := Lib.hid (blk_new w (.cells #[.int .i64 op, .int .i64 1, .int .i64 nn] 77))
 go_enter Tryz.func74, Tryz.ntmps74
 have hrd := rd77_blk E0.out rfl
 go_wp2_with (first
  | (go_at_call 97; refine (at_c1 gm op nn (o : Int) m r1 r2 r3 r4 xs gr s0 s1 s2 s3 s4 s5 s6 s7 s8 s9 s10 s11 s12 s13 s14 s15 sA sn sc hl tb ov _ (blk_below ER.out HB0.out) (fun w1 hb1 hg1 => HS.out w1 (below_join2 (below_low HB0.out (Nat.le_of_lt hgr)) hb1) (hg1.trans (HB0.out.block gr hgr))) hoff).mono ?_; rintro e w1 ⟨A11, c11, rfl, hc, hF, hb⟩; have HB1 := Lib.hid (below_step HB0.out hb); have HF := Lib.hid hF; have E0 := Lib.hid (blk_below E0.out hb); clear hb hF)
  | (go_at_call 99; refine (PProcLimits.ring_MayWrite.calls r1 r2 r3 r4 (mx s2 s9) true _ hme).mono ?_; rintro e w2 ⟨rfl, hb⟩; have E3 := Lib.hid (blk_below (blk_new w1 (.cells #[.slice A11 xs.length c11, .int .i64 m, .int .i64 r1, .int .i64 r2, .int .i64 r3, .int .i64 r4] 150)) hb); have hrd3 := rd150_blk E3.out rfl; have E0 := Lib.hid (blk_below (blk_alloc E0.out (.cells #[.slice A11 xs.length c11, .int .i64 m, .int .i64 r1, .int .i64 r2, .int .i64 r3, .int .i64 r4] 150)) hb); have HF := Lib.hid (Kd.F_below (Kd.F_alloc HF.out (.cells #[.slice A11 xs.length c11, .int .i64 m, .int .i64 r1, .int .i64 r2, .int .i64 r3, .int .i64 r4] 150)) hb); have HB2 := Lib.hid (below_step (below_alloc HB1.out (.cells #[.slice A11 xs.length c11, .int .i64 m, .int .i64 r1, .int .i64 r2, .int .i64 r3, .int .i64 r4] 150)) hb); clear hb)
  | (go_at_call 87; refine (PProcLimits.cpu_in.calls A11 c11 xs m r1 r2 r3 r4 (o : Int) true _ (Kd.F_now HF.out) hc (by show (if (o : Int) ≥ 0 then some (decide ((o : Int) < (xs.length : Int))) else some false) = some true; rw [if_pos (by omega), decide_eq_true (by omega)])).mono ?_; rintro e w3 ⟨rfl, hb⟩; have E0 := Lib.hid (blk_below E0.out hb); have HB3 := Lib.hid (below_step HB2.out hb); clear hb)
  | (go_at_call 77; refine (must_t _ _).mono ?_; rintro e wb ⟨rfl, hwb⟩; subst hwb))
 refine wr4_1 gm w.heap.size op nn (o : Int) gr s0 s1 s2 s3 s4 s5 s6 s7 s8 s9 s10 s11 s12 s13 s14 s15 sA sn sc hl tb ov Rr _ _ _ _ _ _ _ _ _ _ _ _ _ _ _ _ _ _ _ _ _ _ _ _ _ _ _ _ _ _ _ _ _ _ _ _ _ _ _ _ _ _ _ _ _ _ _ _ _ _ (blk_below ER.out HB3.out) E0.out ⟨hne, by omega⟩ ((HW.out _ (below_low (below_drew1 HB3.out) (Nat.le_of_lt hgr)) (HB3.out.block gr hgr)).mono ?_) ?_
 ·rintro e w' ⟨rfl, hR, hg⟩
  exact ⟨rfl, hR, hg⟩
 intro w5 b29 b30 b31 b32 b33 b34 b35 b36 b37 b38 b39 b40 b41 b42 b43 b44 b45 b46 b47 b48 b49 b50 hR hg
 go_wp2
 first | go_end0 | refine bodyPost_ret (results_none rfl _ _ _) rfl ?_
 exact ⟨rfl, hR, below_grown (below_drew1 HB3.out) hg⟩
set_option maxHeartbeats 16000000 in
set_option maxRecDepth 1000000 in
theorem wrt_f1 (gm : Nat) (op nn m r1 r2 r3 r4 : Int) (o : Nat) (xs : List Int) (gr : Nat) (s0 s1 s2 s3 s4 s5 s6 s7 s8 s9 s10 s11 s12 s13 s14 s15 : Int) (sA : Option Addr) (sn sc : Nat) (hl tb : Bool) (ov : Int) (Rr : World → Prop) (w : World) (hr : w.heap[gr]? = some (.cells #[.int .i64 s0, .int .i64 s1, .int .i64 s2, .int .i64 s3, .int .i64 s4, .int .i64 s5, .int .i64 s6, .int .i64 s7, .int .i64 s8, .int .i64 s9, .int .i64 s10, .int .i64 s11, .int .i64 s12, .int .i64 s13, .int .i64 s14, .int .i64 s15, .slice sA sn sc, .bool hl, .iface 103 (.pointer (some ⟨gm, 0, none⟩)), .bool tb, .int .i64 ov] 134 (0, 0))) (hne : gr ≠ gm) (hgm : gm < w.heap.size)
    (hS : ∀ w1 : World, Below gr w w1 → w1.heap[gr]? = w.heap[gr]? → Calls Tryz.prog 85 #[.pointer (some ⟨gr, 0, none⟩), .int .i64 s7] w1 fun e w' => ∃ A11 c11, e = .returned (.agg #[.slice A11 xs.length c11, .int .i64 m, .int .i64 r1, .int .i64 r2, .int .i64 r3, .int .i64 r4]) ∧ xs.length ≤ c11 ∧ Kd.F (Kd.int .i64) w' (fun j => w1.heap.size < j) A11 xs.length xs ∧ Below w1.heap.size w1 w')
    (hoff : IntKind.i64.wrap (s8 + nn) = (o : Int)) (hm1 : bits .and .i64 m 2 = 0) (hme : PProcLimits.ring_MayWrite.f r1 r2 r3 r4 (mx s2 s9) = some true) (ho : o < xs.length) (hxl : xs.length < 1000000)
     :
    Calls Tryz.prog 74 #[.pointer (some ⟨gr, 0, none⟩), .agg #[.int .i64 op, .int .i64 1, .int .i64 nn]] w fun e w' => e = .panicked [{ v := .iface 48 (.int .i64 32), recovered := false }] ∧ Below w.heap.size w w' := by
  have HS := Lib.hid hS
  have ER := Lib.hid hr
  skip
  have hgr := blk_lt hr
  clear hS hr 
  have HB0 := Lib.hid (below_alloc (Below.refl w.heap.size w) (.cells #[.int .i64 op, .int .i64 1, .int .i64 nn] 77))
  have E0 := Lib.hid (blk_new w (.cells #[.int .i64 op, .int .i64 1, .int .i64 nn] 77))
  go_enter Tryz.func74, Tryz.ntmps74
  have hrd := rd77_blk E0.out rfl
  go_wp2_with (first
    | (go_at_call 97; refine (at_c1 gm op nn (o : Int) m r1 r2 r3 r4 xs gr s0 s1 s2 s3 s4 s5 s6 s7 s8 s9 s10 s11 s12 s13 s14 s15 sA sn sc hl tb ov _ (blk_below ER.out HB0.out) (fun w1 hb1 hg1 => HS.out w1 (below_join2 (below_low HB0.out (Nat.le_of_lt hgr)) hb1) (hg1.trans (HB0.out.block gr hgr))) hoff).mono ?_; rintro e w1 ⟨A11, c11, rfl, hc, hF, hb⟩; have HB1 := Lib.hid (below_step HB0.out hb); have HF := Lib.hid hF; have E0 := Lib.hid (blk_below E0.out hb); clear hb hF)
    | (go_at_call 77; refine (must_f _ _).mono ?_; rintro e wb ⟨rfl, hwb⟩; subst hwb))
  exact ⟨rfl, rfl, below_alloc HB1.out _⟩
set_option maxHeartbeats 16000000 in
set_option maxRecDepth 1000000 in
theorem do_sta1 (gm : Nat) (nn m r1 r2 r3 r4 : Int) (o : Nat) (xs : List Int) (gr : Nat) (s0 s1 s2 s3 s4 s5 s6 s7 s8 s9 s10 s11 s12 s13 s14 s15 : Int) (sA : Option Addr) (sn sc : Nat) (hl tb : Bool) (ov : Int) (Rr : World → Prop) (w : World) (hr : w.heap[gr]? = some (.cells #[.int .i64 s0, .int .i64 s1, .int .i64 s2, .int .i64 s3, .int .i64 s4, .int .i64 s5, .int .i64 s6, .int .i64 s7, .int .i64 s8, .int .i64 s9, .int .i64 s10, .int .i64 s11, .int .i64 s12, .int .i64 s13, .int .i64 s14, .int .i64 s15, .slice sA sn sc, .bool hl, .iface 103 (.pointer (some ⟨gm, 0, none⟩)), .bool tb, .int .i64 ov] 134 (0, 0))) (hne : gr ≠ gm) (hgm : gm < w.heap.size)
  (hS : ∀ w1 : World, Below gr w w1 → w1.heap[gr]? = w.heap[gr]? → Calls Tryz.prog 85 #[.pointer (some ⟨gr, 0, none⟩), .int .i64 s7] w1 fun e w' => ∃ A11 c11, e = .returned (.agg #[.slice A11 xs.length c11, .int .i64 m, .int .i64 r1, .int .i64 r2, .int .i64 r3, .int .i64 r4]) ∧ xs.length ≤ c11 ∧ Kd.F (Kd.int .i64) w' (fun j => w1.heap.size < j) A11 xs.length xs ∧ Below w1.heap.size w1 w')
  (hoff : IntKind.i64.wrap (s8 + nn) = (o : Int)) (hm1 : bits .and .i64 m 2 = 2) (hme : PProcLimits.ring_MayWrite.f r1 r2 r3 r4 (mx s2 s9) = some true) (ho : o < xs.length) (hxl : xs.length < 1000000)
  (hW : ∀ w1 : World, Below gr w w1 → w1.heap[gr]? = w.heap[gr]? → Calls Tryz.prog 149 #[.pointer (some ⟨gm, 0, none⟩), .int .i64 s7, .int .i64 (o : Int), .int .i64 s3] w1 fun e w' => e = .returned (.tuple #[]) ∧ Rr w' ∧ w1.grownBy w' (some gm)) :
  Calls Tryz.prog 53 #[.pointer (some ⟨gr, 0, none⟩), .agg #[.int .i64 2, .int .i64 1, .int .i64 nn]] w fun e w' => e = .returned (.tuple #[]) ∧ Rr w' ∧ w.grownBy w' (some gm) := by
 have HS := Lib.hid hS
 have ER := Lib.hid hr
 have HW := Lib.hid hW
 have hgr := blk_lt hr
 have HB0 := Lib.hid (below_alloc (Below.refl w.heap.size w) (.cells #[.int .i64 2, .int .i64 1, .int .i64 nn] 77))
 have hrd := rd77_blk (blk_new w (.cells #[.int .i64 2, .int .i64 1, .int .i64 nn] 77)) rfl
 clear hS hr hW
 go_enter Tryz.func53, Tryz.ntmps53
 go_wp2_with (go_at_call 74; refine (wrt_c1 gm 2 nn m r1 r2 r3 r4 o xs gr s0 s1 s2 s3 s4 s5 s6 s7 s8 s9 s10 s11 s12 s13 s14 s15 sA sn sc hl tb ov Rr _ (blk_below ER.out HB0.out) hne (by rw [World.size_alloc]; omega) (fun w1 hb1 hg1 => HS.out w1 (below_join2 (below_low HB0.out (Nat.le_of_lt hgr)) hb1) (hg1.trans (HB0.out.block gr hgr))) hoff hm1 hme ho hxl (fun w1 hb1 hg1 => HW.out w1 (below_join2 (below_low HB0.out (Nat.le_of_lt hgr)) hb1) (hg1.trans (HB0.out.block gr hgr)))).mono ?_; rintro e w1 ⟨rfl, hR, hg⟩; have HR := Lib.hid hR; have HG := Lib.hid (below_grown HB0.out hg); clear hR hg)
 first | go_end0 | refine bodyPost_ret (results_none rfl _ _ _) rfl ?_
 exact ⟨rfl, HR.out, HG.out⟩
set_option maxHeartbeats 16000000 in
set_option maxRecDepth 1000000 in
theorem do_staf1 (gm : Nat) (nn m r1 r2 r3 r4 : Int) (o : Nat) (xs : List Int) (gr : Nat) (s0 s1 s2 s3 s4 s5 s6 s7 s8 s9 s10 s11 s12 s13 s14 s15 : Int) (sA : Option Addr) (sn sc : Nat) (hl tb : Bool) (ov : Int) (Rr : World → Prop) (w : World) (hr : w.heap[gr]? = some (.cells #[.int .i64 s0, .int .i64 s1, .int .i64 s2, .int .i64 s3, .int .i64 s4, .int .i64 s5, .int .i64 s6, .int .i64 s7, .int .i64 s8, .int .i64 s9, .int .i64 s10, .int .i64 s11, .int .i64 s12, .int .i64 s13, .int .i64 s14, .int .i64 s15, .slice sA sn sc, .bool hl, .iface 103 (.pointer (some ⟨gm, 0, none⟩)), .bool tb, .int .i64 ov] 134 (0, 0))) (hne : gr ≠ gm) (hgm : gm < w.heap.size)
    (hS : ∀ w1 : World, Below gr w w1 → w1.heap[gr]? = w.heap[gr]? → Calls Tryz.prog 85 #[.pointer (some ⟨gr, 0, none⟩), .int .i64 s7] w1 fun e w' => ∃ A11 c11, e = .returned (.agg #[.slice A11 xs.length c11, .int .i64 m, .int .i64 r1, .int .i64 r2, .int .i64 r3, .int .i64 r4]) ∧ xs.length ≤ c11 ∧ Kd.F (Kd.int .i64) w' (fun j => w1.heap.size < j) A11 xs.length xs ∧ Below w1.heap.size w1 w')
    (hoff : IntKind.i64.wrap (s8 + nn) = (o : Int)) (hm1 : bits .and .i64 m 2 = 0) (hme : PProcLimits.ring_MayWrite.f r1 r2 r3 r4 (mx s2 s9) = some true) (ho : o < xs.length) (hxl : xs.length < 1000000)
     :
    Calls Tryz.prog 53 #[.pointer (some ⟨gr, 0, none⟩), .agg #[.int .i64 2, .int .i64 1, .int .i64 nn]] w fun e w' => e = .panicked [{ v := .iface 48 (.int .i64 32), recovered := false }] ∧ Below gr w w' := by
  have HS := Lib.hid hS
  have ER := Lib.hid hr
  skip
  have hgr := blk_lt hr
  have HB0 := Lib.hid (below_alloc (Below.refl w.heap.size w) (.cells #[.int .i64 2, .int .i64 1, .int .i64 nn] 77))
  have hrd := rd77_blk (blk_new w (.cells #[.int .i64 2, .int .i64 1, .int .i64 nn] 77)) rfl
  clear hS hr 
  go_enter Tryz.func53, Tryz.ntmps53
  go_wp2_with (go_at_call 74; refine (wrt_f1 gm 2 nn m r1 r2 r3 r4 o xs gr s0 s1 s2 s3 s4 s5 s6 s7 s8 s9 s10 s11 s12 s13 s14 s15 sA sn sc hl tb ov Rr _ (blk_below ER.out HB0.out) hne (by rw [World.size_alloc]; omega) (fun w1 hb1 hg1 => HS.out w1 (below_join2 (below_low HB0.out (Nat.le_of_lt hgr)) hb1) (hg1.trans (HB0.out.block gr hgr))) hoff hm1 hme ho hxl ).mono ?_; rintro e w1 ⟨rfl, hb⟩; have HB1 := Lib.hid (below_step HB0.out hb); clear hb)
  exact ⟨rfl, rfl, below_low HB1.out (Nat.le_of_lt hgr)⟩
set_option maxHeartbeats 16000000 in
set_option maxRecDepth 1000000 in
theorem st7w (gm gr g1 g2 g3 g4 n0 : Nat) (q0 q1 q2 q3 q4 q5 q6 q7 q8 q9 q10 q11 q12 q13 q14 q15 ov : Int) (qA : Option Addr) (qn qc : Nat) (hl2 tb : Bool) (ds : List Deferred) (u0 u1 u2 u3 u9 u10 u11 u12 u13 u14 u15 u16 u17 u18 u19 u20 u21 u22 u23 u24 u25 u26 u27 u28 u29 u30 u31 u32 u33 u34 u35 u36 : Value) (W : World) (Q : Exit → Act → World → Prop)
  (hr : W.heap[gr]? = some (.cells #[.int .i64 q0, .int .i64 q1, .int .i64 q2, .int .i64 q3, .int .i64 q4, .int .i64 q5, .int .i64 q6, .int .i64 q7, .int .i64 q8, .int .i64 q9, .int .i64 q10, .int .i64 q11, .int .i64 q12, .int .i64 q13, .int .i64 q14, .int .i64 q15, .slice qA qn qc, .bool hl2, .iface 103 (.pointer (some ⟨gm, 0, none⟩)), .bool tb, .int .i64 ov] 134 (0, 0))) (h1 : W.heap[g1]? = some (.cells #[.int .i64 0, .int .i64 0, .int .i64 0, .int .i64 0, .int .i64 0, .int .i64 0, .int .i64 0, .int .i64 0, .int .i64 0, .int .i64 0, .int .i64 0, .int .i64 0, .int .i64 0, .int .i64 0, .int .i64 0, .int .i64 0, .slice none 0 0, .bool false] 45 (0, 0))) (h2 : W.heap[g2]? = some (.cells #[.int .i64 0] 2 (0, 0))) (h3 : W.heap[g3]? = some (.cells #[.bool false] 4 (0, 0))) (h4 : W.heap[g4]? = some (.cells #[.int .i64 0] 48 (0, 0)))
  (hn : gr ≠ g1 ∧ gr ≠ g2 ∧ gr ≠ g3 ∧ gr ≠ g4 ∧ g1 ≠ g2 ∧ g1 ≠ g3 ∧ g1 ≠ g4 ∧ g2 ≠ g3 ∧ g2 ≠ g4 ∧ g3 ≠ g4) (hlo : n0 ≤ g1 ∧ n0 ≤ g2 ∧ n0 ≤ g3 ∧ n0 ≤ g4 ∧ n0 ≤ gr ∧ n0 ≤ W.heap.size)
  (hpost : ∀ (w' : World) (t25 t26 t27 t28 t29 t30 t31 t32 t33 t34 t35 t36 : Value), w'.heap[g1]? = some (.cells #[.int .i64 q0, .int .i64 q1, .int .i64 q2, .int .i64 q3, .int .i64 q4, .int .i64 q5, .int .i64 q6, .int .i64 q7, .int .i64 q8, .int .i64 q9, .int .i64 q10, .int .i64 q11, .int .i64 q12, .int .i64 q13, .int .i64 q14, .int .i64 q15, .slice qA qn qc, .bool hl2] 45 (0, 0)) → w'.heap[g2]? = some (.cells #[.int .i64 ov] 2 (0, 0)) → w'.heap[g3]? = some (.cells #[.bool tb] 4 (0, 0)) → w'.heap[g4]? = some (.cells #[.int .i64 0] 48 (0, 0)) → Below n0 W w' → (∀ j, j ≠ g1 → j ≠ g2 → j ≠ g3 → j ≠ g4 → w'.heap[j]? = W.heap[j]?) → Q .normal ⟨#[u0, u1, u2, u3, .pointer (some ⟨g1, 0, none⟩), .pointer (some ⟨g2, 0, none⟩), .pointer (some ⟨g3, 0, none⟩), .pointer (some ⟨g4, 0, none⟩), .pointer (some ⟨gr, 0, none⟩), u9, u10, u11, u12, u13, u14, u15, u16, u17, u18, u19, u20, u21, u22, u23, u24, t25, t26, t27, t28, t29, t30, t31, t32, t33, t34, t35, t36], ds⟩ w') :
  Code.wp Tryz.prog (cReg Tryz.f34 7) Q ⟨#[u0, u1, u2, u3, .pointer (some ⟨g1, 0, none⟩), .pointer (some ⟨g2, 0, none⟩), .pointer (some ⟨g3, 0, none⟩), .pointer (some ⟨g4, 0, none⟩), .pointer (some ⟨gr, 0, none⟩), u9, u10, u11, u12, u13, u14, u15, u16, u17, u18, u19, u20, u21, u22, u23, u24, u25, u26, u27, u28, u29, u30, u31, u32, u33, u34, u35, u36], ds⟩ W := by
 have HPO := Lib.hid hpost
 have ER := Lib.hid hr
 have E1 := Lib.hid h1
 have E2 := Lib.hid h2
 have E3 := Lib.hid h3
 have E4 := Lib.hid h4
 clear hr h1 h2 h3 h4 hpost
 have HB := Lib.hid (below_drew1 (Below.refl W.heap.size W))
 have HB := Lib.hid (show Below n0 W W.drew from below_low HB.out hlo.2.2.2.2.2)
 have HKP := Lib.hid (show ∀ j, j ≠ g1 → j ≠ g2 → j ≠ g3 → j ≠ g4 → W.drew.heap[j]? = W.heap[j]? from fun _ _ _ _ _ => rfl)
 have ER := Lib.hid (blk_drew ER.out)
 have E1 := Lib.hid (blk_drew E1.out)
 have E2 := Lib.hid (blk_drew E2.out)
 have E3 := Lib.hid (blk_drew E3.out)
 have E4 := Lib.hid (blk_drew E4.out)
 conv => arg 2; whnf
 refine wp_region_noPanic ?_
 refine wp_region_held_drew (S := fun W1 => (rdS 45 (.pointer (some ⟨gr, 0, none⟩))).run Tryz.prog W1 = .ok (.agg #[.int .i64 q0, .int .i64 q1, .int .i64 q2, .int .i64 q3, .int .i64 q4, .int .i64 q5, .int .i64 q6, .int .i64 q7, .int .i64 q8, .int .i64 q9, .int .i64 q10, .int .i64 q11, .int .i64 q12, .int .i64 q13, .int .i64 q14, .int .i64 q15, .slice qA qn qc, .bool hl2]) W1 ∧ W1.cell? ⟨gr, 19, none⟩ = some (.bool tb) ∧ W1.cell? ⟨gr, 20, none⟩ = some (.int .i64 ov)) (by kernel_rfl) ?_ (fun hHeld => ?_)
 focus ((try dsimp only); exact ⟨rd_in (t := 45) (k := 18) ER.out Tryz.isAgg45 Tryz.sizeOf45 (by show 0 + 18 ≤ 21; omega), (blk_cell ER.out 19).trans rfl, (blk_cell ER.out 20).trans rfl⟩)
 refine tk 0 25 (v := ?_) rfl rfl (by kernel_rfl) rfl ?_ (by assumption) ?_; rotate_left; focus (intro w hSw; go_simp; try with_reducible rfl)
 try simp only [Act.put, List.setIfInBounds_toArray, List.set_cons_zero, List.set_cons_succ]
 refine tk 1 26 (v := ?_) rfl rfl (by kernel_rfl) rfl ?_ (by assumption) ?_; rotate_left; focus (intro w hSw; go_simp; try with_reducible rfl)
 try simp only [Act.put, List.setIfInBounds_toArray, List.set_cons_zero, List.set_cons_succ]
 refine tk 2 27 (v := ?_) rfl rfl (by kernel_rfl) rfl ?_ (by assumption) ?_; rotate_left; focus (intro w hSw; go_simp; try with_reducible rfl)
 try simp only [Act.put, List.setIfInBounds_toArray, List.set_cons_zero, List.set_cons_succ]
 refine tk 3 28 (v := ?_) rfl rfl (by kernel_rfl) rfl ?_ (by assumption) ?_; rotate_left; focus (intro w hSw; go_simp; try with_reducible rfl)
 try simp only [Act.put, List.setIfInBounds_toArray, List.set_cons_zero, List.set_cons_succ]
 refine tk 4 29 (v := ?_) rfl rfl (by kernel_rfl) rfl ?_ (by assumption) ?_; rotate_left; focus (intro w hSw; go_simp; try with_reducible rfl)
 try simp only [Act.put, List.setIfInBounds_toArray, List.set_cons_zero, List.set_cons_succ]
 refine tk 5 30 (v := ?_) rfl rfl (by kernel_rfl) rfl ?_ (by assumption) ?_; rotate_left; focus (intro w hSw; go_simp; try with_reducible rfl)
 try simp only [Act.put, List.setIfInBounds_toArray, List.set_cons_zero, List.set_cons_succ]
 refine tk 6 31 (v := ?_) rfl rfl (by kernel_rfl) rfl ?_ (by assumption) ?_; rotate_left; focus (intro w hSw; go_simp; try with_reducible rfl)
 try simp only [Act.put, List.setIfInBounds_toArray, List.set_cons_zero, List.set_cons_succ]
 refine tk 7 32 (v := ?_) rfl rfl (by kernel_rfl) rfl ?_ (by assumption) ?_; rotate_left; focus (intro w hSw; go_simp; try with_reducible rfl)
 try simp only [Act.put, List.setIfInBounds_toArray, List.set_cons_zero, List.set_cons_succ]
 refine tk 8 33 (v := ?_) rfl rfl (by kernel_rfl) rfl ?_ (by assumption) ?_; rotate_left; focus (intro w hSw; go_simp; try with_reducible rfl)
 try simp only [Act.put, List.setIfInBounds_toArray, List.set_cons_zero, List.set_cons_succ]
 refine tk 9 34 (v := ?_) rfl rfl (by kernel_rfl) rfl ?_ (by assumption) ?_; rotate_left; focus (intro w hSw; go_simp; try with_reducible rfl)
 try simp only [Act.put, List.setIfInBounds_toArray, List.set_cons_zero, List.set_cons_succ]
 refine tk 10 35 (v := ?_) rfl rfl (by kernel_rfl) rfl ?_ (by assumption) ?_; rotate_left; focus (intro w hSw; go_simp; try with_reducible rfl)
 try simp only [Act.put, List.setIfInBounds_toArray, List.set_cons_zero, List.set_cons_succ]
 refine tk 11 36 (v := ?_) rfl rfl (by kernel_rfl) rfl ?_ (by assumption) ?_; rotate_left; focus (intro w hSw; go_simp; try with_reducible rfl)
 try simp only [Act.put, List.setIfInBounds_toArray, List.set_cons_zero, List.set_cons_succ]
 refine wpAnyH_ready (rs := [12]) (by kernel_rfl) (by simp) ?_
 refine AllReadyH.cons rfl (fun K hK => ?_) ?_
 ·have hst := wr45_blk (cs := #[.int .i64 q0, .int .i64 q1, .int .i64 q2, .int .i64 q3, .int .i64 q4, .int .i64 q5, .int .i64 q6, .int .i64 q7, .int .i64 q8, .int .i64 q9, .int .i64 q10, .int .i64 q11, .int .i64 q12, .int .i64 q13, .int .i64 q14, .int .i64 q15, .slice qA qn qc, .bool hl2]) E1.out rfl rfl (by simp [Value.oneCell'])
  have HB := Lib.hid (below_setRow HB.out hlo.1 (#[.int .i64 q0, .int .i64 q1, .int .i64 q2, .int .i64 q3, .int .i64 q4, .int .i64 q5, .int .i64 q6, .int .i64 q7, .int .i64 q8, .int .i64 q9, .int .i64 q10, .int .i64 q11, .int .i64 q12, .int .i64 q13, .int .i64 q14, .int .i64 q15, .slice qA qn qc, .bool hl2] : Array Value)); have HKP := Lib.hid (show ∀ j, j ≠ g1 → j ≠ g2 → j ≠ g3 → j ≠ g4 → (World.setRow _ g1 (#[.int .i64 q0, .int .i64 q1, .int .i64 q2, .int .i64 q3, .int .i64 q4, .int .i64 q5, .int .i64 q6, .int .i64 q7, .int .i64 q8, .int .i64 q9, .int .i64 q10, .int .i64 q11, .int .i64 q12, .int .i64 q13, .int .i64 q14, .int .i64 q15, .slice qA qn qc, .bool hl2] : Array Value)).heap[j]? = W.heap[j]? from fun j h1 h2 h3 h4 => (setRow_other _ g1 j (#[.int .i64 q0, .int .i64 q1, .int .i64 q2, .int .i64 q3, .int .i64 q4, .int .i64 q5, .int .i64 q6, .int .i64 q7, .int .i64 q8, .int .i64 q9, .int .i64 q10, .int .i64 q11, .int .i64 q12, .int .i64 q13, .int .i64 q14, .int .i64 q15, .slice qA qn qc, .bool hl2] : Array Value) h1).trans (HKP.out j h1 h2 h3 h4))
  have EX := Lib.hid (setRow_heap _ _ _ (#[.int .i64 q0, .int .i64 q1, .int .i64 q2, .int .i64 q3, .int .i64 q4, .int .i64 q5, .int .i64 q6, .int .i64 q7, .int .i64 q8, .int .i64 q9, .int .i64 q10, .int .i64 q11, .int .i64 q12, .int .i64 q13, .int .i64 q14, .int .i64 q15, .slice qA qn qc, .bool hl2] : Array Value) _ _ E1.out)
  have E2 := Lib.hid ((setRow_other _ g1 g2 (#[.int .i64 q0, .int .i64 q1, .int .i64 q2, .int .i64 q3, .int .i64 q4, .int .i64 q5, .int .i64 q6, .int .i64 q7, .int .i64 q8, .int .i64 q9, .int .i64 q10, .int .i64 q11, .int .i64 q12, .int .i64 q13, .int .i64 q14, .int .i64 q15, .slice qA qn qc, .bool hl2] : Array Value) (by omega)).trans E2.out)
  have E3 := Lib.hid ((setRow_other _ g1 g3 (#[.int .i64 q0, .int .i64 q1, .int .i64 q2, .int .i64 q3, .int .i64 q4, .int .i64 q5, .int .i64 q6, .int .i64 q7, .int .i64 q8, .int .i64 q9, .int .i64 q10, .int .i64 q11, .int .i64 q12, .int .i64 q13, .int .i64 q14, .int .i64 q15, .slice qA qn qc, .bool hl2] : Array Value) (by omega)).trans E3.out)
  have E4 := Lib.hid ((setRow_other _ g1 g4 (#[.int .i64 q0, .int .i64 q1, .int .i64 q2, .int .i64 q3, .int .i64 q4, .int .i64 q5, .int .i64 q6, .int .i64 q7, .int .i64 q8, .int .i64 q9, .int .i64 q10, .int .i64 q11, .int .i64 q12, .int .i64 q13, .int .i64 q14, .int .i64 q15, .slice qA qn qc, .bool hl2] : Array Value) (by omega)).trans E4.out)
  have ER := Lib.hid ((setRow_other _ g1 gr (#[.int .i64 q0, .int .i64 q1, .int .i64 q2, .int .i64 q3, .int .i64 q4, .int .i64 q5, .int .i64 q6, .int .i64 q7, .int .i64 q8, .int .i64 q9, .int .i64 q10, .int .i64 q11, .int .i64 q12, .int .i64 q13, .int .i64 q14, .int .i64 q15, .slice qA qn qc, .bool hl2] : Array Value) (by omega)).trans ER.out)
  go_simp
  refine hK.out _ _ ?_ (fun hHeld => ?_)
  focus ((try dsimp only); exact ⟨rd_in (t := 45) (k := 18) ER.out Tryz.isAgg45 Tryz.sizeOf45 (by show 0 + 18 ≤ 21; omega), (blk_cell ER.out 19).trans rfl, (blk_cell ER.out 20).trans rfl⟩)
  clear hK K
  refine wpAnyH_ready (rs := [13]) (by kernel_rfl) (by simp) ?_
  refine AllReadyH.cons rfl (fun K hK => ?_) ?_
  ·have c1 := (blk_cell E2.out 0).trans rfl
   have z1 := blk_frozen E2.out 0
   have HB := Lib.hid (below_put HB.out (v := .int .i64 ov) (j := 0) (g := g2) (by omega)); have HKP := Lib.hid (show ∀ j, j ≠ g1 → j ≠ g2 → j ≠ g3 → j ≠ g4 → (World.setCell _ ⟨g2, 0, none⟩ (.int .i64 ov)).heap[j]? = W.heap[j]? from fun j h1 h2 h3 h4 => (Below.heap_setCell _ ⟨g2, 0, none⟩ (.int .i64 ov) j h2).trans (HKP.out j h1 h2 h3 h4))
   have EX := Lib.hid (blk_far (p := ⟨g2, 0, none⟩) EX.out (by show g1 ≠ g2; omega) (.int .i64 ov))
   have E2 := Lib.hid (blk_put E2.out 0 (.int .i64 ov) rfl)
   have E3 := Lib.hid (blk_far (p := ⟨g2, 0, none⟩) E3.out (by show g3 ≠ g2; omega) (.int .i64 ov))
   have E4 := Lib.hid (blk_far (p := ⟨g2, 0, none⟩) E4.out (by show g4 ≠ g2; omega) (.int .i64 ov))
   have ER := Lib.hid (blk_far (p := ⟨g2, 0, none⟩) ER.out (by show gr ≠ g2; omega) (.int .i64 ov))
   go_simp
   refine hK.out _ _ ?_ (fun hHeld => ?_)
   focus ((try dsimp only); exact ⟨rd_in (t := 45) (k := 18) ER.out Tryz.isAgg45 Tryz.sizeOf45 (by show 0 + 18 ≤ 21; omega), (blk_cell ER.out 19).trans rfl, (blk_cell ER.out 20).trans rfl⟩)
   clear hK K
   refine wpAnyH_ready (rs := [14]) (by kernel_rfl) (by simp) ?_
   refine AllReadyH.cons rfl (fun K hK => ?_) ?_
   ·have c2 := (blk_cell E3.out 0).trans rfl
    have z2 := blk_frozen E3.out 0
    have HB := Lib.hid (below_put HB.out (v := .bool tb) (j := 0) (g := g3) (by omega)); have HKP := Lib.hid (show ∀ j, j ≠ g1 → j ≠ g2 → j ≠ g3 → j ≠ g4 → (World.setCell _ ⟨g3, 0, none⟩ (.bool tb)).heap[j]? = W.heap[j]? from fun j h1 h2 h3 h4 => (Below.heap_setCell _ ⟨g3, 0, none⟩ (.bool tb) j h3).trans (HKP.out j h1 h2 h3 h4))
    have EX := Lib.hid (blk_far (p := ⟨g3, 0, none⟩) EX.out (by show g1 ≠ g3; omega) (.bool tb))
    have E2 := Lib.hid (blk_far (p := ⟨g3, 0, none⟩) E2.out (by show g2 ≠ g3; omega) (.bool tb))
    have E3 := Lib.hid (blk_put E3.out 0 (.bool tb) rfl)
    have E4 := Lib.hid (blk_far (p := ⟨g3, 0, none⟩) E4.out (by show g4 ≠ g3; omega) (.bool tb))
    have ER := Lib.hid (blk_far (p := ⟨g3, 0, none⟩) ER.out (by show gr ≠ g3; omega) (.bool tb))
    go_simp
    refine hK.out _ _ ?_ (fun hHeld => ?_)
    focus ((try dsimp only); exact ⟨rd_in (t := 45) (k := 18) ER.out Tryz.isAgg45 Tryz.sizeOf45 (by show 0 + 18 ≤ 21; omega), (blk_cell ER.out 19).trans rfl, (blk_cell ER.out 20).trans rfl⟩)
    clear hK K
    refine wpAnyH_ready (rs := [15]) (by kernel_rfl) (by simp) ?_
    refine AllReadyH.cons rfl (fun K hK => ?_) ?_
    ·have c3 := (blk_cell E4.out 0).trans rfl
     have z3 := blk_frozen E4.out 0
     have HB := Lib.hid (below_put HB.out (v := .int .i64 0) (j := 0) (g := g4) (by omega)); have HKP := Lib.hid (show ∀ j, j ≠ g1 → j ≠ g2 → j ≠ g3 → j ≠ g4 → (World.setCell _ ⟨g4, 0, none⟩ (.int .i64 0)).heap[j]? = W.heap[j]? from fun j h1 h2 h3 h4 => (Below.heap_setCell _ ⟨g4, 0, none⟩ (.int .i64 0) j h4).trans (HKP.out j h1 h2 h3 h4))
     have EX := Lib.hid (blk_far (p := ⟨g4, 0, none⟩) EX.out (by show g1 ≠ g4; omega) (.int .i64 0))
     have E2 := Lib.hid (blk_far (p := ⟨g4, 0, none⟩) E2.out (by show g2 ≠ g4; omega) (.int .i64 0))
     have E3 := Lib.hid (blk_far (p := ⟨g4, 0, none⟩) E3.out (by show g3 ≠ g4; omega) (.int .i64 0))
     have E4 := Lib.hid (blk_put E4.out 0 (.int .i64 0) rfl)
     have ER := Lib.hid (blk_far (p := ⟨g4, 0, none⟩) ER.out (by show gr ≠ g4; omega) (.int .i64 0))
     go_simp
     refine hK.out _ _ ?_ (fun hHeld => ?_)
     focus ((try dsimp only); exact ⟨rd_in (t := 45) (k := 18) ER.out Tryz.isAgg45 Tryz.sizeOf45 (by show 0 + 18 ≤ 21; omega), (blk_cell ER.out 19).trans rfl, (blk_cell ER.out 20).trans rfl⟩)
     clear hK K
     refine wpAnyH_done (by kernel_rfl) ?_ _
     refine NoPanic.normal ?_
     exact HPO.out _ _ _ _ _ _ _ _ _ _ _ _ _ EX.out E2.out E3.out E4.out HB.out HKP.out
    exact AllReadyH.nil
   exact AllReadyH.nil
  exact AllReadyH.nil
 exact AllReadyH.nil
set_option maxHeartbeats 16000000 in
set_option maxRecDepth 1000000 in
theorem step_w (gm : Nat) (Rr : World → Prop) (op p nn : Int) (RC1 : Array Value) (s0 s1 s2 s3 s4 s5 s6 s7 s8 s9 s10 s11 s12 s13 s14 s15 q0 q1 q2 q3 q4 q5 q6 q7 q8 q9 q10 q11 q12 q13 q14 q15 ov : Int) (qA : Option Addr) (qn qc : Nat) (hl2 tb : Bool) (w : World)
  (hF : ∀ (gr : Nat) (w1 : World), Below w.heap.size w w1 → w.heap.size ≤ gr → w1.heap[gr]? = some (.cells #[.int .i64 s0, .int .i64 s1, .int .i64 s2, .int .i64 s3, .int .i64 s4, .int .i64 s5, .int .i64 s6, .int .i64 s7, .int .i64 s8, .int .i64 s9, .int .i64 s10, .int .i64 s11, .int .i64 s12, .int .i64 s13, .int .i64 s14, .int .i64 s15, .slice none 0 0, .bool false, .iface 103 (.pointer (some ⟨gm, 0, none⟩)), .bool false, .int .i64 0] 134 (0, 0)) → Calls Tryz.prog 54 #[.pointer (some ⟨gr, 0, none⟩)] w1 fun e w' => e = .returned (.agg #[.int .i64 op, .int .i64 p, .int .i64 nn]) ∧ w'.heap[gr]? = some (.cells RC1 134 (0, 0)) ∧ Below gr w1 w')
  (hgm : gm < w.heap.size) (hRC : RC1 = #[.int .i64 q0, .int .i64 q1, .int .i64 q2, .int .i64 q3, .int .i64 q4, .int .i64 q5, .int .i64 q6, .int .i64 q7, .int .i64 q8, .int .i64 q9, .int .i64 q10, .int .i64 q11, .int .i64 q12, .int .i64 q13, .int .i64 q14, .int .i64 q15, .slice qA qn qc, .bool hl2, .iface 103 (.pointer (some ⟨gm, 0, none⟩)), .bool tb, .int .i64 ov])
  (hRr : ∀ w3 w4 : World, Rr w3 → (∀ j, j < w.heap.size ∨ w.heap.size + 6 ≤ j → w4.heap[j]? = w3.heap[j]?) → Rr w4)
  (hD : ∀ (gr : Nat) (w1 : World), Below w.heap.size w w1 → w.heap.size ≤ gr → gr < w.heap.size + 6 → w.heap.size + 6 ≤ w1.heap.size → w1.heap[gr]? = some (.cells RC1 134 (0, 0)) → Calls Tryz.prog 53 #[.pointer (some ⟨gr, 0, none⟩), .agg #[.int .i64 op, .int .i64 p, .int .i64 nn]] w1 fun e w' => e = .returned (.tuple #[]) ∧ Rr w' ∧ w1.grownBy w' (some gm)) :
  Calls Tryz.prog 34 #[.agg #[.int .i64 s0, .int .i64 s1, .int .i64 s2, .int .i64 s3, .int .i64 s4, .int .i64 s5, .int .i64 s6, .int .i64 s7, .int .i64 s8, .int .i64 s9, .int .i64 s10, .int .i64 s11, .int .i64 s12, .int .i64 s13, .int .i64 s14, .int .i64 s15, .slice none 0 0, .bool false], .iface 103 (.pointer (some ⟨gm, 0, none⟩))] w fun e w' => e = .returned (.tuple #[.agg #[.int .i64 q0, .int .i64 q1, .int .i64 q2, .int .i64 q3, .int .i64 q4, .int .i64 q5, .int .i64 q6, .int .i64 q7, .int .i64 q8, .int .i64 q9, .int .i64 q10, .int .i64 q11, .int .i64 q12, .int .i64 q13, .int .i64 q14, .int .i64 q15, .slice qA qn qc, .bool hl2], .int .i64 ov, .bool tb, .int .i64 0]) ∧ Rr w' ∧ w.grownBy w' (some gm) := by
 subst hRC
 have HRR := Lib.hid hRr
 clear hRr
 have HF := Lib.hid hF
 have HD := Lib.hid hD
 clear hF hD
 have hmf : ∀ (fn : Fn) (first cap : Array Value) (w : World), (Instr.makeFunc fn first cap).run Tryz.prog w = .ok (.func fn first cap) w := fun _ _ _ _ => rfl
 go_enter_defers Tryz.func34, Tryz.ntmps34
 have hz : (((((w.alloc (.cells #[.int .i64 s0, .int .i64 s1, .int .i64 s2, .int .i64 s3, .int .i64 s4, .int .i64 s5, .int .i64 s6, .int .i64 s7, .int .i64 s8, .int .i64 s9, .int .i64 s10, .int .i64 s11, .int .i64 s12, .int .i64 s13, .int .i64 s14, .int .i64 s15, .slice none 0 0, .bool false] 45)).alloc (.cells #[.int .i64 0, .int .i64 0, .int .i64 0, .int .i64 0, .int .i64 0, .int .i64 0, .int .i64 0, .int .i64 0, .int .i64 0, .int .i64 0, .int .i64 0, .int .i64 0, .int .i64 0, .int .i64 0, .int .i64 0, .int .i64 0, .slice none 0 0, .bool false] 45)).alloc (.cells #[.int .i64 0] 2)).alloc (.cells #[.bool false] 4)).alloc (.cells #[.int .i64 0] 48)).heap.size = w.heap.size + 1 + 1 + 1 + 1 + 1 := by simp only [World.size_alloc]
 have EA := Lib.hid (blk_alloc (blk_alloc (blk_alloc (blk_alloc (blk_new w (.cells #[.int .i64 s0, .int .i64 s1, .int .i64 s2, .int .i64 s3, .int .i64 s4, .int .i64 s5, .int .i64 s6, .int .i64 s7, .int .i64 s8, .int .i64 s9, .int .i64 s10, .int .i64 s11, .int .i64 s12, .int .i64 s13, .int .i64 s14, .int .i64 s15, .slice none 0 0, .bool false] 45)) (.cells #[.int .i64 0, .int .i64 0, .int .i64 0, .int .i64 0, .int .i64 0, .int .i64 0, .int .i64 0, .int .i64 0, .int .i64 0, .int .i64 0, .int .i64 0, .int .i64 0, .int .i64 0, .int .i64 0, .int .i64 0, .int .i64 0, .slice none 0 0, .bool false] 45)) (.cells #[.int .i64 0] 2)) (.cells #[.bool false] 4)) (.cells #[.int .i64 0] 48))
 have E1 := Lib.hid (show (((((w.alloc (.cells #[.int .i64 s0, .int .i64 s1, .int .i64 s2, .int .i64 s3, .int .i64 s4, .int .i64 s5, .int .i64 s6, .int .i64 s7, .int .i64 s8, .int .i64 s9, .int .i64 s10, .int .i64 s11, .int .i64 s12, .int .i64 s13, .int .i64 s14, .int .i64 s15, .slice none 0 0, .bool false] 45)).alloc (.cells #[.int .i64 0, .int .i64 0, .int .i64 0, .int .i64 0, .int .i64 0, .int .i64 0, .int .i64 0, .int .i64 0, .int .i64 0, .int .i64 0, .int .i64 0, .int .i64 0, .int .i64 0, .int .i64 0, .int .i64 0, .int .i64 0, .slice none 0 0, .bool false] 45)).alloc (.cells #[.int .i64 0] 2)).alloc (.cells #[.bool false] 4)).alloc (.cells #[.int .i64 0] 48)).heap[w.heap.size + 1]? = some (.cells #[.int .i64 0, .int .i64 0, .int .i64 0, .int .i64 0, .int .i64 0, .int .i64 0, .int .i64 0, .int .i64 0, .int .i64 0, .int .i64 0, .int .i64 0, .int .i64 0, .int .i64 0, .int .i64 0, .int .i64 0, .int .i64 0, .slice none 0 0, .bool false] 45) from blk_alloc (blk_alloc (blk_alloc (by have h := blk_new (w.alloc (.cells #[.int .i64 s0, .int .i64 s1, .int .i64 s2, .int .i64 s3, .int .i64 s4, .int .i64 s5, .int .i64 s6, .int .i64 s7, .int .i64 s8, .int .i64 s9, .int .i64 s10, .int .i64 s11, .int .i64 s12, .int .i64 s13, .int .i64 s14, .int .i64 s15, .slice none 0 0, .bool false] 45)) (.cells #[.int .i64 0, .int .i64 0, .int .i64 0, .int .i64 0, .int .i64 0, .int .i64 0, .int .i64 0, .int .i64 0, .int .i64 0, .int .i64 0, .int .i64 0, .int .i64 0, .int .i64 0, .int .i64 0, .int .i64 0, .int .i64 0, .slice none 0 0, .bool false] 45); simp only [World.size_alloc] at h; exact h) (.cells #[.int .i64 0] 2)) (.cells #[.bool false] 4)) (.cells #[.int .i64 0] 48))
 have E2 := Lib.hid (show (((((w.alloc (.cells #[.int .i64 s0, .int .i64 s1, .int .i64 s2, .int .i64 s3, .int .i64 s4, .int .i64 s5, .int .i64 s6, .int .i64 s7, .int .i64 s8, .int .i64 s9, .int .i64 s10, .int .i64 s11, .int .i64 s12, .int .i64 s13, .int .i64 s14, .int .i64 s15, .slice none 0 0, .bool false] 45)).alloc (.cells #[.int .i64 0, .int .i64 0, .int .i64 0, .int .i64 0, .int .i64 0, .int .i64 0, .int .i64 0, .int .i64 0, .int .i64 0, .int .i64 0, .int .i64 0, .int .i64 0, .int .i64 0, .int .i64 0, .int .i64 0, .int .i64 0, .slice none 0 0, .bool false] 45)).alloc (.cells #[.int .i64 0] 2)).alloc (.cells #[.bool false] 4)).alloc (.cells #[.int .i64 0] 48)).heap[w.heap.size + 1 + 1]? = some (.cells #[.int .i64 0] 2) from blk_alloc (blk_alloc (by have h := blk_new ((w.alloc (.cells #[.int .i64 s0, .int .i64 s1, .int .i64 s2, .int .i64 s3, .int .i64 s4, .int .i64 s5, .int .i64 s6, .int .i64 s7, .int .i64 s8, .int .i64 s9, .int .i64 s10, .int .i64 s11, .int .i64 s12, .int .i64 s13, .int .i64 s14, .int .i64 s15, .slice none 0 0, .bool false] 45)).alloc (.cells #[.int .i64 0, .int .i64 0, .int .i64 0, .int .i64 0, .int .i64 0, .int .i64 0, .int .i64 0, .int .i64 0, .int .i64 0, .int .i64 0, .int .i64 0, .int .i64 0, .int .i64 0, .int .i64 0, .int .i64 0, .int .i64 0, .slice none 0 0, .bool false] 45)) (.cells #[.int .i64 0] 2); simp only [World.size_alloc] at h; exact h) (.cells #[.bool false] 4)) (.cells #[.int .i64 0] 48))
 have E3 := Lib.hid (show (((((w.alloc (.cells #[.int .i64 s0, .int .i64 s1, .int .i64 s2, .int .i64 s3, .int .i64 s4, .int .i64 s5, .int .i64 s6, .int .i64 s7, .int .i64 s8, .int .i64 s9, .int .i64 s10, .int .i64 s11, .int .i64 s12, .int .i64 s13, .int .i64 s14, .int .i64 s15, .slice none 0 0, .bool false] 45)).alloc (.cells #[.int .i64 0, .int .i64 0, .int .i64 0, .int .i64 0, .int .i64 0, .int .i64 0, .int .i64 0, .int .i64 0, .int .i64 0, .int .i64 0, .int .i64 0, .int .i64 0, .int .i64 0, .int .i64 0, .int .i64 0, .int .i64 0, .slice none 0 0, .bool false] 45)).alloc (.cells #[.int .i64 0] 2)).alloc (.cells #[.bool false] 4)).alloc (.cells #[.int .i64 0] 48)).heap[w.heap.size + 1 + 1 + 1]? = some (.cells #[.bool false] 4) from blk_alloc (by have h := blk_new (((w.alloc (.cells #[.int .i64 s0, .int .i64 s1, .int .i64 s2, .int .i64 s3, .int .i64 s4, .int .i64 s5, .int .i64 s6, .int .i64 s7, .int .i64 s8, .int .i64 s9, .int .i64 s10, .int .i64 s11, .int .i64 s12, .int .i64 s13, .int .i64 s14, .int .i64 s15, .slice none 0 0, .bool false] 45)).alloc (.cells #[.int .i64 0, .int .i64 0, .int .i64 0, .int .i64 0, .int .i64 0, .int .i64 0, .int .i64 0, .int .i64 0, .int .i64 0, .int .i64 0, .int .i64 0, .int .i64 0, .int .i64 0, .int .i64 0, .int .i64 0, .int .i64 0, .slice none 0 0, .bool false] 45)).alloc (.cells #[.int .i64 0] 2)) (.cells #[.bool false] 4); simp only [World.size_alloc] at h; exact h) (.cells #[.int .i64 0] 48))
 have E4 := Lib.hid (show (((((w.alloc (.cells #[.int .i64 s0, .int .i64 s1, .int .i64 s2, .int .i64 s3, .int .i64 s4, .int .i64 s5, .int .i64 s6, .int .i64 s7, .int .i64 s8, .int .i64 s9, .int .i64 s10, .int .i64 s11, .int .i64 s12, .int .i64 s13, .int .i64 s14, .int .i64 s15, .slice none 0 0, .bool false] 45)).alloc (.cells #[.int .i64 0, .int .i64 0, .int .i64 0, .int .i64 0, .int .i64 0, .int .i64 0, .int .i64 0, .int .i64 0, .int .i64 0, .int .i64 0, .int .i64 0, .int .i64 0, .int .i64 0, .int .i64 0, .int .i64 0, .int .i64 0, .slice none 0 0, .bool false] 45)).alloc (.cells #[.int .i64 0] 2)).alloc (.cells #[.bool false] 4)).alloc (.cells #[.int .i64 0] 48)).heap[w.heap.size + 1 + 1 + 1 + 1]? = some (.cells #[.int .i64 0] 48) from by have h := blk_new ((((w.alloc (.cells #[.int .i64 s0, .int .i64 s1, .int .i64 s2, .int .i64 s3, .int .i64 s4, .int .i64 s5, .int .i64 s6, .int .i64 s7, .int .i64 s8, .int .i64 s9, .int .i64 s10, .int .i64 s11, .int .i64 s12, .int .i64 s13, .int .i64 s14, .int .i64 s15, .slice none 0 0, .bool false] 45)).alloc (.cells #[.int .i64 0, .int .i64 0, .int .i64 0, .int .i64 0, .int .i64 0, .int .i64 0, .int .i64 0, .int .i64 0, .int .i64 0, .int .i64 0, .int .i64 0, .int .i64 0, .int .i64 0, .int .i64 0, .int .i64 0, .int .i64 0, .slice none 0 0, .bool false] 45)).alloc (.cells #[.int .i64 0] 2)).alloc (.cells #[.bool false] 4)) (.cells #[.int .i64 0] 48); simp only [World.size_alloc] at h; exact h)
 have HB0 := Lib.hid (below_alloc (below_alloc (below_alloc (below_alloc (below_alloc (Below.refl w.heap.size w) (.cells #[.int .i64 s0, .int .i64 s1, .int .i64 s2, .int .i64 s3, .int .i64 s4, .int .i64 s5, .int .i64 s6, .int .i64 s7, .int .i64 s8, .int .i64 s9, .int .i64 s10, .int .i64 s11, .int .i64 s12, .int .i64 s13, .int .i64 s14, .int .i64 s15, .slice none 0 0, .bool false] 45)) (.cells #[.int .i64 0, .int .i64 0, .int .i64 0, .int .i64 0, .int .i64 0, .int .i64 0, .int .i64 0, .int .i64 0, .int .i64 0, .int .i64 0, .int .i64 0, .int .i64 0, .int .i64 0, .int .i64 0, .int .i64 0, .int .i64 0, .slice none 0 0, .bool false] 45)) (.cells #[.int .i64 0] 2)) (.cells #[.bool false] 4)) (.cells #[.int .i64 0] 48))
 have hrd := rd45_blk EA.out rfl
 have E5 := Lib.hid (show (World.alloc (((((w.alloc (.cells #[.int .i64 s0, .int .i64 s1, .int .i64 s2, .int .i64 s3, .int .i64 s4, .int .i64 s5, .int .i64 s6, .int .i64 s7, .int .i64 s8, .int .i64 s9, .int .i64 s10, .int .i64 s11, .int .i64 s12, .int .i64 s13, .int .i64 s14, .int .i64 s15, .slice none 0 0, .bool false] 45)).alloc (.cells #[.int .i64 0, .int .i64 0, .int .i64 0, .int .i64 0, .int .i64 0, .int .i64 0, .int .i64 0, .int .i64 0, .int .i64 0, .int .i64 0, .int .i64 0, .int .i64 0, .int .i64 0, .int .i64 0, .int .i64 0, .int .i64 0, .slice none 0 0, .bool false] 45)).alloc (.cells #[.int .i64 0] 2)).alloc (.cells #[.bool false] 4)).alloc (.cells #[.int .i64 0] 48)) (.cells #[.int .i64 s0, .int .i64 s1, .int .i64 s2, .int .i64 s3, .int .i64 s4, .int .i64 s5, .int .i64 s6, .int .i64 s7, .int .i64 s8, .int .i64 s9, .int .i64 s10, .int .i64 s11, .int .i64 s12, .int .i64 s13, .int .i64 s14, .int .i64 s15, .slice none 0 0, .bool false, .iface 103 (.pointer (some ⟨gm, 0, none⟩)), .bool false, .int .i64 0] 134)).heap[w.heap.size + 1 + 1 + 1 + 1 + 1]? = some (.cells #[.int .i64 s0, .int .i64 s1, .int .i64 s2, .int .i64 s3, .int .i64 s4, .int .i64 s5, .int .i64 s6, .int .i64 s7, .int .i64 s8, .int .i64 s9, .int .i64 s10, .int .i64 s11, .int .i64 s12, .int .i64 s13, .int .i64 s14, .int .i64 s15, .slice none 0 0, .bool false, .iface 103 (.pointer (some ⟨gm, 0, none⟩)), .bool false, .int .i64 0] 134) from by have h := blk_new (((((w.alloc (.cells #[.int .i64 s0, .int .i64 s1, .int .i64 s2, .int .i64 s3, .int .i64 s4, .int .i64 s5, .int .i64 s6, .int .i64 s7, .int .i64 s8, .int .i64 s9, .int .i64 s10, .int .i64 s11, .int .i64 s12, .int .i64 s13, .int .i64 s14, .int .i64 s15, .slice none 0 0, .bool false] 45)).alloc (.cells #[.int .i64 0, .int .i64 0, .int .i64 0, .int .i64 0, .int .i64 0, .int .i64 0, .int .i64 0, .int .i64 0, .int .i64 0, .int .i64 0, .int .i64 0, .int .i64 0, .int .i64 0, .int .i64 0, .int .i64 0, .int .i64 0, .slice none 0 0, .bool false] 45)).alloc (.cells #[.int .i64 0] 2)).alloc (.cells #[.bool false] 4)).alloc (.cells #[.int .i64 0] 48)) (.cells #[.int .i64 s0, .int .i64 s1, .int .i64 s2, .int .i64 s3, .int .i64 s4, .int .i64 s5, .int .i64 s6, .int .i64 s7, .int .i64 s8, .int .i64 s9, .int .i64 s10, .int .i64 s11, .int .i64 s12, .int .i64 s13, .int .i64 s14, .int .i64 s15, .slice none 0 0, .bool false, .iface 103 (.pointer (some ⟨gm, 0, none⟩)), .bool false, .int .i64 0] 134); rw [hz] at h; exact h)
 have HB5 := Lib.hid (below_alloc HB0.out (.cells #[.int .i64 s0, .int .i64 s1, .int .i64 s2, .int .i64 s3, .int .i64 s4, .int .i64 s5, .int .i64 s6, .int .i64 s7, .int .i64 s8, .int .i64 s9, .int .i64 s10, .int .i64 s11, .int .i64 s12, .int .i64 s13, .int .i64 s14, .int .i64 s15, .slice none 0 0, .bool false, .iface 103 (.pointer (some ⟨gm, 0, none⟩)), .bool false, .int .i64 0] 134))
 have E1 := Lib.hid (blk_alloc E1.out (.cells #[.int .i64 s0, .int .i64 s1, .int .i64 s2, .int .i64 s3, .int .i64 s4, .int .i64 s5, .int .i64 s6, .int .i64 s7, .int .i64 s8, .int .i64 s9, .int .i64 s10, .int .i64 s11, .int .i64 s12, .int .i64 s13, .int .i64 s14, .int .i64 s15, .slice none 0 0, .bool false, .iface 103 (.pointer (some ⟨gm, 0, none⟩)), .bool false, .int .i64 0] 134))
 have E2 := Lib.hid (blk_alloc E2.out (.cells #[.int .i64 s0, .int .i64 s1, .int .i64 s2, .int .i64 s3, .int .i64 s4, .int .i64 s5, .int .i64 s6, .int .i64 s7, .int .i64 s8, .int .i64 s9, .int .i64 s10, .int .i64 s11, .int .i64 s12, .int .i64 s13, .int .i64 s14, .int .i64 s15, .slice none 0 0, .bool false, .iface 103 (.pointer (some ⟨gm, 0, none⟩)), .bool false, .int .i64 0] 134))
 have E3 := Lib.hid (blk_alloc E3.out (.cells #[.int .i64 s0, .int .i64 s1, .int .i64 s2, .int .i64 s3, .int .i64 s4, .int .i64 s5, .int .i64 s6, .int .i64 s7, .int .i64 s8, .int .i64 s9, .int .i64 s10, .int .i64 s11, .int .i64 s12, .int .i64 s13, .int .i64 s14, .int .i64 s15, .slice none 0 0, .bool false, .iface 103 (.pointer (some ⟨gm, 0, none⟩)), .bool false, .int .i64 0] 134))
 have E4 := Lib.hid (blk_alloc E4.out (.cells #[.int .i64 s0, .int .i64 s1, .int .i64 s2, .int .i64 s3, .int .i64 s4, .int .i64 s5, .int .i64 s6, .int .i64 s7, .int .i64 s8, .int .i64 s9, .int .i64 s10, .int .i64 s11, .int .i64 s12, .int .i64 s13, .int .i64 s14, .int .i64 s15, .slice none 0 0, .bool false, .iface 103 (.pointer (some ⟨gm, 0, none⟩)), .bool false, .int .i64 0] 134))
 go_wp2_with (first
  | (go_at_call 33; refine (clone33_nil _).mono ?_; rintro e w1 ⟨rfl, rfl⟩)
  | (go_at_call 54; refine (HF.out (w.heap.size + 1 + 1 + 1 + 1 + 1) _ HB5.out (by omega) E5.out).mono ?_; rintro e w2 ⟨rfl, hR, hb⟩; have E5 := Lib.hid hR; have E1 := Lib.hid ((hb.block _ (by omega)).trans E1.out); have E2 := Lib.hid ((hb.block _ (by omega)).trans E2.out); have E3 := Lib.hid ((hb.block _ (by omega)).trans E3.out); have E4 := Lib.hid ((hb.block _ (by omega)).trans E4.out); have HB6 := Lib.hid (below_join HB5.out hb (by omega)); clear hb hR)
  | (go_at_call 53; refine (HD.out (w.heap.size + 1 + 1 + 1 + 1 + 1) _ HB6.out (by omega) (by omega) (by have := blk_lt E5.out; omega) E5.out).mono ?_; rintro e w3 ⟨rfl, hR, hg⟩; have HR := Lib.hid hR; have HG := Lib.hid hg; have E5 := Lib.hid (blk_grown E5.out hg (fun e => absurd (Option.some.inj e) (by omega))); have E1 := Lib.hid (blk_grown E1.out hg (fun e => absurd (Option.some.inj e) (by omega))); have E2 := Lib.hid (blk_grown E2.out hg (fun e => absurd (Option.some.inj e) (by omega))); have E3 := Lib.hid (blk_grown E3.out hg (fun e => absurd (Option.some.inj e) (by omega))); have E4 := Lib.hid (blk_grown E4.out hg (fun e => absurd (Option.some.inj e) (by omega))); clear hg hR))
 refine st7w gm (w.heap.size + 1 + 1 + 1 + 1 + 1) (w.heap.size + 1) (w.heap.size + 1 + 1) (w.heap.size + 1 + 1 + 1) (w.heap.size + 1 + 1 + 1 + 1) w.heap.size q0 q1 q2 q3 q4 q5 q6 q7 q8 q9 q10 q11 q12 q13 q14 q15 ov qA qn qc hl2 tb _ _ _ _ _ _ _ _ _ _ _ _ _ _ _ _ _ _ _ _ _ _ _ _ _ _ _ _ _ _ _ _ _ w3 _ E5.out E1.out E2.out E3.out E4.out (by omega) ⟨by omega, by omega, by omega, by omega, by omega, Nat.le_trans HB6.out.size HG.out.size⟩ ?_
 intro w4 a25 a26 a27 a28 a29 a30 a31 a32 a33 a34 a35 a36 h1 h2 h3 h4 hb hkp
 have HB8 := Lib.hid hb
 have HKP := Lib.hid hkp
 have H1 := Lib.hid h1
 have H2 := Lib.hid h2
 have H3 := Lib.hid h3
 have H4 := Lib.hid h4
 clear h1 h2 h3 h4 hb hkp
 go_wp2
 refine leaves_cons (f := 52) (args := #[.pointer (some ⟨w.heap.size + 1, 0, none⟩), .pointer (some ⟨w.heap.size + 1 + 1, 0, none⟩), .pointer (some ⟨w.heap.size + 1 + 1 + 1, 0, none⟩), .pointer (some ⟨w.heap.size + 1 + 1 + 1 + 1, 0, none⟩)]) (by simp) (by simp [go_sem]) ?_
 refine (catch_idle _ _ _ _ _).mono ?_
 rintro e u' w5 ⟨rfl, rfl, rfl⟩
 unfold Leaves
 refine ⟨_, res34 _ w5 (w.heap.size + 1) (w.heap.size + 1 + 1) (w.heap.size + 1 + 1 + 1) (w.heap.size + 1 + 1 + 1 + 1) _ _ _ _ rfl rfl rfl rfl H1.out rfl ((blk_cell H2.out 0).trans rfl) ((blk_cell H3.out 0).trans rfl) ((blk_cell H4.out 0).trans rfl), ?_⟩
 refine ⟨rfl, HRR.out w3 w5 HR.out (fun j hj => HKP.out j (by omega) (by omega) (by omega) (by omega)), ?_⟩
 have hg1 := below_grown HB6.out HG.out
 exact ⟨HB8.out.os.trans hg1.os, HB8.out.tape.trans hg1.tape, HB8.out.output.trans hg1.output, Nat.le_trans hg1.size HB8.out.size, fun j hj hne => (HB8.out.block j hj).trans (hg1.block j hj hne)⟩
end Go.Proofs.YteilkbookcmndaaGreatDoor.C
end
section
set_option linter.unusedVariables false
set_option linter.unusedSimpArgs false
namespace Go.Proofs.YteilkbookcmndaaGreatDoor.C
open Go.RowKit Go.Proofs.YteilkbookcmndaaGreatDoor.Q Go.Proofs.YteilkbookcmndaaGreatDoorW.PrintWords Go.Proofs.YteilkbookcmndaaGreatDoorW.PrintLast Go.Proofs.YteilkbookcmndaaGreatDoorW.PrintMore
attribute [local go_sem ↓] rd_at50 wr_at50 al_at50
attribute [local go_sem] rd50_new wr50_new al50
attribute [local go_sem ↓] rd_at45 wr_at45 rd_at150 wr_at150 rd_at47b wr_at47b rd_at77 wr_at77 rd_at41p wr_at41p
attribute [local go_sem] rd45_new wr45_new rd150_new wr150_new wr47b_new
attribute [local go_sem] max2_mx max_two
set_option maxHeartbeats 16000000 in
set_option maxRecDepth 1000000 in
theorem st_sta1 (gm o : Nat) (Rr : World → Prop) (m r1 r2 r3 r4 nn : Int) (xs : List Int) (s0 s2 s3 s4 s5 s6 s7 s8 s9 s10 s11 s12 s13 s14 s15 : Int) (W0 w : World) (hb0 : Below W0.heap.size W0 w) (hgm : gm < W0.heap.size)
  (hS : ∀ w1 : World, Below W0.heap.size W0 w1 → Calls Tryz.prog 148 #[.pointer (some ⟨gm, 0, none⟩), .int .i64 s0] w1 fun e w' => ∃ A11 c11, e = .returned (.tuple #[.agg #[.slice A11 xs.length c11, .int .i64 m, .int .i64 r1, .int .i64 r2, .int .i64 r3, .int .i64 r4], .bool true]) ∧ xs.length ≤ c11 ∧ Kd.F (Kd.int .i64) w' (fun j => w1.heap.size < j) A11 xs.length xs ∧ Below w1.heap.size w1 w')
  (hm4 : bits .and .i64 m 4 = 4) (hme : PProcLimits.ring_MayExec.f r1 r2 r3 r4 s2 = some true) (ho : o < xs.length) (hxl : xs.length < 1000000) (hde : PProcLimits.isa_Decode.f (xs.getD o 0) = some (2, 1, nn, 0))
  (m' e1 e2 e3 e4 : Int) (ys : List Int) (o' : Nat) (hS2 : ∀ w1 : World, Below W0.heap.size W0 w1 → Calls Tryz.prog 148 #[.pointer (some ⟨gm, 0, none⟩), .int .i64 s7] w1 fun e w' => ∃ A11 c11, e = .returned (.tuple #[.agg #[.slice A11 ys.length c11, .int .i64 m', .int .i64 e1, .int .i64 e2, .int .i64 e3, .int .i64 e4], .bool true]) ∧ ys.length ≤ c11 ∧ Kd.F (Kd.int .i64) w' (fun j => w1.heap.size < j) A11 ys.length ys ∧ Below w1.heap.size w1 w') (hoff : IntKind.i64.wrap (s8 + nn) = (o' : Int)) (hm1 : bits .and .i64 m' 2 = 2) (hmw : PProcLimits.ring_MayWrite.f e1 e2 e3 e4 (mx s2 s9) = some true) (ho' : o' < ys.length) (hyl : ys.length < 1000000)
  (hRr : ∀ w3 w4 : World, Rr w3 → (∀ j, j < w.heap.size ∨ w.heap.size + 6 ≤ j → w4.heap[j]? = w3.heap[j]?) → Rr w4)
  (hW : ∀ w2 : World, Below W0.heap.size W0 w2 → w.heap.size + 6 ≤ w2.heap.size → Below w.heap.size w w2 → Calls Tryz.prog 149 #[.pointer (some ⟨gm, 0, none⟩), .int .i64 s7, .int .i64 (o' : Int), .int .i64 s3] w2 fun e w' => e = .returned (.tuple #[]) ∧ Rr w' ∧ w2.grownBy w' (some gm)) :
  Calls Tryz.prog 34 #[.agg #[.int .i64 s0, .int .i64 (o : Int), .int .i64 s2, .int .i64 s3, .int .i64 s4, .int .i64 s5, .int .i64 s6, .int .i64 s7, .int .i64 s8, .int .i64 s9, .int .i64 s10, .int .i64 s11, .int .i64 s12, .int .i64 s13, .int .i64 s14, .int .i64 s15, .slice none 0 0, .bool false], .iface 103 (.pointer (some ⟨gm, 0, none⟩))] w fun e w' => e = .returned (.tuple #[.agg #[.int .i64 s0, .int .i64 ((o + 1 : Nat) : Int), .int .i64 s2, .int .i64 s3, .int .i64 s4, .int .i64 s5, .int .i64 s6, .int .i64 s7, .int .i64 s8, .int .i64 s9, .int .i64 s10, .int .i64 s11, .int .i64 s12, .int .i64 s13, .int .i64 s14, .int .i64 s15, .slice none 0 0, .bool false], .int .i64 0, .bool false, .int .i64 0]) ∧ Rr w' ∧ w.grownBy w' (some gm) := by
 refine step_w gm Rr 2 1 nn #[.int .i64 s0, .int .i64 ((o + 1 : Nat) : Int), .int .i64 s2, .int .i64 s3, .int .i64 s4, .int .i64 s5, .int .i64 s6, .int .i64 s7, .int .i64 s8, .int .i64 s9, .int .i64 s10, .int .i64 s11, .int .i64 s12, .int .i64 s13, .int .i64 s14, .int .i64 s15, .slice none 0 0, .bool false, .iface 103 (.pointer (some ⟨gm, 0, none⟩)), .bool false, .int .i64 0] s0 (o : Int) s2 s3 s4 s5 s6 s7 s8 s9 s10 s11 s12 s13 s14 s15 s0 ((o + 1 : Nat) : Int) s2 s3 s4 s5 s6 s7 s8 s9 s10 s11 s12 s13 s14 s15 0 none 0 0 false false w (fun gr w1 hb hg hr => ?_) (Nat.lt_of_lt_of_le hgm hb0.size) rfl hRr (fun gr w1 hb hg hg6 hw6 hr => ?_)
 ·exact fetch_c gm o m r1 r2 r3 r4 2 1 nn xs gr s0 s2 s3 s4 s5 s6 s7 s8 s9 s10 s11 s12 s13 s14 s15 none 0 0 false false 0 w1 hr (fun w2 hb2 hg2 => segment_yes gm s0 m r1 r2 r3 r4 xs gr s0 (o : Int) s2 s3 s4 s5 s6 s7 s8 s9 s10 s11 s12 s13 s14 s15 none 0 0 false false 0 w2 (hg2.trans hr) (fun w3 hb3 => hS w3 (below_join (below_join (below_step hb0 hb) hb2 (Nat.le_trans hb0.size hg)) hb3 (by have h1 := hb0.size; have h2 := hb.size; have h3 := hb2.size; have h4 := blk_lt hr; have h5 := blk_lt (hg2.trans hr); omega)))) hm4 hme ho hxl hde
 ·exact do_sta1 gm nn m' e1 e2 e3 e4 o' ys gr s0 ((o + 1 : Nat) : Int) s2 s3 s4 s5 s6 s7 s8 s9 s10 s11 s12 s13 s14 s15 none 0 0 false false 0 Rr w1 hr (by have := hb0.size; omega) (by have h1 := hb0.size; have h2 := hb.size; omega) (fun w2 hb2 hg2 => segment_yes gm s7 m' e1 e2 e3 e4 ys gr s0 ((o + 1 : Nat) : Int) s2 s3 s4 s5 s6 s7 s8 s9 s10 s11 s12 s13 s14 s15 none 0 0 false false 0 w2 (hg2.trans hr) (fun w3 hb3 => hS2 w3 (below_join (below_join (below_step hb0 hb) hb2 (Nat.le_trans hb0.size hg)) hb3 (by have h1 := hb0.size; have h2 := hb.size; have h3 := hb2.size; have h4 := blk_lt hr; have h5 := blk_lt (hg2.trans hr); omega)))) hoff hm1 hmw ho' hyl (fun w2 hb2 hg2 => hW w2 (below_join (below_step hb0 hb) hb2 (Nat.le_trans hb0.size hg)) (Nat.le_trans hw6 hb2.size) (below_join hb hb2 hg))
set_option maxHeartbeats 16000000 in
set_option maxRecDepth 1000000 in
theorem st_staf1 (gm o : Nat) (m r1 r2 r3 r4 nn : Int) (xs : List Int) (s0 s2 s3 s4 s5 s6 s7 s8 s9 s10 s11 s12 s13 s14 s15 : Int) (W0 w : World) (hb0 : Below W0.heap.size W0 w) (hgm : gm < W0.heap.size)
  (hS : ∀ w1 : World, Below W0.heap.size W0 w1 → Calls Tryz.prog 148 #[.pointer (some ⟨gm, 0, none⟩), .int .i64 s0] w1 fun e w' => ∃ A11 c11, e = .returned (.tuple #[.agg #[.slice A11 xs.length c11, .int .i64 m, .int .i64 r1, .int .i64 r2, .int .i64 r3, .int .i64 r4], .bool true]) ∧ xs.length ≤ c11 ∧ Kd.F (Kd.int .i64) w' (fun j => w1.heap.size < j) A11 xs.length xs ∧ Below w1.heap.size w1 w')
  (hm4 : bits .and .i64 m 4 = 4) (hme : PProcLimits.ring_MayExec.f r1 r2 r3 r4 s2 = some true) (ho : o < xs.length) (hxl : xs.length < 1000000) (hde : PProcLimits.isa_Decode.f (xs.getD o 0) = some (2, 1, nn, 0))
  (m' e1 e2 e3 e4 : Int) (ys : List Int) (o' : Nat) (hS2 : ∀ w1 : World, Below W0.heap.size W0 w1 → Calls Tryz.prog 148 #[.pointer (some ⟨gm, 0, none⟩), .int .i64 s7] w1 fun e w' => ∃ A11 c11, e = .returned (.tuple #[.agg #[.slice A11 ys.length c11, .int .i64 m', .int .i64 e1, .int .i64 e2, .int .i64 e3, .int .i64 e4], .bool true]) ∧ ys.length ≤ c11 ∧ Kd.F (Kd.int .i64) w' (fun j => w1.heap.size < j) A11 ys.length ys ∧ Below w1.heap.size w1 w') (hoff : IntKind.i64.wrap (s8 + nn) = (o' : Int)) (hm1 : bits .and .i64 m' 2 = 0) (hmw : PProcLimits.ring_MayWrite.f e1 e2 e3 e4 (mx s2 s9) = some true) (ho' : o' < ys.length) (hyl : ys.length < 1000000) :
  Calls Tryz.prog 34 #[.agg #[.int .i64 s0, .int .i64 (o : Int), .int .i64 s2, .int .i64 s3, .int .i64 s4, .int .i64 s5, .int .i64 s6, .int .i64 s7, .int .i64 s8, .int .i64 s9, .int .i64 s10, .int .i64 s11, .int .i64 s12, .int .i64 s13, .int .i64 s14, .int .i64 s15, .slice none 0 0, .bool false], .iface 103 (.pointer (some ⟨gm, 0, none⟩))] w fun e w' => e = .returned (.tuple #[.agg #[.int .i64 0, .int .i64 0, .int .i64 0, .int .i64 0, .int .i64 0, .int .i64 0, .int .i64 0, .int .i64 0, .int .i64 0, .int .i64 0, .int .i64 0, .int .i64 0, .int .i64 0, .int .i64 0, .int .i64 0, .int .i64 0, .slice none 0 0, .bool false], .int .i64 0, .bool false, .int .i64 32]) ∧ Below w.heap.size w w' := by
 refine step_f gm 2 1 nn 32 #[.int .i64 s0, .int .i64 ((o + 1 : Nat) : Int), .int .i64 s2, .int .i64 s3, .int .i64 s4, .int .i64 s5, .int .i64 s6, .int .i64 s7, .int .i64 s8, .int .i64 s9, .int .i64 s10, .int .i64 s11, .int .i64 s12, .int .i64 s13, .int .i64 s14, .int .i64 s15, .slice none 0 0, .bool false, .iface 103 (.pointer (some ⟨gm, 0, none⟩)), .bool false, .int .i64 0] s0 (o : Int) s2 s3 s4 s5 s6 s7 s8 s9 s10 s11 s12 s13 s14 s15 w (fun gr w1 hb hg hr => ?_) (fun gr w1 hb hg hr => ?_)
 ·exact fetch_c gm o m r1 r2 r3 r4 2 1 nn xs gr s0 s2 s3 s4 s5 s6 s7 s8 s9 s10 s11 s12 s13 s14 s15 none 0 0 false false 0 w1 hr (fun w2 hb2 hg2 => segment_yes gm s0 m r1 r2 r3 r4 xs gr s0 (o : Int) s2 s3 s4 s5 s6 s7 s8 s9 s10 s11 s12 s13 s14 s15 none 0 0 false false 0 w2 (hg2.trans hr) (fun w3 hb3 => hS w3 (below_join (below_join (below_step hb0 hb) hb2 (Nat.le_trans hb0.size hg)) hb3 (by have h1 := hb0.size; have h2 := hb.size; have h3 := hb2.size; have h4 := blk_lt hr; have h5 := blk_lt (hg2.trans hr); omega)))) hm4 hme ho hxl hde
 ·exact do_staf1 gm nn m' e1 e2 e3 e4 o' ys gr s0 ((o + 1 : Nat) : Int) s2 s3 s4 s5 s6 s7 s8 s9 s10 s11 s12 s13 s14 s15 none 0 0 false false 0 (fun _ => True) w1 hr (by have := hb0.size; omega) (by have h1 := hb0.size; have h2 := hb.size; omega) (fun w2 hb2 hg2 => segment_yes gm s7 m' e1 e2 e3 e4 ys gr s0 ((o + 1 : Nat) : Int) s2 s3 s4 s5 s6 s7 s8 s9 s10 s11 s12 s13 s14 s15 none 0 0 false false 0 w2 (hg2.trans hr) (fun w3 hb3 => hS2 w3 (below_join (below_join (below_step hb0 hb) hb2 (Nat.le_trans hb0.size hg)) hb3 (by have h1 := hb0.size; have h2 := hb.size; have h3 := hb2.size; have h4 := blk_lt hr; have h5 := blk_lt (hg2.trans hr); omega)))) hoff hm1 hmw ho' hyl
end Go.Proofs.YteilkbookcmndaaGreatDoor.C
end
