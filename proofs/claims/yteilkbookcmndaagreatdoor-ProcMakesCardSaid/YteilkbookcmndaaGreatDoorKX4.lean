/- Texts that the claim's law stands on, cut down to what it reaches. -/
import Derived.Test.YteilkbookcmndaaGreatDoorKX2
import Derived.Test.YteilkbookcmndaaGreatDoorKX3
import Derived.Deep.RegionHeldLaw
import Derived.Deep.RegionHeld3
import Derived.Deep.LoopGhost
set_option linter.unusedVariables false
set_option linter.unusedSimpArgs false
section
namespace Go.Proofs.YteilkbookcmndaaGreatDoor.C
open Go.RowKit Go.Proofs.YteilkbookcmndaaGreatDoor.Q Go.Proofs.YteilkbookcmndaaGreatDoorW.PrintWords Go.Proofs.YteilkbookcmndaaGreatDoorW.PrintLast Go.Proofs.YteilkbookcmndaaGreatDoorW.PrintMore
attribute [local go_sem ↓] rd_at50 wr_at50 al_at50
attribute [local go_sem] rd50_new wr50_new al50
theorem rd_at77 (x : Value) : Instr.loadAt 77 x = rdS 77 x := rd_at 77 x
theorem wr_at77 (x v : Value) : Instr.storeAt 77 x v = wrS 77 x v := wr_at 77 x v
theorem rd77_blk {W : World} {g : Nat} {cs : Array Value} (hg : W.heap[g]? = some (.cells cs 77 (0, 0))) (hi : cs.size = 3) : (rdS 77 (.pointer (some ⟨g, 0, none⟩))).run Tryz.prog W = .ok (.agg cs) W :=
 rd_row _ hg rfl Tryz.underlying77 (by rw [hi]; kernel_rfl)
theorem wr77_blk {W : World} {g : Nat} {old cs : Array Value} (hg : W.heap[g]? = some (.cells old 77 (0, 0))) (ho : old.size = 3) (hi : cs.size = 3) (h1 : cs.all (·.oneCell') = true) : (wrS 77 (.pointer (some ⟨g, 0, none⟩)) (.agg cs)).run Tryz.prog W = .ok () (W.setRow g cs) :=
 wr_row hg (by rw [hi]; kernel_rfl) (by rw [hi, ho]) h1
theorem wr77_new (w : World) (p0 : Int) (p1 : Int) (p2 : Int) (q0 : Int) (q1 : Int) (q2 : Int) : (wrS 77 (.pointer (some ⟨w.heap.size, 0, none⟩)) (.agg #[.int .i64 q0, .int .i64 q1, .int .i64 q2])).run Tryz.prog (w.alloc (.cells #[.int .i64 p0, .int .i64 p1, .int .i64 p2] 77)) = .ok () (w.alloc (.cells #[.int .i64 q0, .int .i64 q1, .int .i64 q2] 77)) := by
 rw [← wr_at]
 exact run_storeAt_new w 77 #[.int .i64 p0, .int .i64 p1, .int .i64 p2] #[.int .i64 q0, .int .i64 q1, .int .i64 q2] (by kernel_rfl) rfl (by simp [Value.oneCell'])
attribute [local go_sem ↓] rd_at45 wr_at45 rd_at150 wr_at150 rd_at47b wr_at47b rd_at77 wr_at77
attribute [local go_sem] rd45_new wr45_new rd150_new wr150_new wr47b_new wr77_new
set_option maxHeartbeats 16000000 in
set_option maxRecDepth 1000000 in
theorem ft2 (gm : Nat) (gr : Nat) (s0 s1 s2 s3 s4 s5 s6 s7 s8 s9 s10 s11 s12 s13 s14 s15 : Int) (sA : Option Addr) (sn sc : Nat) (hl tb : Bool) (ov : Int) (g3 n c11 : Nat) (A11 : Option Addr) (m r1 r2 r3 r4 : Int) (u1 u2 u4 u5 u6 u7 u8 u9 u10 u11 u12 u13 u14 u15 u16 u17 u18 u19 u20 u21 u22 u23 u24 u25 u26 u27 u28 u29 u30 u31 u32 u33 u34 u35 u36 u37 u38 u39 u40 u41 u42 u43 u44 u45 u46 u47 u48 u49 u50 u51 u52 u53 u54 u55 u56 u57 u58 u59 u60 u61 : Value) (W : World) (Q : Exit → Act → World → Prop)
  (h3 : W.heap[g3]? = some (.cells #[.slice A11 n c11, .int .i64 m, .int .i64 r1, .int .i64 r2, .int .i64 r3, .int .i64 r4] 150 (0, 0)))
  (hr : W.heap[gr]? = some (.cells #[.int .i64 s0, .int .i64 s1, .int .i64 s2, .int .i64 s3, .int .i64 s4, .int .i64 s5, .int .i64 s6, .int .i64 s7, .int .i64 s8, .int .i64 s9, .int .i64 s10, .int .i64 s11, .int .i64 s12, .int .i64 s13, .int .i64 s14, .int .i64 s15, .slice sA sn sc, .bool hl, .iface 103 (.pointer (some ⟨gm, 0, none⟩)), .bool tb, .int .i64 ov] 134 (0, 0)))
  (hm4 : bits .and .i64 m 4 = 4) (hme : PProcLimits.ring_MayExec.f r1 r2 r3 r4 s2 = some true)
  (hpost : ∀ (w' : World) (t13 t14 t15 t16 t17 t18 t19 t20 t21 t22 t23 t24 t25 t26 t27 : Value), Below W.heap.size W w' → Q .normal ⟨#[.pointer (some ⟨gr, 0, none⟩), u1, u2, .pointer (some ⟨g3, 0, none⟩), u4, u5, u6, u7, u8, u9, u10, u11, u12, t13, t14, t15, t16, t17, t18, t19, t20, t21, t22, t23, t24, t25, t26, t27, u28, u29, u30, u31, u32, u33, u34, u35, u36, u37, u38, u39, u40, u41, u42, u43, u44, u45, u46, u47, u48, u49, u50, u51, u52, u53, u54, u55, u56, u57, u58, u59, u60, u61], []⟩ w') :
  Code.wp Tryz.prog (cReg Tryz.f54 2) Q ⟨#[.pointer (some ⟨gr, 0, none⟩), u1, u2, .pointer (some ⟨g3, 0, none⟩), u4, u5, u6, u7, u8, u9, u10, u11, u12, u13, u14, u15, u16, u17, u18, u19, u20, u21, u22, u23, u24, u25, u26, u27, u28, u29, u30, u31, u32, u33, u34, u35, u36, u37, u38, u39, u40, u41, u42, u43, u44, u45, u46, u47, u48, u49, u50, u51, u52, u53, u54, u55, u56, u57, u58, u59, u60, u61], []⟩ W := by
 have HPO := Lib.hid hpost
 have E3 := Lib.hid h3
 have ER := Lib.hid hr
 clear h3 hr hpost
 have HB := Lib.hid (below_drew1 (Below.refl W.heap.size W))
 conv => arg 2; whnf
 refine wp_region_noPanic ?_
 refine wp_region_held_drew (S := fun W1 => W1.cell? ⟨g3, 1, none⟩ = some (.int .i64 m) ∧ W1.cell? ⟨g3, 2, none⟩ = some (.int .i64 r1) ∧ W1.cell? ⟨g3, 3, none⟩ = some (.int .i64 r2) ∧ W1.cell? ⟨g3, 4, none⟩ = some (.int .i64 r3) ∧ W1.cell? ⟨g3, 5, none⟩ = some (.int .i64 r4) ∧ W1.cell? ⟨gr, 2, none⟩ = some (.int .i64 s2)) (by kernel_rfl) ?_ (fun hHeld => ?_)
 focus ((try dsimp only); exact ⟨(blk_cell (blk_below E3.out HB.out) 1).trans rfl, (blk_cell (blk_below E3.out HB.out) 2).trans rfl, (blk_cell (blk_below E3.out HB.out) 3).trans rfl, (blk_cell (blk_below E3.out HB.out) 4).trans rfl, (blk_cell (blk_below E3.out HB.out) 5).trans rfl, (blk_cell (blk_below ER.out HB.out) 2).trans rfl⟩)
 refine tq 0 13 ?_ (by assumption)
 refine tq 1 14 ?_ (by assumption)
 refine tq 2 15 ?_ (by assumption)
 refine tq 3 16 ?_ (by assumption)
 refine tq 4 17 ?_ (by assumption)
 refine tq 5 18 ?_ (by assumption)
 refine tq 6 19 ?_ (by assumption)
 refine tq 7 20 ?_ (by assumption)
 refine tq 8 21 ?_ (by assumption)
 refine tq 9 22 ?_ (by assumption)
 refine tq 10 23 ?_ (by assumption)
 refine tq 11 24 ?_ (by assumption)
 refine wpAnyH_ready (rs := [12]) (by kernel_rfl) (by simp) ?_
 refine AllReadyH.cons rfl (fun K hK => ?_) ?_
 ·go_simp
  go_wp2_with (go_at_call 86; refine (PProcLimits.ring_MayExec.calls r1 r2 r3 r4 s2 true _ hme).mono ?_; rintro e wa ⟨rfl, hb⟩; have HB := Lib.hid (below_step HB.out hb); clear hb)
  refine hK.out _ _ ?_ (fun hHeld => ?_)
  focus ((try dsimp only); exact ⟨(blk_cell (blk_below E3.out HB.out) 1).trans rfl, (blk_cell (blk_below E3.out HB.out) 2).trans rfl, (blk_cell (blk_below E3.out HB.out) 3).trans rfl, (blk_cell (blk_below E3.out HB.out) 4).trans rfl, (blk_cell (blk_below E3.out HB.out) 5).trans rfl, (blk_cell (blk_below ER.out HB.out) 2).trans rfl⟩)
  clear hK K
  refine tq 13 26 ?_ (by assumption)
  refine wpAnyH_ready (rs := [14]) (by kernel_rfl) (by simp) ?_
  refine AllReadyH.cons rfl (fun K hK => ?_) ?_
  ·go_simp
   go_wp2_with (go_at_call 77; refine (must_t 33 _).mono ?_; rintro e wb ⟨rfl, hwb⟩; subst hwb)
   refine hK.out _ _ ?_ (fun hHeld => ?_)
   focus ((try dsimp only); exact ⟨(blk_cell (blk_below E3.out HB.out) 1).trans rfl, (blk_cell (blk_below E3.out HB.out) 2).trans rfl, (blk_cell (blk_below E3.out HB.out) 3).trans rfl, (blk_cell (blk_below E3.out HB.out) 4).trans rfl, (blk_cell (blk_below E3.out HB.out) 5).trans rfl, (blk_cell (blk_below ER.out HB.out) 2).trans rfl⟩)
   clear hK K
   refine wpAnyH_done (by kernel_rfl) ?_ _
   refine NoPanic.normal ?_
   exact HPO.out _ _ _ _ _ _ _ _ _ _ _ _ _ _ _ _ HB.out
  exact AllReadyH.nil
 exact AllReadyH.nil
set_option maxHeartbeats 16000000 in
set_option maxRecDepth 1000000 in
theorem ft3 (gm o : Nat) (gr : Nat) (s0 s2 s3 s4 s5 s6 s7 s8 s9 s10 s11 s12 s13 s14 s15 : Int) (sA : Option Addr) (sn sc : Nat) (hl tb : Bool) (ov : Int) (g3 c11 : Nat) (A11 : Option Addr) (xs : List Int) (m r1 r2 r3 r4 : Int) (u1 u2 u4 u5 u6 u7 u8 u9 u10 u11 u12 u13 u14 u15 u16 u17 u18 u19 u20 u21 u22 u23 u24 u25 u26 u27 u28 u29 u30 u31 u32 u33 u34 u35 u36 u37 u38 u39 u40 u41 u42 u43 u44 u45 u46 u47 u48 u49 u50 u51 u52 u53 u54 u55 u56 u57 u58 u59 u60 u61 : Value) (W : World) (Q : Exit → Act → World → Prop)
  (h3 : W.heap[g3]? = some (.cells #[.slice A11 xs.length c11, .int .i64 m, .int .i64 r1, .int .i64 r2, .int .i64 r3, .int .i64 r4] 150 (0, 0)))
  (hr : W.heap[gr]? = some (.cells #[.int .i64 s0, .int .i64 (o : Int), .int .i64 s2, .int .i64 s3, .int .i64 s4, .int .i64 s5, .int .i64 s6, .int .i64 s7, .int .i64 s8, .int .i64 s9, .int .i64 s10, .int .i64 s11, .int .i64 s12, .int .i64 s13, .int .i64 s14, .int .i64 s15, .slice sA sn sc, .bool hl, .iface 103 (.pointer (some ⟨gm, 0, none⟩)), .bool tb, .int .i64 ov] 134 (0, 0)))
  (hC : Kd.C (Kd.int .i64) W A11 xs.length xs) (hcc : xs.length ≤ c11) (ho : o < xs.length)
  (hpost : ∀ (w' : World) (t28 t29 t30 t31 t32 t33 t34 t35 : Value), Below W.heap.size W w' → Q .normal ⟨#[.pointer (some ⟨gr, 0, none⟩), u1, u2, .pointer (some ⟨g3, 0, none⟩), u4, u5, u6, u7, u8, u9, u10, u11, u12, u13, u14, u15, u16, u17, u18, u19, u20, u21, u22, u23, u24, u25, u26, u27, t28, t29, t30, t31, t32, t33, t34, t35, u36, u37, u38, u39, u40, u41, u42, u43, u44, u45, u46, u47, u48, u49, u50, u51, u52, u53, u54, u55, u56, u57, u58, u59, u60, u61], []⟩ w') :
  Code.wp Tryz.prog (cReg Tryz.f54 3) Q ⟨#[.pointer (some ⟨gr, 0, none⟩), u1, u2, .pointer (some ⟨g3, 0, none⟩), u4, u5, u6, u7, u8, u9, u10, u11, u12, u13, u14, u15, u16, u17, u18, u19, u20, u21, u22, u23, u24, u25, u26, u27, u28, u29, u30, u31, u32, u33, u34, u35, u36, u37, u38, u39, u40, u41, u42, u43, u44, u45, u46, u47, u48, u49, u50, u51, u52, u53, u54, u55, u56, u57, u58, u59, u60, u61], []⟩ W := by
 have HPO := Lib.hid hpost
 have E3 := Lib.hid h3
 have ER := Lib.hid hr
 clear h3 hr hpost
 have HC := Lib.hid hC
 clear hC
 have HB := Lib.hid (below_drew1 (Below.refl W.heap.size W))
 conv => arg 2; whnf
 refine wp_region_noPanic ?_
 refine wp_region_held_drew (S := fun W1 => W1.cell? ⟨gr, 1, none⟩ = some (.int .i64 (o : Int)) ∧ (rdS 150 (.pointer (some ⟨g3, 0, none⟩))).run Tryz.prog W1 = .ok (.agg #[.slice A11 xs.length c11, .int .i64 m, .int .i64 r1, .int .i64 r2, .int .i64 r3, .int .i64 r4]) W1) (by kernel_rfl) ?_ (fun hHeld => ?_)
 focus ((try dsimp only); exact ⟨(blk_cell (blk_below ER.out HB.out) 1).trans rfl, rd150_blk (blk_below E3.out HB.out) rfl⟩)
 refine tq 0 28 ?_ (by assumption)
 refine tq 1 29 ?_ (by assumption)
 refine tq 2 30 ?_ (by assumption)
 refine tq 3 31 ?_ (by assumption)
 refine tq 4 32 ?_ (by assumption)
 refine tq 5 33 ?_ (by assumption)
 refine wpAnyH_ready (rs := [6]) (by kernel_rfl) (by simp) ?_
 refine AllReadyH.cons rfl (fun K hK => ?_) ?_
 ·go_simp
  go_wp2_with (go_at_call 87; refine (PProcLimits.cpu_in.calls A11 c11 xs m r1 r2 r3 r4 (o : Int) true _ (Kd.C_below HC.out HB.out) hcc (by show (if (o : Int) ≥ 0 then some (decide ((o : Int) < (xs.length : Int))) else some false) = some true; rw [if_pos (by omega), decide_eq_true (by omega)])).mono ?_; rintro e wa ⟨rfl, hb⟩; have HB := Lib.hid (below_step HB.out hb); clear hb)
  refine hK.out _ _ ?_ (fun hHeld => ?_)
  focus ((try dsimp only); exact ⟨(blk_cell (blk_below ER.out HB.out) 1).trans rfl, rd150_blk (blk_below E3.out HB.out) rfl⟩)
  clear hK K
  refine wpAnyH_ready (rs := [7]) (by kernel_rfl) (by simp) ?_
  refine AllReadyH.cons rfl (fun K hK => ?_) ?_
  ·go_simp
   go_wp2_with (go_at_call 77; refine (must_t 35 _).mono ?_; rintro e wb ⟨rfl, hwb⟩; subst hwb)
   refine hK.out _ _ ?_ (fun hHeld => ?_)
   focus ((try dsimp only); exact ⟨(blk_cell (blk_below ER.out HB.out) 1).trans rfl, rd150_blk (blk_below E3.out HB.out) rfl⟩)
   clear hK K
   refine wpAnyH_done (by kernel_rfl) ?_ _
   refine NoPanic.normal ?_
   exact HPO.out _ _ _ _ _ _ _ _ _ HB.out
  exact AllReadyH.nil
 exact AllReadyH.nil
set_option maxHeartbeats 16000000 in
set_option maxRecDepth 1000000 in
theorem ft4 (gm o : Nat) (gr : Nat) (s0 s2 s3 s4 s5 s6 s7 s8 s9 s10 s11 s12 s13 s14 s15 : Int) (sA : Option Addr) (sn sc : Nat) (hl tb : Bool) (ov : Int) (g3 n c11 : Nat) (wd : Addr) (m r1 r2 r3 r4 x op p nn de : Int) (u1 u2 u4 u5 u6 u7 u8 u9 u10 u11 u12 u13 u14 u15 u16 u17 u18 u19 u20 u21 u22 u23 u24 u25 u26 u27 u28 u29 u30 u31 u32 u33 u34 u35 u36 u37 u38 u39 u40 u41 u42 u43 u44 u45 u46 u47 u48 u49 u50 u51 u52 u53 u54 u55 u56 u57 u58 u59 u60 u61 : Value) (W : World) (Q : Exit → Act → World → Prop)
  (h3 : W.heap[g3]? = some (.cells #[.slice (some wd) n c11, .int .i64 m, .int .i64 r1, .int .i64 r2, .int .i64 r3, .int .i64 r4] 150 (0, 0)))
  (hr : W.heap[gr]? = some (.cells #[.int .i64 s0, .int .i64 (o : Int), .int .i64 s2, .int .i64 s3, .int .i64 s4, .int .i64 s5, .int .i64 s6, .int .i64 s7, .int .i64 s8, .int .i64 s9, .int .i64 s10, .int .i64 s11, .int .i64 s12, .int .i64 s13, .int .i64 s14, .int .i64 s15, .slice sA sn sc, .bool hl, .iface 103 (.pointer (some ⟨gm, 0, none⟩)), .bool tb, .int .i64 ov] 134 (0, 0)))
  (hw : W.cell? (wd.add o) = some (.int .i64 x)) (ho : o < n) (hcc : n ≤ c11) (hn : n < 1000000) (hde : PProcLimits.isa_Decode.f x = some (op, p, nn, de))
  (hpost : ∀ (g : Nat) (w' : World) (t36 t37 t38 t39 t40 t41 t42 t43 t44 t45 t46 t47 t48 : Value), w'.heap[g]? = some (.cells #[.int .i64 op, .int .i64 p, .int .i64 nn] 77 (0, 0)) → W.heap.size ≤ g → Below W.heap.size W w' → Q .normal ⟨#[.pointer (some ⟨gr, 0, none⟩), u1, u2, .pointer (some ⟨g3, 0, none⟩), .pointer (some ⟨g, 0, none⟩), .int .i64 de, u6, u7, u8, u9, u10, u11, u12, u13, u14, u15, u16, u17, u18, u19, u20, u21, u22, u23, u24, u25, u26, u27, u28, u29, u30, u31, u32, u33, u34, u35, t36, t37, t38, t39, t40, t41, t42, t43, t44, t45, t46, t47, t48, u49, u50, u51, u52, u53, u54, u55, u56, u57, u58, u59, u60, u61], []⟩ w') :
  Code.wp Tryz.prog (cReg Tryz.f54 4) Q ⟨#[.pointer (some ⟨gr, 0, none⟩), u1, u2, .pointer (some ⟨g3, 0, none⟩), u4, u5, u6, u7, u8, u9, u10, u11, u12, u13, u14, u15, u16, u17, u18, u19, u20, u21, u22, u23, u24, u25, u26, u27, u28, u29, u30, u31, u32, u33, u34, u35, u36, u37, u38, u39, u40, u41, u42, u43, u44, u45, u46, u47, u48, u49, u50, u51, u52, u53, u54, u55, u56, u57, u58, u59, u60, u61], []⟩ W := by
 have HPO := Lib.hid hpost
 have E3 := Lib.hid h3
 have ER := Lib.hid hr
 clear h3 hr hpost
 have EW := Lib.hid hw
 clear hw
 have ho1 : (0 : Int) ≤ (o : Int) := by omega
 have ho2 : (o : Int) < (n : Int) := by omega
 have HB := Lib.hid (below_drew1 (Below.refl W.heap.size W))
 conv => arg 2; whnf
 refine wp_region_noPanic ?_
 refine wp_region_held_drew (S := fun W1 => W1.cell? ⟨gr, 1, none⟩ = some (.int .i64 (o : Int)) ∧ W1.cell? ⟨g3, 0, none⟩ = some (.slice (some wd) n c11) ∧ W1.cell? (wd.add o) = some (.int .i64 x)) (by kernel_rfl) ?_ (fun hHeld => ?_)
 focus ((try dsimp only); exact ⟨(blk_cell (blk_below ER.out HB.out) 1).trans rfl, (blk_cell (blk_below E3.out HB.out) 0).trans rfl, pw_cell_below HB.out EW.out⟩)
 refine tq 0 37 ?_ (by assumption)
 refine tq 1 38 ?_ (by assumption)
 refine tq 2 39 ?_ (by assumption)
 refine tq 3 40 ?_ (by assumption)
 refine tq 4 41 ?_ (by assumption)
 refine tq 5 42 ?_ (by assumption)
 refine tq 6 43 ?_ (by assumption)
 refine tq 7 44 ?_ (by assumption)
 refine tq 8 45 ?_ (by assumption)
 refine wpAnyH_ready (rs := [9, 13]) (by kernel_rfl) (by simp) ?_
 refine AllReadyH.cons rfl (fun K hK => ?_) ?_
 ·go_simp
  go_wp2_with (go_at_call 88; refine (PProcLimits.isa_Decode.calls x op p nn de _ hde).mono ?_; rintro e wa ⟨rfl, hb⟩; have HB := Lib.hid (below_step HB.out hb); (try have EZ := Lib.hid (blk_below EZ.out hb)); clear hb)
  refine hK.out _ _ ?_ (fun hHeld => ?_)
  focus ((try dsimp only); exact ⟨(blk_cell (blk_below ER.out HB.out) 1).trans rfl, (blk_cell (blk_below E3.out HB.out) 0).trans rfl, pw_cell_below HB.out EW.out⟩)
  clear hK K
  refine tq 10 36 ?_ (by assumption)
  refine tq 11 47 ?_ (by assumption)
  refine tq 12 48 ?_ (by assumption)
  refine wpAnyH_ready (rs := [13]) (by kernel_rfl) (by simp) ?_
  refine AllReadyH.cons rfl (fun K hK => ?_) ?_
  ·have EZ := Lib.hid (show (World.alloc wa (.cells #[.int .i64 0, .int .i64 0, .int .i64 0] 77)).heap[wa.heap.size]? = some (.cells #[.int .i64 0, .int .i64 0, .int .i64 0] 77) from blk_new wa (.cells #[.int .i64 0, .int .i64 0, .int .i64 0] 77))
   have HZ := Lib.hid (show W.heap.size ≤ wa.heap.size from (by first | exact Nat.le_refl _ | exact below_size HB.out))
   have HB := Lib.hid (below_alloc HB.out (.cells #[.int .i64 0, .int .i64 0, .int .i64 0] 77))
   go_simp
   refine hK.out _ _ ?_ (fun hHeld => ?_)
   focus ((try dsimp only); exact ⟨(blk_cell (blk_below ER.out HB.out) 1).trans rfl, (blk_cell (blk_below E3.out HB.out) 0).trans rfl, pw_cell_below HB.out EW.out⟩)
   clear hK K
   refine wpAnyH_ready (rs := [14]) (by kernel_rfl) (by simp) ?_
   refine AllReadyH.cons rfl (fun K hK => ?_) ?_
   ·have hst := wr77_blk (cs := #[.int .i64 op, .int .i64 p, .int .i64 nn]) EZ.out rfl rfl (by simp [Value.oneCell'])
    have EX := Lib.hid (setRow_heap _ _ _ (#[.int .i64 op, .int .i64 p, .int .i64 nn] : Array Value) _ _ EZ.out)
    have HB := Lib.hid (below_setRow HB.out HZ.out (#[.int .i64 op, .int .i64 p, .int .i64 nn] : Array Value))
    go_simp
    refine hK.out _ _ ?_ (fun hHeld => ?_)
    focus ((try dsimp only); exact ⟨(blk_cell (blk_below ER.out HB.out) 1).trans rfl, (blk_cell (blk_below E3.out HB.out) 0).trans rfl, pw_cell_below HB.out EW.out⟩)
    clear hK K
    refine tq 15 5 ?_ (by assumption)
    refine wpAnyH_done (by kernel_rfl) ?_ _
    refine NoPanic.normal ?_
    exact HPO.out _ _ _ _ _ _ _ _ _ _ _ _ _ _ _ EX.out HZ.out HB.out
   exact AllReadyH.nil
  exact AllReadyH.nil
 refine AllReadyH.cons rfl (fun K hK => ?_) ?_
 ·have EZ := Lib.hid (show (World.alloc W.drew (.cells #[.int .i64 0, .int .i64 0, .int .i64 0] 77)).heap[W.heap.size]? = some (.cells #[.int .i64 0, .int .i64 0, .int .i64 0] 77) from blk_new W.drew (.cells #[.int .i64 0, .int .i64 0, .int .i64 0] 77))
  have HZ := Lib.hid (show W.heap.size ≤ W.heap.size from (by first | exact Nat.le_refl _ | exact below_size HB.out))
  have HB := Lib.hid (below_alloc HB.out (.cells #[.int .i64 0, .int .i64 0, .int .i64 0] 77))
  go_simp
  refine hK.out _ _ ?_ (fun hHeld => ?_)
  focus ((try dsimp only); exact ⟨(blk_cell (blk_below ER.out HB.out) 1).trans rfl, (blk_cell (blk_below E3.out HB.out) 0).trans rfl, pw_cell_below HB.out EW.out⟩)
  clear hK K
  refine wpAnyH_ready (rs := [9]) (by kernel_rfl) (by simp) ?_
  refine AllReadyH.cons rfl (fun K hK => ?_) ?_
  ·go_simp
   go_wp2_with (go_at_call 88; refine (PProcLimits.isa_Decode.calls x op p nn de _ hde).mono ?_; rintro e wa ⟨rfl, hb⟩; have HB := Lib.hid (below_step HB.out hb); (try have EZ := Lib.hid (blk_below EZ.out hb)); clear hb)
   refine hK.out _ _ ?_ (fun hHeld => ?_)
   focus ((try dsimp only); exact ⟨(blk_cell (blk_below ER.out HB.out) 1).trans rfl, (blk_cell (blk_below E3.out HB.out) 0).trans rfl, pw_cell_below HB.out EW.out⟩)
   clear hK K
   refine tq 10 36 ?_ (by assumption)
   refine tq 11 47 ?_ (by assumption)
   refine tq 12 48 ?_ (by assumption)
   refine wpAnyH_ready (rs := [14]) (by kernel_rfl) (by simp) ?_
   refine AllReadyH.cons rfl (fun K hK => ?_) ?_
   ·have hst := wr77_blk (cs := #[.int .i64 op, .int .i64 p, .int .i64 nn]) EZ.out rfl rfl (by simp [Value.oneCell'])
    have EX := Lib.hid (setRow_heap _ _ _ (#[.int .i64 op, .int .i64 p, .int .i64 nn] : Array Value) _ _ EZ.out)
    have HB := Lib.hid (below_setRow HB.out HZ.out (#[.int .i64 op, .int .i64 p, .int .i64 nn] : Array Value))
    go_simp
    refine hK.out _ _ ?_ (fun hHeld => ?_)
    focus ((try dsimp only); exact ⟨(blk_cell (blk_below ER.out HB.out) 1).trans rfl, (blk_cell (blk_below E3.out HB.out) 0).trans rfl, pw_cell_below HB.out EW.out⟩)
    clear hK K
    refine tq 15 5 ?_ (by assumption)
    refine wpAnyH_done (by kernel_rfl) ?_ _
    refine NoPanic.normal ?_
    exact HPO.out _ _ _ _ _ _ _ _ _ _ _ _ _ _ _ EX.out HZ.out HB.out
   exact AllReadyH.nil
  exact AllReadyH.nil
 exact AllReadyH.nil
end Go.Proofs.YteilkbookcmndaaGreatDoor.C
end
