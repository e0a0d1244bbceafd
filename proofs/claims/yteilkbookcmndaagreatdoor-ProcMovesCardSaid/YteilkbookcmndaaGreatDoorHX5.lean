/- Texts that the claim's law stands on, cut down to what it reaches. -/
import Derived.Test.YteilkbookcmndaaGreatDoorHX4
import Derived.Deep.RegionHeldLaw
import Derived.Deep.RegionHeld3
import Derived.Deep.LoopGhost
set_option linter.unusedVariables false
set_option linter.unusedSimpArgs false
section
set_option linter.unusedVariables false
set_option linter.unusedSimpArgs false
namespace Go.Proofs.YteilkbookcmndaaGreatDoor.C
open Go.RowKit Go.Proofs.YteilkbookcmndaaGreatDoor.Q Go.Proofs.YteilkbookcmndaaGreatDoorW.PrintWords Go.Proofs.YteilkbookcmndaaGreatDoorW.PrintLast Go.Proofs.YteilkbookcmndaaGreatDoorW.PrintMore
attribute [local go_sem ↓] rd_at50 wr_at50 al_at50
attribute [local go_sem] rd50_new wr50_new al50
attribute [local go_sem ↓] rd_at45 wr_at45 rd_at150 wr_at150 rd_at47b wr_at47b rd_at77 wr_at77
attribute [local go_sem] rd45_new wr45_new rd150_new wr150_new wr47b_new
theorem below_low {B C : Nat} {w W : World} (h : Below B w W) (hc : C ≤ B) : Below C w W := ⟨h.os, h.tape, h.output, h.size, fun k hk => h.block k (Nat.lt_of_lt_of_le hk hc)⟩
theorem word_at {W : World} {A : Option Addr} {xs : List Int} (hC : Kd.C (Kd.int .i64) W A xs.length xs) (o : Nat) (ho : o < xs.length) : ∃ wd, A = some wd ∧ W.cell? (wd.add o) = some (.int .i64 (xs.getD o 0)) := by
 obtain ⟨_, _, h3⟩ := hC
 obtain ⟨ad, e, hc⟩ := h3 (by omega)
 refine ⟨ad, e, ?_⟩
 obtain ⟨c, k1, k2, k3⟩ := hc o (xs.getD o 0) (by rw [List.getD_eq_getElem?_getD, List.getElem?_eq_getElem ho]; rfl)
 have hk := k3 0 (.int .i64 (xs.getD o 0)) (by rw [k2]; rfl)
 have h1 : (Kd.int .i64).sz = 1 := rfl
 rw [h1, Nat.mul_one] at hk
 simpa using hk
set_option maxHeartbeats 16000000 in
set_option maxRecDepth 1000000 in
theorem fetch_c (gm o : Nat) (m r1 r2 r3 r4 op p nn : Int) (xs : List Int) (gr : Nat) (s0 s2 s3 s4 s5 s6 s7 s8 s9 s10 s11 s12 s13 s14 s15 : Int) (sA : Option Addr) (sn sc : Nat) (hl tb : Bool) (ov : Int) (w : World) (hr : w.heap[gr]? = some (.cells #[.int .i64 s0, .int .i64 (o : Int), .int .i64 s2, .int .i64 s3, .int .i64 s4, .int .i64 s5, .int .i64 s6, .int .i64 s7, .int .i64 s8, .int .i64 s9, .int .i64 s10, .int .i64 s11, .int .i64 s12, .int .i64 s13, .int .i64 s14, .int .i64 s15, .slice sA sn sc, .bool hl, .iface 103 (.pointer (some ⟨gm, 0, none⟩)), .bool tb, .int .i64 ov] 134 (0, 0)))
  (hS : ∀ w1 : World, Below gr w w1 → w1.heap[gr]? = w.heap[gr]? → Calls Tryz.prog 85 #[.pointer (some ⟨gr, 0, none⟩), .int .i64 s0] w1 fun e w' => ∃ A11 c11, e = .returned (.agg #[.slice A11 xs.length c11, .int .i64 m, .int .i64 r1, .int .i64 r2, .int .i64 r3, .int .i64 r4]) ∧ xs.length ≤ c11 ∧ Kd.F (Kd.int .i64) w' (fun j => w1.heap.size < j) A11 xs.length xs ∧ Below w1.heap.size w1 w')
  (hm4 : bits .and .i64 m 4 = 4) (hme : PProcLimits.ring_MayExec.f r1 r2 r3 r4 s2 = some true) (ho : o < xs.length) (hxl : xs.length < 1000000) (hde : PProcLimits.isa_Decode.f (xs.getD o 0) = some (op, p, nn, 0)) :
  Calls Tryz.prog 54 #[.pointer (some ⟨gr, 0, none⟩)] w fun e w' => e = .returned (.agg #[.int .i64 op, .int .i64 p, .int .i64 nn]) ∧ w'.heap[gr]? = some (.cells #[.int .i64 s0, .int .i64 ((o + 1 : Nat) : Int), .int .i64 s2, .int .i64 s3, .int .i64 s4, .int .i64 s5, .int .i64 s6, .int .i64 s7, .int .i64 s8, .int .i64 s9, .int .i64 s10, .int .i64 s11, .int .i64 s12, .int .i64 s13, .int .i64 s14, .int .i64 s15, .slice sA sn sc, .bool hl, .iface 103 (.pointer (some ⟨gm, 0, none⟩)), .bool tb, .int .i64 ov] 134 (0, 0)) ∧ Below gr w w' := by
 have HS := Lib.hid hS
 have ER := Lib.hid hr
 have hgr := blk_lt hr
 clear hS hr
 go_enter Tryz.func54, Tryz.ntmps54
 have HB0 := Lib.hid (below_alloc (Below.refl w.heap.size w) (.cells #[.int .i64 0, .int .i64 0, .int .i64 0] 77))
 have E0 := Lib.hid (blk_new w (.cells #[.int .i64 0, .int .i64 0, .int .i64 0] 77))
 have ER0 := Lib.hid (blk_below ER.out HB0.out)
 have q0 := (blk_cell ER0.out 0).trans rfl
 go_wp2_with (go_at_call 85; refine (HS.out _ (below_low HB0.out (Nat.le_of_lt hgr)) (HB0.out.block gr hgr)).mono ?_; rintro e w1 ⟨A11, c11, rfl, hc, hF, hb⟩; have HB1 := Lib.hid (below_step HB0.out hb); have HF := Lib.hid hF; have hs1 := below_size hb; have E0 := Lib.hid (blk_below E0.out hb); clear hb hF)
 obtain ⟨V, hV⟩ : ∃ V, V = w1.alloc (.cells #[.slice A11 xs.length c11, .int .i64 m, .int .i64 r1, .int .i64 r2, .int .i64 r3, .int .i64 r4] 150) := ⟨_, rfl⟩
 rw [← hV]
 have E3 := Lib.hid (show V.heap[w1.heap.size]? = some (.cells #[.slice A11 xs.length c11, .int .i64 m, .int .i64 r1, .int .i64 r2, .int .i64 r3, .int .i64 r4] 150 (0, 0)) from by rw [hV]; exact blk_new _ _)
 have HBV := Lib.hid (show Below w.heap.size w V from by rw [hV]; exact below_alloc HB1.out _)
 have HFV := Lib.hid (show Kd.F (Kd.int .i64) V _ A11 xs.length xs from by rw [hV]; exact Kd.F_alloc HF.out _)
 have E0 := Lib.hid (show V.heap[w.heap.size]? = some (.cells #[.int .i64 0, .int .i64 0, .int .i64 0] 77) from by rw [hV]; exact blk_alloc E0.out _)
 clear hV
 refine ft2 gm gr s0 (o : Int) s2 s3 s4 s5 s6 s7 s8 s9 s10 s11 s12 s13 s14 s15 sA sn sc hl tb ov w1.heap.size xs.length c11 A11 m r1 r2 r3 r4 _ _ _ _ _ _ _ _ _ _ _ _ _ _ _ _ _ _ _ _ _ _ _ _ _ _ _ _ _ _ _ _ _ _ _ _ _ _ _ _ _ _ _ _ _ _ _ _ _ _ _ _ _ _ _ _ _ _ _ _ V _ E3.out (blk_below ER.out HBV.out) hm4 hme ?_
 intro V2 a13 a14 a15 a16 a17 a18 a19 a20 a21 a22 a23 a24 a25 a26 a27 hb
 have HB2 := Lib.hid (below_step HBV.out hb)
 have E3 := Lib.hid (blk_below E3.out hb)
 have E0 := Lib.hid (blk_below E0.out hb)
 have HF2 := Lib.hid (Kd.F_below HFV.out hb)
 clear hb
 go_wp2
 refine ft3 gm o gr s0 s2 s3 s4 s5 s6 s7 s8 s9 s10 s11 s12 s13 s14 s15 sA sn sc hl tb ov w1.heap.size c11 A11 xs m r1 r2 r3 r4 _ _ _ _ _ _ _ _ _ _ _ _ _ _ _ _ _ _ _ _ _ _ _ _ _ _ _ _ _ _ _ _ _ _ _ _ _ _ _ _ _ _ _ _ _ _ _ _ _ _ _ _ _ _ _ _ _ _ _ _ V2 _ E3.out (blk_below ER.out HB2.out) (Kd.F_now HF2.out) hc ho ?_
 intro V3 b28 b29 b30 b31 b32 b33 b34 b35 hb
 have HB3 := Lib.hid (below_step HB2.out hb)
 have E3 := Lib.hid (blk_below E3.out hb)
 have E0 := Lib.hid (blk_below E0.out hb)
 have HF3 := Lib.hid (Kd.F_below HF2.out hb)
 clear hb
 go_wp2
 obtain ⟨wd, rfl, hwd⟩ := word_at (Kd.F_now HF3.out) o ho
 refine ft4 gm o gr s0 s2 s3 s4 s5 s6 s7 s8 s9 s10 s11 s12 s13 s14 s15 sA sn sc hl tb ov w1.heap.size xs.length c11 wd m r1 r2 r3 r4 (xs.getD o 0) op p nn 0 _ _ _ _ _ _ _ _ _ _ _ _ _ _ _ _ _ _ _ _ _ _ _ _ _ _ _ _ _ _ _ _ _ _ _ _ _ _ _ _ _ _ _ _ _ _ _ _ _ _ _ _ _ _ _ _ _ _ _ _ V3 _ E3.out (blk_below ER.out HB3.out) hwd ho hc hxl hde ?_
 intro g4 V4 c36 c37 c38 c39 c40 c41 c42 c43 c44 c45 c46 c47 c48 hX hg hb
 have HB4 := Lib.hid (below_step HB3.out hb)
 have EX := Lib.hid hX
 have ER4 := Lib.hid (blk_below ER.out HB4.out)
 have E0 := Lib.hid (blk_below E0.out hb)
 have hg4 : w.heap.size ≤ g4 := Nat.le_trans HB3.out.size hg
 have q1 := (blk_cell ER4.out 1).trans rfl
 have z1 := blk_frozen ER4.out 1
 have hne : g4 ≠ gr := by omega
 clear hb hX
 go_wp2_with (go_at_call 77; refine (must_t 36 _).mono ?_; rintro e wb ⟨rfl, rfl⟩; have hrd := rd77_blk (cs := #[.int .i64 op, .int .i64 p, .int .i64 nn]) (blk_far (p := ⟨gr, 1, none⟩) EX.out hne (.int .i64 ((o : Int) + 1))) rfl; have hwr := wr77_blk (cs := #[.int .i64 op, .int .i64 p, .int .i64 nn]) (blk_far (p := ⟨gr, 1, none⟩) E0.out (by show w.heap.size ≠ gr; omega) (.int .i64 ((o : Int) + 1))) rfl rfl (by simp [Value.oneCell']))
 have HZ2 := setRow_heap _ _ _ (#[.int .i64 op, .int .i64 p, .int .i64 nn] : Array Value) _ _ (blk_far (p := ⟨gr, 1, none⟩) E0.out (by show w.heap.size ≠ gr; omega) (.int .i64 ((o : Int) + 1)))
 refine bodyPost_ret (results_cell_row rfl _ _ w.heap.size 77 _ (0, 0) _ rfl HZ2 Tryz.underlying77 rfl (by kernel_rfl)) rfl ?_
 refine ⟨rfl, ?_, ?_⟩
 ·rw [setRow_other _ _ gr _ (by omega)]
  exact blk_put ER4.out 1 _ rfl
 ·exact below_setRow ((below_low HB4.out (Nat.le_of_lt hgr)).setCell (p := ⟨gr, 1, none⟩) (Nat.le_refl _) _) (Nat.le_of_lt hgr) _
end Go.Proofs.YteilkbookcmndaaGreatDoor.C
end
section
set_option linter.unusedVariables false
set_option linter.unusedSimpArgs false
namespace Go.Proofs.YteilkbookcmndaaGreatDoor.C
open Go.RowKit Go.Proofs.YteilkbookcmndaaGreatDoor.Q Go.Proofs.YteilkbookcmndaaGreatDoorW.PrintWords Go.Proofs.YteilkbookcmndaaGreatDoorW.PrintLast Go.Proofs.YteilkbookcmndaaGreatDoorW.PrintMore
attribute [local go_sem ↓] rd_at50 wr_at50 al_at50
attribute [local go_sem] rd50_new wr50_new al50
attribute [local go_sem ↓] rd_at45 wr_at45 rd_at150 wr_at150 rd_at47b wr_at47b rd_at77 wr_at77
attribute [local go_sem] rd45_new wr45_new rd150_new wr150_new wr47b_new
set_option maxHeartbeats 16000000 in
set_option maxRecDepth 1000000 in
theorem do_halt (gm : Nat) (p nn : Int) (gr : Nat) (s0 s1 s2 s3 s4 s5 s6 s7 s8 s9 s10 s11 s12 s13 s14 s15 : Int) (sA : Option Addr) (sn sc : Nat) (hl tb : Bool) (ov : Int) (w : World) (hr : w.heap[gr]? = some (.cells #[.int .i64 s0, .int .i64 s1, .int .i64 s2, .int .i64 s3, .int .i64 s4, .int .i64 s5, .int .i64 s6, .int .i64 s7, .int .i64 s8, .int .i64 s9, .int .i64 s10, .int .i64 s11, .int .i64 s12, .int .i64 s13, .int .i64 s14, .int .i64 s15, .slice sA sn sc, .bool hl, .iface 103 (.pointer (some ⟨gm, 0, none⟩)), .bool tb, .int .i64 ov] 134 (0, 0))) :
  Calls Tryz.prog 53 #[.pointer (some ⟨gr, 0, none⟩), .agg #[.int .i64 0, .int .i64 p, .int .i64 nn]] w fun e w' => e = .returned (.tuple #[]) ∧ w'.heap[gr]? = some (.cells #[.int .i64 s0, .int .i64 s1, .int .i64 s2, .int .i64 s3, .int .i64 s4, .int .i64 s5, .int .i64 s6, .int .i64 s7, .int .i64 s8, .int .i64 s9, .int .i64 s10, .int .i64 s11, .int .i64 s12, .int .i64 s13, .int .i64 s14, .int .i64 s15, .slice sA sn sc, .bool true, .iface 103 (.pointer (some ⟨gm, 0, none⟩)), .bool tb, .int .i64 ov] 134 (0, 0)) ∧ Below gr w w' := by
 have ER := Lib.hid hr
 have hgr := blk_lt hr
 have HB0 := Lib.hid (below_alloc (Below.refl w.heap.size w) (.cells #[.int .i64 0, .int .i64 p, .int .i64 nn] 77))
 have ER0 := Lib.hid (blk_below hr HB0.out)
 have q17 := (blk_cell ER0.out 17).trans rfl
 have z17 := blk_frozen ER0.out 17
 clear hr
 go_enter Tryz.func53, Tryz.ntmps53
 go_wp2
 first | go_end0 | refine bodyPost_ret (results_none rfl _ _ _) rfl ?_
 exact ⟨rfl, blk_alloc (blk_put ER.out 17 _ rfl) _, ((Below.refl gr w).setCell (p := ⟨gr, 17, none⟩) (Nat.le_refl _) _).alloc (by rw [World.size_setCell]; omega) _⟩
set_option maxHeartbeats 16000000 in
set_option maxRecDepth 1000000 in
theorem do_out (gm : Nat) (p nn : Int) (gr : Nat) (s0 s1 s2 s3 s4 s5 s6 s7 s8 s9 s10 s11 s12 s13 s14 s15 : Int) (sA : Option Addr) (sn sc : Nat) (hl tb : Bool) (ov : Int) (w : World) (hr : w.heap[gr]? = some (.cells #[.int .i64 s0, .int .i64 s1, .int .i64 s2, .int .i64 s3, .int .i64 s4, .int .i64 s5, .int .i64 s6, .int .i64 s7, .int .i64 s8, .int .i64 s9, .int .i64 s10, .int .i64 s11, .int .i64 s12, .int .i64 s13, .int .i64 s14, .int .i64 s15, .slice sA sn sc, .bool hl, .iface 103 (.pointer (some ⟨gm, 0, none⟩)), .bool tb, .int .i64 ov] 134 (0, 0))) :
  Calls Tryz.prog 53 #[.pointer (some ⟨gr, 0, none⟩), .agg #[.int .i64 22, .int .i64 p, .int .i64 nn]] w fun e w' => e = .returned (.tuple #[]) ∧ w'.heap[gr]? = some (.cells #[.int .i64 s0, .int .i64 s1, .int .i64 s2, .int .i64 s3, .int .i64 s4, .int .i64 s5, .int .i64 s6, .int .i64 s7, .int .i64 s8, .int .i64 s9, .int .i64 s10, .int .i64 s11, .int .i64 s12, .int .i64 s13, .int .i64 s14, .int .i64 s15, .slice sA sn sc, .bool hl, .iface 103 (.pointer (some ⟨gm, 0, none⟩)), .bool true, .int .i64 s3] 134 (0, 0)) ∧ Below gr w w' := by
 have ER := Lib.hid hr
 have hgr := blk_lt hr
 have HB0 := Lib.hid (below_alloc (Below.refl w.heap.size w) (.cells #[.int .i64 22, .int .i64 p, .int .i64 nn] 77))
 have ER0 := Lib.hid (blk_below hr HB0.out)
 have q3 := (blk_cell ER0.out 3).trans rfl
 have z3 := blk_frozen ER0.out 3
 have q19 := (blk_cell ER0.out 19).trans rfl
 have z19 := blk_frozen ER0.out 19
 have q20 := (blk_cell ER0.out 20).trans rfl
 have z20 := blk_frozen ER0.out 20
 have r19 := blk_alloc (blk_put hr 19 (.bool true) rfl) (.cells #[.int .i64 22, .int .i64 p, .int .i64 nn] 77)
 have q20b := (blk_cell r19 20).trans rfl
 have z20b := blk_frozen r19 20
 clear hr
 go_enter Tryz.func53, Tryz.ntmps53
 go_wp2
 first | go_end0 | refine bodyPost_ret (results_none rfl _ _ _) rfl ?_
 exact ⟨rfl, blk_alloc (blk_put (blk_put ER.out 19 _ rfl) 20 _ rfl) _, (((Below.refl gr w).setCell (p := ⟨gr, 19, none⟩) (Nat.le_refl _) _).setCell (p := ⟨gr, 20, none⟩) (Nat.le_refl _) _).alloc (by rw [World.size_setCell, World.size_setCell]; omega) _⟩
end Go.Proofs.YteilkbookcmndaaGreatDoor.C
end
section
set_option linter.unusedVariables false
set_option linter.unusedSimpArgs false
namespace Go.Proofs.YteilkbookcmndaaGreatDoor.C
open Go.RowKit Go.Proofs.YteilkbookcmndaaGreatDoor.Q Go.Proofs.YteilkbookcmndaaGreatDoorW.PrintWords Go.Proofs.YteilkbookcmndaaGreatDoorW.PrintLast Go.Proofs.YteilkbookcmndaaGreatDoorW.PrintMore
attribute [local go_sem ↓] rd_at50 wr_at50 al_at50
attribute [local go_sem] rd50_new wr50_new al50
theorem max2_mx (k k' : IntKind) (x y : Int) : Builtin.max2 (.int k x) (.int k' y) = pure (.int k (mx x y)) := max2_int k k' x y
attribute [local go_sem ↓] rd_at45 wr_at45 rd_at150 wr_at150 rd_at47b wr_at47b rd_at77 wr_at77 rd_at41p wr_at41p
attribute [local go_sem] rd45_new wr45_new rd150_new wr150_new wr47b_new
attribute [local go_sem] max2_mx max_two
set_option maxHeartbeats 16000000 in
set_option maxRecDepth 1000000 in
theorem at1_0 (gm gi : Nat) (op nn : Int) (gr : Nat) (s0 s1 s2 s3 s4 s5 s6 s7 s8 s9 s10 s11 s12 s13 s14 s15 : Int) (sA : Option Addr) (sn sc : Nat) (hl tb : Bool) (ov : Int) (u1 u2 u4 u5 u6 u7 u8 u9 u10 u11 u12 u13 u14 u15 u16 u17 u18 u19 u20 u21 u22 u23 u24 u25 u26 u27 u28 u29 u30 u31 u32 : Value) (W : World) (Q : Exit → Act → World → Prop)
  (hr : W.heap[gr]? = some (.cells #[.int .i64 s0, .int .i64 s1, .int .i64 s2, .int .i64 s3, .int .i64 s4, .int .i64 s5, .int .i64 s6, .int .i64 s7, .int .i64 s8, .int .i64 s9, .int .i64 s10, .int .i64 s11, .int .i64 s12, .int .i64 s13, .int .i64 s14, .int .i64 s15, .slice sA sn sc, .bool hl, .iface 103 (.pointer (some ⟨gm, 0, none⟩)), .bool tb, .int .i64 ov] 134 (0, 0))) (hi : W.heap[gi]? = some (.cells #[.int .i64 op, .int .i64 0, .int .i64 nn] 77 (0, 0)))
  (hpost : ∀ (w' : World) (t8 t9 t10 t11 t12 t13 t14 t15 : Value), w'.heap[W.heap.size]? = some (.cells #[.int .i64 s4, .int .i64 s5, .int .i64 s6] 41 (0, 0)) → Below W.heap.size W w' → Q .normal ⟨#[.pointer (some ⟨gr, 0, none⟩), u1, u2, .pointer (some ⟨gi, 0, none⟩), u4, u5, u6, .pointer (some ⟨W.heap.size, 0, none⟩), t8, t9, t10, t11, t12, t13, t14, t15, u16, u17, u18, u19, u20, u21, u22, u23, u24, u25, u26, u27, u28, u29, u30, u31, u32], []⟩ w') :
  Code.wp Tryz.prog (cReg Tryz.f97 1) Q ⟨#[.pointer (some ⟨gr, 0, none⟩), u1, u2, .pointer (some ⟨gi, 0, none⟩), u4, u5, u6, u7, u8, u9, u10, u11, u12, u13, u14, u15, u16, u17, u18, u19, u20, u21, u22, u23, u24, u25, u26, u27, u28, u29, u30, u31, u32], []⟩ W := by
 have HPO := Lib.hid hpost
 have ER := Lib.hid hr
 have EI := Lib.hid hi
 clear hr hi hpost
 have HB := Lib.hid (below_drew1 (Below.refl W.heap.size W))
 conv => arg 2; whnf
 refine wp_region_noPanic ?_
 refine wp_region_held_drew (S := fun W1 => W1.cell? ⟨gi, 1, none⟩ = some (.int .i64 0) ∧ (rdS 41 (.pointer (some ⟨gr, 4, none⟩))).run Tryz.prog W1 = .ok (.agg #[.int .i64 s4, .int .i64 s5, .int .i64 s6]) W1) (by kernel_rfl) ?_ (fun hHeld => ?_)
 focus ((try dsimp only); exact ⟨(blk_cell (blk_below EI.out HB.out) 1).trans rfl, rd_in (t := 41) (k := 3) (blk_below ER.out HB.out) Tryz.isAgg41 Tryz.sizeOf41 (by show 4 + 3 ≤ 21; omega)⟩)
 refine tk 0 8 (v := ?_) rfl rfl (by kernel_rfl) rfl ?_ (by assumption) ?_; rotate_left; focus (intro w hSw; go_simp; try with_reducible rfl)
 try simp only [Act.put, List.setIfInBounds_toArray, List.set_cons_zero, List.set_cons_succ]
 refine tk 1 9 (v := ?_) rfl rfl (by kernel_rfl) rfl ?_ (by assumption) ?_; rotate_left; focus (intro w hSw; go_simp; try with_reducible rfl)
 try simp only [Act.put, List.setIfInBounds_toArray, List.set_cons_zero, List.set_cons_succ]
 refine tk 2 10 (v := ?_) rfl rfl (by kernel_rfl) rfl ?_ (by assumption) ?_; rotate_left; focus (intro w hSw; go_simp; try with_reducible rfl)
 try simp only [Act.put, List.setIfInBounds_toArray, List.set_cons_zero, List.set_cons_succ]
 refine tk 3 11 (v := ?_) rfl rfl (by kernel_rfl) rfl ?_ (by assumption) ?_; rotate_left; focus (intro w hSw; go_simp; try with_reducible rfl)
 try simp only [Act.put, List.setIfInBounds_toArray, List.set_cons_zero, List.set_cons_succ]
 refine tk 4 12 (v := ?_) rfl rfl (by kernel_rfl) rfl ?_ (by assumption) ?_; rotate_left; focus (intro w hSw; go_simp; try with_reducible rfl)
 try simp only [Act.put, List.setIfInBounds_toArray, List.set_cons_zero, List.set_cons_succ]
 refine tk 5 13 (v := ?_) rfl rfl (by kernel_rfl) rfl ?_ (by assumption) ?_; rotate_left; focus (intro w hSw; go_simp; try with_reducible rfl)
 try simp only [Act.put, List.setIfInBounds_toArray, List.set_cons_zero, List.set_cons_succ]
 refine tk 6 14 (v := ?_) rfl rfl (by kernel_rfl) rfl ?_ (by assumption) ?_; rotate_left; focus (intro w hSw; go_simp; try with_reducible rfl)
 try simp only [Act.put, List.setIfInBounds_toArray, List.set_cons_zero, List.set_cons_succ]
 refine tk 7 15 (v := ?_) rfl rfl (by kernel_rfl) rfl ?_ (by assumption) ?_; rotate_left; focus (intro w hSw; go_simp; try with_reducible rfl)
 try simp only [Act.put, List.setIfInBounds_toArray, List.set_cons_zero, List.set_cons_succ]
 refine wpAnyH_ready (rs := [8]) (by kernel_rfl) (by simp) ?_
 refine AllReadyH.cons rfl (fun K hK => ?_) ?_
 ·have EZ := Lib.hid (show (World.alloc W (.cells #[.int .i64 0, .int .i64 0, .int .i64 0] 41)).drew.heap[W.heap.size]? = some (.cells #[.int .i64 0, .int .i64 0, .int .i64 0] 41) from blk_new W (.cells #[.int .i64 0, .int .i64 0, .int .i64 0] 41))
  have HB := Lib.hid (show Below W.heap.size W (World.alloc W (.cells #[.int .i64 0, .int .i64 0, .int .i64 0] 41)).drew from below_drew1 (below_alloc (Below.refl _ _) (.cells #[.int .i64 0, .int .i64 0, .int .i64 0] 41)))
  go_simp
  refine hK.out _ _ ?_ (fun hHeld => ?_)
  focus ((try dsimp only); exact ⟨(blk_cell (blk_below EI.out HB.out) 1).trans rfl, rd_in (t := 41) (k := 3) (blk_below ER.out HB.out) Tryz.isAgg41 Tryz.sizeOf41 (by show 4 + 3 ≤ 21; omega)⟩)
  clear hK K
  refine wpAnyH_ready (rs := [9]) (by kernel_rfl) (by simp) ?_
  refine AllReadyH.cons rfl (fun K hK => ?_) ?_
  ·have hst := wr41p_blk (cs := #[.int .i64 s4, .int .i64 s5, .int .i64 s6]) EZ.out rfl rfl (by simp [Value.oneCell'])
   have EX := Lib.hid (setRow_heap _ _ _ (#[.int .i64 s4, .int .i64 s5, .int .i64 s6] : Array Value) _ _ EZ.out)
   have HB := Lib.hid (below_setRow HB.out (Nat.le_refl _) (#[.int .i64 s4, .int .i64 s5, .int .i64 s6] : Array Value))
   go_simp
   refine hK.out _ _ ?_ (fun hHeld => ?_)
   focus ((try dsimp only); exact ⟨(blk_cell (blk_below EI.out HB.out) 1).trans rfl, rd_in (t := 41) (k := 3) (blk_below ER.out HB.out) Tryz.isAgg41 Tryz.sizeOf41 (by show 4 + 3 ≤ 21; omega)⟩)
   clear hK K
   refine wpAnyH_done (by kernel_rfl) ?_ _
   refine NoPanic.normal ?_
   exact HPO.out _ _ _ _ _ _ _ _ _ EX.out HB.out
  exact AllReadyH.nil
 exact AllReadyH.nil
set_option maxHeartbeats 16000000 in
set_option maxRecDepth 1000000 in
theorem at1_1 (gm gi : Nat) (op nn : Int) (gr : Nat) (s0 s1 s2 s3 s4 s5 s6 s7 s8 s9 s10 s11 s12 s13 s14 s15 : Int) (sA : Option Addr) (sn sc : Nat) (hl tb : Bool) (ov : Int) (u1 u2 u4 u5 u6 u7 u8 u9 u10 u11 u12 u13 u14 u15 u16 u17 u18 u19 u20 u21 u22 u23 u24 u25 u26 u27 u28 u29 u30 u31 u32 : Value) (W : World) (Q : Exit → Act → World → Prop)
  (hr : W.heap[gr]? = some (.cells #[.int .i64 s0, .int .i64 s1, .int .i64 s2, .int .i64 s3, .int .i64 s4, .int .i64 s5, .int .i64 s6, .int .i64 s7, .int .i64 s8, .int .i64 s9, .int .i64 s10, .int .i64 s11, .int .i64 s12, .int .i64 s13, .int .i64 s14, .int .i64 s15, .slice sA sn sc, .bool hl, .iface 103 (.pointer (some ⟨gm, 0, none⟩)), .bool tb, .int .i64 ov] 134 (0, 0))) (hi : W.heap[gi]? = some (.cells #[.int .i64 op, .int .i64 1, .int .i64 nn] 77 (0, 0)))
  (hpost : ∀ (w' : World) (t8 t9 t10 t11 t12 t13 t14 t15 : Value), w'.heap[W.heap.size]? = some (.cells #[.int .i64 s7, .int .i64 s8, .int .i64 s9] 41 (0, 0)) → Below W.heap.size W w' → Q .normal ⟨#[.pointer (some ⟨gr, 0, none⟩), u1, u2, .pointer (some ⟨gi, 0, none⟩), u4, u5, u6, .pointer (some ⟨W.heap.size, 0, none⟩), t8, t9, t10, t11, t12, t13, t14, t15, u16, u17, u18, u19, u20, u21, u22, u23, u24, u25, u26, u27, u28, u29, u30, u31, u32], []⟩ w') :
  Code.wp Tryz.prog (cReg Tryz.f97 1) Q ⟨#[.pointer (some ⟨gr, 0, none⟩), u1, u2, .pointer (some ⟨gi, 0, none⟩), u4, u5, u6, u7, u8, u9, u10, u11, u12, u13, u14, u15, u16, u17, u18, u19, u20, u21, u22, u23, u24, u25, u26, u27, u28, u29, u30, u31, u32], []⟩ W := by
 have HPO := Lib.hid hpost
 have ER := Lib.hid hr
 have EI := Lib.hid hi
 clear hr hi hpost
 have HB := Lib.hid (below_drew1 (Below.refl W.heap.size W))
 conv => arg 2; whnf
 refine wp_region_noPanic ?_
 refine wp_region_held_drew (S := fun W1 => W1.cell? ⟨gi, 1, none⟩ = some (.int .i64 1) ∧ (rdS 41 (.pointer (some ⟨gr, 7, none⟩))).run Tryz.prog W1 = .ok (.agg #[.int .i64 s7, .int .i64 s8, .int .i64 s9]) W1) (by kernel_rfl) ?_ (fun hHeld => ?_)
 focus ((try dsimp only); exact ⟨(blk_cell (blk_below EI.out HB.out) 1).trans rfl, rd_in (t := 41) (k := 3) (blk_below ER.out HB.out) Tryz.isAgg41 Tryz.sizeOf41 (by show 7 + 3 ≤ 21; omega)⟩)
 refine tk 0 8 (v := ?_) rfl rfl (by kernel_rfl) rfl ?_ (by assumption) ?_; rotate_left; focus (intro w hSw; go_simp; try with_reducible rfl)
 try simp only [Act.put, List.setIfInBounds_toArray, List.set_cons_zero, List.set_cons_succ]
 refine tk 1 9 (v := ?_) rfl rfl (by kernel_rfl) rfl ?_ (by assumption) ?_; rotate_left; focus (intro w hSw; go_simp; try with_reducible rfl)
 try simp only [Act.put, List.setIfInBounds_toArray, List.set_cons_zero, List.set_cons_succ]
 refine tk 2 10 (v := ?_) rfl rfl (by kernel_rfl) rfl ?_ (by assumption) ?_; rotate_left; focus (intro w hSw; go_simp; try with_reducible rfl)
 try simp only [Act.put, List.setIfInBounds_toArray, List.set_cons_zero, List.set_cons_succ]
 refine tk 3 11 (v := ?_) rfl rfl (by kernel_rfl) rfl ?_ (by assumption) ?_; rotate_left; focus (intro w hSw; go_simp; try with_reducible rfl)
 try simp only [Act.put, List.setIfInBounds_toArray, List.set_cons_zero, List.set_cons_succ]
 refine tk 4 12 (v := ?_) rfl rfl (by kernel_rfl) rfl ?_ (by assumption) ?_; rotate_left; focus (intro w hSw; go_simp; try with_reducible rfl)
 try simp only [Act.put, List.setIfInBounds_toArray, List.set_cons_zero, List.set_cons_succ]
 refine tk 5 13 (v := ?_) rfl rfl (by kernel_rfl) rfl ?_ (by assumption) ?_; rotate_left; focus (intro w hSw; go_simp; try with_reducible rfl)
 try simp only [Act.put, List.setIfInBounds_toArray, List.set_cons_zero, List.set_cons_succ]
 refine tk 6 14 (v := ?_) rfl rfl (by kernel_rfl) rfl ?_ (by assumption) ?_; rotate_left; focus (intro w hSw; go_simp; try with_reducible rfl)
 try simp only [Act.put, List.setIfInBounds_toArray, List.set_cons_zero, List.set_cons_succ]
 refine tk 7 15 (v := ?_) rfl rfl (by kernel_rfl) rfl ?_ (by assumption) ?_; rotate_left; focus (intro w hSw; go_simp; try with_reducible rfl)
 try simp only [Act.put, List.setIfInBounds_toArray, List.set_cons_zero, List.set_cons_succ]
 refine wpAnyH_ready (rs := [8]) (by kernel_rfl) (by simp) ?_
 refine AllReadyH.cons rfl (fun K hK => ?_) ?_
 ·have EZ := Lib.hid (show (World.alloc W (.cells #[.int .i64 0, .int .i64 0, .int .i64 0] 41)).drew.heap[W.heap.size]? = some (.cells #[.int .i64 0, .int .i64 0, .int .i64 0] 41) from blk_new W (.cells #[.int .i64 0, .int .i64 0, .int .i64 0] 41))
  have HB := Lib.hid (show Below W.heap.size W (World.alloc W (.cells #[.int .i64 0, .int .i64 0, .int .i64 0] 41)).drew from below_drew1 (below_alloc (Below.refl _ _) (.cells #[.int .i64 0, .int .i64 0, .int .i64 0] 41)))
  go_simp
  refine hK.out _ _ ?_ (fun hHeld => ?_)
  focus ((try dsimp only); exact ⟨(blk_cell (blk_below EI.out HB.out) 1).trans rfl, rd_in (t := 41) (k := 3) (blk_below ER.out HB.out) Tryz.isAgg41 Tryz.sizeOf41 (by show 7 + 3 ≤ 21; omega)⟩)
  clear hK K
  refine wpAnyH_ready (rs := [9]) (by kernel_rfl) (by simp) ?_
  refine AllReadyH.cons rfl (fun K hK => ?_) ?_
  ·have hst := wr41p_blk (cs := #[.int .i64 s7, .int .i64 s8, .int .i64 s9]) EZ.out rfl rfl (by simp [Value.oneCell'])
   have EX := Lib.hid (setRow_heap _ _ _ (#[.int .i64 s7, .int .i64 s8, .int .i64 s9] : Array Value) _ _ EZ.out)
   have HB := Lib.hid (below_setRow HB.out (Nat.le_refl _) (#[.int .i64 s7, .int .i64 s8, .int .i64 s9] : Array Value))
   go_simp
   refine hK.out _ _ ?_ (fun hHeld => ?_)
   focus ((try dsimp only); exact ⟨(blk_cell (blk_below EI.out HB.out) 1).trans rfl, rd_in (t := 41) (k := 3) (blk_below ER.out HB.out) Tryz.isAgg41 Tryz.sizeOf41 (by show 7 + 3 ≤ 21; omega)⟩)
   clear hK K
   refine wpAnyH_done (by kernel_rfl) ?_ _
   refine NoPanic.normal ?_
   exact HPO.out _ _ _ _ _ _ _ _ _ EX.out HB.out
  exact AllReadyH.nil
 exact AllReadyH.nil
theorem below_drew_l {B : Nat} {w w' : World} (h : Below B w.drew w') : Below B w.drew w' := h
set_option maxHeartbeats 16000000 in
set_option maxRecDepth 1000000 in
theorem at2 (gm gi g4 g7 : Nat) (op pk nn ps po pr off : Int) (xs : List Int) (m r1 r2 r3 r4 : Int) (gr : Nat) (s0 s1 s2 s3 s4 s5 s6 s7 s8 s9 s10 s11 s12 s13 s14 s15 : Int) (sA : Option Addr) (sn sc : Nat) (hl tb : Bool) (ov : Int) (old : Array Value) (u1 u2 u5 u6 u8 u9 u10 u11 u12 u13 u14 u15 u16 u17 u18 u19 u20 u21 u22 u23 u24 u25 u26 u27 u28 u29 u30 u31 u32 : Value) (W : World) (Q : Exit → Act → World → Prop)
  (hr : W.heap[gr]? = some (.cells #[.int .i64 s0, .int .i64 s1, .int .i64 s2, .int .i64 s3, .int .i64 s4, .int .i64 s5, .int .i64 s6, .int .i64 s7, .int .i64 s8, .int .i64 s9, .int .i64 s10, .int .i64 s11, .int .i64 s12, .int .i64 s13, .int .i64 s14, .int .i64 s15, .slice sA sn sc, .bool hl, .iface 103 (.pointer (some ⟨gm, 0, none⟩)), .bool tb, .int .i64 ov] 134 (0, 0))) (hi : W.heap[gi]? = some (.cells #[.int .i64 op, .int .i64 pk, .int .i64 nn] 77 (0, 0))) (h7 : W.heap[g7]? = some (.cells #[.int .i64 ps, .int .i64 po, .int .i64 pr] 41 (0, 0))) (h4 : W.heap[g4]? = some (.cells #[.slice none 0 0, .int .i64 0, .int .i64 0, .int .i64 0, .int .i64 0, .int .i64 0] 150 (0, 0)))
  (hn : gi ≠ g4 ∧ gr ≠ g4 ∧ g7 ≠ g4) (hoff : IntKind.i64.wrap (po + nn) = off)
  (hS : Calls Tryz.prog 85 #[.pointer (some ⟨gr, 0, none⟩), .int .i64 ps] W.drew fun e w' => ∃ A11 c11, e = .returned (.agg #[.slice A11 xs.length c11, .int .i64 m, .int .i64 r1, .int .i64 r2, .int .i64 r3, .int .i64 r4]) ∧ xs.length ≤ c11 ∧ Kd.F (Kd.int .i64) w' (fun j => W.heap.size < j) A11 xs.length xs ∧ Below W.heap.size W.drew w')
  (hpost : ∀ (wa : World) (A11 : Option Addr) (c11 : Nat) (t16 t17 t18 t19 t20 t21 t22 t23 t24 t25 t26 t27 t28 t29 t30 t31 t32 : Value), xs.length ≤ c11 → Kd.F (Kd.int .i64) wa (fun j => W.heap.size < j) A11 xs.length xs → (wa.setRow g4 #[.slice A11 xs.length c11, .int .i64 m, .int .i64 r1, .int .i64 r2, .int .i64 r3, .int .i64 r4]).heap[g4]? = some (.cells #[.slice A11 xs.length c11, .int .i64 m, .int .i64 r1, .int .i64 r2, .int .i64 r3, .int .i64 r4] 150 (0, 0)) → Below W.heap.size W wa → Q .normal ⟨#[.pointer (some ⟨gr, 0, none⟩), u1, u2, .pointer (some ⟨gi, 0, none⟩), .pointer (some ⟨g4, 0, none⟩), .int .i64 off, .int .i64 (mx s2 pr), .pointer (some ⟨g7, 0, none⟩), u8, u9, u10, u11, u12, u13, u14, u15, t16, t17, t18, t19, t20, t21, t22, t23, t24, t25, t26, t27, t28, t29, t30, t31, t32], []⟩ (wa.setRow g4 #[.slice A11 xs.length c11, .int .i64 m, .int .i64 r1, .int .i64 r2, .int .i64 r3, .int .i64 r4])) :
  Code.wp Tryz.prog (cReg Tryz.f97 2) Q ⟨#[.pointer (some ⟨gr, 0, none⟩), u1, u2, .pointer (some ⟨gi, 0, none⟩), .pointer (some ⟨g4, 0, none⟩), u5, u6, .pointer (some ⟨g7, 0, none⟩), u8, u9, u10, u11, u12, u13, u14, u15, u16, u17, u18, u19, u20, u21, u22, u23, u24, u25, u26, u27, u28, u29, u30, u31, u32], []⟩ W := by
 have HPO := Lib.hid hpost
 have ER := Lib.hid hr
 have EI := Lib.hid hi
 have E7 := Lib.hid h7
 have E4 := Lib.hid h4
 have HS := Lib.hid hS
 clear hr hi hpost h7 h4 hS
 have HB := Lib.hid (below_drew1 (Below.refl W.heap.size W))
 have ER := Lib.hid (show W.drew.heap[gr]? = _ from ER.out)
 have EI := Lib.hid (show W.drew.heap[gi]? = _ from EI.out)
 have E7 := Lib.hid (show W.drew.heap[g7]? = _ from E7.out)
 have E4 := Lib.hid (show W.drew.heap[g4]? = _ from E4.out)
 conv => arg 2; whnf
 refine wp_region_noPanic ?_
 refine wp_region_held_drew (S := fun W1 => W1.cell? ⟨gi, 2, none⟩ = some (.int .i64 nn) ∧ W1.cell? ⟨gr, 2, none⟩ = some (.int .i64 s2) ∧ W1.cell? ⟨g7, 0, none⟩ = some (.int .i64 ps) ∧ W1.cell? ⟨g7, 1, none⟩ = some (.int .i64 po) ∧ W1.cell? ⟨g7, 2, none⟩ = some (.int .i64 pr)) (by kernel_rfl) ?_ (fun hHeld => ?_)
 focus ((try dsimp only); exact ⟨(blk_cell EI.out 2).trans rfl, (blk_cell ER.out 2).trans rfl, (blk_cell E7.out 0).trans rfl, (blk_cell E7.out 1).trans rfl, (blk_cell E7.out 2).trans rfl⟩)
 refine tk 0 16 (v := ?_) rfl rfl (by kernel_rfl) rfl ?_ (by assumption) ?_; rotate_left; focus (intro w hSw; go_simp; try with_reducible rfl)
 try simp only [Act.put, List.setIfInBounds_toArray, List.set_cons_zero, List.set_cons_succ]
 refine tk 1 17 (v := ?_) rfl rfl (by kernel_rfl) rfl ?_ (by assumption) ?_; rotate_left; focus (intro w hSw; go_simp; try with_reducible rfl)
 try simp only [Act.put, List.setIfInBounds_toArray, List.set_cons_zero, List.set_cons_succ]
 refine tk 2 18 (v := ?_) rfl rfl (by kernel_rfl) rfl ?_ (by assumption) ?_; rotate_left; focus (intro w hSw; go_simp; try with_reducible rfl)
 try simp only [Act.put, List.setIfInBounds_toArray, List.set_cons_zero, List.set_cons_succ]
 refine tk 4 20 (v := ?_) rfl rfl (by kernel_rfl) rfl ?_ (by assumption) ?_; rotate_left; focus (intro w hSw; go_simp; try with_reducible rfl)
 try simp only [Act.put, List.setIfInBounds_toArray, List.set_cons_zero, List.set_cons_succ]
 refine tk 5 21 (v := ?_) rfl rfl (by kernel_rfl) rfl ?_ (by assumption) ?_; rotate_left; focus (intro w hSw; go_simp; try with_reducible rfl)
 try simp only [Act.put, List.setIfInBounds_toArray, List.set_cons_zero, List.set_cons_succ]
 refine tk 6 22 (v := ?_) rfl rfl (by kernel_rfl) rfl ?_ (by assumption) ?_; rotate_left; focus (intro w hSw; go_simp; try with_reducible rfl)
 try simp only [Act.put, List.setIfInBounds_toArray, List.set_cons_zero, List.set_cons_succ]
 refine tk 7 23 (v := ?_) rfl rfl (by kernel_rfl) rfl ?_ (by assumption) ?_; rotate_left; focus (intro w hSw; go_simp; try with_reducible rfl)
 try simp only [Act.put, List.setIfInBounds_toArray, List.set_cons_zero, List.set_cons_succ]
 refine tk 8 24 (v := ?_) rfl rfl (by kernel_rfl) rfl ?_ (by assumption) ?_; rotate_left; focus (intro w hSw; go_simp; try with_reducible rfl)
 try simp only [Act.put, List.setIfInBounds_toArray, List.set_cons_zero, List.set_cons_succ]
 refine tk 9 25 (v := ?_) rfl rfl (by kernel_rfl) rfl ?_ (by assumption) ?_; rotate_left; focus (intro w hSw; go_simp; try with_reducible rfl)
 try simp only [Act.put, List.setIfInBounds_toArray, List.set_cons_zero, List.set_cons_succ]
 refine tk 10 26 (v := ?_) rfl rfl (by kernel_rfl) rfl ?_ (by assumption) ?_; rotate_left; focus (intro w hSw; go_simp; try with_reducible rfl)
 try simp only [Act.put, List.setIfInBounds_toArray, List.set_cons_zero, List.set_cons_succ]
 refine tk 11 27 (v := ?_) rfl rfl (by kernel_rfl) rfl ?_ (by assumption) ?_; rotate_left; focus (intro w hSw; go_simp; try with_reducible rfl)
 try simp only [Act.put, List.setIfInBounds_toArray, List.set_cons_zero, List.set_cons_succ]
 refine tk 12 28 (v := ?_) rfl rfl (by kernel_rfl) rfl ?_ (by assumption) ?_; rotate_left; focus (intro w hSw; go_simp; try with_reducible rfl)
 try simp only [Act.put, List.setIfInBounds_toArray, List.set_cons_zero, List.set_cons_succ]
 refine tk 13 29 (v := ?_) rfl rfl (by kernel_rfl) rfl ?_ (by assumption) ?_; rotate_left; focus (intro w hSw; go_simp; try with_reducible rfl)
 try simp only [Act.put, List.setIfInBounds_toArray, List.set_cons_zero, List.set_cons_succ]
 refine tk 14 30 (v := ?_) rfl rfl (by kernel_rfl) rfl ?_ (by assumption) ?_; rotate_left; focus (intro w hSw; go_simp; try with_reducible rfl)
 try simp only [Act.put, List.setIfInBounds_toArray, List.set_cons_zero, List.set_cons_succ]
 refine tk 15 31 (v := ?_) rfl rfl (by kernel_rfl) rfl ?_ (by assumption) ?_; rotate_left; focus (intro w hSw; go_simp; try with_reducible rfl)
 try simp only [Act.put, List.setIfInBounds_toArray, List.set_cons_zero, List.set_cons_succ]
 refine tk 16 32 (v := ?_) rfl rfl (by kernel_rfl) rfl ?_ (by assumption) ?_; rotate_left; focus (intro w hSw; go_simp; try with_reducible rfl)
 try simp only [Act.put, List.setIfInBounds_toArray, List.set_cons_zero, List.set_cons_succ]
 refine wpAnyH_ready (rs := [3]) (by kernel_rfl) (by simp) ?_
 refine AllReadyH.cons rfl (fun K hK => ?_) ?_
 ·go_simp
  go_wp2_with (go_at_call 85; refine (HS.out).mono ?_; rintro e wa ⟨A11, c11, rfl, hc, hF, hb⟩; have hb := below_drew_l hb; have HB := Lib.hid (below_step HB.out hb); have HC := Lib.hid hc; have HF := Lib.hid hF; have EI := Lib.hid (blk_below EI.out hb); have ER := Lib.hid (blk_below ER.out hb); have E7 := Lib.hid (blk_below E7.out hb); have E4 := Lib.hid (blk_below E4.out hb); clear hb hF hc)
  refine hK.out _ _ ?_ (fun hHeld => ?_)
  focus ((try dsimp only); exact ⟨(blk_cell EI.out 2).trans rfl, (blk_cell ER.out 2).trans rfl, (blk_cell E7.out 0).trans rfl, (blk_cell E7.out 1).trans rfl, (blk_cell E7.out 2).trans rfl⟩)
  clear hK K
  refine wpAnyH_ready (rs := [17]) (by kernel_rfl) (by simp) ?_
  refine AllReadyH.cons rfl (fun K hK => ?_) ?_
  ·have hst := wr150_blk (cs := #[.slice A11 xs.length c11, .int .i64 m, .int .i64 r1, .int .i64 r2, .int .i64 r3, .int .i64 r4]) E4.out rfl rfl (by simp [Value.oneCell'])
   have EX := Lib.hid (setRow_heap _ _ _ (#[.slice A11 xs.length c11, .int .i64 m, .int .i64 r1, .int .i64 r2, .int .i64 r3, .int .i64 r4] : Array Value) _ _ E4.out)
   have EI := Lib.hid (show (wa.setRow g4 #[.slice A11 xs.length c11, .int .i64 m, .int .i64 r1, .int .i64 r2, .int .i64 r3, .int .i64 r4]).heap[gi]? = _ from (setRow_other _ _ gi _ hn.1).trans EI.out)
   have ER := Lib.hid (show (wa.setRow g4 #[.slice A11 xs.length c11, .int .i64 m, .int .i64 r1, .int .i64 r2, .int .i64 r3, .int .i64 r4]).heap[gr]? = _ from (setRow_other _ _ gr _ hn.2.1).trans ER.out)
   have E7 := Lib.hid (show (wa.setRow g4 #[.slice A11 xs.length c11, .int .i64 m, .int .i64 r1, .int .i64 r2, .int .i64 r3, .int .i64 r4]).heap[g7]? = _ from (setRow_other _ _ g7 _ hn.2.2).trans E7.out)
   go_simp
   refine hK.out _ _ ?_ (fun hHeld => ?_)
   focus ((try dsimp only); exact ⟨(blk_cell EI.out 2).trans rfl, (blk_cell ER.out 2).trans rfl, (blk_cell E7.out 0).trans rfl, (blk_cell E7.out 1).trans rfl, (blk_cell E7.out 2).trans rfl⟩)
   clear hK K
   refine tk 18 5 (v := ?_) rfl rfl (by kernel_rfl) rfl ?_ (by assumption) ?_; rotate_left; focus (intro w hSw; go_simp; try with_reducible rfl)
   try simp only [Act.put, List.setIfInBounds_toArray, List.set_cons_zero, List.set_cons_succ]
   refine tk 19 6 (v := ?_) rfl rfl (by kernel_rfl) rfl ?_ (by assumption) ?_; rotate_left; focus (intro w hSw; go_simp; try with_reducible rfl)
   try simp only [Act.put, List.setIfInBounds_toArray, List.set_cons_zero, List.set_cons_succ]
   refine wpAnyH_done (by kernel_rfl) ?_ _
   refine NoPanic.normal ?_
   exact HPO.out wa A11 c11 _ _ _ _ _ _ _ _ _ _ _ _ _ _ _ _ _ HC.out HF.out EX.out HB.out
  exact AllReadyH.nil
 exact AllReadyH.nil
end Go.Proofs.YteilkbookcmndaaGreatDoor.C
end
section
set_option linter.unusedVariables false
set_option linter.unusedSimpArgs false
namespace Go.Proofs.YteilkbookcmndaaGreatDoor.C
open Go.RowKit Go.Proofs.YteilkbookcmndaaGreatDoor.Q Go.Proofs.YteilkbookcmndaaGreatDoorW.PrintWords Go.Proofs.YteilkbookcmndaaGreatDoorW.PrintLast Go.Proofs.YteilkbookcmndaaGreatDoorW.PrintMore
attribute [local go_sem ↓] rd_at50 wr_at50 al_at50
attribute [local go_sem] rd50_new wr50_new al50
attribute [local go_sem ↓] rd_at45 wr_at45 rd_at150 wr_at150 rd_at47b wr_at47b rd_at77 wr_at77 rd_at41p wr_at41p
attribute [local go_sem] rd45_new wr45_new rd150_new wr150_new wr47b_new
attribute [local go_sem] max2_mx max_two
theorem results_tct {fn : Func} {p u v : Tmp} {ty : TypeId} (h : fn.results = #[.tmp u, .cell p ty, .tmp v]) (tmps : Array Value) (w : World) (g : Nat) (t : TypeId) (cs : Array Value) (fr : Nat × Nat) (d : TypeDesc)
  (hp : tmps.getD p undef = .pointer (some ⟨g, 0, none⟩)) (hg : w.heap[g]? = some (.cells cs t fr))
  (hd : (match d with | .struct _ | .array _ _ => true | _ => false) = true) (hu : Tryz.prog.underlying ty = some d) (hi : (Tryz.prog.info? ty).map (·.size) = some cs.size) :
  (results fn tmps).run Tryz.prog w = .ok (.tuple #[tmps.getD u undef, .agg cs, tmps.getD v undef]) w := by
 have hp' : tmps[p]?.getD undef = .pointer (some ⟨g, 0, none⟩) := by simpa using hp
 simp [results, h, hp', asAddr, run_loadVar_row w g t ty cs fr d hg hu (by cases d <;> exact hd) hi]
set_option maxHeartbeats 16000000 in
set_option maxRecDepth 1000000 in
theorem at_c0 (gm : Nat) (op nn off m r1 r2 r3 r4 : Int) (xs : List Int) (gr : Nat) (s0 s1 s2 s3 s4 s5 s6 s7 s8 s9 s10 s11 s12 s13 s14 s15 : Int) (sA : Option Addr) (sn sc : Nat) (hl tb : Bool) (ov : Int) (w : World) (hr : w.heap[gr]? = some (.cells #[.int .i64 s0, .int .i64 s1, .int .i64 s2, .int .i64 s3, .int .i64 s4, .int .i64 s5, .int .i64 s6, .int .i64 s7, .int .i64 s8, .int .i64 s9, .int .i64 s10, .int .i64 s11, .int .i64 s12, .int .i64 s13, .int .i64 s14, .int .i64 s15, .slice sA sn sc, .bool hl, .iface 103 (.pointer (some ⟨gm, 0, none⟩)), .bool tb, .int .i64 ov] 134 (0, 0)))
  (hS : ∀ w1 : World, Below gr w w1 → w1.heap[gr]? = w.heap[gr]? → Calls Tryz.prog 85 #[.pointer (some ⟨gr, 0, none⟩), .int .i64 s4] w1 fun e w' => ∃ A11 c11, e = .returned (.agg #[.slice A11 xs.length c11, .int .i64 m, .int .i64 r1, .int .i64 r2, .int .i64 r3, .int .i64 r4]) ∧ xs.length ≤ c11 ∧ Kd.F (Kd.int .i64) w' (fun j => w1.heap.size < j) A11 xs.length xs ∧ Below w1.heap.size w1 w')
  (hoff : IntKind.i64.wrap (s5 + nn) = off) :
  Calls Tryz.prog 97 #[.pointer (some ⟨gr, 0, none⟩), .agg #[.int .i64 op, .int .i64 0, .int .i64 nn]] w fun e w' => ∃ A11 c11, e = .returned (.tuple #[.agg #[.slice A11 xs.length c11, .int .i64 m, .int .i64 r1, .int .i64 r2, .int .i64 r3, .int .i64 r4], .int .i64 off, .int .i64 (mx s2 s6)]) ∧ xs.length ≤ c11 ∧ Kd.F (Kd.int .i64) w' (fun j => w.heap.size + 1 < j) A11 xs.length xs ∧ Below w.heap.size w w' := by
 have HS := Lib.hid hS
 have ER := Lib.hid hr
 have hgr := blk_lt hr
 clear hS hr
 have HB0 := Lib.hid (below_alloc (below_alloc (Below.refl w.heap.size w) (.cells #[.int .i64 op, .int .i64 0, .int .i64 nn] 77)) (.cells #[.slice none 0 0, .int .i64 0, .int .i64 0, .int .i64 0, .int .i64 0, .int .i64 0] 150))
 have E0 := Lib.hid (blk_alloc (blk_new w (.cells #[.int .i64 op, .int .i64 0, .int .i64 nn] 77)) (.cells #[.slice none 0 0, .int .i64 0, .int .i64 0, .int .i64 0, .int .i64 0, .int .i64 0] 150))
 have E1 := Lib.hid (show ((w.alloc (.cells #[.int .i64 op, .int .i64 0, .int .i64 nn] 77)).alloc (.cells #[.slice none 0 0, .int .i64 0, .int .i64 0, .int .i64 0, .int .i64 0, .int .i64 0] 150)).heap[w.heap.size + 1]? = some (.cells #[.slice none 0 0, .int .i64 0, .int .i64 0, .int .i64 0, .int .i64 0, .int .i64 0] 150) by have := blk_new (w.alloc (.cells #[.int .i64 op, .int .i64 0, .int .i64 nn] 77)) (.cells #[.slice none 0 0, .int .i64 0, .int .i64 0, .int .i64 0, .int .i64 0, .int .i64 0] 150); rwa [World.size_alloc] at this)
 have hz0 : ((w.alloc (.cells #[.int .i64 op, .int .i64 0, .int .i64 nn] 77)).alloc (.cells #[.slice none 0 0, .int .i64 0, .int .i64 0, .int .i64 0, .int .i64 0, .int .i64 0] 150)).heap.size = w.heap.size + 2 := by rw [World.size_alloc, World.size_alloc]
 obtain ⟨V, hV⟩ : ∃ V, V = (w.alloc (.cells #[.int .i64 op, .int .i64 0, .int .i64 nn] 77)).alloc (.cells #[.slice none 0 0, .int .i64 0, .int .i64 0, .int .i64 0, .int .i64 0, .int .i64 0] 150) := ⟨_, rfl⟩
 go_enter Tryz.func97, Tryz.ntmps97
 go_wp2
 rw [← hV] at HB0 E0 E1 hz0 ⊢
 clear hV
 refine at1_0 gm w.heap.size op nn gr s0 s1 s2 s3 s4 s5 s6 s7 s8 s9 s10 s11 s12 s13 s14 s15 sA sn sc hl tb ov _ _ _ _ _ _ _ _ _ _ _ _ _ _ _ _ _ _ _ _ _ _ _ _ _ _ _ _ _ _ _ V _ (blk_below ER.out HB0.out) E0.out ?_
 intro W1 a8 a9 a10 a11 a12 a13 a14 a15 h7 hb
 rw [hz0] at h7
 have E7 := Lib.hid h7
 have HB1 := Lib.hid (below_step HB0.out hb)
 have E0 := Lib.hid (blk_below E0.out hb)
 have E1 := Lib.hid (blk_below E1.out hb)
 have hz1 := blk_lt h7
 clear hb h7
 go_wp2
 try rw [hz0]
 refine at2 gm w.heap.size (w.heap.size + 1) (w.heap.size + 2) op 0 nn s4 s5 s6 off xs m r1 r2 r3 r4 gr s0 s1 s2 s3 s4 s5 s6 s7 s8 s9 s10 s11 s12 s13 s14 s15 sA sn sc hl tb ov #[] _ _ _ _ _ _ _ _ _ _ _ _ _ _ _ _ _ _ _ _ _ _ _ _ _ _ _ _ _ W1 _ (blk_below ER.out HB1.out) E0.out E7.out E1.out ⟨by omega, by omega, by omega⟩ hoff ?_ ?_
 ·refine (HS.out W1.drew (below_low (below_drew1 HB1.out) (Nat.le_of_lt hgr)) (HB1.out.block gr hgr)).mono ?_
  rintro e w' ⟨A11, c11, rfl, hc, hF, hb⟩
  exact ⟨A11, c11, rfl, hc, hF, hb⟩
 intro wa A11 c11 b16 b17 b18 b19 b20 b21 b22 b23 b24 b25 b26 b27 b28 b29 b30 b31 b32 hc hF hX hb
 go_wp2
 refine bodyPost_ret (results_ctt rfl _ _ (w.heap.size + 1) 150 _ (0, 0) _ rfl hX Tryz.underlying150 rfl (by kernel_rfl)) rfl ?_
 exact ⟨A11, c11, rfl, hc, Kd.F_step (Kd.F_mono hF (fun j hj => by omega)) (fun j hj _ => setRow_other _ _ j _ (by omega)), below_setRow (below_step HB1.out hb) (by omega) _⟩
set_option maxHeartbeats 16000000 in
set_option maxRecDepth 1000000 in
theorem at_c1 (gm : Nat) (op nn off m r1 r2 r3 r4 : Int) (xs : List Int) (gr : Nat) (s0 s1 s2 s3 s4 s5 s6 s7 s8 s9 s10 s11 s12 s13 s14 s15 : Int) (sA : Option Addr) (sn sc : Nat) (hl tb : Bool) (ov : Int) (w : World) (hr : w.heap[gr]? = some (.cells #[.int .i64 s0, .int .i64 s1, .int .i64 s2, .int .i64 s3, .int .i64 s4, .int .i64 s5, .int .i64 s6, .int .i64 s7, .int .i64 s8, .int .i64 s9, .int .i64 s10, .int .i64 s11, .int .i64 s12, .int .i64 s13, .int .i64 s14, .int .i64 s15, .slice sA sn sc, .bool hl, .iface 103 (.pointer (some ⟨gm, 0, none⟩)), .bool tb, .int .i64 ov] 134 (0, 0)))
  (hS : ∀ w1 : World, Below gr w w1 → w1.heap[gr]? = w.heap[gr]? → Calls Tryz.prog 85 #[.pointer (some ⟨gr, 0, none⟩), .int .i64 s7] w1 fun e w' => ∃ A11 c11, e = .returned (.agg #[.slice A11 xs.length c11, .int .i64 m, .int .i64 r1, .int .i64 r2, .int .i64 r3, .int .i64 r4]) ∧ xs.length ≤ c11 ∧ Kd.F (Kd.int .i64) w' (fun j => w1.heap.size < j) A11 xs.length xs ∧ Below w1.heap.size w1 w')
  (hoff : IntKind.i64.wrap (s8 + nn) = off) :
  Calls Tryz.prog 97 #[.pointer (some ⟨gr, 0, none⟩), .agg #[.int .i64 op, .int .i64 1, .int .i64 nn]] w fun e w' => ∃ A11 c11, e = .returned (.tuple #[.agg #[.slice A11 xs.length c11, .int .i64 m, .int .i64 r1, .int .i64 r2, .int .i64 r3, .int .i64 r4], .int .i64 off, .int .i64 (mx s2 s9)]) ∧ xs.length ≤ c11 ∧ Kd.F (Kd.int .i64) w' (fun j => w.heap.size + 1 < j) A11 xs.length xs ∧ Below w.heap.size w w' := by
 have HS := Lib.hid hS
 have ER := Lib.hid hr
 have hgr := blk_lt hr
 clear hS hr
 have HB0 := Lib.hid (below_alloc (below_alloc (Below.refl w.heap.size w) (.cells #[.int .i64 op, .int .i64 1, .int .i64 nn] 77)) (.cells #[.slice none 0 0, .int .i64 0, .int .i64 0, .int .i64 0, .int .i64 0, .int .i64 0] 150))
 have E0 := Lib.hid (blk_alloc (blk_new w (.cells #[.int .i64 op, .int .i64 1, .int .i64 nn] 77)) (.cells #[.slice none 0 0, .int .i64 0, .int .i64 0, .int .i64 0, .int .i64 0, .int .i64 0] 150))
 have E1 := Lib.hid (show ((w.alloc (.cells #[.int .i64 op, .int .i64 1, .int .i64 nn] 77)).alloc (.cells #[.slice none 0 0, .int .i64 0, .int .i64 0, .int .i64 0, .int .i64 0, .int .i64 0] 150)).heap[w.heap.size + 1]? = some (.cells #[.slice none 0 0, .int .i64 0, .int .i64 0, .int .i64 0, .int .i64 0, .int .i64 0] 150) by have := blk_new (w.alloc (.cells #[.int .i64 op, .int .i64 1, .int .i64 nn] 77)) (.cells #[.slice none 0 0, .int .i64 0, .int .i64 0, .int .i64 0, .int .i64 0, .int .i64 0] 150); rwa [World.size_alloc] at this)
 have hz0 : ((w.alloc (.cells #[.int .i64 op, .int .i64 1, .int .i64 nn] 77)).alloc (.cells #[.slice none 0 0, .int .i64 0, .int .i64 0, .int .i64 0, .int .i64 0, .int .i64 0] 150)).heap.size = w.heap.size + 2 := by rw [World.size_alloc, World.size_alloc]
 obtain ⟨V, hV⟩ : ∃ V, V = (w.alloc (.cells #[.int .i64 op, .int .i64 1, .int .i64 nn] 77)).alloc (.cells #[.slice none 0 0, .int .i64 0, .int .i64 0, .int .i64 0, .int .i64 0, .int .i64 0] 150) := ⟨_, rfl⟩
 go_enter Tryz.func97, Tryz.ntmps97
 go_wp2
 rw [← hV] at HB0 E0 E1 hz0 ⊢
 clear hV
 refine at1_1 gm w.heap.size op nn gr s0 s1 s2 s3 s4 s5 s6 s7 s8 s9 s10 s11 s12 s13 s14 s15 sA sn sc hl tb ov _ _ _ _ _ _ _ _ _ _ _ _ _ _ _ _ _ _ _ _ _ _ _ _ _ _ _ _ _ _ _ V _ (blk_below ER.out HB0.out) E0.out ?_
 intro W1 a8 a9 a10 a11 a12 a13 a14 a15 h7 hb
 rw [hz0] at h7
 have E7 := Lib.hid h7
 have HB1 := Lib.hid (below_step HB0.out hb)
 have E0 := Lib.hid (blk_below E0.out hb)
 have E1 := Lib.hid (blk_below E1.out hb)
 have hz1 := blk_lt h7
 clear hb h7
 go_wp2
 try rw [hz0]
 refine at2 gm w.heap.size (w.heap.size + 1) (w.heap.size + 2) op 1 nn s7 s8 s9 off xs m r1 r2 r3 r4 gr s0 s1 s2 s3 s4 s5 s6 s7 s8 s9 s10 s11 s12 s13 s14 s15 sA sn sc hl tb ov #[] _ _ _ _ _ _ _ _ _ _ _ _ _ _ _ _ _ _ _ _ _ _ _ _ _ _ _ _ _ W1 _ (blk_below ER.out HB1.out) E0.out E7.out E1.out ⟨by omega, by omega, by omega⟩ hoff ?_ ?_
 ·refine (HS.out W1.drew (below_low (below_drew1 HB1.out) (Nat.le_of_lt hgr)) (HB1.out.block gr hgr)).mono ?_
  rintro e w' ⟨A11, c11, rfl, hc, hF, hb⟩
  exact ⟨A11, c11, rfl, hc, hF, hb⟩
 intro wa A11 c11 b16 b17 b18 b19 b20 b21 b22 b23 b24 b25 b26 b27 b28 b29 b30 b31 b32 hc hF hX hb
 go_wp2
 refine bodyPost_ret (results_ctt rfl _ _ (w.heap.size + 1) 150 _ (0, 0) _ rfl hX Tryz.underlying150 rfl (by kernel_rfl)) rfl ?_
 exact ⟨A11, c11, rfl, hc, Kd.F_step (Kd.F_mono hF (fun j hj => by omega)) (fun j hj _ => setRow_other _ _ j _ (by omega)), below_setRow (below_step HB1.out hb) (by omega) _⟩
theorem cell_other (W : World) (g : Nat) (a : Addr) (h : a.block ≠ g) (cs : Array Value) : (W.setRow g cs).cell? a = W.cell? a := by
 unfold World.cell?
 rw [setRow_other W g a.block cs h]
set_option maxHeartbeats 16000000 in
set_option maxRecDepth 1000000 in
theorem rd4 (gr g3 g5 n c11 o : Nat) (wd : Addr) (m r1 r2 r3 r4 by_ x : Int) (u1 u2 u3 u4 u6 u10 u11 u12 u13 u14 u15 u16 u17 u18 u19 u20 u21 u22 u23 u24 u25 u26 u27 u28 u29 u30 u31 u32 u33 u34 u35 u36 u37 u38 : Value) (W : World) (Q : Exit → Act → World → Prop)
  (h3 : W.heap[g3]? = some (.cells #[.slice (some wd) n c11, .int .i64 m, .int .i64 r1, .int .i64 r2, .int .i64 r3, .int .i64 r4] 150 (0, 0))) (h5 : W.heap[g5]? = some (.cells #[.slice none 0 0, .int .i64 0, .int .i64 0, .int .i64 0, .int .i64 0, .int .i64 0] 150 (0, 0))) (hn : g3 ≠ g5) (hwn : wd.block ≠ g5) (hw : W.cell? (wd.add o) = some (.int .i64 x)) (ho : o < n) (hcc : n ≤ c11) (hnn : n < 1000000)
  (hpost : ∀ (t32 t33 t34 t35 t36 t37 t38 : Value), (W.drew.setRow g5 #[.slice (some wd) n c11, .int .i64 m, .int .i64 r1, .int .i64 r2, .int .i64 r3, .int .i64 r4]).heap[g5]? = some (.cells #[.slice (some wd) n c11, .int .i64 m, .int .i64 r1, .int .i64 r2, .int .i64 r3, .int .i64 r4] 150 (0, 0)) → Q .normal ⟨#[.pointer (some ⟨gr, 0, none⟩), u1, u2, u3, .int .i64 x, .pointer (some ⟨g5, 0, none⟩), .int .i64 by_, .pointer (some ⟨g3, 0, none⟩), .int .i64 (o : Int), .int .i64 by_, u10, u11, u12, u13, u14, u15, u16, u17, u18, u19, u20, u21, u22, u23, u24, u25, u26, u27, u28, u29, u30, u31, t32, t33, t34, t35, t36, t37, t38], []⟩ (W.drew.setRow g5 #[.slice (some wd) n c11, .int .i64 m, .int .i64 r1, .int .i64 r2, .int .i64 r3, .int .i64 r4])) :
  Code.wp Tryz.prog (cReg Tryz.f73 4) Q ⟨#[.pointer (some ⟨gr, 0, none⟩), u1, u2, u3, u4, .pointer (some ⟨g5, 0, none⟩), u6, .pointer (some ⟨g3, 0, none⟩), .int .i64 (o : Int), .int .i64 by_, u10, u11, u12, u13, u14, u15, u16, u17, u18, u19, u20, u21, u22, u23, u24, u25, u26, u27, u28, u29, u30, u31, u32, u33, u34, u35, u36, u37, u38], []⟩ W := by
 have HPO := Lib.hid hpost
 have E3 := Lib.hid h3
 have E5 := Lib.hid h5
 have EW := Lib.hid hw
 have hwn : (wd.add o).block ≠ g5 := by rw [add_block]; exact hwn
 have ho1 : (0 : Int) ≤ (o : Int) := by omega
 have ho2 : (o : Int) < (n : Int) := by omega
 clear h3 h5 hw hpost
 have HB := Lib.hid (below_drew1 (Below.refl W.heap.size W))
 conv => arg 2; whnf
 refine wp_region_noPanic ?_
 refine wp_region_held_drew (S := fun W1 => W1.cell? ⟨g3, 0, none⟩ = some (.slice (some wd) n c11) ∧ W1.cell? (wd.add o) = some (.int .i64 x) ∧ (rdS 150 (.pointer (some ⟨g3, 0, none⟩))).run Tryz.prog W1 = .ok (.agg #[.slice (some wd) n c11, .int .i64 m, .int .i64 r1, .int .i64 r2, .int .i64 r3, .int .i64 r4]) W1) (by kernel_rfl) ?_ (fun hHeld => ?_)
 focus ((try dsimp only); first | exact ⟨(blk_cell (blk_drew E3.out) 0).trans rfl, EW.out, rd150_blk (blk_drew E3.out) rfl⟩ | exact ⟨(blk_cell E3.out 0).trans rfl, EW.out, rd150_blk E3.out rfl⟩)
 refine tk 0 32 (v := ?_) rfl rfl (by kernel_rfl) rfl ?_ (by assumption) ?_; rotate_left; focus (intro w hSw; go_simp; try with_reducible rfl)
 try simp only [Act.put, List.setIfInBounds_toArray, List.set_cons_zero, List.set_cons_succ]
 refine tk 1 33 (v := ?_) rfl rfl (by kernel_rfl) rfl ?_ (by assumption) ?_; rotate_left; focus (intro w hSw; go_simp; try with_reducible rfl)
 try simp only [Act.put, List.setIfInBounds_toArray, List.set_cons_zero, List.set_cons_succ]
 refine tk 2 34 (v := ?_) rfl rfl (by kernel_rfl) rfl ?_ (by assumption) ?_; rotate_left; focus (intro w hSw; go_simp; try with_reducible rfl)
 try simp only [Act.put, List.setIfInBounds_toArray, List.set_cons_zero, List.set_cons_succ]
 refine tk 3 35 (v := ?_) rfl rfl (by kernel_rfl) rfl ?_ (by assumption) ?_; rotate_left; focus (intro w hSw; go_simp; try with_reducible rfl)
 try simp only [Act.put, List.setIfInBounds_toArray, List.set_cons_zero, List.set_cons_succ]
 refine tk 4 36 (v := ?_) rfl rfl (by kernel_rfl) rfl ?_ (by assumption) ?_; rotate_left; focus (intro w hSw; go_simp; try with_reducible rfl)
 try simp only [Act.put, List.setIfInBounds_toArray, List.set_cons_zero, List.set_cons_succ]
 refine tk 5 37 (v := ?_) rfl rfl (by kernel_rfl) rfl ?_ (by assumption) ?_; rotate_left; focus (intro w hSw; go_simp; try with_reducible rfl)
 try simp only [Act.put, List.setIfInBounds_toArray, List.set_cons_zero, List.set_cons_succ]
 refine tk 6 38 (v := ?_) rfl rfl (by kernel_rfl) rfl ?_ (by assumption) ?_; rotate_left; focus (intro w hSw; go_simp; try with_reducible rfl)
 try simp only [Act.put, List.setIfInBounds_toArray, List.set_cons_zero, List.set_cons_succ]
 refine tk 7 4 (v := ?_) rfl rfl (by kernel_rfl) rfl ?_ (by assumption) ?_; rotate_left; focus (intro w hSw; go_simp; try with_reducible rfl)
 try simp only [Act.put, List.setIfInBounds_toArray, List.set_cons_zero, List.set_cons_succ]
 refine wpAnyH_ready (rs := [8]) (by kernel_rfl) (by simp) ?_
 refine AllReadyH.cons rfl (fun K hK => ?_) ?_
 ·have hst := wr150_blk (cs := #[.slice (some wd) n c11, .int .i64 m, .int .i64 r1, .int .i64 r2, .int .i64 r3, .int .i64 r4]) (blk_drew E5.out) rfl rfl (by simp [Value.oneCell'])
  have EX := Lib.hid (setRow_heap _ _ _ (#[.slice (some wd) n c11, .int .i64 m, .int .i64 r1, .int .i64 r2, .int .i64 r3, .int .i64 r4] : Array Value) _ _ (blk_drew E5.out))
  have E3 := Lib.hid (show (World.setRow W.drew g5 #[.slice (some wd) n c11, .int .i64 m, .int .i64 r1, .int .i64 r2, .int .i64 r3, .int .i64 r4]).heap[g3]? = _ from (setRow_other _ _ g3 _ hn).trans E3.out)
  have EW := Lib.hid (show (World.setRow W.drew g5 #[.slice (some wd) n c11, .int .i64 m, .int .i64 r1, .int .i64 r2, .int .i64 r3, .int .i64 r4]).cell? (wd.add o) = _ from (cell_other _ _ _ hwn _).trans EW.out)
  go_simp
  refine hK.out _ _ ?_ (fun hHeld => ?_)
  focus ((try dsimp only); first | exact ⟨(blk_cell (blk_drew E3.out) 0).trans rfl, EW.out, rd150_blk (blk_drew E3.out) rfl⟩ | exact ⟨(blk_cell E3.out 0).trans rfl, EW.out, rd150_blk E3.out rfl⟩)
  clear hK K
  refine tk 9 6 (v := ?_) rfl rfl (by kernel_rfl) rfl ?_ (by assumption) ?_; rotate_left; focus (intro w hSw; go_simp; try with_reducible rfl)
  try simp only [Act.put, List.setIfInBounds_toArray, List.set_cons_zero, List.set_cons_succ]
  refine wpAnyH_done (by kernel_rfl) ?_ _
  refine NoPanic.normal ?_
  exact HPO.out _ _ _ _ _ _ _ EX.out
 exact AllReadyH.nil
theorem F_block {W : World} {ok : Nat → Prop} {wd : Addr} {xs : List Int} (h : Kd.F (Kd.int .i64) W ok (some wd) xs.length xs) (hn : 0 < xs.length) : ok wd.block := by
 refine Classical.byContradiction fun hno => ?_
 obtain ⟨W', h1, h2⟩ := Kd.emptied W wd.block
 have hC := h W' (fun k hk _ => h1 k (fun e => hno (e ▸ hk)))
 obtain ⟨wd', e, hc⟩ := word_at hC 0 hn
 cases e
 rw [h2 (wd.add 0) (add_block _ _)] at hc
 cases hc
theorem below_join2 {B : Nat} {w w1 w2 : World} (h : Below B w w1) (h2 : Below B w1 w2) : Below B w w2 := below_join h h2 (Nat.le_refl _)
set_option maxHeartbeats 16000000 in
set_option maxRecDepth 1000000 in
theorem read_c0 (gm : Nat) (op nn m r1 r2 r3 r4 : Int) (o : Nat) (xs : List Int) (gr : Nat) (s0 s1 s2 s3 s4 s5 s6 s7 s8 s9 s10 s11 s12 s13 s14 s15 : Int) (sA : Option Addr) (sn sc : Nat) (hl tb : Bool) (ov : Int) (w : World) (hr : w.heap[gr]? = some (.cells #[.int .i64 s0, .int .i64 s1, .int .i64 s2, .int .i64 s3, .int .i64 s4, .int .i64 s5, .int .i64 s6, .int .i64 s7, .int .i64 s8, .int .i64 s9, .int .i64 s10, .int .i64 s11, .int .i64 s12, .int .i64 s13, .int .i64 s14, .int .i64 s15, .slice sA sn sc, .bool hl, .iface 103 (.pointer (some ⟨gm, 0, none⟩)), .bool tb, .int .i64 ov] 134 (0, 0)))
    (hS : ∀ w1 : World, Below gr w w1 → w1.heap[gr]? = w.heap[gr]? → Calls Tryz.prog 85 #[.pointer (some ⟨gr, 0, none⟩), .int .i64 s4] w1 fun e w' => ∃ A11 c11, e = .returned (.agg #[.slice A11 xs.length c11, .int .i64 m, .int .i64 r1, .int .i64 r2, .int .i64 r3, .int .i64 r4]) ∧ xs.length ≤ c11 ∧ Kd.F (Kd.int .i64) w' (fun j => w1.heap.size < j) A11 xs.length xs ∧ Below w1.heap.size w1 w')
    (hoff : IntKind.i64.wrap (s5 + nn) = (o : Int)) (hm1 : bits .and .i64 m 1 = 1) (hme : PProcLimits.ring_MayRead.f r1 r2 r3 r4 (mx s2 s6) = some true) (ho : o < xs.length) (hxl : xs.length < 1000000) :
    Calls Tryz.prog 73 #[.pointer (some ⟨gr, 0, none⟩), .agg #[.int .i64 op, .int .i64 0, .int .i64 nn]] w fun e w' => ∃ v2 v3, e = .returned (.tuple #[.int .i64 (xs.getD o 0), v2, v3]) ∧ Below w.heap.size w w' := by
  have HS := Lib.hid hS
  have ER := Lib.hid hr
  have hgr := blk_lt hr
  clear hS hr
  have HB0 := Lib.hid (below_alloc (below_alloc (Below.refl w.heap.size w) (.cells #[.int .i64 op, .int .i64 0, .int .i64 nn] 77)) (.cells #[.slice none 0 0, .int .i64 0, .int .i64 0, .int .i64 0, .int .i64 0, .int .i64 0] 150))
  have E1 := Lib.hid (show ((w.alloc (.cells #[.int .i64 op, .int .i64 0, .int .i64 nn] 77)).alloc (.cells #[.slice none 0 0, .int .i64 0, .int .i64 0, .int .i64 0, .int .i64 0, .int .i64 0] 150)).heap[w.heap.size + 1]? = some (.cells #[.slice none 0 0, .int .i64 0, .int .i64 0, .int .i64 0, .int .i64 0, .int .i64 0] 150) by have := blk_new (w.alloc (.cells #[.int .i64 op, .int .i64 0, .int .i64 nn] 77)) (.cells #[.slice none 0 0, .int .i64 0, .int .i64 0, .int .i64 0, .int .i64 0, .int .i64 0] 150); rwa [World.size_alloc] at this)
  have hz0 : ((w.alloc (.cells #[.int .i64 op, .int .i64 0, .int .i64 nn] 77)).alloc (.cells #[.slice none 0 0, .int .i64 0, .int .i64 0, .int .i64 0, .int .i64 0, .int .i64 0] 150)).heap.size = w.heap.size + 2 := by rw [World.size_alloc, World.size_alloc]
  go_enter Tryz.func73, Tryz.ntmps73
  have hrd := rd77_blk (blk_alloc (blk_new w (.cells #[.int .i64 op, .int .i64 0, .int .i64 nn] 77)) (.cells #[.slice none 0 0, .int .i64 0, .int .i64 0, .int .i64 0, .int .i64 0, .int .i64 0] 150)) rfl
  go_wp2_with (first
    | (go_at_call 97; refine (at_c0 gm op nn (o : Int) m r1 r2 r3 r4 xs gr s0 s1 s2 s3 s4 s5 s6 s7 s8 s9 s10 s11 s12 s13 s14 s15 sA sn sc hl tb ov _ (blk_below ER.out HB0.out) (fun w1 hb1 hg1 => HS.out w1 (below_join2 (below_low HB0.out (Nat.le_of_lt hgr)) hb1) (hg1.trans (HB0.out.block gr hgr))) hoff).mono ?_; rintro e w1 ⟨A11, c11, rfl, hc, hF, hb⟩; have HB1 := Lib.hid (below_step HB0.out hb); have HF := Lib.hid (Kd.F_mono hF (ok' := fun j => w.heap.size + 1 < j) (fun j hj => by rw [hz0] at hj; omega)); have E1 := Lib.hid (blk_below E1.out hb); have hs1 : w.heap.size + 2 ≤ w1.heap.size := by have := hb.size; rw [hz0] at this; exact this
       clear hb hF)
    | (go_at_call 98; refine (PProcLimits.ring_MayRead.calls r1 r2 r3 r4 (mx s2 s6) true _ hme).mono ?_; rintro e w2 ⟨rfl, hb⟩; have E3 := Lib.hid (blk_below (blk_new w1 (.cells #[.slice A11 xs.length c11, .int .i64 m, .int .i64 r1, .int .i64 r2, .int .i64 r3, .int .i64 r4] 150)) hb); have hrd3 := rd150_blk E3.out rfl; have E1 := Lib.hid (blk_below (blk_alloc E1.out (.cells #[.slice A11 xs.length c11, .int .i64 m, .int .i64 r1, .int .i64 r2, .int .i64 r3, .int .i64 r4] 150)) hb); have HF := Lib.hid (Kd.F_below (Kd.F_alloc HF.out (.cells #[.slice A11 xs.length c11, .int .i64 m, .int .i64 r1, .int .i64 r2, .int .i64 r3, .int .i64 r4] 150)) hb); have HB2 := Lib.hid (below_step (below_alloc HB1.out (.cells #[.slice A11 xs.length c11, .int .i64 m, .int .i64 r1, .int .i64 r2, .int .i64 r3, .int .i64 r4] 150)) hb); clear hb)
    | (go_at_call 87; refine (PProcLimits.cpu_in.calls A11 c11 xs m r1 r2 r3 r4 (o : Int) true _ (Kd.F_now HF.out) hc (by show (if (o : Int) ≥ 0 then some (decide ((o : Int) < (xs.length : Int))) else some false) = some true; rw [if_pos (by omega), decide_eq_true (by omega)])).mono ?_; rintro e w3 ⟨rfl, hb⟩; have E3 := Lib.hid (blk_below E3.out hb); have E1 := Lib.hid (blk_below E1.out hb); have HF := Lib.hid (Kd.F_below HF.out hb); have HB3 := Lib.hid (below_step HB2.out hb); clear hb)
    | (go_at_call 77; refine (must_t _ _).mono ?_; rintro e wb ⟨rfl, hwb⟩; subst hwb))
  obtain ⟨wd, rfl, hwd⟩ := word_at (Kd.F_now HF.out) o ho
  have hwb : wd.block ≠ w.heap.size + 1 := fun h => by have h2 := F_block HF.out (by omega); omega
  refine rd4 gr w1.heap.size (w.heap.size + 1) xs.length c11 o wd m r1 r2 r3 r4 (mx s2 s6) (xs.getD o 0) _ _ _ _ _ _ _ _ _ _ _ _ _ _ _ _ _ _ _ _ _ _ _ _ _ _ _ _ _ _ _ _ _ _ _ _ E3.out E1.out (by omega) hwb hwd ho hc hxl ?_
  intro b32 b33 b34 b35 b36 b37 b38 hX
  go_wp2
  refine bodyPost_ret (results_tct rfl _ _ (w.heap.size + 1) 150 _ (0, 0) _ rfl hX rfl Tryz.underlying150 (by kernel_rfl)) rfl ?_
  exact ⟨_, _, rfl, below_setRow (below_drew1 HB3.out) (by omega) _⟩
set_option maxHeartbeats 16000000 in
set_option maxRecDepth 1000000 in
theorem read_c1 (gm : Nat) (op nn m r1 r2 r3 r4 : Int) (o : Nat) (xs : List Int) (gr : Nat) (s0 s1 s2 s3 s4 s5 s6 s7 s8 s9 s10 s11 s12 s13 s14 s15 : Int) (sA : Option Addr) (sn sc : Nat) (hl tb : Bool) (ov : Int) (w : World) (hr : w.heap[gr]? = some (.cells #[.int .i64 s0, .int .i64 s1, .int .i64 s2, .int .i64 s3, .int .i64 s4, .int .i64 s5, .int .i64 s6, .int .i64 s7, .int .i64 s8, .int .i64 s9, .int .i64 s10, .int .i64 s11, .int .i64 s12, .int .i64 s13, .int .i64 s14, .int .i64 s15, .slice sA sn sc, .bool hl, .iface 103 (.pointer (some ⟨gm, 0, none⟩)), .bool tb, .int .i64 ov] 134 (0, 0)))
    (hS : ∀ w1 : World, Below gr w w1 → w1.heap[gr]? = w.heap[gr]? → Calls Tryz.prog 85 #[.pointer (some ⟨gr, 0, none⟩), .int .i64 s7] w1 fun e w' => ∃ A11 c11, e = .returned (.agg #[.slice A11 xs.length c11, .int .i64 m, .int .i64 r1, .int .i64 r2, .int .i64 r3, .int .i64 r4]) ∧ xs.length ≤ c11 ∧ Kd.F (Kd.int .i64) w' (fun j => w1.heap.size < j) A11 xs.length xs ∧ Below w1.heap.size w1 w')
    (hoff : IntKind.i64.wrap (s8 + nn) = (o : Int)) (hm1 : bits .and .i64 m 1 = 1) (hme : PProcLimits.ring_MayRead.f r1 r2 r3 r4 (mx s2 s9) = some true) (ho : o < xs.length) (hxl : xs.length < 1000000) :
    Calls Tryz.prog 73 #[.pointer (some ⟨gr, 0, none⟩), .agg #[.int .i64 op, .int .i64 1, .int .i64 nn]] w fun e w' => ∃ v2 v3, e = .returned (.tuple #[.int .i64 (xs.getD o 0), v2, v3]) ∧ Below w.heap.size w w' := by
  have HS := Lib.hid hS
  have ER := Lib.hid hr
  have hgr := blk_lt hr
  clear hS hr
  have HB0 := Lib.hid (below_alloc (below_alloc (Below.refl w.heap.size w) (.cells #[.int .i64 op, .int .i64 1, .int .i64 nn] 77)) (.cells #[.slice none 0 0, .int .i64 0, .int .i64 0, .int .i64 0, .int .i64 0, .int .i64 0] 150))
  have E1 := Lib.hid (show ((w.alloc (.cells #[.int .i64 op, .int .i64 1, .int .i64 nn] 77)).alloc (.cells #[.slice none 0 0, .int .i64 0, .int .i64 0, .int .i64 0, .int .i64 0, .int .i64 0] 150)).heap[w.heap.size + 1]? = some (.cells #[.slice none 0 0, .int .i64 0, .int .i64 0, .int .i64 0, .int .i64 0, .int .i64 0] 150) by have := blk_new (w.alloc (.cells #[.int .i64 op, .int .i64 1, .int .i64 nn] 77)) (.cells #[.slice none 0 0, .int .i64 0, .int .i64 0, .int .i64 0, .int .i64 0, .int .i64 0] 150); rwa [World.size_alloc] at this)
  have hz0 : ((w.alloc (.cells #[.int .i64 op, .int .i64 1, .int .i64 nn] 77)).alloc (.cells #[.slice none 0 0, .int .i64 0, .int .i64 0, .int .i64 0, .int .i64 0, .int .i64 0] 150)).heap.size = w.heap.size + 2 := by rw [World.size_alloc, World.size_alloc]
  go_enter Tryz.func73, Tryz.ntmps73
  have hrd := rd77_blk (blk_alloc (blk_new w (.cells #[.int .i64 op, .int .i64 1, .int .i64 nn] 77)) (.cells #[.slice none 0 0, .int .i64 0, .int .i64 0, .int .i64 0, .int .i64 0, .int .i64 0] 150)) rfl
  go_wp2_with (first
    | (go_at_call 97; refine (at_c1 gm op nn (o : Int) m r1 r2 r3 r4 xs gr s0 s1 s2 s3 s4 s5 s6 s7 s8 s9 s10 s11 s12 s13 s14 s15 sA sn sc hl tb ov _ (blk_below ER.out HB0.out) (fun w1 hb1 hg1 => HS.out w1 (below_join2 (below_low HB0.out (Nat.le_of_lt hgr)) hb1) (hg1.trans (HB0.out.block gr hgr))) hoff).mono ?_; rintro e w1 ⟨A11, c11, rfl, hc, hF, hb⟩; have HB1 := Lib.hid (below_step HB0.out hb); have HF := Lib.hid (Kd.F_mono hF (ok' := fun j => w.heap.size + 1 < j) (fun j hj => by rw [hz0] at hj; omega)); have E1 := Lib.hid (blk_below E1.out hb); have hs1 : w.heap.size + 2 ≤ w1.heap.size := by have := hb.size; rw [hz0] at this; exact this
       clear hb hF)
    | (go_at_call 98; refine (PProcLimits.ring_MayRead.calls r1 r2 r3 r4 (mx s2 s9) true _ hme).mono ?_; rintro e w2 ⟨rfl, hb⟩; have E3 := Lib.hid (blk_below (blk_new w1 (.cells #[.slice A11 xs.length c11, .int .i64 m, .int .i64 r1, .int .i64 r2, .int .i64 r3, .int .i64 r4] 150)) hb); have hrd3 := rd150_blk E3.out rfl; have E1 := Lib.hid (blk_below (blk_alloc E1.out (.cells #[.slice A11 xs.length c11, .int .i64 m, .int .i64 r1, .int .i64 r2, .int .i64 r3, .int .i64 r4] 150)) hb); have HF := Lib.hid (Kd.F_below (Kd.F_alloc HF.out (.cells #[.slice A11 xs.length c11, .int .i64 m, .int .i64 r1, .int .i64 r2, .int .i64 r3, .int .i64 r4] 150)) hb); have HB2 := Lib.hid (below_step (below_alloc HB1.out (.cells #[.slice A11 xs.length c11, .int .i64 m, .int .i64 r1, .int .i64 r2, .int .i64 r3, .int .i64 r4] 150)) hb); clear hb)
    | (go_at_call 87; refine (PProcLimits.cpu_in.calls A11 c11 xs m r1 r2 r3 r4 (o : Int) true _ (Kd.F_now HF.out) hc (by show (if (o : Int) ≥ 0 then some (decide ((o : Int) < (xs.length : Int))) else some false) = some true; rw [if_pos (by omega), decide_eq_true (by omega)])).mono ?_; rintro e w3 ⟨rfl, hb⟩; have E3 := Lib.hid (blk_below E3.out hb); have E1 := Lib.hid (blk_below E1.out hb); have HF := Lib.hid (Kd.F_below HF.out hb); have HB3 := Lib.hid (below_step HB2.out hb); clear hb)
    | (go_at_call 77; refine (must_t _ _).mono ?_; rintro e wb ⟨rfl, hwb⟩; subst hwb))
  obtain ⟨wd, rfl, hwd⟩ := word_at (Kd.F_now HF.out) o ho
  have hwb : wd.block ≠ w.heap.size + 1 := fun h => by have h2 := F_block HF.out (by omega); omega
  refine rd4 gr w1.heap.size (w.heap.size + 1) xs.length c11 o wd m r1 r2 r3 r4 (mx s2 s9) (xs.getD o 0) _ _ _ _ _ _ _ _ _ _ _ _ _ _ _ _ _ _ _ _ _ _ _ _ _ _ _ _ _ _ _ _ _ _ _ _ E3.out E1.out (by omega) hwb hwd ho hc hxl ?_
  intro b32 b33 b34 b35 b36 b37 b38 hX
  go_wp2
  refine bodyPost_ret (results_tct rfl _ _ (w.heap.size + 1) 150 _ (0, 0) _ rfl hX rfl Tryz.underlying150 (by kernel_rfl)) rfl ?_
  exact ⟨_, _, rfl, below_setRow (below_drew1 HB3.out) (by omega) _⟩
set_option maxHeartbeats 16000000 in
set_option maxRecDepth 1000000 in
theorem do_lda0 (gm : Nat) (nn m r1 r2 r3 r4 x : Int) (o : Nat) (xs : List Int) (gr : Nat) (s0 s1 s2 s3 s4 s5 s6 s7 s8 s9 s10 s11 s12 s13 s14 s15 : Int) (sA : Option Addr) (sn sc : Nat) (hl tb : Bool) (ov : Int) (w : World) (hr : w.heap[gr]? = some (.cells #[.int .i64 s0, .int .i64 s1, .int .i64 s2, .int .i64 s3, .int .i64 s4, .int .i64 s5, .int .i64 s6, .int .i64 s7, .int .i64 s8, .int .i64 s9, .int .i64 s10, .int .i64 s11, .int .i64 s12, .int .i64 s13, .int .i64 s14, .int .i64 s15, .slice sA sn sc, .bool hl, .iface 103 (.pointer (some ⟨gm, 0, none⟩)), .bool tb, .int .i64 ov] 134 (0, 0)))
  (hS : ∀ w1 : World, Below gr w w1 → w1.heap[gr]? = w.heap[gr]? → Calls Tryz.prog 85 #[.pointer (some ⟨gr, 0, none⟩), .int .i64 s4] w1 fun e w' => ∃ A11 c11, e = .returned (.agg #[.slice A11 xs.length c11, .int .i64 m, .int .i64 r1, .int .i64 r2, .int .i64 r3, .int .i64 r4]) ∧ xs.length ≤ c11 ∧ Kd.F (Kd.int .i64) w' (fun j => w1.heap.size < j) A11 xs.length xs ∧ Below w1.heap.size w1 w')
  (hoff : IntKind.i64.wrap (s5 + nn) = (o : Int)) (hm1 : bits .and .i64 m 1 = 1) (hme : PProcLimits.ring_MayRead.f r1 r2 r3 r4 (mx s2 s6) = some true) (ho : o < xs.length) (hx : xs.getD o 0 = x) (hxl : xs.length < 1000000) :
  Calls Tryz.prog 53 #[.pointer (some ⟨gr, 0, none⟩), .agg #[.int .i64 1, .int .i64 0, .int .i64 nn]] w fun e w' => e = .returned (.tuple #[]) ∧ w'.heap[gr]? = some (.cells #[.int .i64 s0, .int .i64 s1, .int .i64 s2, .int .i64 x, .int .i64 s4, .int .i64 s5, .int .i64 s6, .int .i64 s7, .int .i64 s8, .int .i64 s9, .int .i64 s10, .int .i64 s11, .int .i64 s12, .int .i64 s13, .int .i64 s14, .int .i64 s15, .slice sA sn sc, .bool hl, .iface 103 (.pointer (some ⟨gm, 0, none⟩)), .bool tb, .int .i64 ov] 134 (0, 0)) ∧ Below gr w w' := by
 have HS := Lib.hid hS
 have ER := Lib.hid hr
 have hgr := blk_lt hr
 have HB0 := Lib.hid (below_alloc (Below.refl w.heap.size w) (.cells #[.int .i64 1, .int .i64 0, .int .i64 nn] 77))
 have hrd := rd77_blk (blk_new w (.cells #[.int .i64 1, .int .i64 0, .int .i64 nn] 77)) rfl
 have HX := Lib.hid hx
 clear hS hr hx
 go_enter Tryz.func53, Tryz.ntmps53
 go_wp2_with (go_at_call 73; refine (read_c0 gm 1 nn m r1 r2 r3 r4 o xs gr s0 s1 s2 s3 s4 s5 s6 s7 s8 s9 s10 s11 s12 s13 s14 s15 sA sn sc hl tb ov _ (blk_below ER.out HB0.out) (fun w1 hb1 hg1 => HS.out w1 (below_join2 (below_low HB0.out (Nat.le_of_lt hgr)) hb1) (hg1.trans (HB0.out.block gr hgr))) hoff hm1 hme ho hxl).mono ?_; rintro e w1 ⟨v2, v3, he, hb⟩; rw [HX.out] at he; subst he; have HB1 := Lib.hid (below_step HB0.out hb); have ER1 := Lib.hid (blk_below ER.out HB1.out); have q3 := (blk_cell ER1.out 3).trans rfl; have z3 := blk_frozen ER1.out 3; clear hb)
 first | go_end0 | refine bodyPost_ret (results_none rfl _ _ _) rfl ?_
 exact ⟨rfl, blk_put ER1.out 3 _ rfl, (below_low HB1.out (Nat.le_of_lt hgr)).setCell (p := ⟨gr, 3, none⟩) (Nat.le_refl _) _⟩
set_option maxHeartbeats 16000000 in
set_option maxRecDepth 1000000 in
theorem do_lda1 (gm : Nat) (nn m r1 r2 r3 r4 x : Int) (o : Nat) (xs : List Int) (gr : Nat) (s0 s1 s2 s3 s4 s5 s6 s7 s8 s9 s10 s11 s12 s13 s14 s15 : Int) (sA : Option Addr) (sn sc : Nat) (hl tb : Bool) (ov : Int) (w : World) (hr : w.heap[gr]? = some (.cells #[.int .i64 s0, .int .i64 s1, .int .i64 s2, .int .i64 s3, .int .i64 s4, .int .i64 s5, .int .i64 s6, .int .i64 s7, .int .i64 s8, .int .i64 s9, .int .i64 s10, .int .i64 s11, .int .i64 s12, .int .i64 s13, .int .i64 s14, .int .i64 s15, .slice sA sn sc, .bool hl, .iface 103 (.pointer (some ⟨gm, 0, none⟩)), .bool tb, .int .i64 ov] 134 (0, 0)))
  (hS : ∀ w1 : World, Below gr w w1 → w1.heap[gr]? = w.heap[gr]? → Calls Tryz.prog 85 #[.pointer (some ⟨gr, 0, none⟩), .int .i64 s7] w1 fun e w' => ∃ A11 c11, e = .returned (.agg #[.slice A11 xs.length c11, .int .i64 m, .int .i64 r1, .int .i64 r2, .int .i64 r3, .int .i64 r4]) ∧ xs.length ≤ c11 ∧ Kd.F (Kd.int .i64) w' (fun j => w1.heap.size < j) A11 xs.length xs ∧ Below w1.heap.size w1 w')
  (hoff : IntKind.i64.wrap (s8 + nn) = (o : Int)) (hm1 : bits .and .i64 m 1 = 1) (hme : PProcLimits.ring_MayRead.f r1 r2 r3 r4 (mx s2 s9) = some true) (ho : o < xs.length) (hx : xs.getD o 0 = x) (hxl : xs.length < 1000000) :
  Calls Tryz.prog 53 #[.pointer (some ⟨gr, 0, none⟩), .agg #[.int .i64 1, .int .i64 1, .int .i64 nn]] w fun e w' => e = .returned (.tuple #[]) ∧ w'.heap[gr]? = some (.cells #[.int .i64 s0, .int .i64 s1, .int .i64 s2, .int .i64 x, .int .i64 s4, .int .i64 s5, .int .i64 s6, .int .i64 s7, .int .i64 s8, .int .i64 s9, .int .i64 s10, .int .i64 s11, .int .i64 s12, .int .i64 s13, .int .i64 s14, .int .i64 s15, .slice sA sn sc, .bool hl, .iface 103 (.pointer (some ⟨gm, 0, none⟩)), .bool tb, .int .i64 ov] 134 (0, 0)) ∧ Below gr w w' := by
 have HS := Lib.hid hS
 have ER := Lib.hid hr
 have hgr := blk_lt hr
 have HB0 := Lib.hid (below_alloc (Below.refl w.heap.size w) (.cells #[.int .i64 1, .int .i64 1, .int .i64 nn] 77))
 have hrd := rd77_blk (blk_new w (.cells #[.int .i64 1, .int .i64 1, .int .i64 nn] 77)) rfl
 have HX := Lib.hid hx
 clear hS hr hx
 go_enter Tryz.func53, Tryz.ntmps53
 go_wp2_with (go_at_call 73; refine (read_c1 gm 1 nn m r1 r2 r3 r4 o xs gr s0 s1 s2 s3 s4 s5 s6 s7 s8 s9 s10 s11 s12 s13 s14 s15 sA sn sc hl tb ov _ (blk_below ER.out HB0.out) (fun w1 hb1 hg1 => HS.out w1 (below_join2 (below_low HB0.out (Nat.le_of_lt hgr)) hb1) (hg1.trans (HB0.out.block gr hgr))) hoff hm1 hme ho hxl).mono ?_; rintro e w1 ⟨v2, v3, he, hb⟩; rw [HX.out] at he; subst he; have HB1 := Lib.hid (below_step HB0.out hb); have ER1 := Lib.hid (blk_below ER.out HB1.out); have q3 := (blk_cell ER1.out 3).trans rfl; have z3 := blk_frozen ER1.out 3; clear hb)
 first | go_end0 | refine bodyPost_ret (results_none rfl _ _ _) rfl ?_
 exact ⟨rfl, blk_put ER1.out 3 _ rfl, (below_low HB1.out (Nat.le_of_lt hgr)).setCell (p := ⟨gr, 3, none⟩) (Nat.le_refl _) _⟩
end Go.Proofs.YteilkbookcmndaaGreatDoor.C
end
