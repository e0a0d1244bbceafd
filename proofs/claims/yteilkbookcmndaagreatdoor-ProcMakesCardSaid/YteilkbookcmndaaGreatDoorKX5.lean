/- Texts that the claim's law stands on, cut down to what it reaches. -/
import Derived.Test.YteilkbookcmndaaGreatDoorKX4
import Derived.Deep.RegionHeldLaw
import Derived.Deep.RegionHeld3
import Derived.Deep.LoopGhost
set_option linter.unusedVariables false
set_option linter.unusedSimpArgs false
section
namespace Go.Proofs.YteilkbookcmndaaGreatDoor.C
open Go.RowKit Go.Proofs.YteilkbookcmndaaGreatDoor.Q Go.Proofs.YteilkbookcmndaaGreatDoorW.PrintWords Go.Proofs.YteilkbookcmndaaGreatDoorW.PrintLast Go.Proofs.YteilkbookcmndaaGreatDoorW.PrintMore
attribute [local go_sem ↓] rd_at50 wr_at50 al_at50
attribute [local go_sem] rd50_new wr50_new al50
attribute [local go_sem ↓] rd_at45 wr_at45 rd_at150 wr_at150 rd_at47b wr_at47b rd_at77 wr_at77
attribute [local go_sem] rd45_new wr45_new rd150_new wr150_new wr47b_new wr77_new
theorem below_low {B C : Nat} {w W : World} (h : Below B w W) (hc : C ≤ B) : Below C w W := ⟨h.os, h.tape, h.output, h.size, fun k hk => h.block k (Nat.lt_of_lt_of_le hk hc)⟩
theorem word_at {W : World} {A : Option Addr} {xs : List Int} (hC : Kd.C (Kd.int .i64) W A xs.length xs) (o : Nat) (ho : o < xs.length) : ∃ wd, A = some wd ∧ W.cell? (wd.add o) = some (.int .i64 (xs.getD o 0)) := by
 obtain ⟨_, _, h3⟩ := hC
 obtain ⟨ad, e, hc⟩ := h3 (by omega)
 refine ⟨ad, e, ?_⟩
 obtain ⟨c, k1, k2, k3⟩ := hc o (xs.getD o 0) (by rw [List.getD_eq_getElem?_getD, List.getElem?_eq_getElem ho]; rfl)
 have hk := k3 0 (.int .i64 (xs.getD o 0)) (by rw [k2]; rfl)
 have h1 : (Kd.int .i64).sz = 1 := rfl
 rw [h1, Nat.mul_one] at hk
 simpa using hk
set_option maxHeartbeats 16000000 in
set_option maxRecDepth 1000000 in
theorem fetch_c (gm o : Nat) (m r1 r2 r3 r4 op p nn : Int) (xs : List Int) (gr : Nat) (s0 s2 s3 s4 s5 s6 s7 s8 s9 s10 s11 s12 s13 s14 s15 : Int) (sA : Option Addr) (sn sc : Nat) (hl tb : Bool) (ov : Int) (w : World) (hr : w.heap[gr]? = some (.cells #[.int .i64 s0, .int .i64 (o : Int), .int .i64 s2, .int .i64 s3, .int .i64 s4, .int .i64 s5, .int .i64 s6, .int .i64 s7, .int .i64 s8, .int .i64 s9, .int .i64 s10, .int .i64 s11, .int .i64 s12, .int .i64 s13, .int .i64 s14, .int .i64 s15, .slice sA sn sc, .bool hl, .iface 103 (.pointer (some ⟨gm, 0, none⟩)), .bool tb, .int .i64 ov] 134 (0, 0)))
  (hS : ∀ w1 : World, Below gr w w1 → w1.heap[gr]? = w.heap[gr]? → Calls Tryz.prog 85 #[.pointer (some ⟨gr, 0, none⟩), .int .i64 s0] w1 fun e w' => ∃ A11 c11, e = .returned (.agg #[.slice A11 xs.length c11, .int .i64 m, .int .i64 r1, .int .i64 r2, .int .i64 r3, .int .i64 r4]) ∧ xs.length ≤ c11 ∧ Kd.F (Kd.int .i64) w' (fun j => w1.heap.size < j) A11 xs.length xs ∧ Below w1.heap.size w1 w')
  (hm4 : bits .and .i64 m 4 = 4) (hme : PProcLimits.ring_MayExec.f r1 r2 r3 r4 s2 = some true) (ho : o < xs.length) (hxl : xs.length < 1000000) (hde : PProcLimits.isa_Decode.f (xs.getD o 0) = some (op, p, nn, 0)) :
  Calls Tryz.prog 54 #[.pointer (some ⟨gr, 0, none⟩)] w fun e w' => e = .returned (.agg #[.int .i64 op, .int .i64 p, .int .i64 nn]) ∧ w'.heap[gr]? = some (.cells #[.int .i64 s0, .int .i64 ((o + 1 : Nat) : Int), .int .i64 s2, .int .i64 s3, .int .i64 s4, .int .i64 s5, .int .i64 s6, .int .i64 s7, .int .i64 s8, .int .i64 s9, .int .i64 s10, .int .i64 s11, .int .i64 s12, .int .i64 s13, .int .i64 s14, .int .i64 s15, .slice sA sn sc, .bool hl, .iface 103 (.pointer (some ⟨gm, 0, none⟩)), .bool tb, .int .i64 ov] 134 (0, 0)) ∧ Below gr w w' := by
 have HS := Lib.hid hS
 have ER := Lib.hid hr
 have hgr := blk_lt hr
 clear hS hr
 go_enter Tryz.func54, Tryz.ntmps54
 have HB0 := Lib.hid (below_alloc (Below.refl w.heap.size w) (.cells #[.int .i64 0, .int .i64 0, .int .i64 0] 77))
 have E0 := Lib.hid (blk_new w (.cells #[.int .i64 0, .int .i64 0, .int .i64 0] 77))
 have ER0 := Lib.hid (blk_below ER.out HB0.out)
 have q0 := (blk_cell ER0.out 0).trans rfl
 go_wp2_with (go_at_call 85; refine (HS.out _ (below_low HB0.out (Nat.le_of_lt hgr)) (HB0.out.block gr hgr)).mono ?_; rintro e w1 ⟨A11, c11, rfl, hc, hF, hb⟩; have HB1 := Lib.hid (below_step HB0.out hb); have HF := Lib.hid hF; have hs1 := below_size hb; have E0 := Lib.hid (blk_below E0.out hb); clear hb hF)
 obtain ⟨V, hV⟩ : ∃ V, V = w1.alloc (.cells #[.slice A11 xs.length c11, .int .i64 m, .int .i64 r1, .int .i64 r2, .int .i64 r3, .int .i64 r4] 150) := ⟨_, rfl⟩
 rw [← hV]
 have E3 := Lib.hid (show V.heap[w1.heap.size]? = some (.cells #[.slice A11 xs.length c11, .int .i64 m, .int .i64 r1, .int .i64 r2, .int .i64 r3, .int .i64 r4] 150 (0, 0)) from by rw [hV]; exact blk_new _ _)
 have HBV := Lib.hid (show Below w.heap.size w V from by rw [hV]; exact below_alloc HB1.out _)
 have HFV := Lib.hid (show Kd.F (Kd.int .i64) V _ A11 xs.length xs from by rw [hV]; exact Kd.F_alloc HF.out _)
 have E0 := Lib.hid (show V.heap[w.heap.size]? = some (.cells #[.int .i64 0, .int .i64 0, .int .i64 0] 77) from by rw [hV]; exact blk_alloc E0.out _)
 clear hV
 refine ft2 gm gr s0 (o : Int) s2 s3 s4 s5 s6 s7 s8 s9 s10 s11 s12 s13 s14 s15 sA sn sc hl tb ov w1.heap.size xs.length c11 A11 m r1 r2 r3 r4 _ _ _ _ _ _ _ _ _ _ _ _ _ _ _ _ _ _ _ _ _ _ _ _ _ _ _ _ _ _ _ _ _ _ _ _ _ _ _ _ _ _ _ _ _ _ _ _ _ _ _ _ _ _ _ _ _ _ _ _ V _ E3.out (blk_below ER.out HBV.out) hm4 hme ?_
 intro V2 a13 a14 a15 a16 a17 a18 a19 a20 a21 a22 a23 a24 a25 a26 a27 hb
 have HB2 := Lib.hid (below_step HBV.out hb)
 have E3 := Lib.hid (blk_below E3.out hb)
 have E0 := Lib.hid (blk_below E0.out hb)
 have HF2 := Lib.hid (Kd.F_below HFV.out hb)
 clear hb
 go_wp2
 refine ft3 gm o gr s0 s2 s3 s4 s5 s6 s7 s8 s9 s10 s11 s12 s13 s14 s15 sA sn sc hl tb ov w1.heap.size c11 A11 xs m r1 r2 r3 r4 _ _ _ _ _ _ _ _ _ _ _ _ _ _ _ _ _ _ _ _ _ _ _ _ _ _ _ _ _ _ _ _ _ _ _ _ _ _ _ _ _ _ _ _ _ _ _ _ _ _ _ _ _ _ _ _ _ _ _ _ V2 _ E3.out (blk_below ER.out HB2.out) (Kd.F_now HF2.out) hc ho ?_
 intro V3 b28 b29 b30 b31 b32 b33 b34 b35 hb
 have HB3 := Lib.hid (below_step HB2.out hb)
 have E3 := Lib.hid (blk_below E3.out hb)
 have E0 := Lib.hid (blk_below E0.out hb)
 have HF3 := Lib.hid (Kd.F_below HF2.out hb)
 clear hb
 go_wp2
 obtain ⟨wd, rfl, hwd⟩ := word_at (Kd.F_now HF3.out) o ho
 refine ft4 gm o gr s0 s2 s3 s4 s5 s6 s7 s8 s9 s10 s11 s12 s13 s14 s15 sA sn sc hl tb ov w1.heap.size xs.length c11 wd m r1 r2 r3 r4 (xs.getD o 0) op p nn 0 _ _ _ _ _ _ _ _ _ _ _ _ _ _ _ _ _ _ _ _ _ _ _ _ _ _ _ _ _ _ _ _ _ _ _ _ _ _ _ _ _ _ _ _ _ _ _ _ _ _ _ _ _ _ _ _ _ _ _ _ V3 _ E3.out (blk_below ER.out HB3.out) hwd ho hc hxl hde ?_
 intro g4 V4 c36 c37 c38 c39 c40 c41 c42 c43 c44 c45 c46 c47 c48 hX hg hb
 have HB4 := Lib.hid (below_step HB3.out hb)
 have EX := Lib.hid hX
 have ER4 := Lib.hid (blk_below ER.out HB4.out)
 have E0 := Lib.hid (blk_below E0.out hb)
 have hg4 : w.heap.size ≤ g4 := Nat.le_trans HB3.out.size hg
 have q1 := (blk_cell ER4.out 1).trans rfl
 have z1 := blk_frozen ER4.out 1
 have hne : g4 ≠ gr := by omega
 clear hb hX
 go_wp2_with (go_at_call 77; refine (must_t 36 _).mono ?_; rintro e wb ⟨rfl, rfl⟩; have hrd := rd77_blk (cs := #[.int .i64 op, .int .i64 p, .int .i64 nn]) (blk_far (p := ⟨gr, 1, none⟩) EX.out hne (.int .i64 ((o : Int) + 1))) rfl; have hwr := wr77_blk (cs := #[.int .i64 op, .int .i64 p, .int .i64 nn]) (blk_far (p := ⟨gr, 1, none⟩) E0.out (by show w.heap.size ≠ gr; omega) (.int .i64 ((o : Int) + 1))) rfl rfl (by simp [Value.oneCell']))
 have HZ2 := setRow_heap _ _ _ (#[.int .i64 op, .int .i64 p, .int .i64 nn] : Array Value) _ _ (blk_far (p := ⟨gr, 1, none⟩) E0.out (by show w.heap.size ≠ gr; omega) (.int .i64 ((o : Int) + 1)))
 refine bodyPost_ret (results_cell_row rfl _ _ w.heap.size 77 _ (0, 0) _ rfl HZ2 Tryz.underlying77 rfl (by kernel_rfl)) rfl ?_
 refine ⟨rfl, ?_, ?_⟩
 ·rw [setRow_other _ _ gr _ (by omega)]
  exact blk_put ER4.out 1 _ rfl
 ·exact below_setRow ((below_low HB4.out (Nat.le_of_lt hgr)).setCell (p := ⟨gr, 1, none⟩) (Nat.le_refl _) _) (Nat.le_of_lt hgr) _
set_option maxHeartbeats 16000000 in
set_option maxRecDepth 1000000 in
theorem do_halt (gm : Nat) (p nn : Int) (gr : Nat) (s0 s1 s2 s3 s4 s5 s6 s7 s8 s9 s10 s11 s12 s13 s14 s15 : Int) (sA : Option Addr) (sn sc : Nat) (hl tb : Bool) (ov : Int) (w : World) (hr : w.heap[gr]? = some (.cells #[.int .i64 s0, .int .i64 s1, .int .i64 s2, .int .i64 s3, .int .i64 s4, .int .i64 s5, .int .i64 s6, .int .i64 s7, .int .i64 s8, .int .i64 s9, .int .i64 s10, .int .i64 s11, .int .i64 s12, .int .i64 s13, .int .i64 s14, .int .i64 s15, .slice sA sn sc, .bool hl, .iface 103 (.pointer (some ⟨gm, 0, none⟩)), .bool tb, .int .i64 ov] 134 (0, 0))) :
  Calls Tryz.prog 53 #[.pointer (some ⟨gr, 0, none⟩), .agg #[.int .i64 0, .int .i64 p, .int .i64 nn]] w fun e w' => e = .returned (.tuple #[]) ∧ w'.heap[gr]? = some (.cells #[.int .i64 s0, .int .i64 s1, .int .i64 s2, .int .i64 s3, .int .i64 s4, .int .i64 s5, .int .i64 s6, .int .i64 s7, .int .i64 s8, .int .i64 s9, .int .i64 s10, .int .i64 s11, .int .i64 s12, .int .i64 s13, .int .i64 s14, .int .i64 s15, .slice sA sn sc, .bool true, .iface 103 (.pointer (some ⟨gm, 0, none⟩)), .bool tb, .int .i64 ov] 134 (0, 0)) ∧ Below gr w w' := by
 have ER := Lib.hid hr
 have hgr := blk_lt hr
 have HB0 := Lib.hid (below_alloc (Below.refl w.heap.size w) (.cells #[.int .i64 0, .int .i64 p, .int .i64 nn] 77))
 have ER0 := Lib.hid (blk_below hr HB0.out)
 have q17 := (blk_cell ER0.out 17).trans rfl
 have z17 := blk_frozen ER0.out 17
 clear hr
 go_enter Tryz.func53, Tryz.ntmps53
 go_wp2
 first | go_end0 | refine bodyPost_ret (results_none rfl _ _ _) rfl ?_
 exact ⟨rfl, blk_alloc (blk_put ER.out 17 _ rfl) _, ((Below.refl gr w).setCell (p := ⟨gr, 17, none⟩) (Nat.le_refl _) _).alloc (by rw [World.size_setCell]; omega) _⟩
end Go.Proofs.YteilkbookcmndaaGreatDoor.C
end
