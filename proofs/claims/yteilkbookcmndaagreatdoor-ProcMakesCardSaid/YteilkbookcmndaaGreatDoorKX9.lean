/- Texts that the claim's law stands on, cut down to what it reaches. -/
import Derived.Test.YteilkbookcmndaaGreatDoorKX8
import Derived.Test.YteilkbookcmndaaGreatDoorKR
import Derived.Deep.RegionHeldLaw
import Derived.Deep.RegionHeld3
import Derived.Deep.LoopGhost
set_option linter.unusedVariables false
set_option linter.unusedSimpArgs false
section
namespace Go.Proofs.YteilkbookcmndaaGreatDoor.C
open Go.RowKit Go.Proofs.YteilkbookcmndaaGreatDoor.Q Go.Proofs.YteilkbookcmndaaGreatDoorW.PrintWords Go.Proofs.YteilkbookcmndaaGreatDoorW.PrintLast Go.Proofs.YteilkbookcmndaaGreatDoorW.PrintMore
attribute [local go_sem ↓] rd_at50 wr_at50 al_at50
attribute [local go_sem] rd50_new wr50_new al50
attribute [local go_sem ↓] rd_at45 wr_at45 rd_at150 wr_at150 rd_at47b wr_at47b rd_at77 wr_at77
attribute [local go_sem] rd45_new wr45_new rd150_new wr150_new wr47b_new wr77_new
attribute [local go_sem] max_two
set_option maxHeartbeats 16000000 in
set_option maxRecDepth 1000000 in
theorem rn3 (gs gp tn c cb : Nat) (A B : Option Addr) (u : ByteArray) (a : S41) (t : List S50) (bs : List ByteArray) (pc : Array Value) (u1 u2 u3 u4 u7 u8 u9 u10 u11 u12 u13 u14 u15 u16 u17 u18 u19 u20 u21 u22 u23 u24 u25 u26 u27 u28 u29 u30 u31 u32 u33 u34 u35 u36 u37 u38 u39 u40 u41 u42 u43 u44 u45 u46 u47 u48 u49 u50 u51 u52 u53 u54 u55 u56 u57 u58 u59 u60 u61 u62 u63 u64 u65 u66 u67 u68 u69 u70 u71 u72 u73 u74 u75 u76 u77 u78 u79 u80 u81 u82 u83 u84 u85 u86 u87 u88 u89 u90 u91 u92 u93 : Value) (W : World) (Q : Exit → Act → World → Prop)
  (hs : W.heap[gs]? = some (.cells #[.string u, .int .i64 a.f0, .int .i64 a.f1, .int .i64 a.f2, .int .i64 a.f3] 52 (0, 0))) (hp : W.heap[gp]? = some (.cells pc 47 (0, 0))) (hp0 : pc[0]? = some (.slice B bs.length cb))
  (hD : ∀ w1 : World, Below W.heap.size W w1 → Calls Tryz.prog 32 #[.slice A tn c, .string (⟨#[]⟩ : ByteArray)] w1 fun e w' => ∃ A' c', e = .returned (.slice A' t.length c') ∧ t.length ≤ c' ∧ Kd.F k50 w' (fun k => w1.heap.size ≤ k) A' t.length t ∧ Below w1.heap.size w1 w')
  (hL : ∀ w1 : World, Below W.heap.size W w1 → Calls Tryz.prog 28 #[.slice B bs.length cb] w1 (ClonedC Kd.string w1 bs))
  (hpost : ∀ (gm : Nat) (w' : World) (A1 : Option Addr) (c1 : Nat) (B1 : Option Addr) (b1 : Nat) (t28 t29 t30 t31 t32 t33 t34 t35 : Value), w'.heap[gm]? = some (.cells #[.slice A1 t.length c1, .string u, .int .i64 a.f0, .int .i64 a.f1, .int .i64 a.f2, .int .i64 a.f3, .slice B1 bs.length b1] 105 (0, 0)) → t.length ≤ c1 → Kd.F k50 w' (fun k => W.heap.size ≤ k ∧ k < gm) A1 t.length t → bs.length ≤ b1 → Kd.F Kd.string w' (fun k => W.heap.size ≤ k ∧ k < gm) B1 bs.length bs → W.heap.size ≤ gm → Below W.heap.size W w' → Q .normal ⟨#[.slice A tn c, u1, u2, u3, u4, .pointer (some ⟨gs, 0, none⟩), .pointer (some ⟨gp, 0, none⟩), u7, u8, u9, u10, u11, u12, .pointer (some ⟨gm, 0, none⟩), u14, u15, u16, u17, u18, u19, u20, u21, u22, u23, u24, u25, u26, u27, t28, t29, t30, t31, t32, t33, t34, t35, u36, u37, u38, u39, u40, u41, u42, u43, u44, u45, u46, u47, u48, u49, u50, u51, u52, u53, u54, u55, u56, u57, u58, u59, u60, u61, u62, u63, u64, u65, u66, u67, u68, u69, u70, u71, u72, u73, u74, u75, u76, u77, u78, u79, u80, u81, u82, u83, u84, u85, u86, u87, u88, u89, u90, u91, u92, u93], []⟩ w') :
  Code.wp Tryz.prog (cReg Tryz.f17 3) Q ⟨#[.slice A tn c, u1, u2, u3, u4, .pointer (some ⟨gs, 0, none⟩), .pointer (some ⟨gp, 0, none⟩), u7, u8, u9, u10, u11, u12, u13, u14, u15, u16, u17, u18, u19, u20, u21, u22, u23, u24, u25, u26, u27, u28, u29, u30, u31, u32, u33, u34, u35, u36, u37, u38, u39, u40, u41, u42, u43, u44, u45, u46, u47, u48, u49, u50, u51, u52, u53, u54, u55, u56, u57, u58, u59, u60, u61, u62, u63, u64, u65, u66, u67, u68, u69, u70, u71, u72, u73, u74, u75, u76, u77, u78, u79, u80, u81, u82, u83, u84, u85, u86, u87, u88, u89, u90, u91, u92, u93], []⟩ W := by
 have HPO := Lib.hid hpost
 have ES := Lib.hid hs
 have EP := Lib.hid hp
 have HD := Lib.hid hD
 have HL := Lib.hid hL
 clear hs hp hD hL hpost
 have HB := Lib.hid (below_drew1 (Below.refl W.heap.size W))
 conv => arg 2; whnf
 refine wp_region_noPanic ?_
 refine wp_region_held_drew (S := fun W1 => W1.cell? ⟨gs, 0, none⟩ = some (.string u) ∧ W1.cell? ⟨gs, 1, none⟩ = some (.int .i64 a.f0) ∧ W1.cell? ⟨gs, 2, none⟩ = some (.int .i64 a.f1) ∧ W1.cell? ⟨gs, 3, none⟩ = some (.int .i64 a.f2) ∧ W1.cell? ⟨gs, 4, none⟩ = some (.int .i64 a.f3) ∧ W1.cell? ⟨gp, 0, none⟩ = some (.slice B bs.length cb)) (by kernel_rfl) ?_ (fun hHeld => ?_)
 focus ((try dsimp only); exact ⟨(blk_cell (blk_below ES.out HB.out) 0).trans rfl, (blk_cell (blk_below ES.out HB.out) 1).trans rfl, (blk_cell (blk_below ES.out HB.out) 2).trans rfl, (blk_cell (blk_below ES.out HB.out) 3).trans rfl, (blk_cell (blk_below ES.out HB.out) 4).trans rfl, (blk_cell (blk_below EP.out HB.out) 0).trans hp0⟩)
 refine tq 0 28 ?_ (by assumption)
 refine tq 2 30 ?_ (by assumption)
 refine tq 3 31 ?_ (by assumption)
 refine tq 4 32 ?_ (by assumption)
 refine wpAnyH_ready (rs := [1]) (by kernel_rfl) (by simp) ?_
 refine AllReadyH.cons rfl (fun K hK => ?_) ?_
 ·go_simp
  go_wp2_with (go_at_call 32; refine (HD.out _ HB.out).mono ?_; rintro e wa ⟨A1, c1, rfl, hc, hC, hb⟩; have HC1 := Lib.hid hc; have HCT := Lib.hid (Kd.F_mono hC (ok' := fun k => W.heap.size ≤ k) (fun k hk => hk)); have HB := Lib.hid (below_step HB.out hb); clear hb hC hc)
  refine hK.out _ _ ?_ (fun hHeld => ?_)
  focus ((try dsimp only); exact ⟨(blk_cell (blk_below ES.out HB.out) 0).trans rfl, (blk_cell (blk_below ES.out HB.out) 1).trans rfl, (blk_cell (blk_below ES.out HB.out) 2).trans rfl, (blk_cell (blk_below ES.out HB.out) 3).trans rfl, (blk_cell (blk_below ES.out HB.out) 4).trans rfl, (blk_cell (blk_below EP.out HB.out) 0).trans hp0⟩)
  clear hK K
  refine wpAnyH_ready (rs := [5]) (by kernel_rfl) (by simp) ?_
  refine AllReadyH.cons rfl (fun K hK => ?_) ?_
  ·go_simp
   go_wp2_with (go_at_call 28; refine (HL.out _ HB.out).mono ?_; rintro e wb ⟨B1, b1, rfl, hc, hC, hb⟩; have HC2 := Lib.hid hc; have HCB := Lib.hid (Kd.F_mono hC (ok' := fun k => W.heap.size ≤ k) (fun k hk => Nat.le_trans HB.out.size hk)); have HCT := Lib.hid (Kd.F_below HCT.out hb); have HB := Lib.hid (below_step HB.out hb); clear hb hC hc)
   refine hK.out _ _ ?_ (fun hHeld => ?_)
   focus ((try dsimp only); exact ⟨(blk_cell (blk_below ES.out HB.out) 0).trans rfl, (blk_cell (blk_below ES.out HB.out) 1).trans rfl, (blk_cell (blk_below ES.out HB.out) 2).trans rfl, (blk_cell (blk_below ES.out HB.out) 3).trans rfl, (blk_cell (blk_below ES.out HB.out) 4).trans rfl, (blk_cell (blk_below EP.out HB.out) 0).trans hp0⟩)
   clear hK K
   refine tq 6 34 ?_ (by assumption)
   refine wpAnyH_ready (rs := [7]) (by kernel_rfl) (by simp) ?_
   refine AllReadyH.cons rfl (fun K hK => ?_) ?_
   ·have HGM := Lib.hid HB.out.size
    have HM := Lib.hid (blk_new wb (.cells #[.slice A1 t.length c1, .string u, .int .i64 a.f0, .int .i64 a.f1, .int .i64 a.f2, .int .i64 a.f3, .slice B1 bs.length b1] 105))
    have HCB := Lib.hid (Kd.F_alloc (Kd.F_bound HCB.out) (.cells #[.slice A1 t.length c1, .string u, .int .i64 a.f0, .int .i64 a.f1, .int .i64 a.f2, .int .i64 a.f3, .slice B1 bs.length b1] 105))
    have HCT := Lib.hid (Kd.F_alloc (Kd.F_bound HCT.out) (.cells #[.slice A1 t.length c1, .string u, .int .i64 a.f0, .int .i64 a.f1, .int .i64 a.f2, .int .i64 a.f3, .slice B1 bs.length b1] 105))
    have HB := Lib.hid (below_alloc HB.out (.cells #[.slice A1 t.length c1, .string u, .int .i64 a.f0, .int .i64 a.f1, .int .i64 a.f2, .int .i64 a.f3, .slice B1 bs.length b1] 105))
    go_simp
    refine hK.out _ _ ?_ (fun hHeld => ?_)
    focus ((try dsimp only); exact ⟨(blk_cell (blk_below ES.out HB.out) 0).trans rfl, (blk_cell (blk_below ES.out HB.out) 1).trans rfl, (blk_cell (blk_below ES.out HB.out) 2).trans rfl, (blk_cell (blk_below ES.out HB.out) 3).trans rfl, (blk_cell (blk_below ES.out HB.out) 4).trans rfl, (blk_cell (blk_below EP.out HB.out) 0).trans hp0⟩)
    clear hK K
    refine tq 8 13 ?_ (by assumption)
    refine wpAnyH_done (by kernel_rfl) ?_ _
    refine NoPanic.normal ?_
    exact HPO.out _ _ A1 c1 B1 b1 _ _ _ _ _ _ _ _ HM.out HC1.out HCT.out HC2.out HCB.out HGM.out HB.out
   exact AllReadyH.nil
  exact AllReadyH.nil
 exact AllReadyH.nil
set_option maxHeartbeats 16000000 in
set_option maxRecDepth 1000000 in
theorem rn16 (g9 gm gn t c1 nb b1 : Nat) (A1 B1 : Option Addr) (u : ByteArray) (a : S41) (s0 s1 s2 s3 s4 s5 s6 s7 s8 s9 s10 s11 s12 s13 s14 s15 : Int) (sA : Option Addr) (sn sc : Nat) (hl : Bool) (v : Value) (old : Array Value) (u0 u1 u2 u3 u4 u5 u6 u7 u8 u10 u11 u12 u16 u17 u18 u19 u20 u21 u22 u23 u24 u25 u26 u27 u28 u29 u30 u31 u32 u33 u34 u35 u36 u37 u38 u39 u40 u41 u42 u43 u44 u45 u46 u47 u48 u49 u50 u51 u52 u53 u54 u55 u56 u57 u58 u59 u60 u61 u62 u63 u64 u65 u66 u67 u68 u69 u70 u71 u72 u73 u74 u75 u76 u77 u78 u79 u80 u81 u82 u83 u84 u85 u86 u87 u88 u89 u90 u91 u92 u93 : Value) (W : World) (Q : Exit → Act → World → Prop)
  (hm : W.heap[gm]? = some (.cells #[.slice A1 t c1, .string u, .int .i64 a.f0, .int .i64 a.f1, .int .i64 a.f2, .int .i64 a.f3, .slice B1 nb b1] 105 (0, 0))) (hN : W.heap[gn]? = some (.cells #[.int .i64 s0, .int .i64 s1, .int .i64 s2, .int .i64 s3, .int .i64 s4, .int .i64 s5, .int .i64 s6, .int .i64 s7, .int .i64 s8, .int .i64 s9, .int .i64 s10, .int .i64 s11, .int .i64 s12, .int .i64 s13, .int .i64 s14, .int .i64 s15, .slice sA sn sc, .bool hl] 45 (0, 0))) (h9 : W.heap[g9]? = some (.cells old 47 (0, 0))) (ho9 : old.size = 19) (hn : gm ≠ g9 ∧ gn ≠ g9)
  (hpost : ∀ (t81 t82 t83 t84 t85 t86 t87 t88 t89 t90 t91 t92 t93 : Value), (W.drew.setRow g9 #[.slice B1 nb b1, .int .i64 s0, .int .i64 s1, .int .i64 s2, .int .i64 s3, .int .i64 s4, .int .i64 s5, .int .i64 s6, .int .i64 s7, .int .i64 s8, .int .i64 s9, .int .i64 s10, .int .i64 s11, .int .i64 s12, .int .i64 s13, .int .i64 s14, .int .i64 s15, .slice sA sn sc, .bool hl]).heap[g9]? = some (.cells #[.slice B1 nb b1, .int .i64 s0, .int .i64 s1, .int .i64 s2, .int .i64 s3, .int .i64 s4, .int .i64 s5, .int .i64 s6, .int .i64 s7, .int .i64 s8, .int .i64 s9, .int .i64 s10, .int .i64 s11, .int .i64 s12, .int .i64 s13, .int .i64 s14, .int .i64 s15, .slice sA sn sc, .bool hl] 47 (0, 0)) → Q .normal ⟨#[u0, u1, u2, u3, u4, u5, u6, u7, .slice A1 t c1, .pointer (some ⟨g9, 0, none⟩), v, .bool hl, .int .i64 0, .pointer (some ⟨gm, 0, none⟩), .pointer (some ⟨gn, 0, none⟩), v, u16, u17, u18, u19, u20, u21, u22, u23, u24, u25, u26, u27, u28, u29, u30, u31, u32, u33, u34, u35, u36, u37, u38, u39, u40, u41, u42, u43, u44, u45, u46, u47, u48, u49, u50, u51, u52, u53, u54, u55, u56, u57, u58, u59, u60, u61, u62, u63, u64, u65, u66, u67, u68, u69, u70, u71, u72, u73, u74, u75, u76, u77, u78, u79, u80, t81, t82, t83, t84, t85, t86, t87, t88, t89, t90, t91, t92, t93], []⟩ (W.drew.setRow g9 #[.slice B1 nb b1, .int .i64 s0, .int .i64 s1, .int .i64 s2, .int .i64 s3, .int .i64 s4, .int .i64 s5, .int .i64 s6, .int .i64 s7, .int .i64 s8, .int .i64 s9, .int .i64 s10, .int .i64 s11, .int .i64 s12, .int .i64 s13, .int .i64 s14, .int .i64 s15, .slice sA sn sc, .bool hl])) :
  Code.wp Tryz.prog (cReg Tryz.f17 16) Q ⟨#[u0, u1, u2, u3, u4, u5, u6, u7, u8, .pointer (some ⟨g9, 0, none⟩), u10, u11, u12, .pointer (some ⟨gm, 0, none⟩), .pointer (some ⟨gn, 0, none⟩), v, u16, u17, u18, u19, u20, u21, u22, u23, u24, u25, u26, u27, u28, u29, u30, u31, u32, u33, u34, u35, u36, u37, u38, u39, u40, u41, u42, u43, u44, u45, u46, u47, u48, u49, u50, u51, u52, u53, u54, u55, u56, u57, u58, u59, u60, u61, u62, u63, u64, u65, u66, u67, u68, u69, u70, u71, u72, u73, u74, u75, u76, u77, u78, u79, u80, u81, u82, u83, u84, u85, u86, u87, u88, u89, u90, u91, u92, u93], []⟩ W := by
 have HPO := Lib.hid hpost
 have EM := Lib.hid hm
 have EN := Lib.hid hN
 have E9 := Lib.hid h9
 clear hm hN h9 hpost
 have HB := Lib.hid (below_drew1 (Below.refl W.heap.size W))
 have EM := Lib.hid (blk_drew EM.out)
 have EN := Lib.hid (blk_drew EN.out)
 have E9 := Lib.hid (blk_drew E9.out)
 conv => arg 2; whnf
 refine wp_region_noPanic ?_
 refine wp_region_held_drew (S := fun W1 => W1.cell? ⟨gm, 0, none⟩ = some (.slice A1 t c1) ∧ W1.cell? ⟨gm, 6, none⟩ = some (.slice B1 nb b1) ∧ (rdS 45 (.pointer (some ⟨gn, 0, none⟩))).run Tryz.prog W1 = .ok (.agg #[.int .i64 s0, .int .i64 s1, .int .i64 s2, .int .i64 s3, .int .i64 s4, .int .i64 s5, .int .i64 s6, .int .i64 s7, .int .i64 s8, .int .i64 s9, .int .i64 s10, .int .i64 s11, .int .i64 s12, .int .i64 s13, .int .i64 s14, .int .i64 s15, .slice sA sn sc, .bool hl]) W1 ∧ W1.cell? ⟨gn, 17, none⟩ = some (.bool hl)) (by kernel_rfl) ?_ (fun hHeld => ?_)
 focus ((try dsimp only); exact ⟨(blk_cell EM.out 0).trans rfl, (blk_cell EM.out 6).trans rfl, rd45_blk EN.out rfl, (blk_cell EN.out 17).trans rfl⟩)
 refine tq 0 81 ?_ (by assumption)
 refine tq 1 82 ?_ (by assumption)
 refine tq 2 83 ?_ (by assumption)
 refine tq 3 84 ?_ (by assumption)
 refine tq 4 85 ?_ (by assumption)
 refine tq 5 86 ?_ (by assumption)
 refine tq 6 87 ?_ (by assumption)
 refine tq 7 88 ?_ (by assumption)
 refine tq 8 89 ?_ (by assumption)
 refine tq 9 90 ?_ (by assumption)
 refine tq 10 91 ?_ (by assumption)
 refine tq 11 92 ?_ (by assumption)
 refine tq 12 93 ?_ (by assumption)
 refine tq 13 8 ?_ (by assumption)
 refine wpAnyH_ready (rs := [14]) (by kernel_rfl) (by simp) ?_
 refine AllReadyH.cons rfl (fun K hK => ?_) ?_
 ·have hst := wr47b_blk (cs := #[.slice B1 nb b1, .int .i64 s0, .int .i64 s1, .int .i64 s2, .int .i64 s3, .int .i64 s4, .int .i64 s5, .int .i64 s6, .int .i64 s7, .int .i64 s8, .int .i64 s9, .int .i64 s10, .int .i64 s11, .int .i64 s12, .int .i64 s13, .int .i64 s14, .int .i64 s15, .slice sA sn sc, .bool hl]) E9.out (by exact ho9) rfl (by simp [Value.oneCell'])
  have EX := Lib.hid (setRow_heap _ _ _ (#[.slice B1 nb b1, .int .i64 s0, .int .i64 s1, .int .i64 s2, .int .i64 s3, .int .i64 s4, .int .i64 s5, .int .i64 s6, .int .i64 s7, .int .i64 s8, .int .i64 s9, .int .i64 s10, .int .i64 s11, .int .i64 s12, .int .i64 s13, .int .i64 s14, .int .i64 s15, .slice sA sn sc, .bool hl] : Array Value) _ _ E9.out)
  have EM := Lib.hid ((setRow_other _ g9 gm (#[.slice B1 nb b1, .int .i64 s0, .int .i64 s1, .int .i64 s2, .int .i64 s3, .int .i64 s4, .int .i64 s5, .int .i64 s6, .int .i64 s7, .int .i64 s8, .int .i64 s9, .int .i64 s10, .int .i64 s11, .int .i64 s12, .int .i64 s13, .int .i64 s14, .int .i64 s15, .slice sA sn sc, .bool hl] : Array Value) hn.1).trans EM.out)
  have EN := Lib.hid ((setRow_other _ g9 gn (#[.slice B1 nb b1, .int .i64 s0, .int .i64 s1, .int .i64 s2, .int .i64 s3, .int .i64 s4, .int .i64 s5, .int .i64 s6, .int .i64 s7, .int .i64 s8, .int .i64 s9, .int .i64 s10, .int .i64 s11, .int .i64 s12, .int .i64 s13, .int .i64 s14, .int .i64 s15, .slice sA sn sc, .bool hl] : Array Value) hn.2).trans EN.out)
  go_simp
  refine hK.out _ _ ?_ (fun hHeld => ?_)
  focus ((try dsimp only); exact ⟨(blk_cell EM.out 0).trans rfl, (blk_cell EM.out 6).trans rfl, rd45_blk EN.out rfl, (blk_cell EN.out 17).trans rfl⟩)
  clear hK K
  refine tq 15 10 ?_ (by assumption)
  refine tq 16 11 ?_ (by assumption)
  refine tq 17 12 ?_ (by assumption)
  refine wpAnyH_done (by kernel_rfl) ?_ _
  refine NoPanic.normal ?_
  exact HPO.out _ _ _ _ _ _ _ _ _ _ _ _ _ EX.out
 exact AllReadyH.nil
theorem results_tcttt {fn : Func} {p u v x y : Tmp} {ty : TypeId} (h : fn.results = #[.tmp u, .cell p ty, .tmp v, .tmp x, .tmp y]) (tmps : Array Value) (w : World) (g : Nat) (t : TypeId) (cs : Array Value) (fr : Nat × Nat) (d : TypeDesc)
  (hp : tmps.getD p undef = .pointer (some ⟨g, 0, none⟩)) (hg : w.heap[g]? = some (.cells cs t fr))
  (hd : (match d with | .struct _ | .array _ _ => true | _ => false) = true) (hu : Tryz.prog.underlying ty = some d) (hi : (Tryz.prog.info? ty).map (·.size) = some cs.size) :
  (results fn tmps).run Tryz.prog w = .ok (.tuple #[tmps.getD u undef, .agg cs, tmps.getD v undef, tmps.getD x undef, tmps.getD y undef]) w := by
 have hp' : tmps[p]?.getD undef = .pointer (some ⟨g, 0, none⟩) := by simpa using hp
 simp [results, h, hp', asAddr, run_loadVar_row w g t ty cs fr d hg hu (by cases d <;> exact hd) hi]
theorem own_setRow {α : Type} {R : α → List Value → Prop} {e t : TypeId} {size base : Nat} {w : World} {v : Value} {xs : List α} {g : Nat} {old : Array Value} (h : OwnRow R e size w base v xs) (hb : w.heap[g]? = some (.cells old t (0, 0))) (ht : e ≠ t) (cs : Array Value) : OwnRow R e size (w.setRow g cs) base v xs := by
 have hne := OwnRow.ne_block h hb ht
 refine OwnRow.other h (row := some g) ⟨rfl, rfl, rfl, by simp [World.setRow], fun k _ hk => setRow_other w g k cs (fun e => hk (by rw [e]))⟩ (Or.inr fun e => hne e.symm)
def outs (tb : Nat → Bool) (ov : Nat → Int) : Nat → List Int
 | 0 => []
 | k + 1 => outs tb ov k ++ (if tb k then [ov k] else [])
theorem outs_len (tb : Nat → Bool) (ov : Nat → Int) : ∀ k, (outs tb ov k).length ≤ k
 | 0 => Nat.le_refl _
 | k + 1 => by
  have := outs_len tb ov k
  show (outs tb ov k ++ _).length ≤ _
  rw [List.length_append]
  split <;> simp <;> omega
theorem inf2 : (Tryz.prog.info? 2).map (fun i => (i.zero, i.size, i.bytes)) = some (some (.int .i64 0), 1, 8) := by kernel_rfl
theorem ownI_C {W : World} {base : Nat} {v : Value} {xs : List Int} {R0 : Int → List Value → Prop} (hR : R0 = fun x l => l = [.int .i64 x]) (h : OwnRow R0 2 1 W base v xs) : ∃ A c, v = .slice A xs.length c ∧ xs.length ≤ c ∧ Kd.C (Kd.int .i64) W A xs.length xs := by
 subst hR
 obtain ⟨A, c, hv, hc, hr⟩ := OwnRow.reads h
 exact ⟨A, c, hv, hc, hr⟩
set_option maxHeartbeats 16000000 in
set_option maxRecDepth 1000000 in
theorem run_c (tn c cb n K : Nat) (A B : Option Addr) (u : ByteArray) (a : S41) (t : List S50) (bs : List ByteArray) (S : Nat → (Nat → Int) × Bool) (tb : Nat → Bool) (ov : Nat → Int) (w : World)
  (hn : n ≤ 100) (hKn : K ≤ n) (hh : ∀ k, k < K → (S k).2 = false) (hK : K = n ∨ (S K).2 = true)
  (hD : ∀ w1 : World, Below w.heap.size w w1 → Calls Tryz.prog 32 #[.slice A tn c, .string (⟨#[]⟩ : ByteArray)] w1 fun e w' => ∃ A' c', e = .returned (.slice A' t.length c') ∧ t.length ≤ c' ∧ Kd.F k50 w' (fun k => w1.heap.size ≤ k) A' t.length t ∧ Below w1.heap.size w1 w')
  (hC : Kd.C Kd.string w B bs.length bs) (hbs : bs.length ≤ 1000)
  (hstep : ∀ (gm : Nat) (W0 : World) (A1 : Option Addr) (c1 : Nat) (B1 : Option Addr) (b1 : Nat), W0.heap[gm]? = some (.cells #[.slice A1 t.length c1, .string u, .int .i64 a.f0, .int .i64 a.f1, .int .i64 a.f2, .int .i64 a.f3, .slice B1 bs.length b1] 105 (0, 0)) → t.length ≤ c1 → Kd.C k50 W0 A1 t.length t → bs.length ≤ b1 → Kd.C Kd.string W0 B1 bs.length bs → ∀ k, k < K → ∀ w1, Below W0.heap.size W0 w1 →
   Calls Tryz.prog 34 #[.agg #[.int .i64 ((S k).1 0), .int .i64 ((S k).1 1), .int .i64 ((S k).1 2), .int .i64 ((S k).1 3), .int .i64 ((S k).1 4), .int .i64 ((S k).1 5), .int .i64 ((S k).1 6), .int .i64 ((S k).1 7), .int .i64 ((S k).1 8), .int .i64 ((S k).1 9), .int .i64 ((S k).1 10), .int .i64 ((S k).1 11), .int .i64 ((S k).1 12), .int .i64 ((S k).1 13), .int .i64 ((S k).1 14), .int .i64 ((S k).1 15), .slice none 0 0, .bool false], .iface 103 (.pointer (some ⟨gm, 0, none⟩))] w1 fun e w' => e = .returned (.tuple #[.agg #[.int .i64 ((S (k + 1)).1 0), .int .i64 ((S (k + 1)).1 1), .int .i64 ((S (k + 1)).1 2), .int .i64 ((S (k + 1)).1 3), .int .i64 ((S (k + 1)).1 4), .int .i64 ((S (k + 1)).1 5), .int .i64 ((S (k + 1)).1 6), .int .i64 ((S (k + 1)).1 7), .int .i64 ((S (k + 1)).1 8), .int .i64 ((S (k + 1)).1 9), .int .i64 ((S (k + 1)).1 10), .int .i64 ((S (k + 1)).1 11), .int .i64 ((S (k + 1)).1 12), .int .i64 ((S (k + 1)).1 13), .int .i64 ((S (k + 1)).1 14), .int .i64 ((S (k + 1)).1 15), .slice none 0 0, .bool (S (k + 1)).2], .int .i64 (ov k), .bool (tb k), .int .i64 0]) ∧ Below w1.heap.size w1 w') :
  Calls Tryz.prog 17 #[.slice A tn c, .agg #[.string u, .int .i64 a.f0, .int .i64 a.f1, .int .i64 a.f2, .int .i64 a.f3], .agg #[.slice B bs.length cb, .int .i64 ((S 0).1 0), .int .i64 ((S 0).1 1), .int .i64 ((S 0).1 2), .int .i64 ((S 0).1 3), .int .i64 ((S 0).1 4), .int .i64 ((S 0).1 5), .int .i64 ((S 0).1 6), .int .i64 ((S 0).1 7), .int .i64 ((S 0).1 8), .int .i64 ((S 0).1 9), .int .i64 ((S 0).1 10), .int .i64 ((S 0).1 11), .int .i64 ((S 0).1 12), .int .i64 ((S 0).1 13), .int .i64 ((S 0).1 14), .int .i64 ((S 0).1 15), .slice none 0 0, .bool (S 0).2], .int .i64 (n : Int)] w fun e w' => ∃ A1 c1 B1 b1 To tc, e = .returned (.tuple #[.slice A1 t.length c1, .agg #[.slice B1 bs.length b1, .int .i64 ((S K).1 0), .int .i64 ((S K).1 1), .int .i64 ((S K).1 2), .int .i64 ((S K).1 3), .int .i64 ((S K).1 4), .int .i64 ((S K).1 5), .int .i64 ((S K).1 6), .int .i64 ((S K).1 7), .int .i64 ((S K).1 8), .int .i64 ((S K).1 9), .int .i64 ((S K).1 10), .int .i64 ((S K).1 11), .int .i64 ((S K).1 12), .int .i64 ((S K).1 13), .int .i64 ((S K).1 14), .int .i64 ((S K).1 15), .slice none 0 0, .bool (S K).2], .slice To (outs tb ov K).length tc, .bool (S K).2, .int .i64 0]) ∧ t.length ≤ c1 ∧ Kd.C k50 w' A1 t.length t ∧ bs.length ≤ b1 ∧ Kd.C Kd.string w' B1 bs.length bs ∧ (outs tb ov K).length ≤ tc ∧ Kd.C (Kd.int .i64) w' To (outs tb ov K).length (outs tb ov K) ∧ Below w.heap.size w w' := by
 have HD := Lib.hid hD
 have HC := Lib.hid hC
 have HST := Lib.hid hstep
 have HH := Lib.hid hh
 have HK := Lib.hid hK
 clear hD hC hstep hh hK
 have hn0 : (0 : Int) ≤ (n : Int) := by omega
 have hn1 : (n : Int) ≤ 100 := by omega
 have HB0 := Lib.hid (below_alloc (below_alloc (below_alloc (Below.refl w.heap.size w) (.cells #[.string u, .int .i64 a.f0, .int .i64 a.f1, .int .i64 a.f2, .int .i64 a.f3] 52)) (.cells #[.slice B bs.length cb, .int .i64 ((S 0).1 0), .int .i64 ((S 0).1 1), .int .i64 ((S 0).1 2), .int .i64 ((S 0).1 3), .int .i64 ((S 0).1 4), .int .i64 ((S 0).1 5), .int .i64 ((S 0).1 6), .int .i64 ((S 0).1 7), .int .i64 ((S 0).1 8), .int .i64 ((S 0).1 9), .int .i64 ((S 0).1 10), .int .i64 ((S 0).1 11), .int .i64 ((S 0).1 12), .int .i64 ((S 0).1 13), .int .i64 ((S 0).1 14), .int .i64 ((S 0).1 15), .slice none 0 0, .bool (S 0).2] 47)) (.cells #[.slice none 0 0, .int .i64 0, .int .i64 0, .int .i64 0, .int .i64 0, .int .i64 0, .int .i64 0, .int .i64 0, .int .i64 0, .int .i64 0, .int .i64 0, .int .i64 0, .int .i64 0, .int .i64 0, .int .i64 0, .int .i64 0, .int .i64 0, .slice none 0 0, .bool false] 47))
 have ES := Lib.hid (blk_alloc (blk_alloc (blk_new w (.cells #[.string u, .int .i64 a.f0, .int .i64 a.f1, .int .i64 a.f2, .int .i64 a.f3] 52)) (.cells #[.slice B bs.length cb, .int .i64 ((S 0).1 0), .int .i64 ((S 0).1 1), .int .i64 ((S 0).1 2), .int .i64 ((S 0).1 3), .int .i64 ((S 0).1 4), .int .i64 ((S 0).1 5), .int .i64 ((S 0).1 6), .int .i64 ((S 0).1 7), .int .i64 ((S 0).1 8), .int .i64 ((S 0).1 9), .int .i64 ((S 0).1 10), .int .i64 ((S 0).1 11), .int .i64 ((S 0).1 12), .int .i64 ((S 0).1 13), .int .i64 ((S 0).1 14), .int .i64 ((S 0).1 15), .slice none 0 0, .bool (S 0).2] 47)) (.cells #[.slice none 0 0, .int .i64 0, .int .i64 0, .int .i64 0, .int .i64 0, .int .i64 0, .int .i64 0, .int .i64 0, .int .i64 0, .int .i64 0, .int .i64 0, .int .i64 0, .int .i64 0, .int .i64 0, .int .i64 0, .int .i64 0, .int .i64 0, .slice none 0 0, .bool false] 47))
 have EP := Lib.hid (show (((w.alloc (.cells #[.string u, .int .i64 a.f0, .int .i64 a.f1, .int .i64 a.f2, .int .i64 a.f3] 52)).alloc (.cells #[.slice B bs.length cb, .int .i64 ((S 0).1 0), .int .i64 ((S 0).1 1), .int .i64 ((S 0).1 2), .int .i64 ((S 0).1 3), .int .i64 ((S 0).1 4), .int .i64 ((S 0).1 5), .int .i64 ((S 0).1 6), .int .i64 ((S 0).1 7), .int .i64 ((S 0).1 8), .int .i64 ((S 0).1 9), .int .i64 ((S 0).1 10), .int .i64 ((S 0).1 11), .int .i64 ((S 0).1 12), .int .i64 ((S 0).1 13), .int .i64 ((S 0).1 14), .int .i64 ((S 0).1 15), .slice none 0 0, .bool (S 0).2] 47)).alloc (.cells #[.slice none 0 0, .int .i64 0, .int .i64 0, .int .i64 0, .int .i64 0, .int .i64 0, .int .i64 0, .int .i64 0, .int .i64 0, .int .i64 0, .int .i64 0, .int .i64 0, .int .i64 0, .int .i64 0, .int .i64 0, .int .i64 0, .int .i64 0, .slice none 0 0, .bool false] 47)).heap[w.heap.size + 1]? = some (.cells #[.slice B bs.length cb, .int .i64 ((S 0).1 0), .int .i64 ((S 0).1 1), .int .i64 ((S 0).1 2), .int .i64 ((S 0).1 3), .int .i64 ((S 0).1 4), .int .i64 ((S 0).1 5), .int .i64 ((S 0).1 6), .int .i64 ((S 0).1 7), .int .i64 ((S 0).1 8), .int .i64 ((S 0).1 9), .int .i64 ((S 0).1 10), .int .i64 ((S 0).1 11), .int .i64 ((S 0).1 12), .int .i64 ((S 0).1 13), .int .i64 ((S 0).1 14), .int .i64 ((S 0).1 15), .slice none 0 0, .bool (S 0).2] 47) from blk_alloc (by have h := blk_new (w.alloc (.cells #[.string u, .int .i64 a.f0, .int .i64 a.f1, .int .i64 a.f2, .int .i64 a.f3] 52)) (.cells #[.slice B bs.length cb, .int .i64 ((S 0).1 0), .int .i64 ((S 0).1 1), .int .i64 ((S 0).1 2), .int .i64 ((S 0).1 3), .int .i64 ((S 0).1 4), .int .i64 ((S 0).1 5), .int .i64 ((S 0).1 6), .int .i64 ((S 0).1 7), .int .i64 ((S 0).1 8), .int .i64 ((S 0).1 9), .int .i64 ((S 0).1 10), .int .i64 ((S 0).1 11), .int .i64 ((S 0).1 12), .int .i64 ((S 0).1 13), .int .i64 ((S 0).1 14), .int .i64 ((S 0).1 15), .slice none 0 0, .bool (S 0).2] 47); simp only [World.size_alloc] at h; exact h) (.cells #[.slice none 0 0, .int .i64 0, .int .i64 0, .int .i64 0, .int .i64 0, .int .i64 0, .int .i64 0, .int .i64 0, .int .i64 0, .int .i64 0, .int .i64 0, .int .i64 0, .int .i64 0, .int .i64 0, .int .i64 0, .int .i64 0, .int .i64 0, .slice none 0 0, .bool false] 47))
 have E9 := Lib.hid (show (((w.alloc (.cells #[.string u, .int .i64 a.f0, .int .i64 a.f1, .int .i64 a.f2, .int .i64 a.f3] 52)).alloc (.cells #[.slice B bs.length cb, .int .i64 ((S 0).1 0), .int .i64 ((S 0).1 1), .int .i64 ((S 0).1 2), .int .i64 ((S 0).1 3), .int .i64 ((S 0).1 4), .int .i64 ((S 0).1 5), .int .i64 ((S 0).1 6), .int .i64 ((S 0).1 7), .int .i64 ((S 0).1 8), .int .i64 ((S 0).1 9), .int .i64 ((S 0).1 10), .int .i64 ((S 0).1 11), .int .i64 ((S 0).1 12), .int .i64 ((S 0).1 13), .int .i64 ((S 0).1 14), .int .i64 ((S 0).1 15), .slice none 0 0, .bool (S 0).2] 47)).alloc (.cells #[.slice none 0 0, .int .i64 0, .int .i64 0, .int .i64 0, .int .i64 0, .int .i64 0, .int .i64 0, .int .i64 0, .int .i64 0, .int .i64 0, .int .i64 0, .int .i64 0, .int .i64 0, .int .i64 0, .int .i64 0, .int .i64 0, .int .i64 0, .slice none 0 0, .bool false] 47)).heap[w.heap.size + 1 + 1]? = some (.cells #[.slice none 0 0, .int .i64 0, .int .i64 0, .int .i64 0, .int .i64 0, .int .i64 0, .int .i64 0, .int .i64 0, .int .i64 0, .int .i64 0, .int .i64 0, .int .i64 0, .int .i64 0, .int .i64 0, .int .i64 0, .int .i64 0, .int .i64 0, .slice none 0 0, .bool false] 47) from by have h := blk_new ((w.alloc (.cells #[.string u, .int .i64 a.f0, .int .i64 a.f1, .int .i64 a.f2, .int .i64 a.f3] 52)).alloc (.cells #[.slice B bs.length cb, .int .i64 ((S 0).1 0), .int .i64 ((S 0).1 1), .int .i64 ((S 0).1 2), .int .i64 ((S 0).1 3), .int .i64 ((S 0).1 4), .int .i64 ((S 0).1 5), .int .i64 ((S 0).1 6), .int .i64 ((S 0).1 7), .int .i64 ((S 0).1 8), .int .i64 ((S 0).1 9), .int .i64 ((S 0).1 10), .int .i64 ((S 0).1 11), .int .i64 ((S 0).1 12), .int .i64 ((S 0).1 13), .int .i64 ((S 0).1 14), .int .i64 ((S 0).1 15), .slice none 0 0, .bool (S 0).2] 47)) (.cells #[.slice none 0 0, .int .i64 0, .int .i64 0, .int .i64 0, .int .i64 0, .int .i64 0, .int .i64 0, .int .i64 0, .int .i64 0, .int .i64 0, .int .i64 0, .int .i64 0, .int .i64 0, .int .i64 0, .int .i64 0, .int .i64 0, .int .i64 0, .slice none 0 0, .bool false] 47); simp only [World.size_alloc] at h; exact h)
 go_enter Tryz.func17, Tryz.ntmps17
 go_wp2
 refine rn3 w.heap.size (w.heap.size + 1) tn c cb A B u a t bs _ _ _ _ _ _ _ _ _ _ _ _ _ _ _ _ _ _ _ _ _ _ _ _ _ _ _ _ _ _ _ _ _ _ _ _ _ _ _ _ _ _ _ _ _ _ _ _ _ _ _ _ _ _ _ _ _ _ _ _ _ _ _ _ _ _ _ _ _ _ _ _ _ _ _ _ _ _ _ _ _ _ _ _ _ _ _ _ _ _ _ _ _ _ ES.out EP.out rfl (fun w1 hb => HD.out w1 (below_step HB0.out hb)) (fun w1 hb => clone28 bs B cb w1 (Kd.C_below HC.out (below_step HB0.out hb)) (by omega)) ?_
 intro gm W0 A1 c1 B1 b1 t28 t29 t30 t31 t32 t33 t34 t35 hm hc1 hCt hb1 hCb hgm0 hb
 have EM := Lib.hid hm
 have HCT := Lib.hid hCt
 have HCB := Lib.hid hCb
 have E9 := Lib.hid (blk_below E9.out hb)
 have EP := Lib.hid (blk_below EP.out hb)
 have HBW := Lib.hid (below_step HB0.out hb)
 have hlt9 := blk_lt E9.out
 have hltm := blk_lt hm
 clear hm hCt hCb hb
 have hrd : (rdS 45 (.pointer (some ⟨w.heap.size + 1, 1, none⟩))).run Tryz.prog W0 = .ok (.agg #[.int .i64 ((S 0).1 0), .int .i64 ((S 0).1 1), .int .i64 ((S 0).1 2), .int .i64 ((S 0).1 3), .int .i64 ((S 0).1 4), .int .i64 ((S 0).1 5), .int .i64 ((S 0).1 6), .int .i64 ((S 0).1 7), .int .i64 ((S 0).1 8), .int .i64 ((S 0).1 9), .int .i64 ((S 0).1 10), .int .i64 ((S 0).1 11), .int .i64 ((S 0).1 12), .int .i64 ((S 0).1 13), .int .i64 ((S 0).1 14), .int .i64 ((S 0).1 15), .slice none 0 0, .bool (S 0).2]) W0 := rd_in (t := 45) (k := 18) EP.out Tryz.isAgg45 Tryz.sizeOf45 (by show 1 + 18 ≤ 19; omega)
 go_wp2_with (go_at_call 33; refine (clone33_nil _).mono ?_; rintro e w1 ⟨rfl, rfl⟩)
 have hgm : gm < W0.heap.size := hltm
 go_loopg [15, 16] K (fun kk s15 s16 wr => ∃ k : Nat, k ≤ K ∧ K - k ≤ kk ∧ s16 = .int .i64 (k : Int) ∧ Hid (OwnRow (fun (x : Int) l => l = [.int .i64 x]) 2 1 wr W0.heap.size s15 (outs tb ov k)) ∧ Hid (wr.heap[W0.heap.size]? = some (.cells #[.int .i64 ((S k).1 0), .int .i64 ((S k).1 1), .int .i64 ((S k).1 2), .int .i64 ((S k).1 3), .int .i64 ((S k).1 4), .int .i64 ((S k).1 5), .int .i64 ((S k).1 6), .int .i64 ((S k).1 7), .int .i64 ((S k).1 8), .int .i64 ((S k).1 9), .int .i64 ((S k).1 10), .int .i64 ((S k).1 11), .int .i64 ((S k).1 12), .int .i64 ((S k).1 13), .int .i64 ((S k).1 14), .int .i64 ((S k).1 15), .slice none 0 0, .bool (S k).2] 45 (0, 0))) ∧ Hid (Below W0.heap.size W0 wr))
 case atStart => exact ⟨0, Nat.zero_le _, Nat.le_refl _, rfl, Lib.hid (OwnRow.none_ _ _ _ _ _), Lib.hid (blk_new W0 _), Lib.hid (below_alloc (Below.refl _ _) _)⟩
 case round =>
  obtain ⟨k, hk, hkk, rfl, HO, HE, HB⟩ := hrel
  obtain ⟨Ao, co, rfl, hco, _⟩ := OwnRow.reads HO.out
  have hol := outs_len tb ov k
  by_cases hkK : k < K
  ·have hkn : (k : Int) < (n : Int) := by omega
   have hs2 := HH.out k hkK
   have HE := Lib.hid (show wr.heap[W0.heap.size]? = some (.cells #[.int .i64 ((S k).1 0), .int .i64 ((S k).1 1), .int .i64 ((S k).1 2), .int .i64 ((S k).1 3), .int .i64 ((S k).1 4), .int .i64 ((S k).1 5), .int .i64 ((S k).1 6), .int .i64 ((S k).1 7), .int .i64 ((S k).1 8), .int .i64 ((S k).1 9), .int .i64 ((S k).1 10), .int .i64 ((S k).1 11), .int .i64 ((S k).1 12), .int .i64 ((S k).1 13), .int .i64 ((S k).1 14), .int .i64 ((S k).1 15), .slice none 0 0, .bool false] 45 (0, 0)) from by have h := HE.out; rw [hs2] at h; exact h)
   have q17 : wr.cell? ⟨W0.heap.size, 17, none⟩ = some (.bool false) := (blk_cell HE.out 17).trans rfl
   have hrk := rd45_blk HE.out rfl
   have HOUT := Lib.hid (show outs tb ov (k + 1) = outs tb ov k ++ (if tb k then [ov k] else []) from rfl)
   have HS := Lib.hid fun w1 hb => HST.out gm W0 A1 c1 B1 b1 EM.out hc1 (Kd.F_now HCT.out) hb1 (Kd.F_now HCB.out) k hkK w1 hb
   generalize hTB : tb k = tbk at HS HOUT
   have HT := Lib.hid hTB
   clear hTB
   generalize outs tb ov k = xs at HO HOUT hco hol ⊢
   cases tbk with
   | true =>
    go_wp2_with (first
     | (at_builtin; have hgate := HO1.out; clear hgate; refine OwnRow.append W0.heap.size rfl _ _ 34 2 (.int .i64 0) 1 8 rfl Tryz.underlying34 inf2 rfl (by decide) (by decide) (.slice Ao xs.length co) xs (ov k) [.int .i64 (ov k)] rfl (by rw [World.size_alloc]; rfl) rfl rfl (by simp [Value.oneCell']) HO1.out HB1.out (below_size HB1.out) (by omega) ?_; intro v1 w3 hO hB hg hat; have HO2 := Lib.hid hO; have HB2 := Lib.hid hB; have HE2 := Lib.hid (blk_grown HE1.out hg (OwnRow.ne_block HO1.out HE1.out (by decide))); have HX2 := Lib.hid (blk_grown HX1.out hg (OwnRow.ne_block HO1.out HX1.out (by decide))); have hrx := rd45_blk HX2.out rfl; have hst := wr45_blk (cs := #[.int .i64 ((S (k + 1)).1 0), .int .i64 ((S (k + 1)).1 1), .int .i64 ((S (k + 1)).1 2), .int .i64 ((S (k + 1)).1 3), .int .i64 ((S (k + 1)).1 4), .int .i64 ((S (k + 1)).1 5), .int .i64 ((S (k + 1)).1 6), .int .i64 ((S (k + 1)).1 7), .int .i64 ((S (k + 1)).1 8), .int .i64 ((S (k + 1)).1 9), .int .i64 ((S (k + 1)).1 10), .int .i64 ((S (k + 1)).1 11), .int .i64 ((S (k + 1)).1 12), .int .i64 ((S (k + 1)).1 13), .int .i64 ((S (k + 1)).1 14), .int .i64 ((S (k + 1)).1 15), .slice none 0 0, .bool (S (k + 1)).2]) HE2.out rfl rfl (by simp [Value.oneCell']); clear hO hB hg hat)
     | (go_at_call 34; refine (HS.out wr HB.out).mono ?_; rintro e w2 ⟨rfl, hb⟩; have HO1 := Lib.hid (OwnRow.below (OwnRow.below HO.out hb) (below_alloc (Below.refl _ _) (.cells #[.int .i64 ((S (k + 1)).1 0), .int .i64 ((S (k + 1)).1 1), .int .i64 ((S (k + 1)).1 2), .int .i64 ((S (k + 1)).1 3), .int .i64 ((S (k + 1)).1 4), .int .i64 ((S (k + 1)).1 5), .int .i64 ((S (k + 1)).1 6), .int .i64 ((S (k + 1)).1 7), .int .i64 ((S (k + 1)).1 8), .int .i64 ((S (k + 1)).1 9), .int .i64 ((S (k + 1)).1 10), .int .i64 ((S (k + 1)).1 11), .int .i64 ((S (k + 1)).1 12), .int .i64 ((S (k + 1)).1 13), .int .i64 ((S (k + 1)).1 14), .int .i64 ((S (k + 1)).1 15), .slice none 0 0, .bool (S (k + 1)).2] 45))); have HB1 := Lib.hid (below_alloc (below_step HB.out hb) (.cells #[.int .i64 ((S (k + 1)).1 0), .int .i64 ((S (k + 1)).1 1), .int .i64 ((S (k + 1)).1 2), .int .i64 ((S (k + 1)).1 3), .int .i64 ((S (k + 1)).1 4), .int .i64 ((S (k + 1)).1 5), .int .i64 ((S (k + 1)).1 6), .int .i64 ((S (k + 1)).1 7), .int .i64 ((S (k + 1)).1 8), .int .i64 ((S (k + 1)).1 9), .int .i64 ((S (k + 1)).1 10), .int .i64 ((S (k + 1)).1 11), .int .i64 ((S (k + 1)).1 12), .int .i64 ((S (k + 1)).1 13), .int .i64 ((S (k + 1)).1 14), .int .i64 ((S (k + 1)).1 15), .slice none 0 0, .bool (S (k + 1)).2] 45)); have HE1 := Lib.hid (blk_alloc (blk_below HE.out hb) (.cells #[.int .i64 ((S (k + 1)).1 0), .int .i64 ((S (k + 1)).1 1), .int .i64 ((S (k + 1)).1 2), .int .i64 ((S (k + 1)).1 3), .int .i64 ((S (k + 1)).1 4), .int .i64 ((S (k + 1)).1 5), .int .i64 ((S (k + 1)).1 6), .int .i64 ((S (k + 1)).1 7), .int .i64 ((S (k + 1)).1 8), .int .i64 ((S (k + 1)).1 9), .int .i64 ((S (k + 1)).1 10), .int .i64 ((S (k + 1)).1 11), .int .i64 ((S (k + 1)).1 12), .int .i64 ((S (k + 1)).1 13), .int .i64 ((S (k + 1)).1 14), .int .i64 ((S (k + 1)).1 15), .slice none 0 0, .bool (S (k + 1)).2] 45)); have HX1 := Lib.hid (blk_new w2 (.cells #[.int .i64 ((S (k + 1)).1 0), .int .i64 ((S (k + 1)).1 1), .int .i64 ((S (k + 1)).1 2), .int .i64 ((S (k + 1)).1 3), .int .i64 ((S (k + 1)).1 4), .int .i64 ((S (k + 1)).1 5), .int .i64 ((S (k + 1)).1 6), .int .i64 ((S (k + 1)).1 7), .int .i64 ((S (k + 1)).1 8), .int .i64 ((S (k + 1)).1 9), .int .i64 ((S (k + 1)).1 10), .int .i64 ((S (k + 1)).1 11), .int .i64 ((S (k + 1)).1 12), .int .i64 ((S (k + 1)).1 13), .int .i64 ((S (k + 1)).1 14), .int .i64 ((S (k + 1)).1 15), .slice none 0 0, .bool (S (k + 1)).2] 45)); clear hb))
    have HE3 := Lib.hid (setRow_heap _ _ _ (#[.int .i64 ((S (k + 1)).1 0), .int .i64 ((S (k + 1)).1 1), .int .i64 ((S (k + 1)).1 2), .int .i64 ((S (k + 1)).1 3), .int .i64 ((S (k + 1)).1 4), .int .i64 ((S (k + 1)).1 5), .int .i64 ((S (k + 1)).1 6), .int .i64 ((S (k + 1)).1 7), .int .i64 ((S (k + 1)).1 8), .int .i64 ((S (k + 1)).1 9), .int .i64 ((S (k + 1)).1 10), .int .i64 ((S (k + 1)).1 11), .int .i64 ((S (k + 1)).1 12), .int .i64 ((S (k + 1)).1 13), .int .i64 ((S (k + 1)).1 14), .int .i64 ((S (k + 1)).1 15), .slice none 0 0, .bool (S (k + 1)).2] : Array Value) _ _ HE2.out)
    have HO3 := Lib.hid (own_setRow HO2.out HE2.out (by decide) (#[.int .i64 ((S (k + 1)).1 0), .int .i64 ((S (k + 1)).1 1), .int .i64 ((S (k + 1)).1 2), .int .i64 ((S (k + 1)).1 3), .int .i64 ((S (k + 1)).1 4), .int .i64 ((S (k + 1)).1 5), .int .i64 ((S (k + 1)).1 6), .int .i64 ((S (k + 1)).1 7), .int .i64 ((S (k + 1)).1 8), .int .i64 ((S (k + 1)).1 9), .int .i64 ((S (k + 1)).1 10), .int .i64 ((S (k + 1)).1 11), .int .i64 ((S (k + 1)).1 12), .int .i64 ((S (k + 1)).1 13), .int .i64 ((S (k + 1)).1 14), .int .i64 ((S (k + 1)).1 15), .slice none 0 0, .bool (S (k + 1)).2] : Array Value))
    go_roundg (K - (k + 1))
    case measure => omega
    case rel => exact ⟨k + 1, hkK, Nat.le_refl _, by go_num, Lib.hid (by rw [HOUT.out]; exact HO3.out), HE3, Lib.hid (below_setRow HB2.out (Nat.le_refl _) _)⟩
   | false =>
    go_wp2_with (go_at_call 34; refine (HS.out wr HB.out).mono ?_; rintro e w2 ⟨rfl, hb⟩; have HO1 := Lib.hid (OwnRow.below (OwnRow.below HO.out hb) (below_alloc (Below.refl _ _) (.cells #[.int .i64 ((S (k + 1)).1 0), .int .i64 ((S (k + 1)).1 1), .int .i64 ((S (k + 1)).1 2), .int .i64 ((S (k + 1)).1 3), .int .i64 ((S (k + 1)).1 4), .int .i64 ((S (k + 1)).1 5), .int .i64 ((S (k + 1)).1 6), .int .i64 ((S (k + 1)).1 7), .int .i64 ((S (k + 1)).1 8), .int .i64 ((S (k + 1)).1 9), .int .i64 ((S (k + 1)).1 10), .int .i64 ((S (k + 1)).1 11), .int .i64 ((S (k + 1)).1 12), .int .i64 ((S (k + 1)).1 13), .int .i64 ((S (k + 1)).1 14), .int .i64 ((S (k + 1)).1 15), .slice none 0 0, .bool (S (k + 1)).2] 45))); have HB1 := Lib.hid (below_alloc (below_step HB.out hb) (.cells #[.int .i64 ((S (k + 1)).1 0), .int .i64 ((S (k + 1)).1 1), .int .i64 ((S (k + 1)).1 2), .int .i64 ((S (k + 1)).1 3), .int .i64 ((S (k + 1)).1 4), .int .i64 ((S (k + 1)).1 5), .int .i64 ((S (k + 1)).1 6), .int .i64 ((S (k + 1)).1 7), .int .i64 ((S (k + 1)).1 8), .int .i64 ((S (k + 1)).1 9), .int .i64 ((S (k + 1)).1 10), .int .i64 ((S (k + 1)).1 11), .int .i64 ((S (k + 1)).1 12), .int .i64 ((S (k + 1)).1 13), .int .i64 ((S (k + 1)).1 14), .int .i64 ((S (k + 1)).1 15), .slice none 0 0, .bool (S (k + 1)).2] 45)); have HE1 := Lib.hid (blk_alloc (blk_below HE.out hb) (.cells #[.int .i64 ((S (k + 1)).1 0), .int .i64 ((S (k + 1)).1 1), .int .i64 ((S (k + 1)).1 2), .int .i64 ((S (k + 1)).1 3), .int .i64 ((S (k + 1)).1 4), .int .i64 ((S (k + 1)).1 5), .int .i64 ((S (k + 1)).1 6), .int .i64 ((S (k + 1)).1 7), .int .i64 ((S (k + 1)).1 8), .int .i64 ((S (k + 1)).1 9), .int .i64 ((S (k + 1)).1 10), .int .i64 ((S (k + 1)).1 11), .int .i64 ((S (k + 1)).1 12), .int .i64 ((S (k + 1)).1 13), .int .i64 ((S (k + 1)).1 14), .int .i64 ((S (k + 1)).1 15), .slice none 0 0, .bool (S (k + 1)).2] 45)); have hst := wr45_blk (cs := #[.int .i64 ((S (k + 1)).1 0), .int .i64 ((S (k + 1)).1 1), .int .i64 ((S (k + 1)).1 2), .int .i64 ((S (k + 1)).1 3), .int .i64 ((S (k + 1)).1 4), .int .i64 ((S (k + 1)).1 5), .int .i64 ((S (k + 1)).1 6), .int .i64 ((S (k + 1)).1 7), .int .i64 ((S (k + 1)).1 8), .int .i64 ((S (k + 1)).1 9), .int .i64 ((S (k + 1)).1 10), .int .i64 ((S (k + 1)).1 11), .int .i64 ((S (k + 1)).1 12), .int .i64 ((S (k + 1)).1 13), .int .i64 ((S (k + 1)).1 14), .int .i64 ((S (k + 1)).1 15), .slice none 0 0, .bool (S (k + 1)).2]) HE1.out rfl rfl (by simp [Value.oneCell']); clear hb)
    have HE3 := Lib.hid (setRow_heap _ _ _ (#[.int .i64 ((S (k + 1)).1 0), .int .i64 ((S (k + 1)).1 1), .int .i64 ((S (k + 1)).1 2), .int .i64 ((S (k + 1)).1 3), .int .i64 ((S (k + 1)).1 4), .int .i64 ((S (k + 1)).1 5), .int .i64 ((S (k + 1)).1 6), .int .i64 ((S (k + 1)).1 7), .int .i64 ((S (k + 1)).1 8), .int .i64 ((S (k + 1)).1 9), .int .i64 ((S (k + 1)).1 10), .int .i64 ((S (k + 1)).1 11), .int .i64 ((S (k + 1)).1 12), .int .i64 ((S (k + 1)).1 13), .int .i64 ((S (k + 1)).1 14), .int .i64 ((S (k + 1)).1 15), .slice none 0 0, .bool (S (k + 1)).2] : Array Value) _ _ HE1.out)
    have HO3 := Lib.hid (own_setRow HO1.out HE1.out (by decide) (#[.int .i64 ((S (k + 1)).1 0), .int .i64 ((S (k + 1)).1 1), .int .i64 ((S (k + 1)).1 2), .int .i64 ((S (k + 1)).1 3), .int .i64 ((S (k + 1)).1 4), .int .i64 ((S (k + 1)).1 5), .int .i64 ((S (k + 1)).1 6), .int .i64 ((S (k + 1)).1 7), .int .i64 ((S (k + 1)).1 8), .int .i64 ((S (k + 1)).1 9), .int .i64 ((S (k + 1)).1 10), .int .i64 ((S (k + 1)).1 11), .int .i64 ((S (k + 1)).1 12), .int .i64 ((S (k + 1)).1 13), .int .i64 ((S (k + 1)).1 14), .int .i64 ((S (k + 1)).1 15), .slice none 0 0, .bool (S (k + 1)).2] : Array Value))
    go_roundg (K - (k + 1))
    case measure => omega
    case rel => exact ⟨k + 1, hkK, Nat.le_refl _, by go_num, Lib.hid (by rw [HOUT.out]; simpa using HO3.out), HE3, Lib.hid (below_setRow HB1.out (Nat.le_refl _) _)⟩
  ·have hkK' : k = K := by omega
   subst hkK'
   have q17 : wr.cell? ⟨W0.heap.size, 17, none⟩ = some (.bool (S k).2) := (blk_cell HE.out 17).trans rfl
   obtain ⟨Ax, cx, hvx, hcx, hoC⟩ : ∃ A c, Value.slice Ao (outs tb ov k).length co = .slice A (outs tb ov k).length c ∧ (outs tb ov k).length ≤ c ∧ Kd.C (Kd.int .i64) wr A (outs tb ov k).length (outs tb ov k) := ownI_C rfl HO.out
   injection hvx with hA _ hcc
   subst hA hcc
   have hz3 : (((w.alloc (.cells #[.string u, .int .i64 a.f0, .int .i64 a.f1, .int .i64 a.f2, .int .i64 a.f3] 52)).alloc (.cells #[.slice B bs.length cb, .int .i64 ((S 0).1 0), .int .i64 ((S 0).1 1), .int .i64 ((S 0).1 2), .int .i64 ((S 0).1 3), .int .i64 ((S 0).1 4), .int .i64 ((S 0).1 5), .int .i64 ((S 0).1 6), .int .i64 ((S 0).1 7), .int .i64 ((S 0).1 8), .int .i64 ((S 0).1 9), .int .i64 ((S 0).1 10), .int .i64 ((S 0).1 11), .int .i64 ((S 0).1 12), .int .i64 ((S 0).1 13), .int .i64 ((S 0).1 14), .int .i64 ((S 0).1 15), .slice none 0 0, .bool (S 0).2] 47)).alloc (.cells #[.slice none 0 0, .int .i64 0, .int .i64 0, .int .i64 0, .int .i64 0, .int .i64 0, .int .i64 0, .int .i64 0, .int .i64 0, .int .i64 0, .int .i64 0, .int .i64 0, .int .i64 0, .int .i64 0, .int .i64 0, .int .i64 0, .int .i64 0, .slice none 0 0, .bool false] 47)).heap.size = w.heap.size + 1 + 1 + 1 := by simp only [World.size_alloc]
   rw [hz3] at HCT HCB hgm0
   rcases HK.out with hKe | hKe
   ·subst hKe
    go_wp2
    refine rn16 (w.heap.size + 1 + 1) gm W0.heap.size t.length c1 bs.length b1 A1 B1 u a ((S k).1 0) ((S k).1 1) ((S k).1 2) ((S k).1 3) ((S k).1 4) ((S k).1 5) ((S k).1 6) ((S k).1 7) ((S k).1 8) ((S k).1 9) ((S k).1 10) ((S k).1 11) ((S k).1 12) ((S k).1 13) ((S k).1 14) ((S k).1 15) none 0 0 (S k).2 (.slice Ao (outs tb ov k).length co) _ _ _ _ _ _ _ _ _ _ _ _ _ _ _ _ _ _ _ _ _ _ _ _ _ _ _ _ _ _ _ _ _ _ _ _ _ _ _ _ _ _ _ _ _ _ _ _ _ _ _ _ _ _ _ _ _ _ _ _ _ _ _ _ _ _ _ _ _ _ _ _ _ _ _ _ _ _ _ _ _ _ _ _ _ _ _ _ _ _ _ wr _ (blk_below EM.out HB.out) HE.out (blk_below E9.out HB.out) rfl ⟨by omega, by omega⟩ ?_
    intro r81 r82 r83 r84 r85 r86 r87 r88 r89 r90 r91 r92 r93 hX
    go_wp2
    refine bodyPost_ret (results_tcttt rfl _ _ (w.heap.size + 1 + 1) 47 _ (0, 0) _ rfl hX rfl Tryz.underlying47 (by kernel_rfl)) rfl ?_
    refine ⟨A1, c1, B1, b1, Ao, co, rfl, hc1, Kd.F_now (Kd.F_step HCT.out (fun j hj hlt => (setRow_other _ _ j _ (by omega)).trans (HB.out.block j hlt))), hb1, Kd.F_now (Kd.F_step HCB.out (fun j hj hlt => (setRow_other _ _ j _ (by omega)).trans (HB.out.block j hlt))), hco, ?_, below_setRow (below_drew1 (below_step HBW.out HB.out)) (by omega) _⟩
    obtain ⟨Ay, cy, hvy, hcy, hoC2⟩ := ownI_C rfl (own_setRow (OwnRow.below HO.out (below_drew1 (Below.refl _ _))) (blk_drew (blk_below E9.out HB.out)) (by decide) (#[.slice B1 bs.length b1, .int .i64 ((S k).1 0), .int .i64 ((S k).1 1), .int .i64 ((S k).1 2), .int .i64 ((S k).1 3), .int .i64 ((S k).1 4), .int .i64 ((S k).1 5), .int .i64 ((S k).1 6), .int .i64 ((S k).1 7), .int .i64 ((S k).1 8), .int .i64 ((S k).1 9), .int .i64 ((S k).1 10), .int .i64 ((S k).1 11), .int .i64 ((S k).1 12), .int .i64 ((S k).1 13), .int .i64 ((S k).1 14), .int .i64 ((S k).1 15), .slice none 0 0, .bool (S k).2] : Array Value))
    injection hvy with hAy _ hcy2
    subst hAy hcy2
    exact hoC2
   ·by_cases hkn2 : (k : Int) < (n : Int)
    ·rw [hKe] at q17
     go_wp2
     refine rn16 (w.heap.size + 1 + 1) gm W0.heap.size t.length c1 bs.length b1 A1 B1 u a ((S k).1 0) ((S k).1 1) ((S k).1 2) ((S k).1 3) ((S k).1 4) ((S k).1 5) ((S k).1 6) ((S k).1 7) ((S k).1 8) ((S k).1 9) ((S k).1 10) ((S k).1 11) ((S k).1 12) ((S k).1 13) ((S k).1 14) ((S k).1 15) none 0 0 true (.slice Ao (outs tb ov k).length co) _ _ _ _ _ _ _ _ _ _ _ _ _ _ _ _ _ _ _ _ _ _ _ _ _ _ _ _ _ _ _ _ _ _ _ _ _ _ _ _ _ _ _ _ _ _ _ _ _ _ _ _ _ _ _ _ _ _ _ _ _ _ _ _ _ _ _ _ _ _ _ _ _ _ _ _ _ _ _ _ _ _ _ _ _ _ _ _ _ _ _ wr _ (blk_below EM.out HB.out) (by have h := HE.out; rw [hKe] at h; exact h) (blk_below E9.out HB.out) rfl ⟨by omega, by omega⟩ ?_
     intro r81 r82 r83 r84 r85 r86 r87 r88 r89 r90 r91 r92 r93 hX
     go_wp2
     refine bodyPost_ret (results_tcttt rfl _ _ (w.heap.size + 1 + 1) 47 _ (0, 0) _ rfl hX rfl Tryz.underlying47 (by kernel_rfl)) rfl ?_
     rw [hKe]
     refine ⟨A1, c1, B1, b1, Ao, co, rfl, hc1, Kd.F_now (Kd.F_step HCT.out (fun j hj hlt => (setRow_other _ _ j _ (by omega)).trans (HB.out.block j hlt))), hb1, Kd.F_now (Kd.F_step HCB.out (fun j hj hlt => (setRow_other _ _ j _ (by omega)).trans (HB.out.block j hlt))), hco, ?_, below_setRow (below_drew1 (below_step HBW.out HB.out)) (by omega) _⟩
     obtain ⟨Ay, cy, hvy, hcy, hoC2⟩ := ownI_C rfl (own_setRow (OwnRow.below HO.out (below_drew1 (Below.refl _ _))) (blk_drew (blk_below E9.out HB.out)) (by decide) (#[.slice B1 bs.length b1, .int .i64 ((S k).1 0), .int .i64 ((S k).1 1), .int .i64 ((S k).1 2), .int .i64 ((S k).1 3), .int .i64 ((S k).1 4), .int .i64 ((S k).1 5), .int .i64 ((S k).1 6), .int .i64 ((S k).1 7), .int .i64 ((S k).1 8), .int .i64 ((S k).1 9), .int .i64 ((S k).1 10), .int .i64 ((S k).1 11), .int .i64 ((S k).1 12), .int .i64 ((S k).1 13), .int .i64 ((S k).1 14), .int .i64 ((S k).1 15), .slice none 0 0, .bool true] : Array Value))
     injection hvy with hAy _ hcy2
     subst hAy hcy2
     exact hoC2
    ·go_wp2
     refine rn16 (w.heap.size + 1 + 1) gm W0.heap.size t.length c1 bs.length b1 A1 B1 u a ((S k).1 0) ((S k).1 1) ((S k).1 2) ((S k).1 3) ((S k).1 4) ((S k).1 5) ((S k).1 6) ((S k).1 7) ((S k).1 8) ((S k).1 9) ((S k).1 10) ((S k).1 11) ((S k).1 12) ((S k).1 13) ((S k).1 14) ((S k).1 15) none 0 0 (S k).2 (.slice Ao (outs tb ov k).length co) _ _ _ _ _ _ _ _ _ _ _ _ _ _ _ _ _ _ _ _ _ _ _ _ _ _ _ _ _ _ _ _ _ _ _ _ _ _ _ _ _ _ _ _ _ _ _ _ _ _ _ _ _ _ _ _ _ _ _ _ _ _ _ _ _ _ _ _ _ _ _ _ _ _ _ _ _ _ _ _ _ _ _ _ _ _ _ _ _ _ _ wr _ (blk_below EM.out HB.out) HE.out (blk_below E9.out HB.out) rfl ⟨by omega, by omega⟩ ?_
     intro r81 r82 r83 r84 r85 r86 r87 r88 r89 r90 r91 r92 r93 hX
     go_wp2
     refine bodyPost_ret (results_tcttt rfl _ _ (w.heap.size + 1 + 1) 47 _ (0, 0) _ rfl hX rfl Tryz.underlying47 (by kernel_rfl)) rfl ?_
     refine ⟨A1, c1, B1, b1, Ao, co, rfl, hc1, Kd.F_now (Kd.F_step HCT.out (fun j hj hlt => (setRow_other _ _ j _ (by omega)).trans (HB.out.block j hlt))), hb1, Kd.F_now (Kd.F_step HCB.out (fun j hj hlt => (setRow_other _ _ j _ (by omega)).trans (HB.out.block j hlt))), hco, ?_, below_setRow (below_drew1 (below_step HBW.out HB.out)) (by omega) _⟩
     obtain ⟨Ay, cy, hvy, hcy, hoC2⟩ := ownI_C rfl (own_setRow (OwnRow.below HO.out (below_drew1 (Below.refl _ _))) (blk_drew (blk_below E9.out HB.out)) (by decide) (#[.slice B1 bs.length b1, .int .i64 ((S k).1 0), .int .i64 ((S k).1 1), .int .i64 ((S k).1 2), .int .i64 ((S k).1 3), .int .i64 ((S k).1 4), .int .i64 ((S k).1 5), .int .i64 ((S k).1 6), .int .i64 ((S k).1 7), .int .i64 ((S k).1 8), .int .i64 ((S k).1 9), .int .i64 ((S k).1 10), .int .i64 ((S k).1 11), .int .i64 ((S k).1 12), .int .i64 ((S k).1 13), .int .i64 ((S k).1 14), .int .i64 ((S k).1 15), .slice none 0 0, .bool (S k).2] : Array Value))
     injection hvy with hAy _ hcy2
     subst hAy hcy2
     exact hoC2
end Go.Proofs.YteilkbookcmndaaGreatDoor.C
end
