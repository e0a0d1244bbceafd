/- Texts that the claim's law stands on, cut down to what it reaches. -/
import Derived.Test.YteilkbookcmndaaGreatDoorKZ7
import Derived.DeepKeys
import Derived.Deep.RegionHeldLaw
import Derived.Deep.RegionHeld3
import Derived.Deep.LoopGhost
set_option linter.unusedVariables false
set_option linter.unusedSimpArgs false
section
namespace Go.Proofs.YteilkbookcmndaaGreatDoor.C
open Go.RowKit Go.Proofs.YteilkbookcmndaaGreatDoor.Q Go.Proofs.YteilkbookcmndaaGreatDoorW.PrintWords Go.Proofs.YteilkbookcmndaaGreatDoorW.PrintLast Go.Proofs.YteilkbookcmndaaGreatDoorW.PrintMore
attribute [local go_sem ↓] rd_at50 wr_at50 al_at50
attribute [local go_sem] rd50_new wr50_new al50
attribute [local go_sem ↓] rd_at45 wr_at45 rd_at47b wr_at47b rd_at55 wr_at55 rd_at57 wr_at57 rd_at42 wr_at42
attribute [local go_sem] rd45_new wr45_new wr47b_new wr57_new
set_option maxHeartbeats 16000000 in
set_option maxRecDepth 1000000 in
theorem sm6 (ga gb i n ca cb : Nat) (ad bd : Addr) (p : ByteArray) (cA cB : Array Value) (u0 u1 u4 u6 u7 u8 u9 u10 u11 u12 u13 u14 u15 u16 u17 u18 u19 u20 u21 u22 u23 u24 u25 u26 u27 u28 u29 u30 u31 u32 u33 u34 u35 u36 u37 u38 u39 u40 u41 u42 u43 u44 u45 u46 u47 u48 u49 u50 u51 u52 u53 u54 u55 u56 u57 u58 u59 u60 u61 u62 u63 u64 u65 u66 u67 u68 u69 u70 u71 u72 u73 u74 u75 u76 u77 u78 u79 u80 u81 u82 u83 u84 u85 u86 u87 u88 u89 u90 u91 u92 u93 u94 u95 u96 u97 u98 u99 u100 u101 u102 u103 u104 u105 u106 u107 u108 u109 u110 u111 u112 u113 u114 u115 u116 u117 : Value) (W : World) (Q : Exit → Act → World → Prop)
  (hA : W.heap[ga]? = some (.cells cA 57 (0, 0))) (ha0 : cA[0]? = some (.slice (some ad) n ca)) (hB : W.heap[gb]? = some (.cells cB 57 (0, 0))) (hb0 : cB[0]? = some (.slice (some bd) n cb)) (hp : W.cell? (ad.add i) = some (.string p)) (hq : W.cell? (bd.add i) = some (.string p)) (hi : i < n) (hca : n ≤ ca) (hcb : n ≤ cb)
  (hpost : ∀ (t86 t87 t88 t89 t90 t91 t92 t93 t94 t95 : Value), Q .normal ⟨#[u0, u1, .pointer (some ⟨ga, 0, none⟩), .pointer (some ⟨gb, 0, none⟩), u4, .int .i64 (i : Int), u6, u7, u8, u9, u10, u11, u12, u13, u14, u15, u16, u17, u18, u19, u20, u21, u22, u23, u24, u25, u26, u27, u28, u29, u30, u31, u32, u33, u34, u35, u36, u37, u38, u39, u40, u41, u42, u43, u44, u45, u46, u47, u48, u49, u50, u51, u52, u53, u54, u55, u56, u57, u58, u59, u60, u61, u62, u63, u64, u65, u66, u67, u68, u69, u70, u71, u72, u73, u74, u75, u76, u77, u78, u79, u80, u81, u82, u83, u84, u85, t86, t87, t88, t89, t90, t91, t92, t93, t94, t95, .bool false, u97, u98, u99, u100, u101, u102, u103, u104, u105, u106, u107, u108, u109, u110, u111, u112, u113, u114, u115, u116, u117], []⟩ W.drew) :
  Code.wp Tryz.prog (cReg Tryz.f14 6) Q ⟨#[u0, u1, .pointer (some ⟨ga, 0, none⟩), .pointer (some ⟨gb, 0, none⟩), u4, .int .i64 (i : Int), u6, u7, u8, u9, u10, u11, u12, u13, u14, u15, u16, u17, u18, u19, u20, u21, u22, u23, u24, u25, u26, u27, u28, u29, u30, u31, u32, u33, u34, u35, u36, u37, u38, u39, u40, u41, u42, u43, u44, u45, u46, u47, u48, u49, u50, u51, u52, u53, u54, u55, u56, u57, u58, u59, u60, u61, u62, u63, u64, u65, u66, u67, u68, u69, u70, u71, u72, u73, u74, u75, u76, u77, u78, u79, u80, u81, u82, u83, u84, u85, u86, u87, u88, u89, u90, u91, u92, u93, u94, u95, u96, u97, u98, u99, u100, u101, u102, u103, u104, u105, u106, u107, u108, u109, u110, u111, u112, u113, u114, u115, u116, u117], []⟩ W := by
 have HPO := Lib.hid hpost
 have EA := Lib.hid hA
 have EB := Lib.hid hB
 have HP := Lib.hid hp
 have HQ := Lib.hid hq
 have hi0 : (0 : Int) ≤ (i : Int) := by omega
 have hi1 : (i : Int) < (n : Int) := by omega
 clear hA hB hp hq hpost
 have HB := Lib.hid (below_drew1 (Below.refl W.heap.size W))
 conv => arg 2; whnf
 refine wp_region_noPanic ?_
 refine wp_region_held_drew (S := fun W1 => W1.cell? ⟨ga, 0, none⟩ = some (.slice (some ad) n ca) ∧ W1.cell? ⟨gb, 0, none⟩ = some (.slice (some bd) n cb) ∧ W1.cell? (ad.add i) = some (.string p) ∧ W1.cell? (bd.add i) = some (.string p)) (by kernel_rfl) ?_ (fun hHeld => ?_)
 focus ((try dsimp only); exact ⟨(blk_cell (blk_drew EA.out) 0).trans ha0, (blk_cell (blk_drew EB.out) 0).trans hb0, HP.out, HQ.out⟩)
 refine tq 0 86 ?_ (by assumption)
 refine tq 1 87 ?_ (by assumption)
 refine tq 2 88 ?_ (by assumption)
 refine tq 3 89 ?_ (by assumption)
 refine tq 4 90 ?_ (by assumption)
 refine tq 5 91 ?_ (by assumption)
 refine tq 6 92 ?_ (by assumption)
 refine tq 7 93 ?_ (by assumption)
 refine tq 8 94 ?_ (by assumption)
 refine tq 9 95 ?_ (by assumption)
 refine tq 10 96 ?_ (by assumption)
 refine wpAnyH_done (by kernel_rfl) ?_ _
 refine NoPanic.normal ?_
 exact HPO.out _ _ _ _ _ _ _ _ _ _
theorem eq42n (w : World) : (Op.equalIn 10000 42 (.agg #[.int .i64 0, .int .i64 0, .int .i64 4, .int .i64 1, .int .i64 0, .int .i64 4, .int .i64 2, .int .i64 0, .int .i64 4, .int .i64 3, .int .i64 0, .int .i64 4]) (.agg #[.int .i64 0, .int .i64 0, .int .i64 4, .int .i64 1, .int .i64 0, .int .i64 4, .int .i64 2, .int .i64 0, .int .i64 4, .int .i64 3, .int .i64 0, .int .i64 4])).run Tryz.prog w = .ok true w := by
 have hl0 : (Tryz.prog.keyLits 10 42 (Value.agg #[.int .i64 0, .int .i64 0, .int .i64 4, .int .i64 1, .int .i64 0, .int .i64 4, .int .i64 2, .int .i64 0, .int .i64 4, .int .i64 3, .int .i64 0, .int .i64 4]).cells.toList).isSome = true := by kernel_rfl
 obtain ⟨l, hl⟩ := Option.isSome_iff_exists.1 hl0
 obtain ⟨r, hr, hi⟩ := run_equalIn_deep (P := Tryz.prog) 9990 10 42 (by kernel_rfl) w 10 10 (.agg #[.int .i64 0, .int .i64 0, .int .i64 4, .int .i64 1, .int .i64 0, .int .i64 4, .int .i64 2, .int .i64 0, .int .i64 4, .int .i64 3, .int .i64 0, .int .i64 4]) (.agg #[.int .i64 0, .int .i64 0, .int .i64 4, .int .i64 1, .int .i64 0, .int .i64 4, .int .i64 2, .int .i64 0, .int .i64 4, .int .i64 3, .int .i64 0, .int .i64 4]) l l (by kernel_rfl) (by kernel_rfl) hl hl
 rw [hi.2 rfl] at hr
 exact hr
set_option maxHeartbeats 16000000 in
set_option maxRecDepth 1000000 in
theorem same_n (xs : List ByteArray) (A B : Option Addr) (ca cb : Nat) (w : World) (hA : Kd.C Kd.string w A xs.length xs) (hca : xs.length ≤ ca) (hB : Kd.C Kd.string w B xs.length xs) (hcb : xs.length ≤ cb) :
  Calls Tryz.prog 14 #[.agg #[.slice A xs.length ca, .int .i64 0, .int .i64 0, .int .i64 4, .int .i64 0, .int .i64 0, .int .i64 0, .int .i64 4, .int .i64 1, .int .i64 0, .int .i64 4, .int .i64 2, .int .i64 0, .int .i64 4, .int .i64 3, .int .i64 0, .int .i64 4, .slice none 0 0, .bool false], .agg #[.slice B xs.length cb, .int .i64 0, .int .i64 0, .int .i64 4, .int .i64 0, .int .i64 0, .int .i64 0, .int .i64 4, .int .i64 1, .int .i64 0, .int .i64 4, .int .i64 2, .int .i64 0, .int .i64 4, .int .i64 3, .int .i64 0, .int .i64 4, .slice none 0 0, .bool false]] w fun e w' => e = .returned (.bool true) ∧ Below w.heap.size w w' := by
 have HA := Lib.hid hA
 have HBB := Lib.hid hB
 have EA := Lib.hid (blk_alloc (blk_new w (.cells #[.slice A xs.length ca, .int .i64 0, .int .i64 0, .int .i64 4, .int .i64 0, .int .i64 0, .int .i64 0, .int .i64 4, .int .i64 1, .int .i64 0, .int .i64 4, .int .i64 2, .int .i64 0, .int .i64 4, .int .i64 3, .int .i64 0, .int .i64 4, .slice none 0 0, .bool false] 57)) (.cells #[.slice B xs.length cb, .int .i64 0, .int .i64 0, .int .i64 4, .int .i64 0, .int .i64 0, .int .i64 0, .int .i64 4, .int .i64 1, .int .i64 0, .int .i64 4, .int .i64 2, .int .i64 0, .int .i64 4, .int .i64 3, .int .i64 0, .int .i64 4, .slice none 0 0, .bool false] 57))
 have EB := Lib.hid (show ((w.alloc (.cells #[.slice A xs.length ca, .int .i64 0, .int .i64 0, .int .i64 4, .int .i64 0, .int .i64 0, .int .i64 0, .int .i64 4, .int .i64 1, .int .i64 0, .int .i64 4, .int .i64 2, .int .i64 0, .int .i64 4, .int .i64 3, .int .i64 0, .int .i64 4, .slice none 0 0, .bool false] 57)).alloc (.cells #[.slice B xs.length cb, .int .i64 0, .int .i64 0, .int .i64 4, .int .i64 0, .int .i64 0, .int .i64 0, .int .i64 4, .int .i64 1, .int .i64 0, .int .i64 4, .int .i64 2, .int .i64 0, .int .i64 4, .int .i64 3, .int .i64 0, .int .i64 4, .slice none 0 0, .bool false] 57)).heap[w.heap.size + 1]? = some (.cells #[.slice B xs.length cb, .int .i64 0, .int .i64 0, .int .i64 4, .int .i64 0, .int .i64 0, .int .i64 0, .int .i64 4, .int .i64 1, .int .i64 0, .int .i64 4, .int .i64 2, .int .i64 0, .int .i64 4, .int .i64 3, .int .i64 0, .int .i64 4, .slice none 0 0, .bool false] 57) from by have h := blk_new (w.alloc (.cells #[.slice A xs.length ca, .int .i64 0, .int .i64 0, .int .i64 4, .int .i64 0, .int .i64 0, .int .i64 0, .int .i64 4, .int .i64 1, .int .i64 0, .int .i64 4, .int .i64 2, .int .i64 0, .int .i64 4, .int .i64 3, .int .i64 0, .int .i64 4, .slice none 0 0, .bool false] 57)) (.cells #[.slice B xs.length cb, .int .i64 0, .int .i64 0, .int .i64 4, .int .i64 0, .int .i64 0, .int .i64 0, .int .i64 4, .int .i64 1, .int .i64 0, .int .i64 4, .int .i64 2, .int .i64 0, .int .i64 4, .int .i64 3, .int .i64 0, .int .i64 4, .slice none 0 0, .bool false] 57); simp only [World.size_alloc] at h; exact h)
 have HB0 := Lib.hid (below_alloc (below_alloc (Below.refl w.heap.size w) (.cells #[.slice A xs.length ca, .int .i64 0, .int .i64 0, .int .i64 4, .int .i64 0, .int .i64 0, .int .i64 0, .int .i64 4, .int .i64 1, .int .i64 0, .int .i64 4, .int .i64 2, .int .i64 0, .int .i64 4, .int .i64 3, .int .i64 0, .int .i64 4, .slice none 0 0, .bool false] 57)) (.cells #[.slice B xs.length cb, .int .i64 0, .int .i64 0, .int .i64 4, .int .i64 0, .int .i64 0, .int .i64 0, .int .i64 4, .int .i64 1, .int .i64 0, .int .i64 4, .int .i64 2, .int .i64 0, .int .i64 4, .int .i64 3, .int .i64 0, .int .i64 4, .slice none 0 0, .bool false] 57))
 clear hA hB
 have heq := eq42n
 have hmax := HA.out.2.1
 obtain ⟨V, hV⟩ : ∃ V, V = ((w.alloc (.cells #[.slice A xs.length ca, .int .i64 0, .int .i64 0, .int .i64 4, .int .i64 0, .int .i64 0, .int .i64 0, .int .i64 4, .int .i64 1, .int .i64 0, .int .i64 4, .int .i64 2, .int .i64 0, .int .i64 4, .int .i64 3, .int .i64 0, .int .i64 4, .slice none 0 0, .bool false] 57)).alloc (.cells #[.slice B xs.length cb, .int .i64 0, .int .i64 0, .int .i64 4, .int .i64 0, .int .i64 0, .int .i64 0, .int .i64 4, .int .i64 1, .int .i64 0, .int .i64 4, .int .i64 2, .int .i64 0, .int .i64 4, .int .i64 3, .int .i64 0, .int .i64 4, .slice none 0 0, .bool false] 57)) := ⟨_, rfl⟩
 go_enter Tryz.func14, Tryz.ntmps14
 have hra := rd_in (t := 42) (k := 12) (o := 5) EA.out Tryz.isAgg42 Tryz.sizeOf42 (by show 5 + 12 ≤ 19; omega)
 have hrb := rd_in (t := 42) (k := 12) (o := 5) EB.out Tryz.isAgg42 Tryz.sizeOf42 (by show 5 + 12 ≤ 19; omega)
 have a0 := (blk_cell EA.out 0).trans rfl
 have b0 := (blk_cell EB.out 0).trans rfl
 have a1 := (blk_cell EA.out 1).trans rfl
 have b1 := (blk_cell EB.out 1).trans rfl
 have a2 := (blk_cell EA.out 2).trans rfl
 have b2 := (blk_cell EB.out 2).trans rfl
 have a3 := (blk_cell EA.out 3).trans rfl
 have b3 := (blk_cell EB.out 3).trans rfl
 have a4 := (blk_cell EA.out 4).trans rfl
 have b4 := (blk_cell EB.out 4).trans rfl
 have a17 := (blk_cell EA.out 17).trans rfl
 have b17 := (blk_cell EB.out 17).trans rfl
 have a18 := (blk_cell EA.out 18).trans rfl
 have b18 := (blk_cell EB.out 18).trans rfl
 go_wp2
 rw [← hV] at EA EB HB0 ⊢
 clear hra hrb a0 b0 a1 b1 a2 b2 a3 b3 a4 b4 a17 b17 a18 b18 hV
 have a0 := (blk_cell EA.out 0).trans rfl
 have a17 := (blk_cell EA.out 17).trans rfl
 have HBZ := Lib.hid (below_drew1 HB0.out)
 go_loopg [5] xs.length (fun kk s5 wr => ∃ i : Nat, i ≤ xs.length ∧ xs.length - i ≤ kk ∧ s5 = .int .i64 (i : Int) ∧ Hid (Below V.heap.size V wr))
 case atStart => exact ⟨0, Nat.zero_le _, Nat.le_refl _, rfl, Lib.hid (Below.refl _ _)⟩
 case round =>
  obtain ⟨i, hi, hik, rfl, HB⟩ := hrel
  have EAr := Lib.hid (blk_below EA.out HB.out)
  have EBr := Lib.hid (blk_below EB.out HB.out)
  have a0 := (blk_cell EAr.out 0).trans rfl
  have a17 := (blk_cell EAr.out 17).trans rfl
  by_cases hlt : i < xs.length
  ·have hli : (i : Int) < (xs.length : Int) := by omega
   obtain ⟨ad, hAe, hac⟩ := str_get (Kd.C_below HA.out (below_step HB0.out HB.out)) i hlt
   obtain ⟨bd, hBe, hbc⟩ := str_get (Kd.C_below HBB.out (below_step HB0.out HB.out)) i hlt
   subst hAe hBe
   have HAC := Lib.hid hac
   have HBC := Lib.hid hbc
   clear hac hbc
   go_wp2
   refine sm6 w.heap.size (w.heap.size + 1) i xs.length ca cb ad bd (xs.getD i ⟨#[]⟩) _ _ _ _ _ _ _ _ _ _ _ _ _ _ _ _ _ _ _ _ _ _ _ _ _ _ _ _ _ _ _ _ _ _ _ _ _ _ _ _ _ _ _ _ _ _ _ _ _ _ _ _ _ _ _ _ _ _ _ _ _ _ _ _ _ _ _ _ _ _ _ _ _ _ _ _ _ _ _ _ _ _ _ _ _ _ _ _ _ _ _ _ _ _ _ _ _ _ _ _ _ _ _ _ _ _ _ _ _ _ _ _ _ _ _ _ _ wr _ EAr.out rfl EBr.out rfl HAC.out HBC.out hlt hca hcb ?_
   intro t86 t87 t88 t89 t90 t91 t92 t93 t94 t95
   have HB2 := Lib.hid (below_drew1 HB.out)
   go_wp2
   go_roundg (xs.length - (i + 1))
   case measure => omega
   case rel => exact ⟨i + 1, hlt, Nat.le_refl _, by go_num, HB2⟩
  ·have hli : ¬ ((i : Int) < (xs.length : Int)) := by omega
   go_wp2
   go_loopg [6] 0 (fun kk s6 wq => s6 = .int .i64 0 ∧ wq = wr)
   case atStart => exact ⟨rfl, rfl⟩
   case round =>
    obtain ⟨rfl, rfl⟩ := hrel
    go_wp2
    go_ret
    exact ⟨rfl, below_step HB0.out HB.out⟩
theorem eq42z (w : World) : (Op.equalIn 10000 42 (.agg #[.int .i64 0, .int .i64 0, .int .i64 0, .int .i64 0, .int .i64 0, .int .i64 0, .int .i64 0, .int .i64 0, .int .i64 0, .int .i64 0, .int .i64 0, .int .i64 0]) (.agg #[.int .i64 0, .int .i64 0, .int .i64 0, .int .i64 0, .int .i64 0, .int .i64 0, .int .i64 0, .int .i64 0, .int .i64 0, .int .i64 0, .int .i64 0, .int .i64 0])).run Tryz.prog w = .ok true w := by
 have hl0 : (Tryz.prog.keyLits 10 42 (Value.agg #[.int .i64 0, .int .i64 0, .int .i64 0, .int .i64 0, .int .i64 0, .int .i64 0, .int .i64 0, .int .i64 0, .int .i64 0, .int .i64 0, .int .i64 0, .int .i64 0]).cells.toList).isSome = true := by kernel_rfl
 obtain ⟨l, hl⟩ := Option.isSome_iff_exists.1 hl0
 obtain ⟨r, hr, hi⟩ := run_equalIn_deep (P := Tryz.prog) 9990 10 42 (by kernel_rfl) w 10 10 (.agg #[.int .i64 0, .int .i64 0, .int .i64 0, .int .i64 0, .int .i64 0, .int .i64 0, .int .i64 0, .int .i64 0, .int .i64 0, .int .i64 0, .int .i64 0, .int .i64 0]) (.agg #[.int .i64 0, .int .i64 0, .int .i64 0, .int .i64 0, .int .i64 0, .int .i64 0, .int .i64 0, .int .i64 0, .int .i64 0, .int .i64 0, .int .i64 0, .int .i64 0]) l l (by kernel_rfl) (by kernel_rfl) hl hl
 rw [hi.2 rfl] at hr
 exact hr
set_option maxHeartbeats 16000000 in
set_option maxRecDepth 1000000 in
theorem same_z (xs : List ByteArray) (A B : Option Addr) (ca cb : Nat) (w : World) (hA : Kd.C Kd.string w A xs.length xs) (hca : xs.length ≤ ca) (hB : Kd.C Kd.string w B xs.length xs) (hcb : xs.length ≤ cb) :
  Calls Tryz.prog 14 #[.agg #[.slice A xs.length ca, .int .i64 0, .int .i64 0, .int .i64 0, .int .i64 0, .int .i64 0, .int .i64 0, .int .i64 0, .int .i64 0, .int .i64 0, .int .i64 0, .int .i64 0, .int .i64 0, .int .i64 0, .int .i64 0, .int .i64 0, .int .i64 0, .slice none 0 0, .bool false], .agg #[.slice B xs.length cb, .int .i64 0, .int .i64 0, .int .i64 0, .int .i64 0, .int .i64 0, .int .i64 0, .int .i64 0, .int .i64 0, .int .i64 0, .int .i64 0, .int .i64 0, .int .i64 0, .int .i64 0, .int .i64 0, .int .i64 0, .int .i64 0, .slice none 0 0, .bool false]] w fun e w' => e = .returned (.bool true) ∧ Below w.heap.size w w' := by
 have HA := Lib.hid hA
 have HBB := Lib.hid hB
 have EA := Lib.hid (blk_alloc (blk_new w (.cells #[.slice A xs.length ca, .int .i64 0, .int .i64 0, .int .i64 0, .int .i64 0, .int .i64 0, .int .i64 0, .int .i64 0, .int .i64 0, .int .i64 0, .int .i64 0, .int .i64 0, .int .i64 0, .int .i64 0, .int .i64 0, .int .i64 0, .int .i64 0, .slice none 0 0, .bool false] 57)) (.cells #[.slice B xs.length cb, .int .i64 0, .int .i64 0, .int .i64 0, .int .i64 0, .int .i64 0, .int .i64 0, .int .i64 0, .int .i64 0, .int .i64 0, .int .i64 0, .int .i64 0, .int .i64 0, .int .i64 0, .int .i64 0, .int .i64 0, .int .i64 0, .slice none 0 0, .bool false] 57))
 have EB := Lib.hid (show ((w.alloc (.cells #[.slice A xs.length ca, .int .i64 0, .int .i64 0, .int .i64 0, .int .i64 0, .int .i64 0, .int .i64 0, .int .i64 0, .int .i64 0, .int .i64 0, .int .i64 0, .int .i64 0, .int .i64 0, .int .i64 0, .int .i64 0, .int .i64 0, .int .i64 0, .slice none 0 0, .bool false] 57)).alloc (.cells #[.slice B xs.length cb, .int .i64 0, .int .i64 0, .int .i64 0, .int .i64 0, .int .i64 0, .int .i64 0, .int .i64 0, .int .i64 0, .int .i64 0, .int .i64 0, .int .i64 0, .int .i64 0, .int .i64 0, .int .i64 0, .int .i64 0, .int .i64 0, .slice none 0 0, .bool false] 57)).heap[w.heap.size + 1]? = some (.cells #[.slice B xs.length cb, .int .i64 0, .int .i64 0, .int .i64 0, .int .i64 0, .int .i64 0, .int .i64 0, .int .i64 0, .int .i64 0, .int .i64 0, .int .i64 0, .int .i64 0, .int .i64 0, .int .i64 0, .int .i64 0, .int .i64 0, .int .i64 0, .slice none 0 0, .bool false] 57) from by have h := blk_new (w.alloc (.cells #[.slice A xs.length ca, .int .i64 0, .int .i64 0, .int .i64 0, .int .i64 0, .int .i64 0, .int .i64 0, .int .i64 0, .int .i64 0, .int .i64 0, .int .i64 0, .int .i64 0, .int .i64 0, .int .i64 0, .int .i64 0, .int .i64 0, .int .i64 0, .slice none 0 0, .bool false] 57)) (.cells #[.slice B xs.length cb, .int .i64 0, .int .i64 0, .int .i64 0, .int .i64 0, .int .i64 0, .int .i64 0, .int .i64 0, .int .i64 0, .int .i64 0, .int .i64 0, .int .i64 0, .int .i64 0, .int .i64 0, .int .i64 0, .int .i64 0, .int .i64 0, .slice none 0 0, .bool false] 57); simp only [World.size_alloc] at h; exact h)
 have HB0 := Lib.hid (below_alloc (below_alloc (Below.refl w.heap.size w) (.cells #[.slice A xs.length ca, .int .i64 0, .int .i64 0, .int .i64 0, .int .i64 0, .int .i64 0, .int .i64 0, .int .i64 0, .int .i64 0, .int .i64 0, .int .i64 0, .int .i64 0, .int .i64 0, .int .i64 0, .int .i64 0, .int .i64 0, .int .i64 0, .slice none 0 0, .bool false] 57)) (.cells #[.slice B xs.length cb, .int .i64 0, .int .i64 0, .int .i64 0, .int .i64 0, .int .i64 0, .int .i64 0, .int .i64 0, .int .i64 0, .int .i64 0, .int .i64 0, .int .i64 0, .int .i64 0, .int .i64 0, .int .i64 0, .int .i64 0, .int .i64 0, .slice none 0 0, .bool false] 57))
 clear hA hB
 have heq := eq42z
 have hmax := HA.out.2.1
 obtain ⟨V, hV⟩ : ∃ V, V = ((w.alloc (.cells #[.slice A xs.length ca, .int .i64 0, .int .i64 0, .int .i64 0, .int .i64 0, .int .i64 0, .int .i64 0, .int .i64 0, .int .i64 0, .int .i64 0, .int .i64 0, .int .i64 0, .int .i64 0, .int .i64 0, .int .i64 0, .int .i64 0, .int .i64 0, .slice none 0 0, .bool false] 57)).alloc (.cells #[.slice B xs.length cb, .int .i64 0, .int .i64 0, .int .i64 0, .int .i64 0, .int .i64 0, .int .i64 0, .int .i64 0, .int .i64 0, .int .i64 0, .int .i64 0, .int .i64 0, .int .i64 0, .int .i64 0, .int .i64 0, .int .i64 0, .int .i64 0, .slice none 0 0, .bool false] 57)) := ⟨_, rfl⟩
 go_enter Tryz.func14, Tryz.ntmps14
 have hra := rd_in (t := 42) (k := 12) (o := 5) EA.out Tryz.isAgg42 Tryz.sizeOf42 (by show 5 + 12 ≤ 19; omega)
 have hrb := rd_in (t := 42) (k := 12) (o := 5) EB.out Tryz.isAgg42 Tryz.sizeOf42 (by show 5 + 12 ≤ 19; omega)
 have a0 := (blk_cell EA.out 0).trans rfl
 have b0 := (blk_cell EB.out 0).trans rfl
 have a1 := (blk_cell EA.out 1).trans rfl
 have b1 := (blk_cell EB.out 1).trans rfl
 have a2 := (blk_cell EA.out 2).trans rfl
 have b2 := (blk_cell EB.out 2).trans rfl
 have a3 := (blk_cell EA.out 3).trans rfl
 have b3 := (blk_cell EB.out 3).trans rfl
 have a4 := (blk_cell EA.out 4).trans rfl
 have b4 := (blk_cell EB.out 4).trans rfl
 have a17 := (blk_cell EA.out 17).trans rfl
 have b17 := (blk_cell EB.out 17).trans rfl
 have a18 := (blk_cell EA.out 18).trans rfl
 have b18 := (blk_cell EB.out 18).trans rfl
 go_wp2
 rw [← hV] at EA EB HB0 ⊢
 clear hra hrb a0 b0 a1 b1 a2 b2 a3 b3 a4 b4 a17 b17 a18 b18 hV
 have a0 := (blk_cell EA.out 0).trans rfl
 have a17 := (blk_cell EA.out 17).trans rfl
 have HBZ := Lib.hid (below_drew1 HB0.out)
 go_loopg [5] xs.length (fun kk s5 wr => ∃ i : Nat, i ≤ xs.length ∧ xs.length - i ≤ kk ∧ s5 = .int .i64 (i : Int) ∧ Hid (Below V.heap.size V wr))
 case atStart => exact ⟨0, Nat.zero_le _, Nat.le_refl _, rfl, Lib.hid (Below.refl _ _)⟩
 case round =>
  obtain ⟨i, hi, hik, rfl, HB⟩ := hrel
  have EAr := Lib.hid (blk_below EA.out HB.out)
  have EBr := Lib.hid (blk_below EB.out HB.out)
  have a0 := (blk_cell EAr.out 0).trans rfl
  have a17 := (blk_cell EAr.out 17).trans rfl
  by_cases hlt : i < xs.length
  ·have hli : (i : Int) < (xs.length : Int) := by omega
   obtain ⟨ad, hAe, hac⟩ := str_get (Kd.C_below HA.out (below_step HB0.out HB.out)) i hlt
   obtain ⟨bd, hBe, hbc⟩ := str_get (Kd.C_below HBB.out (below_step HB0.out HB.out)) i hlt
   subst hAe hBe
   have HAC := Lib.hid hac
   have HBC := Lib.hid hbc
   clear hac hbc
   go_wp2
   refine sm6 w.heap.size (w.heap.size + 1) i xs.length ca cb ad bd (xs.getD i ⟨#[]⟩) _ _ _ _ _ _ _ _ _ _ _ _ _ _ _ _ _ _ _ _ _ _ _ _ _ _ _ _ _ _ _ _ _ _ _ _ _ _ _ _ _ _ _ _ _ _ _ _ _ _ _ _ _ _ _ _ _ _ _ _ _ _ _ _ _ _ _ _ _ _ _ _ _ _ _ _ _ _ _ _ _ _ _ _ _ _ _ _ _ _ _ _ _ _ _ _ _ _ _ _ _ _ _ _ _ _ _ _ _ _ _ _ _ _ _ _ _ wr _ EAr.out rfl EBr.out rfl HAC.out HBC.out hlt hca hcb ?_
   intro t86 t87 t88 t89 t90 t91 t92 t93 t94 t95
   have HB2 := Lib.hid (below_drew1 HB.out)
   go_wp2
   go_roundg (xs.length - (i + 1))
   case measure => omega
   case rel => exact ⟨i + 1, hlt, Nat.le_refl _, by go_num, HB2⟩
  ·have hli : ¬ ((i : Int) < (xs.length : Int)) := by omega
   go_wp2
   go_loopg [6] 0 (fun kk s6 wq => s6 = .int .i64 0 ∧ wq = wr)
   case atStart => exact ⟨rfl, rfl⟩
   case round =>
    obtain ⟨rfl, rfl⟩ := hrel
    go_wp2
    go_ret
    exact ⟨rfl, below_step HB0.out HB.out⟩
set_option maxHeartbeats 16000000 in
set_option maxRecDepth 1000000 in
theorem pm17 (g47 g57 : Nat) (x : Int) (cA cB cC : Array Value) (u0 u1 u2 u3 u4 u5 u6 u7 u8 u9 u10 u11 u12 u13 u14 u15 u16 u17 u18 u19 u20 u21 u26 u27 u28 u29 u30 u31 u32 u33 u34 u35 u36 u37 u38 u39 u40 u41 u42 u43 u44 u45 u46 u47 u48 u49 u50 u51 u52 u53 u54 u55 u56 u57 u58 u59 u60 u61 u62 u63 u64 u65 u66 u67 u68 u69 u70 u71 u72 u73 u74 u75 u76 u77 u78 u79 u80 u81 u82 u83 u84 u85 u86 u87 u88 u89 u90 u91 u92 u93 u94 u95 u96 u97 u98 u99 u100 u101 u102 u103 u104 u105 u106 u107 u108 u109 u110 u111 : Value) (W : World) (Q : Exit → Act → World → Prop)
  (hA : W.heap[g47]? = some (.cells cA 47 (0, 0))) (hA9 : cA.size = 19) (hB : W.heap[g57]? = some (.cells cB 57 (0, 0))) (hB9 : cB.size = 19)
  (h15 : ∀ w1 : World, Below W.heap.size W w1 → Calls Tryz.prog 15 #[.agg cA] w1 fun e w' => e = .returned (.agg cC) ∧ Below w1.heap.size w1 w')
  (h14 : ∀ w1 : World, Below W.heap.size W w1 → Calls Tryz.prog 14 #[.agg cC, .agg cB] w1 fun e w' => e = .returned (.bool true) ∧ Below w1.heap.size w1 w')
  (hpost : ∀ (w' : World) (t103 t104 t105 t106 t107 t108 t109 t110 t111 : Value), Below W.heap.size W w' → Q .normal ⟨#[u0, u1, u2, u3, u4, u5, u6, u7, u8, u9, u10, u11, u12, u13, u14, u15, .bool true, u17, u18, u19, u20, u21, .pointer (some ⟨g47, 0, none⟩), .int .i64 x, .pointer (some ⟨g57, 0, none⟩), .int .i64 x, u26, u27, u28, u29, u30, u31, u32, u33, u34, u35, u36, u37, u38, u39, u40, u41, u42, u43, u44, u45, u46, u47, u48, u49, u50, u51, u52, u53, u54, u55, u56, u57, u58, u59, u60, u61, u62, u63, u64, u65, u66, u67, u68, u69, u70, u71, u72, u73, u74, u75, u76, u77, u78, u79, u80, u81, u82, u83, u84, u85, u86, u87, u88, u89, u90, u91, u92, u93, u94, u95, u96, u97, u98, u99, u100, u101, u102, t103, t104, t105, t106, t107, t108, t109, t110, t111], []⟩ w') :
  Code.wp Tryz.prog (cReg Tryz.f3 17) Q ⟨#[u0, u1, u2, u3, u4, u5, u6, u7, u8, u9, u10, u11, u12, u13, u14, u15, u16, u17, u18, u19, u20, u21, .pointer (some ⟨g47, 0, none⟩), .int .i64 x, .pointer (some ⟨g57, 0, none⟩), .int .i64 x, u26, u27, u28, u29, u30, u31, u32, u33, u34, u35, u36, u37, u38, u39, u40, u41, u42, u43, u44, u45, u46, u47, u48, u49, u50, u51, u52, u53, u54, u55, u56, u57, u58, u59, u60, u61, u62, u63, u64, u65, u66, u67, u68, u69, u70, u71, u72, u73, u74, u75, u76, u77, u78, u79, u80, u81, u82, u83, u84, u85, u86, u87, u88, u89, u90, u91, u92, u93, u94, u95, u96, u97, u98, u99, u100, u101, u102, u103, u104, u105, u106, u107, u108, u109, u110, u111], []⟩ W := by
 have HPO := Lib.hid hpost
 have EA := Lib.hid hA
 have EB := Lib.hid hB
 have H15 := Lib.hid h15
 have H14 := Lib.hid h14
 clear hA hB h15 h14 hpost
 have HB := Lib.hid (below_drew1 (Below.refl W.heap.size W))
 conv => arg 2; whnf
 refine wp_region_noPanic ?_
 refine wp_region_held_drew (S := fun W1 => (rdS 47 (.pointer (some ⟨g47, 0, none⟩))).run Tryz.prog W1 = .ok (.agg cA) W1 ∧ (rdS 57 (.pointer (some ⟨g57, 0, none⟩))).run Tryz.prog W1 = .ok (.agg cB) W1) (by kernel_rfl) ?_ (fun hHeld => ?_)
 focus ((try dsimp only); exact ⟨rd47b_blk (blk_below EA.out HB.out) hA9, rd57_blk (blk_below EB.out HB.out) hB9⟩)
 refine tq 0 103 ?_ (by assumption)
 refine tq 1 104 ?_ (by assumption)
 refine tq 2 105 ?_ (by assumption)
 refine tq 3 106 ?_ (by assumption)
 refine tq 4 107 ?_ (by assumption)
 refine tq 6 109 ?_ (by assumption)
 refine wpAnyH_ready (rs := [5]) (by kernel_rfl) (by simp) ?_
 refine AllReadyH.cons rfl (fun K hK => ?_) ?_
 ·go_simp
  go_wp2_with (go_at_call 15; refine (H15.out _ HB.out).mono ?_; rintro e wa ⟨rfl, hb⟩; have HB := Lib.hid (below_step HB.out hb); clear hb)
  refine hK.out _ _ ?_ (fun hHeld => ?_)
  focus ((try dsimp only); exact ⟨rd47b_blk (blk_below EA.out HB.out) hA9, rd57_blk (blk_below EB.out HB.out) hB9⟩)
  clear hK K
  refine wpAnyH_ready (rs := [7]) (by kernel_rfl) (by simp) ?_
  refine AllReadyH.cons rfl (fun K hK => ?_) ?_
  ·go_simp
   go_wp2_with (go_at_call 14; refine (H14.out _ HB.out).mono ?_; rintro e wb ⟨rfl, hb⟩; have HB := Lib.hid (below_step HB.out hb); clear hb)
   refine hK.out _ _ ?_ (fun hHeld => ?_)
   focus ((try dsimp only); exact ⟨rd47b_blk (blk_below EA.out HB.out) hA9, rd57_blk (blk_below EB.out HB.out) hB9⟩)
   clear hK K
   refine tq 8 111 ?_ (by assumption)
   refine tq 9 16 ?_ (by assumption)
   refine wpAnyH_done (by kernel_rfl) ?_ _
   refine NoPanic.normal ?_
   exact HPO.out _ _ _ _ _ _ _ _ _ _ HB.out
  exact AllReadyH.nil
 exact AllReadyH.nil
theorem least_or (P : Nat → Prop) : ∀ n : Nat, (∀ i, i < n → P i) ∨ ∃ K, K < n ∧ ¬ P K ∧ ∀ i, i < K → P i
 | 0 => Or.inl fun i hi => absurd hi (Nat.not_lt_zero _)
 | n + 1 => by
  rcases least_or P n with h | ⟨K, h1, h2, h3⟩
  ·by_cases hn : P n
   ·exact Or.inl fun i hi => by
     rcases Nat.lt_succ_iff_lt_or_eq.1 hi with h4 | rfl
     ·exact h i h4
     ·exact hn
   ·exact Or.inr ⟨n, Nat.lt_succ_self _, hn, h⟩
  ·exact Or.inr ⟨K, Nat.lt_succ_of_lt h1, h2, h3⟩
theorem mk_pair {t : List S50} (T : Tree t) (u : ByteArray) (hu : u ≠ star) (a : S41) (hL : Lab a) (bs : List ByteArray) (A B : Option Addr) (c cb : Nat) (w0 : World) (hC : Kd.C k50 w0 A t.length t) (hc : t.length ≤ c) (hB : Kd.C Kd.string w0 B bs.length bs) (hcb : bs.length ≤ cb) :
  (∃ x : Int, ∀ w, Below w0.heap.size w0 w → (Calls Tryz.prog 12 #[.slice A t.length c, .agg #[.string u, .int .i64 a.f0, .int .i64 a.f1, .int .i64 a.f2, .int .i64 a.f3], .slice B bs.length cb] w fun e w' => e = .returned (.tuple #[.agg #[.slice none 0 0, .int .i64 0, .int .i64 0, .int .i64 0, .int .i64 0, .int .i64 0, .int .i64 0, .int .i64 0, .int .i64 0, .int .i64 0, .int .i64 0, .int .i64 0, .int .i64 0, .int .i64 0, .int .i64 0, .int .i64 0, .int .i64 0, .slice none 0 0, .bool false], .int .i64 x]) ∧ Below w.heap.size w w') ∧ (Calls Tryz.prog 13 #[.slice A t.length c, .agg #[.string u, .int .i64 a.f0, .int .i64 a.f1, .int .i64 a.f2, .int .i64 a.f3], .slice B bs.length cb] w fun e w' => e = .returned (.tuple #[.agg #[.slice none 0 0, .int .i64 0, .int .i64 0, .int .i64 0, .int .i64 0, .int .i64 0, .int .i64 0, .int .i64 0, .int .i64 0, .int .i64 0, .int .i64 0, .int .i64 0, .int .i64 0, .int .i64 0, .int .i64 0, .int .i64 0, .int .i64 0, .slice none 0 0, .bool false], .int .i64 x]) ∧ Below w.heap.size w w')) ∨ (∀ w, Below w0.heap.size w0 w → (Calls Tryz.prog 12 #[.slice A t.length c, .agg #[.string u, .int .i64 a.f0, .int .i64 a.f1, .int .i64 a.f2, .int .i64 a.f3], .slice B bs.length cb] w fun e w' => ∃ B1 b1, e = .returned (.tuple #[.agg #[.slice B1 bs.length b1, .int .i64 0, .int .i64 0, .int .i64 4, .int .i64 0, .int .i64 0, .int .i64 0, .int .i64 4, .int .i64 1, .int .i64 0, .int .i64 4, .int .i64 2, .int .i64 0, .int .i64 4, .int .i64 3, .int .i64 0, .int .i64 4, .slice none 0 0, .bool false], .int .i64 0]) ∧ bs.length ≤ b1 ∧ Kd.C Kd.string w' B1 bs.length bs ∧ Below w.heap.size w w') ∧ (Calls Tryz.prog 13 #[.slice A t.length c, .agg #[.string u, .int .i64 a.f0, .int .i64 a.f1, .int .i64 a.f2, .int .i64 a.f3], .slice B bs.length cb] w fun e w' => ∃ B1 b1, e = .returned (.tuple #[.agg #[.slice B1 bs.length b1, .int .i64 0, .int .i64 0, .int .i64 4, .int .i64 0, .int .i64 0, .int .i64 0, .int .i64 4, .int .i64 1, .int .i64 0, .int .i64 4, .int .i64 2, .int .i64 0, .int .i64 4, .int .i64 3, .int .i64 0, .int .i64 4, .slice none 0 0, .bool false], .int .i64 0]) ∧ bs.length ≤ b1 ∧ Kd.C Kd.string w' B1 bs.length bs ∧ Below w.heap.size w w')) := by
 by_cases hn : bs.length < 1 ∨ 4 < bs.length
 ·exact Or.inl ⟨1, fun w _ => ⟨make_none _ bs.length cb B u a w hn, rmake_none _ bs.length cb B u a w hn⟩⟩
 have hb1 : 1 ≤ bs.length := by omega
 have hb4 : bs.length ≤ 4 := by omega
 have hch : ∀ i : Nat, ∃ q : S50 × Int, ∀ (A : Option Addr) (c : Nat) (w0 : World), Kd.C k50 w0 A t.length t → t.length ≤ c → ∀ w, Below w0.heap.size w0 w →
   Calls Tryz.prog 19 #[.slice A t.length c, .agg #[.string u, .int .i64 a.f0, .int .i64 a.f1, .int .i64 a.f2, .int .i64 a.f3], .string (bs.getD i ⟨#[]⟩), .int .i64 (if i = 0 then 4 else 1)] w (NodeE q.1 q.2 w) ∧ Calls Tryz.prog 30 #[.slice A t.length c, .agg #[.string u, .int .i64 a.f0, .int .i64 a.f1, .int .i64 a.f2, .int .i64 a.f3], .string (bs.getD i ⟨#[]⟩), .int .i64 (if i = 0 then 4 else 1)] w (NodeR w0 q.1 q.2 w) := fun i => by
  obtain ⟨nd, k, h⟩ := may_any T u hu a hL (bs.getD i ⟨#[]⟩) (if i = 0 then 4 else 1) (by split <;> decide) (by split <;> decide)
  exact ⟨(nd, k), h⟩
 obtain ⟨f, hf⟩ := Classical.axiomOfChoice hch
 have h19 : ∀ w, Below w0.heap.size w0 w → ∀ i, ∀ w1, Below w.heap.size w w1 → Calls Tryz.prog 19 #[.slice A t.length c, .agg #[.string u, .int .i64 a.f0, .int .i64 a.f1, .int .i64 a.f2, .int .i64 a.f3], .string (bs.getD i ⟨#[]⟩), .int .i64 (if i = 0 then 4 else 1)] w1 fun e w' => ∃ A6 c6 A11 c11, e = .returned (.tuple #[.agg #[.string (f i).1.f0, .bool (f i).1.f1, .int .i64 (f i).1.f2.f0, .int .i64 (f i).1.f2.f1, .int .i64 (f i).1.f2.f2, .int .i64 (f i).1.f2.f3, .slice A6 (f i).1.f3.length c6, .int .i64 (f i).1.f4.f0, .int .i64 (f i).1.f4.f1, .int .i64 (f i).1.f4.f2, .int .i64 (f i).1.f4.f3, .slice A11 (f i).1.f5.length c11, .int .i64 (f i).1.f6.f0, .int .i64 (f i).1.f6.f1, .int .i64 (f i).1.f6.f2, .int .i64 (f i).1.f6.f3], .int .i64 (f i).2]) ∧ Below w1.heap.size w1 w' := fun w hb i w1 hb1 => by
  refine ((hf i A c w0 hC hc w1 (below_step hb hb1)).1).mono ?_
  rintro e w' ⟨cs, rfl, hF, hB⟩
  obtain ⟨A6, c6, A11, c11, rfl, _⟩ := k50_openF hF
  exact ⟨A6, c6, A11, c11, rfl, hB⟩
 have h30 : ∀ w, Below w0.heap.size w0 w → ∀ i, ∀ w1, Below w.heap.size w w1 → Calls Tryz.prog 30 #[.slice A t.length c, .agg #[.string u, .int .i64 a.f0, .int .i64 a.f1, .int .i64 a.f2, .int .i64 a.f3], .string (bs.getD i ⟨#[]⟩), .int .i64 (if i = 0 then 4 else 1)] w1 fun e w' => ∃ A6 c6 A11 c11, e = .returned (.tuple #[.agg #[.string (f i).1.f0, .bool (f i).1.f1, .int .i64 (f i).1.f2.f0, .int .i64 (f i).1.f2.f1, .int .i64 (f i).1.f2.f2, .int .i64 (f i).1.f2.f3, .slice A6 (f i).1.f3.length c6, .int .i64 (f i).1.f4.f0, .int .i64 (f i).1.f4.f1, .int .i64 (f i).1.f4.f2, .int .i64 (f i).1.f4.f3, .slice A11 (f i).1.f5.length c11, .int .i64 (f i).1.f6.f0, .int .i64 (f i).1.f6.f1, .int .i64 (f i).1.f6.f2, .int .i64 (f i).1.f6.f3], .int .i64 (f i).2]) ∧ Below w1.heap.size w1 w' := fun w hb i w1 hb1 => by
  refine ((hf i A c w0 hC hc w1 (below_step hb hb1)).2).mono ?_
  rintro e w' ⟨cs, rfl, hF, hB⟩
  obtain ⟨A6, c6, A11, c11, rfl, _⟩ := k50_openF hF
  exact ⟨A6, c6, A11, c11, rfl, hB⟩
 rcases least_or (fun i => (f i).2 = 0 ∧ (f i).1.f1 = false) bs.length with hall | ⟨K, hK, hnot, hbef⟩
 ·exact Or.inr fun w hb => ⟨make_ok t.length c cb bs.length A B u a bs (fun i => (f i).1) (fun i => (f i).2) w hb1 hb4 hcb (Kd.C_below hB hb) hall rfl (fun i _ _ w1 h => h19 w hb i w1 h), rmake_ok t.length c cb bs.length A B u a bs (fun i => (f i).1) (fun i => (f i).2) w hb1 hb4 hcb (Kd.C_below hB hb) hall rfl (fun i _ _ w1 h => h30 w hb i w1 h)⟩
 ·by_cases hke : (f K).2 = 0
  ·have hd : (f K).1.f1 = true := by
    cases h : (f K).1.f1 with
    | true => rfl
    | false => exact absurd ⟨hke, h⟩ hnot
   exact Or.inl ⟨3, fun w hb => ⟨make_dir t.length c cb K A B u a bs (fun i => (f i).1) (fun i => (f i).2) w hb1 hb4 hcb (Kd.C_below hB hb) hbef hK hke hd (fun i _ _ w1 h => h19 w hb i w1 h), rmake_dir t.length c cb K A B u a bs (fun i => (f i).1) (fun i => (f i).2) w hb1 hb4 hcb (Kd.C_below hB hb) hbef hK hke hd (fun i _ _ w1 h => h30 w hb i w1 h)⟩⟩
  ·exact Or.inl ⟨(f K).2, fun w hb => ⟨make_bad t.length c cb K A B u a bs (fun i => (f i).1) (fun i => (f i).2) w hb1 hb4 hcb (Kd.C_below hB hb) hbef hK hke (fun i _ _ w1 h => h19 w hb i w1 h), rmake_bad t.length c cb K A B u a bs (fun i => (f i).1) (fun i => (f i).2) w hb1 hb4 hcb (Kd.C_below hB hb) hbef hK hke (fun i _ _ w1 h => h30 w hb i w1 h)⟩⟩
theorem own_str_set {W : World} {base c : Nat} {A : Option Addr} {xs : List ByteArray} (h : OwnRow (fun (x : ByteArray) l => l = [.string x]) 9 1 W base (.slice A xs.length c) xs) (i : Nat) (hi : i < xs.length) (x : ByteArray) :
  ∃ g, A = some ⟨g, 0, none⟩ ∧ base ≤ g ∧ W.cell? ⟨g, i, none⟩ = some (.string (xs.getD i ⟨#[]⟩)) ∧ W.frozen? ⟨g, i, none⟩ = false ∧ OwnRow (fun (x : ByteArray) l => l = [.string x]) 9 1 (W.setCell ⟨g, i, none⟩ (.string x)) base (.slice A xs.length c) (xs.set i x) := by
 obtain ⟨inner, hown, hr⟩ := h
 have hin : inner = xs.map Value.string := by
  refine List.ext_getElem (by rw [hr.1, List.length_map, Nat.mul_one]) fun j h1 h2 => ?_
  have hj : j < xs.length := by rw [List.length_map] at h2; exact h2
  have e : (inner.drop (j * 1)).take 1 = [.string xs[j]] := hr.2 j xs[j] (List.getElem?_eq_getElem hj)
  have e0 : ((inner.drop (j * 1)).take 1)[0]? = some (.string xs[j]) := by rw [e]; rfl
  rw [List.getElem?_take, if_pos (by decide), List.getElem?_drop, Nat.mul_one, Nat.add_zero, List.getElem?_eq_getElem h1] at e0
  rw [Option.some.inj e0]
  simp
 subst hin
 have hl := hown.1
 obtain ⟨g, cap, he, _, _⟩ := hown.form (by omega)
 injection he with hA _ hcap
 subst hA hcap
 have hb : Value.ownBlock (.slice (some ⟨g, 0, none⟩) xs.length c) = some g := rfl
 obtain ⟨cells, hcells⟩ := own_typed hown g hb
 have hc := hown.cells (g := g) hb i (.string xs[i]) (by rw [List.getElem?_map, List.getElem?_eq_getElem hi]; rfl)
 rw [add_plain] at hc
 have hst := (hown.stored i (.string x)).1
 refine ⟨g, rfl, own_base hown g hb, by rw [hc, List.getD_eq_getElem?_getD, List.getElem?_eq_getElem hi]; rfl, blk_frozen hcells i, (xs.set i x).map Value.string, ?_, ?_⟩
 ·rw [List.map_set, List.length_set]
  exact hst
 ·refine ⟨by rw [List.length_map, Nat.mul_one], fun j p hj => ?_⟩
  show (((xs.set i x).map Value.string).drop (j * 1)).take 1 = [.string p]
  have hlj : j < ((xs.set i x).map Value.string).length := by rw [List.length_map]; exact (List.getElem?_eq_some_iff.1 hj).1
  have he2 : ((xs.set i x).map Value.string)[j] = .string p := by
   have := (List.getElem?_eq_some_iff.1 hj).2
   rw [List.getElem_map, this]
  rw [Nat.mul_one, List.drop_eq_getElem_cons hlj, he2]
  rfl
end Go.Proofs.YteilkbookcmndaaGreatDoor.C
end
