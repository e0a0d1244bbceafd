/- Texts that the claim's law stands on, cut down to what it reaches. -/
import Derived.Test.YteilkbookcmndaaGreatDoorKB
import Derived.Deep.RegionHeldLaw
import Derived.Deep.RegionHeld3
import Derived.Test.YteilkbookcmndaaGreatDoorKA2
import Derived.Deep.LoopGhost
import Derived.Test.YteilkbookcmndaaGreatDoorKA
import Derived.Test.YteilkbookcmndaaGreatDoorKQ
import Derived.Deep.Slices
set_option linter.unusedVariables false
set_option linter.unusedSimpArgs false
section
namespace Go.Proofs.YteilkbookcmndaaGreatDoor.C
open Go.RowKit Go.Proofs.YteilkbookcmndaaGreatDoor.Q Go.Proofs.YteilkbookcmndaaGreatDoorW.PrintWords Go.Proofs.YteilkbookcmndaaGreatDoorW.PrintLast Go.Proofs.YteilkbookcmndaaGreatDoorW.PrintMore
attribute [local go_sem ↓] rd_at50 wr_at50 al_at50
attribute [local go_sem] rd50_new wr50_new al50
def regIn : Code → Nat → Option Code
  | .region id ops b, k => if id == k then some (.region id ops b) else none
  | .seq a b, k => match regIn a k with
    | some o => some o
    | none => regIn b k
  | .cond _ a b, k => match regIn a k with
    | some o => some o
    | none => regIn b k
  | .block _ c, k => regIn c k
  | .loop c, k => regIn c k
  | .scope c, k => regIn c k
  | _, _ => none
noncomputable def c32 (k : Nat) : Code := (Tryz.f27.body.bind fun c => regIn c k).getD .skip
theorem C96_of {w W : World} {A : Option Addr} {xs : List S96} (h : ReadsRow (k96.K w) 2 W A xs.length xs) : Kd.C k96 W A xs.length xs :=
  ReadsRow.imp_ h (Below.refl _ _) (fun p c h => by rw [k96_open h]; exact k96_mk W p)
theorem own96 {wp w W : World} {base base' : Nat} {v : Value} {xs : List S96} (h : OwnRow (k96.K wp) 85 2 w base v xs) (hb : base' ≤ base) : OwnRow (k96.K W) 85 2 w base' v xs :=
  OwnRow.imp_ (OwnRow.lower h hb) (fun p c h => by rw [k96_open h]; exact k96_mk W p)
theorem own96_set {wp w5 w6 W : World} {base base' : Nat} {v : Value} {xs : List S96} (h : OwnRow (k96.K wp) 85 2 w5 base v xs) (hb : Below w5.heap.size w5 w6) (g : Nat) (hg : g < base) (hb2 : base' ≤ base) (cs : Array Value) : OwnRow (k96.K W) 85 2 (w6.setRow g cs) base' v xs := by
  obtain ⟨inner, ho, hr⟩ := OwnRow.below h hb
  exact own96 (wp := wp) ⟨inner, own_move (w1 := w6.setRow g cs) ho (fun k hk => setRow_other w6 g k cs (by have := own_base ho k hk; omega)), hr⟩ hb2
set_option maxHeartbeats 8000000 in
set_option maxRecDepth 1000000 in
theorem r16 (m : S80) (dn : S50) (p : ByteArray) (gm gd : Nat) (A0 A6 A11 D6 D11 : Option Addr) (c0 c6 c11 d6 d11 : Nat) (u0 u1 u2 u3 u4 u5 u6 u7 u8 u12 u13 u14 u15 u16 u17 u18 u19 u20 u21 u22 u23 u24 u25 u26 u27 u28 u29 u30 u31 u32 u33 u34 u35 u36 u37 u38 u39 u40 u41 u42 u43 u44 u45 u46 u47 u48 u49 u50 u51 u52 u53 u54 u55 u56 u57 u58 u59 u60 u61 u62 u63 u64 u65 u66 u67 u68 u69 u70 u71 u72 u73 u74 u75 u76 u77 u78 u79 u80 u81 u82 u83 u84 u85 u86 u87 u88 u89 u90 u91 u92 u93 u94 u95 u96 u97 u98 u99 u100 u101 u102 u103 u104 u105 u106 u107 u108 u109 u110 u111 u112 u113 u114 u115 u116 u117 u118 u119 u120 u121 u122 u123 u124 u125 u126 u127 u128 u129 u130 : Value) (W : World) (Q : Exit → Act → World → Prop)
    (hEM : W.heap[gm]? = some (.cells #[.slice A0 m.f0.length c0, .bool m.f1, .int .i64 m.f2.f0, .int .i64 m.f2.f1, .int .i64 m.f2.f2, .int .i64 m.f2.f3, .slice A6 m.f3.length c6, .int .i64 m.f4.f0, .int .i64 m.f4.f1, .int .i64 m.f4.f2, .int .i64 m.f4.f3, .slice A11 m.f5.length c11, .int .i64 m.f6.f0, .int .i64 m.f6.f1, .int .i64 m.f6.f2, .int .i64 m.f6.f3] 118 (0, 0))) (hED : W.heap[gd]? = some (.cells #[.string dn.f0, .bool dn.f1, .int .i64 dn.f2.f0, .int .i64 dn.f2.f1, .int .i64 dn.f2.f2, .int .i64 dn.f2.f3, .slice D6 dn.f3.length d6, .int .i64 dn.f4.f0, .int .i64 dn.f4.f1, .int .i64 dn.f4.f2, .int .i64 dn.f4.f3, .slice D11 dn.f5.length d11, .int .i64 dn.f6.f0, .int .i64 dn.f6.f1, .int .i64 dn.f6.f2, .int .i64 dn.f6.f3] 36 (0, 0))) (hC6 : Kd.C k96 W A6 m.f3.length m.f3) (l6 : m.f3.length ≤ c6)
    (hpost : ∀ (g : Nat) (w' : World) (xs : List S96) (A8 : Option Addr) (c8 : Nat) (b : S41) (t81 t82 t83 t84 t85 t86 t87 t88 t89 t90 t91 t92 : Value), w'.heap[g]? = some (.cells #[.string p, .bool m.f1, .int .i64 dn.f2.f0, .int .i64 dn.f2.f1, .int .i64 dn.f2.f2, .int .i64 dn.f2.f3, .slice A8 xs.length c8, .int .i64 0, .int .i64 0, .int .i64 0, .int .i64 0, .slice none 0 0, .int .i64 b.f0, .int .i64 b.f1, .int .i64 b.f2, .int .i64 b.f3] 36 (0, 0)) → W.heap.size ≤ g → GoodAcl 5 xs → xs.length ≤ c8 → OwnRow (k96.K W) 85 2 w' W.heap.size (.slice A8 xs.length c8) xs → Lab b → Below W.heap.size W w' → Q .normal ⟨#[u0, u1, u2, u3, u4, u5, u6, u7, u8, .pointer (some ⟨gm, 0, none⟩), .string p, .pointer (some ⟨gd, 0, none⟩), u12, u13, u14, .pointer (some ⟨g, 0, none⟩), u16, u17, u18, u19, u20, u21, u22, u23, u24, u25, u26, u27, u28, u29, u30, u31, u32, u33, u34, u35, u36, u37, u38, u39, u40, u41, u42, u43, u44, u45, u46, u47, u48, u49, u50, u51, u52, u53, u54, u55, u56, u57, u58, u59, u60, u61, u62, u63, u64, u65, u66, u67, u68, u69, u70, u71, u72, u73, u74, u75, u76, u77, u78, u79, u80, t81, t82, t83, t84, t85, t86, t87, t88, t89, t90, t91, t92, u93, u94, u95, u96, u97, u98, u99, u100, u101, u102, u103, u104, u105, u106, u107, u108, u109, u110, u111, u112, u113, u114, u115, u116, u117, u118, u119, u120, u121, u122, u123, u124, u125, u126, u127, u128, u129, u130], []⟩ w') :
    Code.wp Tryz.prog (c32 16) Q ⟨#[u0, u1, u2, u3, u4, u5, u6, u7, u8, .pointer (some ⟨gm, 0, none⟩), .string p, .pointer (some ⟨gd, 0, none⟩), u12, u13, u14, u15, u16, u17, u18, u19, u20, u21, u22, u23, u24, u25, u26, u27, u28, u29, u30, u31, u32, u33, u34, u35, u36, u37, u38, u39, u40, u41, u42, u43, u44, u45, u46, u47, u48, u49, u50, u51, u52, u53, u54, u55, u56, u57, u58, u59, u60, u61, u62, u63, u64, u65, u66, u67, u68, u69, u70, u71, u72, u73, u74, u75, u76, u77, u78, u79, u80, u81, u82, u83, u84, u85, u86, u87, u88, u89, u90, u91, u92, u93, u94, u95, u96, u97, u98, u99, u100, u101, u102, u103, u104, u105, u106, u107, u108, u109, u110, u111, u112, u113, u114, u115, u116, u117, u118, u119, u120, u121, u122, u123, u124, u125, u126, u127, u128, u129, u130], []⟩ W := by
  have EM := Lib.hid hEM
  have ED := Lib.hid hED
  have HC6 := Lib.hid hC6
  have HPO := Lib.hid hpost
  have kgm1 := (blk_cell hEM 1).trans rfl
  have kgm6 := (blk_cell hEM 6).trans rfl
  have kgm12 := (blk_cell hEM 12).trans rfl
  have kgm13 := (blk_cell hEM 13).trans rfl
  have kgm14 := (blk_cell hEM 14).trans rfl
  have kgm15 := (blk_cell hEM 15).trans rfl
  have kgd2 := (blk_cell hED 2).trans rfl
  have kgd3 := (blk_cell hED 3).trans rfl
  have kgd4 := (blk_cell hED 4).trans rfl
  have kgd5 := (blk_cell hED 5).trans rfl
  have hgm := blk_lt hEM
  have hgd := blk_lt hED
  clear hEM hED hC6 hpost
  conv => arg 2; whnf
  refine wp_region_noPanic ?_
  go_region_held_law (fun W1 => W1.cell? ⟨gm, 1, none⟩ = some (.bool m.f1) ∧ W1.cell? ⟨gm, 6, none⟩ = some (.slice A6 m.f3.length c6) ∧ W1.cell? ⟨gm, 12, none⟩ = some (.int .i64 m.f6.f0) ∧ W1.cell? ⟨gm, 13, none⟩ = some (.int .i64 m.f6.f1) ∧ W1.cell? ⟨gm, 14, none⟩ = some (.int .i64 m.f6.f2) ∧ W1.cell? ⟨gm, 15, none⟩ = some (.int .i64 m.f6.f3) ∧ W1.cell? ⟨gd, 2, none⟩ = some (.int .i64 dn.f2.f0) ∧ W1.cell? ⟨gd, 3, none⟩ = some (.int .i64 dn.f2.f1) ∧ W1.cell? ⟨gd, 4, none⟩ = some (.int .i64 dn.f2.f2) ∧ W1.cell? ⟨gd, 5, none⟩ = some (.int .i64 dn.f2.f3)) (first | go_keep | (refine ⟨?_, ?_, ?_, ?_, ?_, ?_, ?_, ?_, ?_, ?_⟩ <;> (rw [cell_setRow_other _ _ _ _ (by first | (show gm ≠ _; omega) | (show gd ≠ _; omega))]; assumption)))
    (first | (go_at_call 41; (have hgate := HB5.out; clear hgate; refine (good_c m.f6 _).mono ?_; rintro e w6 ⟨b, rfl, hg, hd⟩; have HB6 := Lib.hid (below_step (show Below w5.heap.size w5 _ by repeat (first | exact HB6.out | exact HB5.out | exact Below.refl _ _ | apply below_alloc | apply below_drew1)) hd); have HLb := Lib.hid hg; have hs6 := below_size HB6.out; (first | (have EN2 := Lib.hid (blk_below EN.out HB6.out); have hst := wr50_blk (cs := #[.string p, .bool m.f1, .int .i64 dn.f2.f0, .int .i64 dn.f2.f1, .int .i64 dn.f2.f2, .int .i64 dn.f2.f3, .slice A8 xs.length c8, .int .i64 0, .int .i64 0, .int .i64 0, .int .i64 0, .slice none 0 0, .int .i64 b.f0, .int .i64 b.f1, .int .i64 b.f2, .int .i64 b.f3]) EN2.out rfl rfl (by simp [Value.oneCell'])) | (have EN2 := Lib.hid (blk_below (blk_new w5 (.cells #[.string (⟨#[]⟩ : ByteArray), .bool false, .int .i64 0, .int .i64 0, .int .i64 0, .int .i64 0, .slice none 0 0, .int .i64 0, .int .i64 0, .int .i64 0, .int .i64 0, .slice none 0 0, .int .i64 0, .int .i64 0, .int .i64 0, .int .i64 0] 36)) hd); have hst := wr50_blk (cs := #[.string p, .bool m.f1, .int .i64 dn.f2.f0, .int .i64 dn.f2.f1, .int .i64 dn.f2.f2, .int .i64 dn.f2.f3, .slice A8 xs.length c8, .int .i64 0, .int .i64 0, .int .i64 0, .int .i64 0, .slice none 0 0, .int .i64 b.f0, .int .i64 b.f1, .int .i64 b.f2, .int .i64 b.f3]) EN2.out rfl rfl (by simp [Value.oneCell'])) | skip); have kgm1 := (blk_cell (blk_below EM.out (below_step HB5.out HB6.out)) 1).trans rfl; have kgm6 := (blk_cell (blk_below EM.out (below_step HB5.out HB6.out)) 6).trans rfl; have kgm12 := (blk_cell (blk_below EM.out (below_step HB5.out HB6.out)) 12).trans rfl; have kgm13 := (blk_cell (blk_below EM.out (below_step HB5.out HB6.out)) 13).trans rfl; have kgm14 := (blk_cell (blk_below EM.out (below_step HB5.out HB6.out)) 14).trans rfl; have kgm15 := (blk_cell (blk_below EM.out (below_step HB5.out HB6.out)) 15).trans rfl; have kgd2 := (blk_cell (blk_below ED.out (below_step HB5.out HB6.out)) 2).trans rfl; have kgd3 := (blk_cell (blk_below ED.out (below_step HB5.out HB6.out)) 3).trans rfl; have kgd4 := (blk_cell (blk_below ED.out (below_step HB5.out HB6.out)) 4).trans rfl; have kgd5 := (blk_cell (blk_below ED.out (below_step HB5.out HB6.out)) 5).trans rfl; clear hd hg)) | (go_at_call 44; (refine (acl_c m.f3 A6 c6 _ (Kd.C_below HC6.out (by repeat (first | exact HB6.out | exact HB5.out | exact Below.refl _ _ | apply below_alloc | apply below_drew1))) l6).mono ?_; rintro e w5 ⟨v5, rfl, xs, hg, hO, hd⟩; have HB5 := Lib.hid (below_step (show Below W.heap.size W _ by repeat (first | exact HB6.out | exact HB5.out | exact Below.refl _ _ | apply below_alloc | apply below_drew1)) hd); obtain ⟨A8, c8, rfl, hc8, hR8⟩ := OwnRow.reads hO; have HG8 := Lib.hid hg; have HO8 := Lib.hid hO; have hs5 := below_size HB5.out; have HR8 := Lib.hid (C96_of hR8); (first | have EN := Lib.hid (show w5.heap[W.heap.size]? = some (.cells #[.string (⟨#[]⟩ : ByteArray), .bool false, .int .i64 0, .int .i64 0, .int .i64 0, .int .i64 0, .slice none 0 0, .int .i64 0, .int .i64 0, .int .i64 0, .int .i64 0, .slice none 0 0, .int .i64 0, .int .i64 0, .int .i64 0, .int .i64 0] 36 (0, 0)) from blk_below (blk_new W (.cells #[.string (⟨#[]⟩ : ByteArray), .bool false, .int .i64 0, .int .i64 0, .int .i64 0, .int .i64 0, .slice none 0 0, .int .i64 0, .int .i64 0, .int .i64 0, .int .i64 0, .slice none 0 0, .int .i64 0, .int .i64 0, .int .i64 0, .int .i64 0] 36)) hd) | have EN := Lib.hid (show w5.heap[W.heap.size]? = some (.cells #[.string (⟨#[]⟩ : ByteArray), .bool false, .int .i64 0, .int .i64 0, .int .i64 0, .int .i64 0, .slice none 0 0, .int .i64 0, .int .i64 0, .int .i64 0, .int .i64 0, .slice none 0 0, .int .i64 0, .int .i64 0, .int .i64 0, .int .i64 0] 36 (0, 0)) from blk_below (blk_new W.drew (.cells #[.string (⟨#[]⟩ : ByteArray), .bool false, .int .i64 0, .int .i64 0, .int .i64 0, .int .i64 0, .slice none 0 0, .int .i64 0, .int .i64 0, .int .i64 0, .int .i64 0, .slice none 0 0, .int .i64 0, .int .i64 0, .int .i64 0, .int .i64 0] 36)) hd) | have EN := Lib.hid (show w5.heap[W.heap.size]? = some (.cells #[.string (⟨#[]⟩ : ByteArray), .bool false, .int .i64 0, .int .i64 0, .int .i64 0, .int .i64 0, .slice none 0 0, .int .i64 0, .int .i64 0, .int .i64 0, .int .i64 0, .slice none 0 0, .int .i64 0, .int .i64 0, .int .i64 0, .int .i64 0] 36 (0, 0)) from blk_below (blk_drew (blk_new W (.cells #[.string (⟨#[]⟩ : ByteArray), .bool false, .int .i64 0, .int .i64 0, .int .i64 0, .int .i64 0, .slice none 0 0, .int .i64 0, .int .i64 0, .int .i64 0, .int .i64 0, .slice none 0 0, .int .i64 0, .int .i64 0, .int .i64 0, .int .i64 0] 36))) hd) | have EN := Lib.hid True.intro); have kgm1 := (blk_cell (blk_below EM.out HB5.out) 1).trans rfl; have kgm6 := (blk_cell (blk_below EM.out HB5.out) 6).trans rfl; have kgm12 := (blk_cell (blk_below EM.out HB5.out) 12).trans rfl; have kgm13 := (blk_cell (blk_below EM.out HB5.out) 13).trans rfl; have kgm14 := (blk_cell (blk_below EM.out HB5.out) 14).trans rfl; have kgm15 := (blk_cell (blk_below EM.out HB5.out) 15).trans rfl; have kgd2 := (blk_cell (blk_below ED.out HB5.out) 2).trans rfl; have kgd3 := (blk_cell (blk_below ED.out HB5.out) 3).trans rfl; have kgd4 := (blk_cell (blk_below ED.out HB5.out) 4).trans rfl; have kgd5 := (blk_cell (blk_below ED.out HB5.out) 5).trans rfl; clear hd hg hO hR8)))
  all_goals refine NoPanic.normal ?_
  all_goals refine HPO.out _ _ xs A8 c8 b _ _ _ _ _ _ _ _ _ _ _ _ ?_ ?_ HG8.out hc8 ?_ HLb.out ?_
  all_goals first
    | exact blk_new _ _
    | exact setRow_heap _ _ _ _ _ _ EN2.out
    | exact Nat.le_refl _
    | exact hs5
    | exact Nat.le_trans hs5 hs6
    | exact own96 (OwnRow.below HO8.out (below_alloc HB6.out _)) (by first | exact Nat.le_refl _ | (simp only [World.size_alloc]; exact Nat.le_succ _) | simp)
    | exact own96 (OwnRow.below HO8.out (below_setRow HB6.out (Nat.le_refl _) _)) (by first | exact Nat.le_refl _ | (simp only [World.size_alloc]; exact Nat.le_succ _) | simp)
    | exact own96_set HO8.out HB6.out W.heap.size (by first | (simp only [World.size_alloc]; exact Nat.lt_succ_self _) | exact Nat.lt_of_lt_of_eq (Nat.lt_succ_self _) (World.size_alloc W _).symm | simp) (by first | exact Nat.le_refl _ | (simp only [World.size_alloc]; exact Nat.le_succ _) | simp) _
    | exact below_alloc (below_step HB5.out HB6.out) _
    | exact below_setRow (below_step HB5.out HB6.out) hs5 _
    | exact below_setRow (below_step HB5.out HB6.out) (Nat.le_refl _) _
end Go.Proofs.YteilkbookcmndaaGreatDoor.C
end
section
namespace Go.Proofs.YteilkbookcmndaaGreatDoor.C
open Go.RowKit Go.Proofs.YteilkbookcmndaaGreatDoor.Q Go.Proofs.YteilkbookcmndaaGreatDoorW.PrintWords Go.Proofs.YteilkbookcmndaaGreatDoorW.PrintLast Go.Proofs.YteilkbookcmndaaGreatDoorW.PrintMore
attribute [local go_sem ↓] rd_at50 wr_at50 al_at50 rd_at80 wr_at80 al_at80
attribute [local go_sem] rd50_new wr50_new al50 al80 wr80_new
theorem inf41 : (Tryz.prog.info? 30).map (fun i => (i.zero, i.size, i.bytes)) = some (some (.agg #[.int .i64 0, .int .i64 0, .int .i64 0, .int .i64 0]), 4, 32) := by kernel_rfl
theorem own_far_set {α : Type} {R : α → List Value → Prop} {e : TypeId} {size base : Nat} {w : World} {v : Value} {xs : List α} (h : OwnRow R e size w base v xs) (g j : Nat) (u : Value) (hg : g < base) : OwnRow R e size (w.setCell ⟨g, j, none⟩ u) base v xs := by
  obtain ⟨inner, ho, hr⟩ := h
  refine ⟨inner, own_move ho (fun k hk => Below.heap_setCell w ⟨g, j, none⟩ u k ?_), hr⟩
  have := own_base ho k hk
  show k ≠ g
  omega
theorem below_join {B B2 : Nat} {w w1 w2 : World} (h : Below B w w1) (h2 : Below B2 w1 w2) (hB : B ≤ B2) : Below B w w2 :=
  ⟨h2.os.trans h.os, h2.tape.trans h.tape, h2.output.trans h.output, Nat.le_trans h.size h2.size, fun k hk => (h2.block k (by omega)).trans (h.block k hk)⟩
theorem below_put {B g j : Nat} {w W : World} {v : Value} (h : Below B w W) (hg : B ≤ g) : Below B w (W.setCell ⟨g, j, none⟩ v) :=
  h.setCell hg _
theorem C41_of {w W : World} {A : Option Addr} {xs : List S41} (h : ReadsRow (k41.K w) 4 W A xs.length xs) : Kd.C k41 W A xs.length xs :=
  ReadsRow.imp_ h (Below.refl _ _) (fun p c h => by rw [k41_open h]; exact k41_mk W p)
theorem C50_of {w W : World} {A : Option Addr} {xs : List S50} (h : ReadsRow (k50.K w) 16 W A xs.length xs) (hb : Below w.heap.size w W) : Kd.C k50 W A xs.length xs :=
  ReadsRow.imp_ h (Below.refl _ _) (fun _ _ h => k50.K_below hb h)
theorem find_t {t : List S50} (T : Tree t) (p : ByteArray) (A : Option Addr) (c : Nat) (w : World) (hC : Kd.C k50 w A t.length t) (hc : t.length ≤ c) (n : S50) (b : Bool) (hn : nodeN t p = n) (hb : isN t p = b) :
    Calls Tryz.prog 16 #[.slice A t.length c, .string p] w fun e w' => ∃ A6 c6 A11 c11, e = .returned (.tuple #[.agg #[.string n.f0, .bool n.f1, .int .i64 n.f2.f0, .int .i64 n.f2.f1, .int .i64 n.f2.f2, .int .i64 n.f2.f3, .slice A6 n.f3.length c6, .int .i64 n.f4.f0, .int .i64 n.f4.f1, .int .i64 n.f4.f2, .int .i64 n.f4.f3, .slice A11 n.f5.length c11, .int .i64 n.f6.f0, .int .i64 n.f6.f1, .int .i64 n.f6.f2, .int .i64 n.f6.f3], .bool b]) ∧ Below w.heap.size w w' := by
  refine (find_c t p A c w hC hc).mono ?_
  rintro e w' ⟨cs, rfl, hK, hB⟩
  obtain ⟨h1, h2⟩ := find_is T.asc p
  rw [h2, hn] at hK
  obtain ⟨A6, c6, A11, c11, rfl, _⟩ := k50_open hK
  exact ⟨A6, c6, A11, c11, by rw [h1, hb], hB⟩
theorem put_tree {t : List S50} (T : Tree t) (hlen : t.length < 900) (ns : List (List UInt8)) (hok : Okp ns) (hne : ns ≠ []) (dn : S50) (hd : nodeN t (pth ns.dropLast) = dn) (h1 : isN t (pth ns.dropLast) = true) (h2 : dn.f1 = true) (h3 : isN t (pth ns) = false) (n : S50) (h0 : n.f0 = pth ns) (hl : Lab n.f2) (hb : Lab n.f6) (ha : GoodAcl 5 n.f3) (hw : n.f5.length ≤ 16) (hdir : n.f1 = true → n.f5 = [] ∧ n.f4 = z47) (hr : 0 ≤ n.f4.f0 ∧ n.f4.f0 ≤ n.f4.f1 ∧ n.f4.f1 ≤ n.f4.f2 ∧ n.f4.f2 < 8 ∧ 0 ≤ n.f4.f3 ∧ n.f4.f3 < 17) (ho : lover n.f2 dn.f2 = true) (hs : n.f1 = false → n.f2 = dn.f2) : Tree (putN t n) ∧ (putN t n).length ≤ t.length + 1 := by
  obtain ⟨m1, m2⟩ := is_mem h1
  rw [hd] at m1 m2
  exact ⟨tree_put T hlen n ⟨hl, hb, ha, hw, hdir, hr⟩ ns hok h0 hne h3 dn m1 m2 h2 ho hs, put_len t n⟩
theorem dir_put {t : List S50} (T : Tree t) (hlen : t.length ≤ 100) {ns : List (List UInt8)} (hok : Okp ns) (hne : ns ≠ []) {p par : ByteArray} (hp : pth ns = p) (hq : pth ns.dropLast = par) {dn : S50} (hd : nodeN t par = dn) (h1 : isN t par = true) (h2 : dn.f1 = true) (h3 : isN t p = false) {q b : S41} (hLq : Lab q) (hLb : Lab b) {xs : List S96} (ha : GoodAcl 5 xs) : Tree (putN t ⟨p, true, joinS dn.f2 q, xs, z47, [], b⟩) ∧ (putN t ⟨p, true, joinS dn.f2 q, xs, z47, [], b⟩).length ≤ t.length + 1 := by
  subst hp hq
  have hm := is_mem h1
  rw [hd] at hm
  have hLd := (T.ok dn hm.1).1
  obtain ⟨j1, j2, _⟩ := join_lab hLd hLq
  exact put_tree T (by omega) ns hok hne dn hd h1 h2 h3 _ rfl j1 hLb ha (Nat.zero_le _) (fun _ => ⟨rfl, rfl⟩) ⟨Int.le_refl 0, Int.le_refl 0, Int.le_refl 0, (by decide : (0 : Int) < 8), Int.le_refl 0, (by decide : (0 : Int) < 17)⟩ ((lover_iff j1 hLd).2 j2) (fun h => by cases h)
theorem seg_put {t : List S50} (T : Tree t) (hlen : t.length ≤ 100) {ns : List (List UInt8)} (hok : Okp ns) (hne : ns ≠ []) {p par : ByteArray} (hp : pth ns = p) (hq : pth ns.dropLast = par) {dn : S50} (hd : nodeN t par = dn) (h1 : isN t par = true) (h2 : dn.f1 = true) (h3 : isN t p = false) {b : S41} (hLb : Lab b) {xs : List S96} (ha : GoodAcl 5 xs) {r : S47} (hr : 0 ≤ r.f0 ∧ r.f0 ≤ r.f1 ∧ r.f1 ≤ r.f2 ∧ r.f2 < 8 ∧ 0 ≤ r.f3 ∧ r.f3 < 17) {ws : List Int} (hw : ws.length ≤ 16) : Tree (putN t ⟨p, false, dn.f2, xs, r, ws, b⟩) ∧ (putN t ⟨p, false, dn.f2, xs, r, ws, b⟩).length ≤ t.length + 1 := by
  subst hp hq
  have hm := is_mem h1
  rw [hd] at hm
  have hLd := (T.ok dn hm.1).1
  exact put_tree T (by omega) ns hok hne dn hd h1 h2 h3 _ rfl hLd hLb ha hw (fun h => by cases h) hr (lover_refl hLd) (fun _ => rfl)
theorem own_keep {W W8 wr : World} {g base c : Nat} {A : Option Addr} {xs : List S96} {cells : Array Value} (h : OwnRow (k96.K W) 85 2 W8 base (.slice A xs.length c) xs) (hb : W8.heap[g]? = some (.cells cells 36 (0, 0))) (hk : ∀ k, k < W8.heap.size → k ≠ g → wr.heap[k]? = W8.heap[k]?) : OwnRow (k96.K W) 85 2 wr base (.slice A xs.length c) xs := by
  have hne := OwnRow.ne_block h hb (by decide)
  obtain ⟨inner, ho, hr⟩ := h
  exact ⟨inner, own_move ho (fun k hkk => hk k (own_lt ho k hkk) (fun e => hne (by rw [hkk, e]))), hr⟩
theorem C96_own {W w' : World} {base : Nat} {A : Option Addr} {c : Nat} {xs : List S96} (h : OwnRow (k96.K W) 85 2 w' base (.slice A xs.length c) xs) : Kd.C k96 w' A xs.length xs := by
  obtain ⟨A', c', e, _, hR⟩ := OwnRow.reads h
  injection e with e1 _ _
  subst e1
  exact C96_of hR
theorem join_c (a b : S41) (w : World) : Calls Tryz.prog 45 #[.agg #[.int .i64 a.f0, .int .i64 a.f1, .int .i64 a.f2, .int .i64 a.f3], .agg #[.int .i64 b.f0, .int .i64 b.f1, .int .i64 b.f2, .int .i64 b.f3]] w fun e w' => e = .returned (.agg #[.int .i64 (joinS a b).f0, .int .i64 (joinS a b).f1, .int .i64 (joinS a b).f2, .int .i64 (joinS a b).f3]) ∧ Below w.heap.size w w' :=
  donjonref4_Join.calls _ _ _ _ _ _ _ _ _ _ _ _ w rfl
theorem root_eq : ((pth []).toList == ([47] : List UInt8)) = true := by rw [Lib.toList_data]; rfl
theorem three_way : ∀ b1 b2 b3 : Bool, ¬ (b1 = true ∧ b2 = true ∧ b3 = false) → b1 = false ∨ (b1 = true ∧ b2 = false) ∨ (b1 = true ∧ b2 = true ∧ b3 = true) := by decide
theorem eq_root (ns : List (List UInt8)) (h : ∀ x ∈ ns, L.Nm x) (hne : ns ≠ []) : ((pth ns).toList == ([47] : List UInt8)) = false := by
  rw [Lib.toList_data, pth_data]
  cases hb : (L.render ns == ([47] : List UInt8)) with
  | false => rfl
  | true => exact absurd ((L.render_one h).1 (by simpa using hb)) hne
end Go.Proofs.YteilkbookcmndaaGreatDoor.C
end
section
namespace Go.Proofs.YteilkbookcmndaaGreatDoor.C
open Go.RowKit Go.Proofs.YteilkbookcmndaaGreatDoor.Q Go.Proofs.YteilkbookcmndaaGreatDoorW.PrintWords Go.Proofs.YteilkbookcmndaaGreatDoorW.PrintLast Go.Proofs.YteilkbookcmndaaGreatDoorW.PrintMore
attribute [local go_sem ↓] rd_at50 wr_at50 al_at50
attribute [local go_sem] rd50_new wr50_new al50
theorem C50_of' {w W : World} {A : Option Addr} {xs : List S50} (h : ReadsRow (k50.K w) 16 W A xs.length xs) (hb : Below w.heap.size w W) : Kd.C k50 W A xs.length xs :=
  ReadsRow.imp_ h (Below.refl _ _) (fun _ _ h => k50.K_below hb h)
end Go.Proofs.YteilkbookcmndaaGreatDoor.C
namespace Go.Proofs.YteilkbookcmndaaGreatDoor.C
open Go.RowKit Go.Proofs.YteilkbookcmndaaGreatDoor.Q Go.Proofs.YteilkbookcmndaaGreatDoorW.PrintWords Go.Proofs.YteilkbookcmndaaGreatDoorW.PrintLast Go.Proofs.YteilkbookcmndaaGreatDoorW.PrintMore
end Go.Proofs.YteilkbookcmndaaGreatDoor.C
namespace Go.Proofs.YteilkbookcmndaaGreatDoor.C
open Go.RowKit Go.Proofs.YteilkbookcmndaaGreatDoor.Q Go.Proofs.YteilkbookcmndaaGreatDoorW.PrintWords Go.Proofs.YteilkbookcmndaaGreatDoorW.PrintLast Go.Proofs.YteilkbookcmndaaGreatDoorW.PrintMore
attribute [local go_sem ↓] rd_at50 wr_at50 al_at50
attribute [local go_sem] rd50_new wr50_new al50
attribute [local go_sem high] eqA41
end Go.Proofs.YteilkbookcmndaaGreatDoor.C
end
section
namespace Go.Proofs.YteilkbookcmndaaGreatDoor.C
open Go.RowKit Go.ChangeShapes Go.WideShapes Go.Proofs.YteilkbookcmndaaGreatDoor.Q Go.Proofs.YteilkbookcmndaaGreatDoorW.PrintWords Go.Proofs.YteilkbookcmndaaGreatDoorW.PrintLast Go.Proofs.YteilkbookcmndaaGreatDoorW.PrintMore
section
variable {H : Type} {enc : TypeId × Value → H} {P : Program} {w : World} {base : Nat} {spare : Nat → Bool} {held : Bool}
def Opens {H : Type} (enc : TypeId × Value → H) (P : Program) (w : World) (base : Nat) (spare : Nat → Bool) (held : Bool) {α : Type} (d : Kd α) (t : TypeId) : Prop :=
  d.sz = P.cellsOf t ∧ ∀ (n : Nat) (cs : List Value) (x : DataW H × List MemPlace), DataW.trod enc P w base spare held n t cs = some x → ∃ y, d.K w y cs
theorem opens_int {t : TypeId} {k : IntKind} (ht : P.underlying t = some (.int k)) (hc : P.cellsOf t = 1) : Opens enc P w base spare held (Kd.int k) t :=
  ⟨hc.symm, fun _ _ _ h => by obtain ⟨m, rfl, _⟩ := DataW.trod_int ht h; exact ⟨m, rfl⟩⟩
theorem opens_bool {t : TypeId} (ht : P.underlying t = some .bool) (hc : P.cellsOf t = 1) : Opens enc P w base spare held Kd.bool t :=
  ⟨hc.symm, fun _ _ _ h => by obtain ⟨m, rfl, _⟩ := DataW.trod_bool ht h; exact ⟨m, rfl⟩⟩
theorem opens_string {t : TypeId} (ht : P.underlying t = some .string) (hc : P.cellsOf t = 1) : Opens enc P w base spare held Kd.string t :=
  ⟨hc.symm, fun _ _ _ h => by obtain ⟨m, rfl, _⟩ := DataW.trod_string ht h; exact ⟨m, rfl⟩⟩
theorem opens_cells {t e : TypeId} {α : Type} [Inhabited α] {d : Kd α} (ht : P.underlying t = some (.slice e)) (hd : Opens enc P w base spare held d e) {n : Nat} {cs : List Value} {x : DataW H × List MemPlace} (h : DataW.trod enc P w base spare held n t cs = some x) :
    ∃ A xs c, cs = [.slice A xs.length c] ∧ xs.length ≤ c ∧ d.C w A xs.length xs := by
  rcases Deep.open_slice ht h with ⟨rfl, _⟩ | ⟨a, len, cap, m, k, D, Pl, rfl, hb, hl, hm, hmm, _, hx⟩
  · exact ⟨none, [], 0, rfl, Nat.le_refl _, rfl, (by show (0:Nat) ≤ _; omega), fun h => by simp at h⟩
  · have hlm : len ≤ m := by rw [hmm]; split <;> omega
    obtain ⟨f, hf⟩ := Deep.choose_lt (α := α) (n := len) (p := fun i y => ∃ cs', d.K w y cs' ∧ w.cells? base (a.add (i * P.cellsOf e)) (P.cellsOf e) = some cs') (fun i hi => by
      obtain ⟨cs', h1, h2⟩ := hx i (by omega)
      obtain ⟨y, hy⟩ := hd.2 _ _ _ h2
      exact ⟨y, cs', hy, h1⟩)
    have hlen : ((List.range len).map f).length = len := by simp
    have hmax : maxLen = 9223372036854775807 := rfl
    refine ⟨some a, (List.range len).map f, cap, by rw [hlen], by rw [hlen]; exact hl, ?_⟩
    refine ⟨rfl, by rw [hlen]; omega, fun _ => ⟨a, rfl, fun j p hj => ?_⟩⟩
    have hjl : j < len := by
      have := (List.getElem?_eq_some_iff.1 hj).1
      rwa [hlen] at this
    have hp : p = f j := by
      rw [List.getElem?_map, List.getElem?_range hjl] at hj
      exact (Option.some.inj hj).symm
    subst hp
    obtain ⟨cs', h1, h2⟩ := hf j hjl
    obtain ⟨_, g2, g3⟩ := World.cells?_some h2
    refine ⟨cs', by rw [g2]; exact hd.1.symm, h1, fun i u hu => ?_⟩
    have hi : i < P.cellsOf e := by rw [← g2]; exact (List.getElem?_eq_some_iff.1 hu).1
    have := g3 i hi
    rw [Deep.add_add] at this
    rw [hd.1, this]
    exact hu
theorem opens_slice {t e : TypeId} {α : Type} [Inhabited α] {d : Kd α} (q : Nat) (ht : P.underlying t = some (.slice e)) (hc : P.cellsOf t = 1) (hd : Opens enc P w base spare held d e) : Opens enc P w base spare held (Kd.slice q d) t :=
  ⟨hc.symm, fun _ _ _ h => by obtain ⟨A, xs, c, rfl, h1, h2⟩ := opens_cells ht hd h; exact ⟨xs, A, c, rfl, h1, h2⟩⟩
theorem fields_one {α : Type} {d : Kd α} {f : Field} {n o : Nat} {cs : List Value} {x : Option (DataW H × List MemPlace)} (hd : Opens enc P w base spare held d f.type) (ho : f.offset = o) (hl : cs.length = o + d.sz) (hs : x.isSome = true) (h : DataW.trod enc P w base spare held n f.type ((cs.drop f.offset).take (P.cellsOf f.type)) = x) : ∃ y, d.K w y (cs.drop o) := by
  obtain ⟨x, rfl⟩ := Option.isSome_iff_exists.1 hs
  rw [ho, ← hd.1, List.take_of_length_le (by rw [List.length_drop]; omega)] at h
  exact hd.2 _ _ _ h
theorem fields_pair {α β : Type} {a : Kd α} {b : Kd β} {f : Field} {n o : Nat} {cs : List Value} {x : Option (DataW H × List MemPlace)} (hd : Opens enc P w base spare held a f.type) (ho : f.offset = o) (hl : cs.length = o + (a.sz + b.sz)) (hs : x.isSome = true) (h : DataW.trod enc P w base spare held n f.type ((cs.drop f.offset).take (P.cellsOf f.type)) = x)
    (hr : cs.length = (o + a.sz) + b.sz → ∃ z, b.K w z (cs.drop (o + a.sz))) : ∃ y, (Kd.pair a b).K w y (cs.drop o) := by
  obtain ⟨x, rfl⟩ := Option.isSome_iff_exists.1 hs
  rw [ho, ← hd.1] at h
  obtain ⟨y, hy⟩ := hd.2 _ _ _ h
  obtain ⟨z, hz⟩ := hr (by omega)
  refine ⟨(y, z), (cs.drop o).take a.sz, cs.drop (o + a.sz), ?_, hy, hz⟩
  rw [← List.drop_drop, List.take_append_drop]
theorem opens_iso {α β : Type} {d : Kd β} {f : α → β} (g : β → α) (hg : ∀ y, f (g y) = y) {t : TypeId} (h : Opens enc P w base spare held d t) : Opens enc P w base spare held (Kd.iso d f) t :=
  ⟨h.1, fun n cs x hx => by obtain ⟨y, hy⟩ := h.2 n cs x hx; exact ⟨g y, by show d.K w (f (g y)) cs; rw [hg]; exact hy⟩⟩
end
end Go.Proofs.YteilkbookcmndaaGreatDoor.C
namespace Go.Proofs.YteilkbookcmndaaGreatDoor.C
open Go.RowKit Go.ChangeShapes Go.WideShapes Go.Proofs.YteilkbookcmndaaGreatDoor.Q Go.Proofs.YteilkbookcmndaaGreatDoorW.PrintWords Go.Proofs.YteilkbookcmndaaGreatDoorW.PrintLast Go.Proofs.YteilkbookcmndaaGreatDoorW.PrintMore
section
variable {H : Type} {enc : TypeId × Value → H} {w : World} {base : Nat} {spare : Nat → Bool} {held : Bool}
theorem some_lt {α : Type} {xs : List α} {i : Nat} (h : i < xs.length) : (xs[i]?).isSome = true := by rw [List.getElem?_eq_getElem h]; rfl
theorem opens_i3 : Opens enc Tryz.prog w base spare held (Kd.int .i64) 3 := opens_int Tryz.underlying3 (by kernel_rfl)
theorem opens_i2 : Opens enc Tryz.prog w base spare held (Kd.int .i64) 2 := opens_int Tryz.underlying2 (by kernel_rfl)
theorem opens_b4 : Opens enc Tryz.prog w base spare held Kd.bool 4 := opens_bool Tryz.underlying4 (by kernel_rfl)
theorem opens_s9 : Opens enc Tryz.prog w base spare held Kd.string 9 := opens_string Tryz.underlying9 (by kernel_rfl)
set_option maxRecDepth 100000 in
theorem opens41 : Opens enc Tryz.prog w base spare held k41 30 := by
  refine opens_iso (fun y : Int × Int × Int × Int => (⟨y.1, y.2.1, y.2.2.1, y.2.2.2⟩ : S41)) (fun _ => rfl) ⟨by kernel_rfl, fun n cs x h => ?_⟩
  obtain ⟨xs, m, _, _, hl, hx, hf⟩ := DataW.trod_struct Tryz.underlying30 h
  have h4 : cs.length = 4 := hl.trans (by kernel_rfl)
  have hx4 : xs.length = 4 := hx
  have key : ∃ y, (Kd.pair (Kd.int .i64) (Kd.pair (Kd.int .i64) (Kd.pair (Kd.int .i64) (Kd.int .i64)))).K w y (cs.drop 0) :=
    fields_pair opens_i3 rfl h4 (some_lt (by omega)) (hf 0 _ rfl) fun _ =>
    fields_pair opens_i3 rfl h4 (some_lt (by omega)) (hf 1 _ rfl) fun _ =>
    fields_pair opens_i3 rfl h4 (some_lt (by omega)) (hf 2 _ rfl) fun _ =>
    fields_one opens_i3 rfl h4 (some_lt (by omega)) (hf 3 _ rfl)
  exact key
set_option maxRecDepth 100000 in
theorem opens47 : Opens enc Tryz.prog w base spare held k47 33 := by
  refine opens_iso (fun y : Int × Int × Int × Int => (⟨y.1, y.2.1, y.2.2.1, y.2.2.2⟩ : S47)) (fun _ => rfl) ⟨by kernel_rfl, fun n cs x h => ?_⟩
  obtain ⟨xs, m, _, _, hl, hx, hf⟩ := DataW.trod_struct Tryz.underlying33 h
  have h4 : cs.length = 4 := hl.trans (by kernel_rfl)
  have hx4 : xs.length = 4 := hx
  have key : ∃ y, (Kd.pair (Kd.int .i64) (Kd.pair (Kd.int .i64) (Kd.pair (Kd.int .i64) (Kd.int .i64)))).K w y (cs.drop 0) :=
    fields_pair opens_i3 rfl h4 (some_lt (by omega)) (hf 0 _ rfl) fun _ =>
    fields_pair opens_i3 rfl h4 (some_lt (by omega)) (hf 1 _ rfl) fun _ =>
    fields_pair opens_i3 rfl h4 (some_lt (by omega)) (hf 2 _ rfl) fun _ =>
    fields_one opens_i3 rfl h4 (some_lt (by omega)) (hf 3 _ rfl)
  exact key
set_option maxRecDepth 100000 in
theorem opens96 : Opens enc Tryz.prog w base spare held k96 85 := by
  refine opens_iso (fun y : ByteArray × Int => (⟨y.1, y.2⟩ : S96)) (fun _ => rfl) ⟨by kernel_rfl, fun n cs x h => ?_⟩
  obtain ⟨xs, m, _, _, hl, hx, hf⟩ := DataW.trod_struct Tryz.underlying85 h
  have h4 : cs.length = 2 := hl.trans (by kernel_rfl)
  have hx4 : xs.length = 2 := hx
  have key : ∃ y, (Kd.pair Kd.string (Kd.int .i64)).K w y (cs.drop 0) :=
    fields_pair opens_s9 rfl h4 (some_lt (by omega)) (hf 0 _ rfl) fun _ =>
    fields_one opens_i3 rfl h4 (some_lt (by omega)) (hf 1 _ rfl)
  exact key
theorem opens27 : Opens enc Tryz.prog w base spare held (Kd.slice 3 (Kd.int .i64)) 25 := opens_slice 3 Tryz.underlying25 (by kernel_rfl) opens_i3
theorem opens48 : Opens enc Tryz.prog w base spare held (Kd.slice 2 (Kd.int .i64)) 34 := opens_slice 2 Tryz.underlying34 (by kernel_rfl) opens_i2
theorem opens45 : Opens enc Tryz.prog w base spare held (Kd.slice 85 k96) 31 :=
  letI : Inhabited S96 := ⟨z96⟩
  opens_slice 85 Tryz.underlying31 (by kernel_rfl) opens96
set_option maxRecDepth 100000 in
theorem opens80 : Opens enc Tryz.prog w base spare held k80 118 := by
  refine opens_iso (fun y : List Int × Bool × S41 × List S96 × S47 × List Int × S41 => (⟨y.1, y.2.1, y.2.2.1, y.2.2.2.1, y.2.2.2.2.1, y.2.2.2.2.2.1, y.2.2.2.2.2.2⟩ : S80)) (fun _ => rfl) ⟨by kernel_rfl, fun n cs x h => ?_⟩
  obtain ⟨xs, m, _, _, hl, hx, hf⟩ := DataW.trod_struct Tryz.underlying118 h
  have h4 : cs.length = 16 := hl.trans (by kernel_rfl)
  have hx4 : xs.length = 7 := hx
  have key : ∃ y, (Kd.pair (Kd.slice 3 (Kd.int .i64)) (Kd.pair Kd.bool (Kd.pair k41 (Kd.pair (Kd.slice 85 k96) (Kd.pair k47 (Kd.pair (Kd.slice 2 (Kd.int .i64)) k41)))))).K w y (cs.drop 0) :=
    fields_pair opens27 rfl h4 (some_lt (by omega)) (hf 0 _ rfl) fun _ =>
    fields_pair opens_b4 rfl h4 (some_lt (by omega)) (hf 1 _ rfl) fun _ =>
    fields_pair opens41 rfl h4 (some_lt (by omega)) (hf 2 _ rfl) fun _ =>
    fields_pair opens45 rfl h4 (some_lt (by omega)) (hf 3 _ rfl) fun _ =>
    fields_pair opens47 rfl h4 (some_lt (by omega)) (hf 4 _ rfl) fun _ =>
    fields_pair opens48 rfl h4 (some_lt (by omega)) (hf 5 _ rfl) fun _ =>
    fields_one opens41 rfl h4 (some_lt (by omega)) (hf 6 _ rfl)
  exact key
theorem rows41 {n : Nat} {v : Value} {x : DataW H × List MemPlace} (h : DataW.trod enc Tryz.prog w base spare held n 22 v.cells.toList = some x) (hv : ∃ A l c, v = .slice A l c) : ∃ A xs c, v = .slice A xs.length c ∧ xs.length ≤ c ∧ Kd.C k41 w A xs.length xs := by
  letI : Inhabited S41 := ⟨z41⟩
  obtain ⟨A, l, c, rfl⟩ := hv
  obtain ⟨A', xs, c', e, h1, h2⟩ := opens_cells Tryz.underlying22 opens41 h
  have e' : Value.slice A l c = Value.slice A' xs.length c' := by simpa [Value.cells] using e
  exact ⟨A', xs, c', e', h1, h2⟩
theorem rows80 {n : Nat} {v : Value} {x : DataW H × List MemPlace} (h : DataW.trod enc Tryz.prog w base spare held n 23 v.cells.toList = some x) (hv : ∃ A l c, v = .slice A l c) : ∃ A xs c, v = .slice A xs.length c ∧ xs.length ≤ c ∧ Kd.C k80 w A xs.length xs := by
  letI : Inhabited S80 := ⟨z80⟩
  obtain ⟨A, l, c, rfl⟩ := hv
  obtain ⟨A', xs, c', e, h1, h2⟩ := opens_cells Tryz.underlying23 opens80 h
  have e' : Value.slice A l c = Value.slice A' xs.length c' := by simpa [Value.cells] using e
  exact ⟨A', xs, c', e', h1, h2⟩
theorem rows27 {n : Nat} {v : Value} {x : DataW H × List MemPlace} (h : DataW.trod enc Tryz.prog w base spare held n 25 v.cells.toList = some x) (hv : ∃ A l c, v = .slice A l c) : ∃ A xs c, v = .slice A xs.length c ∧ xs.length ≤ c ∧ Kd.C (Kd.int .i64) w A xs.length xs := by
  obtain ⟨A, l, c, rfl⟩ := hv
  obtain ⟨A', xs, c', e, h1, h2⟩ := opens_cells Tryz.underlying25 opens_i3 h
  have e' : Value.slice A l c = Value.slice A' xs.length c' := by simpa [Value.cells] using e
  exact ⟨A', xs, c', e', h1, h2⟩
end
end Go.Proofs.YteilkbookcmndaaGreatDoor.C
end
section
namespace Go.Proofs.YteilkbookcmndaaGreatDoor.C
open Go.RowKit Go.Proofs.YteilkbookcmndaaGreatDoor.Q Go.Proofs.YteilkbookcmndaaGreatDoorW.PrintWords Go.Proofs.YteilkbookcmndaaGreatDoorW.PrintLast Go.Proofs.YteilkbookcmndaaGreatDoorW.PrintMore
theorem add_block (a : Addr) (n : Nat) : (a.add n).block = a.block := by unfold Addr.add; split <;> rfl
end Go.Proofs.YteilkbookcmndaaGreatDoor.C
namespace Go.Proofs.YteilkbookcmndaaGreatDoor.C
open Go.RowKit Go.Proofs.YteilkbookcmndaaGreatDoor.Q Go.Proofs.YteilkbookcmndaaGreatDoorW.PrintWords Go.Proofs.YteilkbookcmndaaGreatDoorW.PrintLast Go.Proofs.YteilkbookcmndaaGreatDoorW.PrintMore
noncomputable def cReg (f : Func) (k : Nat) : Code := (f.body.bind fun c => regIn c k).getD .skip
theorem take_at {P : Program} {md : Region.Mode} {ops : Array Oper} {Q : Exit → Act → World → Prop} {S : World → Prop} (i d : Nat) {oi : Oper} {v : Value} {fuel : Nat} {listed : Array Bool} {a : Act} {w : World} (hi : ops.toList[i]? = some oi) (hd : oi.dst = some d)
    (hs : Region.noSelect ops = true) (hf : Region.free md ops listed i = true) (hr : (Region.ready md ops listed).contains i = true)
    (hQ : ∀ c a w, Q (.panic c) (a.put oi.dst v) w → Q (.panic c) a w) (hy : YieldsIf P ops S oi v a) (hS : S w)
    (h : wpAnyH P md ops Q S fuel (listed.setIfInBounds i true) (a.put (some d) v) w) : wpAnyH P md ops Q S (fuel + 1) listed a w :=
  wpAnyH_take (by rw [← Array.getElem?_toList]; exact hi) hs hf hr hQ hy hS (by rw [hd]; exact h)
end Go.Proofs.YteilkbookcmndaaGreatDoor.C
end
