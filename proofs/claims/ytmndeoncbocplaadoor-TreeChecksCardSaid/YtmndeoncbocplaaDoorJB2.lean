/- Texts that the claim's law stands on, cut down to what it reaches. -/
import Derived.Test.YtmndeoncbocplaaDoorJB
import Derived.Deep.RegionHeldLaw
import Derived.Deep.RegionHeld3
set_option linter.unusedVariables false
set_option linter.unusedSimpArgs false
section
set_option linter.unusedVariables false
set_option linter.unusedSimpArgs false
namespace Go.Proofs.YtmndeoncbocplaaDoor.C
open Go.RowKit Go.Proofs.YtmndeoncbocplaaDoor.Q Go.Proofs.YtmndeoncbocplaaDoorW.PrintWords Go.Proofs.YtmndeoncbocplaaDoorW.PrintLast Go.Proofs.YtmndeoncbocplaaDoorW.PrintMore
attribute [local go_sem ↓] rd_at50 wr_at50 al_at50
attribute [local go_sem] rd50_new wr50_new al50
/-- A region, by its number. -/
def regIn : Code → Nat → Option Code
  | .region id ops b, k => if id == k then some (.region id ops b) else none
  | .seq a b, k => match regIn a k with
    | some o => some o
    | none => regIn b k
  | .cond _ a b, k => match regIn a k with
    | some o => some o
    | none => regIn b k
  | .block _ c, k => regIn c k
  | .loop c, k => regIn c k
  | .scope c, k => regIn c k
  | _, _ => none
noncomputable def c32 (k : Nat) : Code := (Tryd.f32.body.bind fun c => regIn c k).getD .skip
theorem C96_of {w W : World} {A : Option Addr} {xs : List S96} (h : ReadsRow (k96.K w) 2 W A xs.length xs) : Kd.C k96 W A xs.length xs :=
  ReadsRow.imp_ h (Below.refl _ _) (fun p c h => by rw [k96_open h]; exact k96_mk W p)
theorem own96 {wp w W : World} {base base' : Nat} {v : Value} {xs : List S96} (h : OwnRow (k96.K wp) 96 2 w base v xs) (hb : base' ≤ base) : OwnRow (k96.K W) 96 2 w base' v xs :=
  OwnRow.imp_ (OwnRow.lower h hb) (fun p c h => by rw [k96_open h]; exact k96_mk W p)
theorem own96_set {wp w5 w6 W : World} {base base' : Nat} {v : Value} {xs : List S96} (h : OwnRow (k96.K wp) 96 2 w5 base v xs) (hb : Below w5.heap.size w5 w6) (g : Nat) (hg : g < base) (hb2 : base' ≤ base) (cs : Array Value) : OwnRow (k96.K W) 96 2 (w6.setRow g cs) base' v xs := by
  obtain ⟨inner, ho, hr⟩ := OwnRow.below h hb
  exact own96 (wp := wp) ⟨inner, own_move (w1 := w6.setRow g cs) ho (fun k hk => setRow_other w6 g k cs (by have := own_base ho k hk; omega)), hr⟩ hb2
set_option maxHeartbeats 8000000 in
set_option maxRecDepth 1000000 in
theorem r16 (m : S80) (dn : S50) (p : ByteArray) (gm gd : Nat) (A0 A6 A11 D6 D11 : Option Addr) (c0 c6 c11 d6 d11 : Nat) (u0 u1 u2 u3 u4 u5 u6 u7 u8 u12 u13 u14 u15 u16 u17 u18 u19 u20 u21 u22 u23 u24 u25 u26 u27 u28 u29 u30 u31 u32 u33 u34 u35 u36 u37 u38 u39 u40 u41 u42 u43 u44 u45 u46 u47 u48 u49 u50 u51 u52 u53 u54 u55 u56 u57 u58 u59 u60 u61 u62 u63 u64 u65 u66 u67 u68 u69 u70 u71 u72 u73 u74 u75 u76 u77 u78 u79 u80 u81 u82 u83 u84 u85 u86 u87 u88 u89 u90 u91 u92 u93 u94 u95 u96 u97 u98 u99 u100 u101 u102 u103 u104 u105 u106 u107 u108 u109 u110 u111 u112 u113 u114 u115 u116 u117 u118 u119 u120 u121 u122 u123 u124 u125 u126 u127 u128 u129 u130 : Value) (W : World) (Q : Exit → Act → World → Prop)
    (hEM : W.heap[gm]? = some (.cells #[.slice A0 m.f0.length c0, .bool m.f1, .int .i64 m.f2.f0, .int .i64 m.f2.f1, .int .i64 m.f2.f2, .int .i64 m.f2.f3, .slice A6 m.f3.length c6, .int .i64 m.f4.f0, .int .i64 m.f4.f1, .int .i64 m.f4.f2, .int .i64 m.f4.f3, .slice A11 m.f5.length c11, .int .i64 m.f6.f0, .int .i64 m.f6.f1, .int .i64 m.f6.f2, .int .i64 m.f6.f3] 80 (0, 0))) (hED : W.heap[gd]? = some (.cells #[.string dn.f0, .bool dn.f1, .int .i64 dn.f2.f0, .int .i64 dn.f2.f1, .int .i64 dn.f2.f2, .int .i64 dn.f2.f3, .slice D6 dn.f3.length d6, .int .i64 dn.f4.f0, .int .i64 dn.f4.f1, .int .i64 dn.f4.f2, .int .i64 dn.f4.f3, .slice D11 dn.f5.length d11, .int .i64 dn.f6.f0, .int .i64 dn.f6.f1, .int .i64 dn.f6.f2, .int .i64 dn.f6.f3] 50 (0, 0))) (hC6 : Kd.C k96 W A6 m.f3.length m.f3) (l6 : m.f3.length ≤ c6)
    (hpost : ∀ (g : Nat) (w' : World) (xs : List S96) (A8 : Option Addr) (c8 : Nat) (b : S41) (t81 t82 t83 t84 t85 t86 t87 t88 t89 t90 t91 t92 : Value), w'.heap[g]? = some (.cells #[.string p, .bool m.f1, .int .i64 dn.f2.f0, .int .i64 dn.f2.f1, .int .i64 dn.f2.f2, .int .i64 dn.f2.f3, .slice A8 xs.length c8, .int .i64 0, .int .i64 0, .int .i64 0, .int .i64 0, .slice none 0 0, .int .i64 b.f0, .int .i64 b.f1, .int .i64 b.f2, .int .i64 b.f3] 50 (0, 0)) → W.heap.size ≤ g → GoodAcl 5 xs → xs.length ≤ c8 → OwnRow (k96.K W) 96 2 w' W.heap.size (.slice A8 xs.length c8) xs → Lab b → Below W.heap.size W w' → Q .normal ⟨#[u0, u1, u2, u3, u4, u5, u6, u7, u8, .pointer (some ⟨gm, 0, none⟩), .string p, .pointer (some ⟨gd, 0, none⟩), u12, u13, u14, .pointer (some ⟨g, 0, none⟩), u16, u17, u18, u19, u20, u21, u22, u23, u24, u25, u26, u27, u28, u29, u30, u31, u32, u33, u34, u35, u36, u37, u38, u39, u40, u41, u42, u43, u44, u45, u46, u47, u48, u49, u50, u51, u52, u53, u54, u55, u56, u57, u58, u59, u60, u61, u62, u63, u64, u65, u66, u67, u68, u69, u70, u71, u72, u73, u74, u75, u76, u77, u78, u79, u80, t81, t82, t83, t84, t85, t86, t87, t88, t89, t90, t91, t92, u93, u94, u95, u96, u97, u98, u99, u100, u101, u102, u103, u104, u105, u106, u107, u108, u109, u110, u111, u112, u113, u114, u115, u116, u117, u118, u119, u120, u121, u122, u123, u124, u125, u126, u127, u128, u129, u130], []⟩ w') :
    Code.wp Tryd.prog (c32 16) Q ⟨#[u0, u1, u2, u3, u4, u5, u6, u7, u8, .pointer (some ⟨gm, 0, none⟩), .string p, .pointer (some ⟨gd, 0, none⟩), u12, u13, u14, u15, u16, u17, u18, u19, u20, u21, u22, u23, u24, u25, u26, u27, u28, u29, u30, u31, u32, u33, u34, u35, u36, u37, u38, u39, u40, u41, u42, u43, u44, u45, u46, u47, u48, u49, u50, u51, u52, u53, u54, u55, u56, u57, u58, u59, u60, u61, u62, u63, u64, u65, u66, u67, u68, u69, u70, u71, u72, u73, u74, u75, u76, u77, u78, u79, u80, u81, u82, u83, u84, u85, u86, u87, u88, u89, u90, u91, u92, u93, u94, u95, u96, u97, u98, u99, u100, u101, u102, u103, u104, u105, u106, u107, u108, u109, u110, u111, u112, u113, u114, u115, u116, u117, u118, u119, u120, u121, u122, u123, u124, u125, u126, u127, u128, u129, u130], []⟩ W := by
  have EM := Lib.hid hEM
  have ED := Lib.hid hED
  have HC6 := Lib.hid hC6
  have HPO := Lib.hid hpost
  have kgm1 := (blk_cell hEM 1).trans rfl
  have kgm6 := (blk_cell hEM 6).trans rfl
  have kgm12 := (blk_cell hEM 12).trans rfl
  have kgm13 := (blk_cell hEM 13).trans rfl
  have kgm14 := (blk_cell hEM 14).trans rfl
  have kgm15 := (blk_cell hEM 15).trans rfl
  have kgd2 := (blk_cell hED 2).trans rfl
  have kgd3 := (blk_cell hED 3).trans rfl
  have kgd4 := (blk_cell hED 4).trans rfl
  have kgd5 := (blk_cell hED 5).trans rfl
  have hgm := blk_lt hEM
  have hgd := blk_lt hED
  clear hEM hED hC6 hpost
  conv => arg 2; whnf
  refine wp_region_noPanic ?_
  go_region_held_law (fun W1 => W1.cell? ⟨gm, 1, none⟩ = some (.bool m.f1) ∧ W1.cell? ⟨gm, 6, none⟩ = some (.slice A6 m.f3.length c6) ∧ W1.cell? ⟨gm, 12, none⟩ = some (.int .i64 m.f6.f0) ∧ W1.cell? ⟨gm, 13, none⟩ = some (.int .i64 m.f6.f1) ∧ W1.cell? ⟨gm, 14, none⟩ = some (.int .i64 m.f6.f2) ∧ W1.cell? ⟨gm, 15, none⟩ = some (.int .i64 m.f6.f3) ∧ W1.cell? ⟨gd, 2, none⟩ = some (.int .i64 dn.f2.f0) ∧ W1.cell? ⟨gd, 3, none⟩ = some (.int .i64 dn.f2.f1) ∧ W1.cell? ⟨gd, 4, none⟩ = some (.int .i64 dn.f2.f2) ∧ W1.cell? ⟨gd, 5, none⟩ = some (.int .i64 dn.f2.f3)) (first | go_keep | (refine ⟨?_, ?_, ?_, ?_, ?_, ?_, ?_, ?_, ?_, ?_⟩ <;> (rw [cell_setRow_other _ _ _ _ (by first | (show gm ≠ _; omega) | (show gd ≠ _; omega))]; assumption)))
    (first | (go_at_call 33; (have hgate := HB5.out; clear hgate; refine (good_c m.f6 _).mono ?_; rintro e w6 ⟨b, rfl, hg, hd⟩; have HB6 := Lib.hid (below_step (show Below w5.heap.size w5 _ by repeat (first | exact HB6.out | exact HB5.out | exact Below.refl _ _ | apply below_alloc | apply below_drew1)) hd); have HLb := Lib.hid hg; have hs6 := below_size HB6.out; (first | (have EN2 := Lib.hid (blk_below EN.out HB6.out); have hst := wr50_blk (cs := #[.string p, .bool m.f1, .int .i64 dn.f2.f0, .int .i64 dn.f2.f1, .int .i64 dn.f2.f2, .int .i64 dn.f2.f3, .slice A8 xs.length c8, .int .i64 0, .int .i64 0, .int .i64 0, .int .i64 0, .slice none 0 0, .int .i64 b.f0, .int .i64 b.f1, .int .i64 b.f2, .int .i64 b.f3]) EN2.out rfl rfl (by simp [Value.oneCell'])) | (have EN2 := Lib.hid (blk_below (blk_new w5 (.cells #[.string (⟨#[]⟩ : ByteArray), .bool false, .int .i64 0, .int .i64 0, .int .i64 0, .int .i64 0, .slice none 0 0, .int .i64 0, .int .i64 0, .int .i64 0, .int .i64 0, .slice none 0 0, .int .i64 0, .int .i64 0, .int .i64 0, .int .i64 0] 50)) hd); have hst := wr50_blk (cs := #[.string p, .bool m.f1, .int .i64 dn.f2.f0, .int .i64 dn.f2.f1, .int .i64 dn.f2.f2, .int .i64 dn.f2.f3, .slice A8 xs.length c8, .int .i64 0, .int .i64 0, .int .i64 0, .int .i64 0, .slice none 0 0, .int .i64 b.f0, .int .i64 b.f1, .int .i64 b.f2, .int .i64 b.f3]) EN2.out rfl rfl (by simp [Value.oneCell'])) | skip); have kgm1 := (blk_cell (blk_below EM.out (below_step HB5.out HB6.out)) 1).trans rfl; have kgm6 := (blk_cell (blk_below EM.out (below_step HB5.out HB6.out)) 6).trans rfl; have kgm12 := (blk_cell (blk_below EM.out (below_step HB5.out HB6.out)) 12).trans rfl; have kgm13 := (blk_cell (blk_below EM.out (below_step HB5.out HB6.out)) 13).trans rfl; have kgm14 := (blk_cell (blk_below EM.out (below_step HB5.out HB6.out)) 14).trans rfl; have kgm15 := (blk_cell (blk_below EM.out (below_step HB5.out HB6.out)) 15).trans rfl; have kgd2 := (blk_cell (blk_below ED.out (below_step HB5.out HB6.out)) 2).trans rfl; have kgd3 := (blk_cell (blk_below ED.out (below_step HB5.out HB6.out)) 3).trans rfl; have kgd4 := (blk_cell (blk_below ED.out (below_step HB5.out HB6.out)) 4).trans rfl; have kgd5 := (blk_cell (blk_below ED.out (below_step HB5.out HB6.out)) 5).trans rfl; clear hd hg)) | (go_at_call 56; (refine (acl_c m.f3 A6 c6 _ (Kd.C_below HC6.out (by repeat (first | exact HB6.out | exact HB5.out | exact Below.refl _ _ | apply below_alloc | apply below_drew1))) l6).mono ?_; rintro e w5 ⟨v5, rfl, xs, hg, hO, hd⟩; have HB5 := Lib.hid (below_step (show Below W.heap.size W _ by repeat (first | exact HB6.out | exact HB5.out | exact Below.refl _ _ | apply below_alloc | apply below_drew1)) hd); obtain ⟨A8, c8, rfl, hc8, hR8⟩ := OwnRow.reads hO; have HG8 := Lib.hid hg; have HO8 := Lib.hid hO; have hs5 := below_size HB5.out; have HR8 := Lib.hid (C96_of hR8); (first | have EN := Lib.hid (show w5.heap[W.heap.size]? = some (.cells #[.string (⟨#[]⟩ : ByteArray), .bool false, .int .i64 0, .int .i64 0, .int .i64 0, .int .i64 0, .slice none 0 0, .int .i64 0, .int .i64 0, .int .i64 0, .int .i64 0, .slice none 0 0, .int .i64 0, .int .i64 0, .int .i64 0, .int .i64 0] 50 (0, 0)) from blk_below (blk_new W (.cells #[.string (⟨#[]⟩ : ByteArray), .bool false, .int .i64 0, .int .i64 0, .int .i64 0, .int .i64 0, .slice none 0 0, .int .i64 0, .int .i64 0, .int .i64 0, .int .i64 0, .slice none 0 0, .int .i64 0, .int .i64 0, .int .i64 0, .int .i64 0] 50)) hd) | have EN := Lib.hid (show w5.heap[W.heap.size]? = some (.cells #[.string (⟨#[]⟩ : ByteArray), .bool false, .int .i64 0, .int .i64 0, .int .i64 0, .int .i64 0, .slice none 0 0, .int .i64 0, .int .i64 0, .int .i64 0, .int .i64 0, .slice none 0 0, .int .i64 0, .int .i64 0, .int .i64 0, .int .i64 0] 50 (0, 0)) from blk_below (blk_new W.drew (.cells #[.string (⟨#[]⟩ : ByteArray), .bool false, .int .i64 0, .int .i64 0, .int .i64 0, .int .i64 0, .slice none 0 0, .int .i64 0, .int .i64 0, .int .i64 0, .int .i64 0, .slice none 0 0, .int .i64 0, .int .i64 0, .int .i64 0, .int .i64 0] 50)) hd) | have EN := Lib.hid (show w5.heap[W.heap.size]? = some (.cells #[.string (⟨#[]⟩ : ByteArray), .bool false, .int .i64 0, .int .i64 0, .int .i64 0, .int .i64 0, .slice none 0 0, .int .i64 0, .int .i64 0, .int .i64 0, .int .i64 0, .slice none 0 0, .int .i64 0, .int .i64 0, .int .i64 0, .int .i64 0] 50 (0, 0)) from blk_below (blk_drew (blk_new W (.cells #[.string (⟨#[]⟩ : ByteArray), .bool false, .int .i64 0, .int .i64 0, .int .i64 0, .int .i64 0, .slice none 0 0, .int .i64 0, .int .i64 0, .int .i64 0, .int .i64 0, .slice none 0 0, .int .i64 0, .int .i64 0, .int .i64 0, .int .i64 0] 50))) hd) | have EN := Lib.hid True.intro); have kgm1 := (blk_cell (blk_below EM.out HB5.out) 1).trans rfl; have kgm6 := (blk_cell (blk_below EM.out HB5.out) 6).trans rfl; have kgm12 := (blk_cell (blk_below EM.out HB5.out) 12).trans rfl; have kgm13 := (blk_cell (blk_below EM.out HB5.out) 13).trans rfl; have kgm14 := (blk_cell (blk_below EM.out HB5.out) 14).trans rfl; have kgm15 := (blk_cell (blk_below EM.out HB5.out) 15).trans rfl; have kgd2 := (blk_cell (blk_below ED.out HB5.out) 2).trans rfl; have kgd3 := (blk_cell (blk_below ED.out HB5.out) 3).trans rfl; have kgd4 := (blk_cell (blk_below ED.out HB5.out) 4).trans rfl; have kgd5 := (blk_cell (blk_below ED.out HB5.out) 5).trans rfl; clear hd hg hO hR8)))
  all_goals refine NoPanic.normal ?_
  all_goals refine HPO.out _ _ xs A8 c8 b _ _ _ _ _ _ _ _ _ _ _ _ ?_ ?_ HG8.out hc8 ?_ HLb.out ?_
  all_goals first
    | exact blk_new _ _
    | exact setRow_heap _ _ _ _ _ _ EN2.out
    | exact Nat.le_refl _
    | exact hs5
    | exact Nat.le_trans hs5 hs6
    | exact own96 (OwnRow.below HO8.out (below_alloc HB6.out _)) (by first | exact Nat.le_refl _ | (simp only [World.size_alloc]; exact Nat.le_succ _) | simp)
    | exact own96 (OwnRow.below HO8.out (below_setRow HB6.out (Nat.le_refl _) _)) (by first | exact Nat.le_refl _ | (simp only [World.size_alloc]; exact Nat.le_succ _) | simp)
    | exact own96_set HO8.out HB6.out W.heap.size (by first | (simp only [World.size_alloc]; exact Nat.lt_succ_self _) | exact Nat.lt_of_lt_of_eq (Nat.lt_succ_self _) (World.size_alloc W _).symm | simp) (by first | exact Nat.le_refl _ | (simp only [World.size_alloc]; exact Nat.le_succ _) | simp) _
    | exact below_alloc (below_step HB5.out HB6.out) _
    | exact below_setRow (below_step HB5.out HB6.out) hs5 _
    | exact below_setRow (below_step HB5.out HB6.out) (Nat.le_refl _) _
end Go.Proofs.YtmndeoncbocplaaDoor.C
end
