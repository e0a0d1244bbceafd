/- MonitorSecure: who may read or execute is over the node's label; who may write is at it; the list allows it; all directories on the way may be seen: the walk. -/
import Derived.Test.YtmndeoncbocplaaDoorD8
import Derived.Deep.RegionHeldLaw
import Derived.Deep.RegionHeld3
import Derived.Test.YtmndeoncbocplaaDoorD6
import Derived.Deep.LoopGhost
set_option linter.unusedVariables false
set_option linter.unusedSimpArgs false
/-! CRS -/
namespace Go.Proofs.YtmndeoncbocplaaDoor.C
open Go.RowKit Go.Proofs.YtmndeoncbocplaaDoor.Q Go.Proofs.YtmndeoncbocplaaDoorW.PrintWords Go.Proofs.YtmndeoncbocplaaDoorW.PrintLast Go.Proofs.YtmndeoncbocplaaDoorW.PrintMore
attribute [local go_sem high] eqA41
attribute [local go_sem ↓] rd_at50 wr_at50 al_at50
attribute [local go_sem] rd50_new wr50_new al50 build50
set_option maxHeartbeats 8000000 in
set_option maxRecDepth 1000000 in
theorem rs10 (who : Int) (ad : Addr) (tl cg i : Nat) (p : ByteArray) (ga : Nat) (mode : Int) (u : ByteArray) (a : S41) (x : S50) (k : Int) (u0 u1 u3 u4 u6 u7 u8 u10 u11 u12 u15 u16 u17 u18 u19 u20 u21 u22 u23 u24 u25 u26 u27 u28 u29 u30 u31 u32 u33 u34 u35 u36 u37 u38 u39 u40 u41 u42 u43 u44 u45 u46 u47 u48 u49 u50 u51 u52 u53 u54 u55 u56 u57 u58 u59 u60 u61 u62 u63 u64 u65 u66 u67 u68 u69 u70 u71 u72 u73 u74 u75 u76 u77 u78 u79 u80 u81 u82 u83 u84 u85 u86 u87 u88 u89 u90 u91 u92 u93 u94 u95 u96 u97 u98 u99 u100 u101 u102 u103 u104 u105 u106 u107 u108 u109 u110 u111 u112 u113 u114 u115 u116 u117 u118 u119 u120 u121 u122 : Value) (W : World) (Q : Exit → Act → World → Prop)
    (hEA : W.heap[ga]? = some (.cells #[.int .i64 a.f0, .int .i64 a.f1, .int .i64 a.f2, .int .i64 a.f3] 41 (0, 0))) (hP : W.cell? (ad.add (i * 16)) = some (.string p)) (hi : i < tl)
    (hU : ∀ w1 : World, Calls Tryd.prog 36 #[.int .i64 who] w1 fun e w' => e = .returned (.string u) ∧ Below w1.heap.size w1 w')
    (hMay : ∀ w1, Below W.heap.size W w1 → Calls Tryd.prog 35 #[.slice (some ad) tl cg, .agg #[.string u, .int .i64 a.f0, .int .i64 a.f1, .int .i64 a.f2, .int .i64 a.f3], .string p, .int .i64 mode] w1 fun e w' => ∃ X6 x6 X11 x11, e = .returned (.tuple #[.agg #[.string x.f0, .bool x.f1, .int .i64 x.f2.f0, .int .i64 x.f2.f1, .int .i64 x.f2.f2, .int .i64 x.f2.f3, .slice X6 x.f3.length x6, .int .i64 x.f4.f0, .int .i64 x.f4.f1, .int .i64 x.f4.f2, .int .i64 x.f4.f3, .slice X11 x.f5.length x11, .int .i64 x.f6.f0, .int .i64 x.f6.f1, .int .i64 x.f6.f2, .int .i64 x.f6.f3], .int .i64 k]) ∧ k50.FK w' (fun k => w1.heap.size ≤ k) x [.string x.f0, .bool x.f1, .int .i64 x.f2.f0, .int .i64 x.f2.f1, .int .i64 x.f2.f2, .int .i64 x.f2.f3, .slice X6 x.f3.length x6, .int .i64 x.f4.f0, .int .i64 x.f4.f1, .int .i64 x.f4.f2, .int .i64 x.f4.f3, .slice X11 x.f5.length x11, .int .i64 x.f6.f0, .int .i64 x.f6.f1, .int .i64 x.f6.f2, .int .i64 x.f6.f3] ∧ Below w1.heap.size w1 w')
    (hpost : ∀ (g : Nat) (X6 X11 : Option Addr) (x6 x11 : Nat) (w' : World) (t48 t49 t50 t51 t52 t53 t54 t55 t56 t57 t58 t59 t60 t61 t62 : Value), w'.heap[g]? = some (.cells #[.string x.f0, .bool x.f1, .int .i64 x.f2.f0, .int .i64 x.f2.f1, .int .i64 x.f2.f2, .int .i64 x.f2.f3, .slice X6 x.f3.length x6, .int .i64 x.f4.f0, .int .i64 x.f4.f1, .int .i64 x.f4.f2, .int .i64 x.f4.f3, .slice X11 x.f5.length x11, .int .i64 x.f6.f0, .int .i64 x.f6.f1, .int .i64 x.f6.f2, .int .i64 x.f6.f3] 50 (0, 0)) → W.heap.size ≤ g → k50.K w' x [.string x.f0, .bool x.f1, .int .i64 x.f2.f0, .int .i64 x.f2.f1, .int .i64 x.f2.f2, .int .i64 x.f2.f3, .slice X6 x.f3.length x6, .int .i64 x.f4.f0, .int .i64 x.f4.f1, .int .i64 x.f4.f2, .int .i64 x.f4.f3, .slice X11 x.f5.length x11, .int .i64 x.f6.f0, .int .i64 x.f6.f1, .int .i64 x.f6.f2, .int .i64 x.f6.f3] → Below W.heap.size W w' → Q .normal ⟨#[u0, u1, .int .i64 who, u3, u4, .int .i64 mode, u6, u7, u8, .pointer (some ⟨ga, 0, none⟩), u10, u11, u12, .slice (some ad) tl cg, .int .i64 (i : Int), .pointer (some ⟨g, 0, none⟩), .int .i64 k, u17, u18, u19, u20, u21, u22, u23, u24, u25, u26, u27, u28, u29, u30, u31, u32, u33, u34, u35, u36, u37, u38, u39, u40, u41, u42, u43, u44, u45, u46, u47, t48, t49, t50, t51, t52, t53, t54, t55, t56, t57, t58, t59, t60, t61, t62, u63, u64, u65, u66, u67, u68, u69, u70, u71, u72, u73, u74, u75, u76, u77, u78, u79, u80, u81, u82, u83, u84, u85, u86, u87, u88, u89, u90, u91, u92, u93, u94, u95, u96, u97, u98, u99, u100, u101, u102, u103, u104, u105, u106, u107, u108, u109, u110, u111, u112, u113, u114, u115, u116, u117, u118, u119, u120, u121, u122], []⟩ w') :
    Code.wp Tryd.prog (cReg Tryd.f7 10) Q ⟨#[u0, u1, .int .i64 who, u3, u4, .int .i64 mode, u6, u7, u8, .pointer (some ⟨ga, 0, none⟩), u10, u11, u12, .slice (some ad) tl cg, .int .i64 (i : Int), u15, u16, u17, u18, u19, u20, u21, u22, u23, u24, u25, u26, u27, u28, u29, u30, u31, u32, u33, u34, u35, u36, u37, u38, u39, u40, u41, u42, u43, u44, u45, u46, u47, u48, u49, u50, u51, u52, u53, u54, u55, u56, u57, u58, u59, u60, u61, u62, u63, u64, u65, u66, u67, u68, u69, u70, u71, u72, u73, u74, u75, u76, u77, u78, u79, u80, u81, u82, u83, u84, u85, u86, u87, u88, u89, u90, u91, u92, u93, u94, u95, u96, u97, u98, u99, u100, u101, u102, u103, u104, u105, u106, u107, u108, u109, u110, u111, u112, u113, u114, u115, u116, u117, u118, u119, u120, u121, u122], []⟩ W := by
  have EA := Lib.hid hEA
  have EP := Lib.hid hP
  have hga := blk_lt hEA
  have hpb := World.block_lt_of_cell? W _ hP
  have HU := Lib.hid hU
  have HMay := Lib.hid hMay
  have HPO := Lib.hid hpost
  have ka0 := (blk_cell (blk_below EA.out (Below.refl W.heap.size W)) 0).trans rfl
  have ka1 := (blk_cell (blk_below EA.out (Below.refl W.heap.size W)) 1).trans rfl
  have ka2 := (blk_cell (blk_below EA.out (Below.refl W.heap.size W)) 2).trans rfl
  have ka3 := (blk_cell (blk_below EA.out (Below.refl W.heap.size W)) 3).trans rfl
  have kp0 := pw_cell_below (Below.refl W.heap.size W) EP.out
  clear hEA hP hU hMay hpost
  conv => arg 2; whnf
  refine wp_region_noPanic ?_
  go_region_held_law (fun W1 => W1.cell? ⟨ga, 0, none⟩ = some (.int .i64 a.f0) ∧ W1.cell? ⟨ga, 1, none⟩ = some (.int .i64 a.f1) ∧ W1.cell? ⟨ga, 2, none⟩ = some (.int .i64 a.f2) ∧ W1.cell? ⟨ga, 3, none⟩ = some (.int .i64 a.f3) ∧ W1.cell? (ad.add (i * 16)) = some (.string p)) (first | go_keep | (refine ⟨?_, ?_, ?_, ?_, ?_⟩ <;> (rw [cell_setRow_other _ _ _ _ (by first | (show ga ≠ _; omega) | (show (ad.add (i * 16)).block ≠ _; omega))]; assumption)))
    (first | (go_at_call 35; (have hgate := HB5.out; clear hgate; refine (HMay.out _ (show Below W.heap.size W _ by repeat (first | exact HB6.out | exact HB5.out | exact Below.refl _ _ | apply below_alloc | apply below_drew1))).mono ?_; rintro e w6 ⟨X6, x6, X11, x11, rfl, hK, hb⟩; have HB6 := Lib.hid (below_step (show Below w5.heap.size w5 _ by repeat (first | exact HB6.out | exact HB5.out | exact Below.refl _ _ | apply below_alloc | apply below_drew1)) hb); have HK6 := Lib.hid hK; have hs6 := below_size HB6.out; (first | (have EN2 := Lib.hid (blk_below EN.out HB6.out); have hst := wr50_blk (cs := #[.string x.f0, .bool x.f1, .int .i64 x.f2.f0, .int .i64 x.f2.f1, .int .i64 x.f2.f2, .int .i64 x.f2.f3, .slice X6 x.f3.length x6, .int .i64 x.f4.f0, .int .i64 x.f4.f1, .int .i64 x.f4.f2, .int .i64 x.f4.f3, .slice X11 x.f5.length x11, .int .i64 x.f6.f0, .int .i64 x.f6.f1, .int .i64 x.f6.f2, .int .i64 x.f6.f3]) EN2.out rfl rfl (by simp [Value.oneCell'])) | (have EN2 := Lib.hid (blk_below (blk_new w5 (.cells #[.string (⟨#[]⟩ : ByteArray), .bool false, .int .i64 0, .int .i64 0, .int .i64 0, .int .i64 0, .slice none 0 0, .int .i64 0, .int .i64 0, .int .i64 0, .int .i64 0, .slice none 0 0, .int .i64 0, .int .i64 0, .int .i64 0, .int .i64 0] 50)) hb); have hst := wr50_blk (cs := #[.string x.f0, .bool x.f1, .int .i64 x.f2.f0, .int .i64 x.f2.f1, .int .i64 x.f2.f2, .int .i64 x.f2.f3, .slice X6 x.f3.length x6, .int .i64 x.f4.f0, .int .i64 x.f4.f1, .int .i64 x.f4.f2, .int .i64 x.f4.f3, .slice X11 x.f5.length x11, .int .i64 x.f6.f0, .int .i64 x.f6.f1, .int .i64 x.f6.f2, .int .i64 x.f6.f3]) EN2.out rfl rfl (by simp [Value.oneCell'])) | skip); have ka0 := (blk_cell (blk_below EA.out (below_step HB5.out HB6.out)) 0).trans rfl; have ka1 := (blk_cell (blk_below EA.out (below_step HB5.out HB6.out)) 1).trans rfl; have ka2 := (blk_cell (blk_below EA.out (below_step HB5.out HB6.out)) 2).trans rfl; have ka3 := (blk_cell (blk_below EA.out (below_step HB5.out HB6.out)) 3).trans rfl; have kp0 := pw_cell_below (below_step HB5.out HB6.out) EP.out; clear hb hK)) | (go_at_call 36; (refine (HU.out _).mono ?_; rintro e w5 ⟨rfl, hb⟩; have HB5 := Lib.hid (below_step (show Below W.heap.size W _ by repeat (first | exact HB6.out | exact HB5.out | exact Below.refl _ _ | apply below_alloc | apply below_drew1)) hb); have hs5 := below_size HB5.out; (first | have EN := Lib.hid (show w5.heap[W.heap.size]? = some (.cells #[.string (⟨#[]⟩ : ByteArray), .bool false, .int .i64 0, .int .i64 0, .int .i64 0, .int .i64 0, .slice none 0 0, .int .i64 0, .int .i64 0, .int .i64 0, .int .i64 0, .slice none 0 0, .int .i64 0, .int .i64 0, .int .i64 0, .int .i64 0] 50 (0, 0)) from blk_below (blk_new W (.cells #[.string (⟨#[]⟩ : ByteArray), .bool false, .int .i64 0, .int .i64 0, .int .i64 0, .int .i64 0, .slice none 0 0, .int .i64 0, .int .i64 0, .int .i64 0, .int .i64 0, .slice none 0 0, .int .i64 0, .int .i64 0, .int .i64 0, .int .i64 0] 50)) hb) | have EN := Lib.hid (show w5.heap[W.heap.size]? = some (.cells #[.string (⟨#[]⟩ : ByteArray), .bool false, .int .i64 0, .int .i64 0, .int .i64 0, .int .i64 0, .slice none 0 0, .int .i64 0, .int .i64 0, .int .i64 0, .int .i64 0, .slice none 0 0, .int .i64 0, .int .i64 0, .int .i64 0, .int .i64 0] 50 (0, 0)) from blk_below (blk_new W.drew (.cells #[.string (⟨#[]⟩ : ByteArray), .bool false, .int .i64 0, .int .i64 0, .int .i64 0, .int .i64 0, .slice none 0 0, .int .i64 0, .int .i64 0, .int .i64 0, .int .i64 0, .slice none 0 0, .int .i64 0, .int .i64 0, .int .i64 0, .int .i64 0] 50)) hb) | have EN := Lib.hid (show w5.heap[W.heap.size]? = some (.cells #[.string (⟨#[]⟩ : ByteArray), .bool false, .int .i64 0, .int .i64 0, .int .i64 0, .int .i64 0, .slice none 0 0, .int .i64 0, .int .i64 0, .int .i64 0, .int .i64 0, .slice none 0 0, .int .i64 0, .int .i64 0, .int .i64 0, .int .i64 0] 50 (0, 0)) from blk_below (blk_drew (blk_new W (.cells #[.string (⟨#[]⟩ : ByteArray), .bool false, .int .i64 0, .int .i64 0, .int .i64 0, .int .i64 0, .slice none 0 0, .int .i64 0, .int .i64 0, .int .i64 0, .int .i64 0, .slice none 0 0, .int .i64 0, .int .i64 0, .int .i64 0, .int .i64 0] 50))) hb) | have EN := Lib.hid True.intro); have ka0 := (blk_cell (blk_below EA.out HB5.out) 0).trans rfl; have ka1 := (blk_cell (blk_below EA.out HB5.out) 1).trans rfl; have ka2 := (blk_cell (blk_below EA.out HB5.out) 2).trans rfl; have ka3 := (blk_cell (blk_below EA.out HB5.out) 3).trans rfl; have kp0 := pw_cell_below HB5.out EP.out; clear hb)))
  all_goals refine NoPanic.normal ?_
  all_goals refine HPO.out _ X6 X11 x6 x11 _ _ _ _ _ _ _ _ _ _ _ _ _ _ _ _ ?_ ?_ ?_ ?_
  all_goals first
    | exact below_alloc (below_step HB5.out HB6.out) _
    | exact below_setRow (below_step HB5.out HB6.out) hs5 _
    | exact below_setRow (below_step HB5.out HB6.out) (Nat.le_refl _) _
    | exact blk_new _ _
    | exact setRow_heap _ _ _ _ _ _ EN2.out
    | exact Nat.le_refl _
    | exact hs5
    | exact Nat.le_trans hs5 hs6
    | exact k50.K_below (below_alloc (Below.refl w6.heap.size w6) _) (Foot.now HK6.out)
    | exact K_setRow HK6.out (blk_lt EN.out)
    | exact K_setRow HK6.out (Nat.lt_of_lt_of_eq (Nat.lt_succ_self _) (World.size_alloc _ _).symm)
set_option maxHeartbeats 8000000 in
set_option maxRecDepth 1000000 in
theorem rs12 (who : Int) (ga gx : Nat) (mode : Int) (u : ByteArray) (a b : S41) (A6 : Option Addr) (nl c6 : Nat) (m : Int) (lv lb : Bool) (u0 u1 u3 u4 u6 u7 u8 u10 u11 u12 u13 u14 u16 u17 u18 u19 u20 u21 u22 u23 u24 u25 u26 u27 u28 u29 u30 u31 u32 u33 u34 u35 u36 u37 u38 u39 u40 u41 u42 u43 u44 u45 u46 u47 u48 u49 u50 u51 u52 u53 u54 u55 u56 u57 u58 u59 u60 u61 u62 u63 u64 u65 u66 u67 u68 u69 u70 u71 u72 u73 u74 u75 u76 u77 u78 u79 u80 u81 u82 u83 u84 u85 u86 u87 u88 u89 u90 u91 u92 u93 u94 u95 u96 u97 u98 u99 u100 u101 u102 u103 u104 u105 u106 u107 u108 u109 u110 u111 u112 u113 u114 u115 u116 u117 u118 u119 u120 u121 u122 : Value) (W : World) (Q : Exit → Act → World → Prop)
    (hEA : W.heap[ga]? = some (.cells #[.int .i64 a.f0, .int .i64 a.f1, .int .i64 a.f2, .int .i64 a.f3] 41 (0, 0)))
    (hX0 : W.cell? ⟨gx, 2, none⟩ = some (.int .i64 b.f0)) (hX1 : W.cell? ⟨gx, 3, none⟩ = some (.int .i64 b.f1)) (hX2 : W.cell? ⟨gx, 4, none⟩ = some (.int .i64 b.f2)) (hX3 : W.cell? ⟨gx, 5, none⟩ = some (.int .i64 b.f3)) (hX4 : W.cell? ⟨gx, 6, none⟩ = some (.slice A6 nl c6))
    (hU : ∀ w1 : World, Calls Tryd.prog 36 #[.int .i64 who] w1 fun e w' => e = .returned (.string u) ∧ Below w1.heap.size w1 w')
    (hOv : ∀ w1 : World, Calls Tryd.prog 37 #[.agg #[.int .i64 a.f0, .int .i64 a.f1, .int .i64 a.f2, .int .i64 a.f3], .agg #[.int .i64 b.f0, .int .i64 b.f1, .int .i64 b.f2, .int .i64 b.f3]] w1 fun e w' => e = .returned (.bool lv) ∧ Below w1.heap.size w1 w')
    (hMo : ∀ w1, Below W.heap.size W w1 → Calls Tryd.prog 38 #[.slice A6 nl c6, .string u] w1 fun e w' => e = .returned (.int .i64 m) ∧ Below w1.heap.size w1 w')
    (h1 : lv = false → (mode != 2) = false) (hb : (bits .and .i64 mode 2 != 0) = lb) (h2 : lb = true → b = a) (h3 : (bits .and .i64 m mode != mode) = false)
    (hpost : ∀ (w' : World) (t65 t66 t67 t68 t69 t70 t71 t72 t73 t74 t75 t76 t77 t78 t79 t80 t81 t82 t83 t84 t85 t86 t87 t88 t89 t90 t91 t92 t93 t94 : Value), Below W.heap.size W w' → Q .normal ⟨#[u0, u1, .int .i64 who, u3, u4, .int .i64 mode, u6, u7, u8, .pointer (some ⟨ga, 0, none⟩), u10, u11, u12, u13, u14, .pointer (some ⟨gx, 0, none⟩), u16, u17, u18, u19, u20, u21, u22, u23, u24, u25, u26, u27, u28, u29, u30, u31, u32, u33, u34, u35, u36, u37, u38, u39, u40, u41, u42, u43, u44, u45, u46, u47, u48, u49, u50, u51, u52, u53, u54, u55, u56, u57, u58, u59, u60, u61, u62, u63, u64, t65, t66, t67, t68, t69, t70, t71, t72, t73, t74, t75, t76, t77, t78, t79, t80, t81, t82, t83, t84, t85, t86, t87, t88, t89, t90, t91, t92, t93, t94, .bool false, u96, u97, u98, u99, u100, u101, u102, u103, u104, u105, u106, u107, u108, u109, u110, u111, u112, u113, u114, u115, u116, u117, u118, u119, u120, u121, u122], []⟩ w') :
    Code.wp Tryd.prog (cReg Tryd.f7 12) Q ⟨#[u0, u1, .int .i64 who, u3, u4, .int .i64 mode, u6, u7, u8, .pointer (some ⟨ga, 0, none⟩), u10, u11, u12, u13, u14, .pointer (some ⟨gx, 0, none⟩), u16, u17, u18, u19, u20, u21, u22, u23, u24, u25, u26, u27, u28, u29, u30, u31, u32, u33, u34, u35, u36, u37, u38, u39, u40, u41, u42, u43, u44, u45, u46, u47, u48, u49, u50, u51, u52, u53, u54, u55, u56, u57, u58, u59, u60, u61, u62, u63, u64, u65, u66, u67, u68, u69, u70, u71, u72, u73, u74, u75, u76, u77, u78, u79, u80, u81, u82, u83, u84, u85, u86, u87, u88, u89, u90, u91, u92, u93, u94, u95, u96, u97, u98, u99, u100, u101, u102, u103, u104, u105, u106, u107, u108, u109, u110, u111, u112, u113, u114, u115, u116, u117, u118, u119, u120, u121, u122], []⟩ W := by
  have EA := Lib.hid hEA
  have EX0 := Lib.hid hX0
  have EX1 := Lib.hid hX1
  have EX2 := Lib.hid hX2
  have EX3 := Lib.hid hX3
  have EX4 := Lib.hid hX4
  have HU := Lib.hid hU
  have HOv := Lib.hid hOv
  have HMo := Lib.hid hMo
  have HPO := Lib.hid hpost
  clear hEA hX0 hX1 hX2 hX3 hX4 hU hOv hMo hpost
  have hd1 : lv = true ∨ (lv = false ∧ (mode != 2) = false) := by cases lv with | true => exact Or.inl rfl | false => exact Or.inr ⟨rfl, h1 rfl⟩
  clear h1
  cases lb with
  | true =>
    have e0 : (a.f0 == b.f0) = true := by rw [h2 rfl]; exact beq_self_eq_true _
    have e1 : (a.f1 == b.f1) = true := by rw [h2 rfl]; exact beq_self_eq_true _
    have e2 : (a.f2 == b.f2) = true := by rw [h2 rfl]; exact beq_self_eq_true _
    have e3 : (a.f3 == b.f3) = true := by rw [h2 rfl]; exact beq_self_eq_true _
    clear h2
    rcases hd1 with rfl | ⟨rfl, hm2⟩
    all_goals
      have ka0 := (blk_cell (blk_below EA.out (Below.refl W.heap.size W)) 0).trans rfl
      have ka1 := (blk_cell (blk_below EA.out (Below.refl W.heap.size W)) 1).trans rfl
      have ka2 := (blk_cell (blk_below EA.out (Below.refl W.heap.size W)) 2).trans rfl
      have ka3 := (blk_cell (blk_below EA.out (Below.refl W.heap.size W)) 3).trans rfl
      have kb0 := pw_cell_below (Below.refl W.heap.size W) EX0.out
      have kb1 := pw_cell_below (Below.refl W.heap.size W) EX1.out
      have kb2 := pw_cell_below (Below.refl W.heap.size W) EX2.out
      have kb3 := pw_cell_below (Below.refl W.heap.size W) EX3.out
      have kb4 := pw_cell_below (Below.refl W.heap.size W) EX4.out
      conv => arg 2; whnf
      refine wp_region_noPanic ?_
      refine wp_region_held_drew (S := fun W1 => W1.cell? ⟨ga, 0, none⟩ = some (.int .i64 a.f0) ∧ W1.cell? ⟨ga, 1, none⟩ = some (.int .i64 a.f1) ∧ W1.cell? ⟨ga, 2, none⟩ = some (.int .i64 a.f2) ∧ W1.cell? ⟨ga, 3, none⟩ = some (.int .i64 a.f3) ∧ W1.cell? ⟨gx, 2, none⟩ = some (.int .i64 b.f0) ∧ W1.cell? ⟨gx, 3, none⟩ = some (.int .i64 b.f1) ∧ W1.cell? ⟨gx, 4, none⟩ = some (.int .i64 b.f2) ∧ W1.cell? ⟨gx, 5, none⟩ = some (.int .i64 b.f3) ∧ W1.cell? ⟨gx, 6, none⟩ = some (.slice A6 nl c6)) (by kernel_rfl) ?_ (fun hHeld => ?_)
      focus ((try dsimp only); go_keep)
      first
        | (refine take_at 0 65 (v := ?_) rfl rfl (by kernel_rfl) (by kernel_rfl) (by kernel_rfl) (fun _ _ _ h => h) (Or.inl ⟨by rfl, ?_⟩) (by assumption) ?_; rotate_left; focus (intro w hSw; (try dsimp only at hSw); go_simp; try with_reducible rfl))
        | (refine take_at 0 65 (v := undef) rfl rfl (by kernel_rfl) (by kernel_rfl) (by kernel_rfl) (fun _ _ _ h => h) (Or.inr ⟨by rfl, rfl⟩) (by assumption) ?_)
      try simp only [Act.put, List.setIfInBounds_toArray, List.set_cons_zero, List.set_cons_succ]
      first
        | (refine take_at 1 66 (v := ?_) rfl rfl (by kernel_rfl) (by kernel_rfl) (by kernel_rfl) (fun _ _ _ h => h) (Or.inl ⟨by rfl, ?_⟩) (by assumption) ?_; rotate_left; focus (intro w hSw; (try dsimp only at hSw); go_simp; try with_reducible rfl))
        | (refine take_at 1 66 (v := undef) rfl rfl (by kernel_rfl) (by kernel_rfl) (by kernel_rfl) (fun _ _ _ h => h) (Or.inr ⟨by rfl, rfl⟩) (by assumption) ?_)
      try simp only [Act.put, List.setIfInBounds_toArray, List.set_cons_zero, List.set_cons_succ]
      first
        | (refine take_at 2 67 (v := ?_) rfl rfl (by kernel_rfl) (by kernel_rfl) (by kernel_rfl) (fun _ _ _ h => h) (Or.inl ⟨by rfl, ?_⟩) (by assumption) ?_; rotate_left; focus (intro w hSw; (try dsimp only at hSw); go_simp; try with_reducible rfl))
        | (refine take_at 2 67 (v := undef) rfl rfl (by kernel_rfl) (by kernel_rfl) (by kernel_rfl) (fun _ _ _ h => h) (Or.inr ⟨by rfl, rfl⟩) (by assumption) ?_)
      try simp only [Act.put, List.setIfInBounds_toArray, List.set_cons_zero, List.set_cons_succ]
      refine wpAnyH_ready (rs := [3]) (by kernel_rfl) (by simp) ?_
      refine AllReadyH.cons rfl (fun K hK => ?_) AllReadyH.nil
      go_simp
      go_wp2_with ((go_at_call 37; (refine (HOv.out _).mono ?_; rintro e w5 ⟨rfl, hb⟩; have HB5 := Lib.hid (below_step (show Below W.heap.size W _ by repeat (first | exact Below.refl _ _ | exact HB7.out | exact HB6.out | exact HB5.out | apply below_drew1)) hb); have ka0 := (blk_cell (blk_below EA.out HB5.out) 0).trans rfl; have ka1 := (blk_cell (blk_below EA.out HB5.out) 1).trans rfl; have ka2 := (blk_cell (blk_below EA.out HB5.out) 2).trans rfl; have ka3 := (blk_cell (blk_below EA.out HB5.out) 3).trans rfl; have kb0 := pw_cell_below HB5.out EX0.out; have kb1 := pw_cell_below HB5.out EX1.out; have kb2 := pw_cell_below HB5.out EX2.out; have kb3 := pw_cell_below HB5.out EX3.out; have kb4 := pw_cell_below HB5.out EX4.out; clear hb)))
      refine hK.out _ _ ?_ (fun hHeld => ?_)
      focus ((try dsimp only); go_keep)
      clear hK K
      first
        | (refine take_at 4 69 (v := ?_) rfl rfl (by kernel_rfl) (by kernel_rfl) (by kernel_rfl) (fun _ _ _ h => h) (Or.inl ⟨by rfl, ?_⟩) (by assumption) ?_; rotate_left; focus (intro w hSw; (try dsimp only at hSw); go_simp; try with_reducible rfl))
        | (refine take_at 4 69 (v := undef) rfl rfl (by kernel_rfl) (by kernel_rfl) (by kernel_rfl) (fun _ _ _ h => h) (Or.inr ⟨by rfl, rfl⟩) (by assumption) ?_)
      try simp only [Act.put, List.setIfInBounds_toArray, List.set_cons_zero, List.set_cons_succ]
      first
        | (refine take_at 5 70 (v := ?_) rfl rfl (by kernel_rfl) (by kernel_rfl) (by kernel_rfl) (fun _ _ _ h => h) (Or.inl ⟨by rfl, ?_⟩) (by assumption) ?_; rotate_left; focus (intro w hSw; (try dsimp only at hSw); go_simp; try with_reducible rfl))
        | (refine take_at 5 70 (v := undef) rfl rfl (by kernel_rfl) (by kernel_rfl) (by kernel_rfl) (fun _ _ _ h => h) (Or.inr ⟨by rfl, rfl⟩) (by assumption) ?_)
      try simp only [Act.put, List.setIfInBounds_toArray, List.set_cons_zero, List.set_cons_succ]
      first
        | (refine take_at 6 71 (v := ?_) rfl rfl (by kernel_rfl) (by kernel_rfl) (by kernel_rfl) (fun _ _ _ h => h) (Or.inl ⟨by rfl, ?_⟩) (by assumption) ?_; rotate_left; focus (intro w hSw; (try dsimp only at hSw); go_simp; try with_reducible rfl))
        | (refine take_at 6 71 (v := undef) rfl rfl (by kernel_rfl) (by kernel_rfl) (by kernel_rfl) (fun _ _ _ h => h) (Or.inr ⟨by rfl, rfl⟩) (by assumption) ?_)
      try simp only [Act.put, List.setIfInBounds_toArray, List.set_cons_zero, List.set_cons_succ]
      first
        | (refine take_at 7 72 (v := ?_) rfl rfl (by kernel_rfl) (by kernel_rfl) (by kernel_rfl) (fun _ _ _ h => h) (Or.inl ⟨by rfl, ?_⟩) (by assumption) ?_; rotate_left; focus (intro w hSw; (try dsimp only at hSw); go_simp; try with_reducible rfl))
        | (refine take_at 7 72 (v := undef) rfl rfl (by kernel_rfl) (by kernel_rfl) (by kernel_rfl) (fun _ _ _ h => h) (Or.inr ⟨by rfl, rfl⟩) (by assumption) ?_)
      try simp only [Act.put, List.setIfInBounds_toArray, List.set_cons_zero, List.set_cons_succ]
      first
        | (refine take_at 8 73 (v := ?_) rfl rfl (by kernel_rfl) (by kernel_rfl) (by kernel_rfl) (fun _ _ _ h => h) (Or.inl ⟨by rfl, ?_⟩) (by assumption) ?_; rotate_left; focus (intro w hSw; (try dsimp only at hSw); go_simp; try with_reducible rfl))
        | (refine take_at 8 73 (v := undef) rfl rfl (by kernel_rfl) (by kernel_rfl) (by kernel_rfl) (fun _ _ _ h => h) (Or.inr ⟨by rfl, rfl⟩) (by assumption) ?_)
      try simp only [Act.put, List.setIfInBounds_toArray, List.set_cons_zero, List.set_cons_succ]
      first
        | (refine take_at 9 74 (v := ?_) rfl rfl (by kernel_rfl) (by kernel_rfl) (by kernel_rfl) (fun _ _ _ h => h) (Or.inl ⟨by rfl, ?_⟩) (by assumption) ?_; rotate_left; focus (intro w hSw; (try dsimp only at hSw); go_simp; try with_reducible rfl))
        | (refine take_at 9 74 (v := undef) rfl rfl (by kernel_rfl) (by kernel_rfl) (by kernel_rfl) (fun _ _ _ h => h) (Or.inr ⟨by rfl, rfl⟩) (by assumption) ?_)
      try simp only [Act.put, List.setIfInBounds_toArray, List.set_cons_zero, List.set_cons_succ]
      first
        | (refine take_at 10 75 (v := ?_) rfl rfl (by kernel_rfl) (by kernel_rfl) (by kernel_rfl) (fun _ _ _ h => h) (Or.inl ⟨by rfl, ?_⟩) (by assumption) ?_; rotate_left; focus (intro w hSw; (try dsimp only at hSw); go_simp; try with_reducible rfl))
        | (refine take_at 10 75 (v := undef) rfl rfl (by kernel_rfl) (by kernel_rfl) (by kernel_rfl) (fun _ _ _ h => h) (Or.inr ⟨by rfl, rfl⟩) (by assumption) ?_)
      try simp only [Act.put, List.setIfInBounds_toArray, List.set_cons_zero, List.set_cons_succ]
      first
        | (refine take_at 11 76 (v := ?_) rfl rfl (by kernel_rfl) (by kernel_rfl) (by kernel_rfl) (fun _ _ _ h => h) (Or.inl ⟨by rfl, ?_⟩) (by assumption) ?_; rotate_left; focus (intro w hSw; (try dsimp only at hSw); go_simp; try with_reducible rfl))
        | (refine take_at 11 76 (v := undef) rfl rfl (by kernel_rfl) (by kernel_rfl) (by kernel_rfl) (fun _ _ _ h => h) (Or.inr ⟨by rfl, rfl⟩) (by assumption) ?_)
      try simp only [Act.put, List.setIfInBounds_toArray, List.set_cons_zero, List.set_cons_succ]
      first
        | (refine take_at 12 77 (v := ?_) rfl rfl (by kernel_rfl) (by kernel_rfl) (by kernel_rfl) (fun _ _ _ h => h) (Or.inl ⟨by rfl, ?_⟩) (by assumption) ?_; rotate_left; focus (intro w hSw; (try dsimp only at hSw); go_simp; try with_reducible rfl))
        | (refine take_at 12 77 (v := undef) rfl rfl (by kernel_rfl) (by kernel_rfl) (by kernel_rfl) (fun _ _ _ h => h) (Or.inr ⟨by rfl, rfl⟩) (by assumption) ?_)
      try simp only [Act.put, List.setIfInBounds_toArray, List.set_cons_zero, List.set_cons_succ]
      first
        | (refine take_at 13 78 (v := ?_) rfl rfl (by kernel_rfl) (by kernel_rfl) (by kernel_rfl) (fun _ _ _ h => h) (Or.inl ⟨by rfl, ?_⟩) (by assumption) ?_; rotate_left; focus (intro w hSw; (try dsimp only at hSw); go_simp; try with_reducible rfl))
        | (refine take_at 13 78 (v := undef) rfl rfl (by kernel_rfl) (by kernel_rfl) (by kernel_rfl) (fun _ _ _ h => h) (Or.inr ⟨by rfl, rfl⟩) (by assumption) ?_)
      try simp only [Act.put, List.setIfInBounds_toArray, List.set_cons_zero, List.set_cons_succ]
      first
        | (refine take_at 14 79 (v := ?_) rfl rfl (by kernel_rfl) (by kernel_rfl) (by kernel_rfl) (fun _ _ _ h => h) (Or.inl ⟨by rfl, ?_⟩) (by assumption) ?_; rotate_left; focus (intro w hSw; (try dsimp only at hSw); go_simp; try with_reducible rfl))
        | (refine take_at 14 79 (v := undef) rfl rfl (by kernel_rfl) (by kernel_rfl) (by kernel_rfl) (fun _ _ _ h => h) (Or.inr ⟨by rfl, rfl⟩) (by assumption) ?_)
      try simp only [Act.put, List.setIfInBounds_toArray, List.set_cons_zero, List.set_cons_succ]
      first
        | (refine take_at 15 80 (v := ?_) rfl rfl (by kernel_rfl) (by kernel_rfl) (by kernel_rfl) (fun _ _ _ h => h) (Or.inl ⟨by rfl, ?_⟩) (by assumption) ?_; rotate_left; focus (intro w hSw; (try dsimp only at hSw); go_simp; try with_reducible rfl))
        | (refine take_at 15 80 (v := undef) rfl rfl (by kernel_rfl) (by kernel_rfl) (by kernel_rfl) (fun _ _ _ h => h) (Or.inr ⟨by rfl, rfl⟩) (by assumption) ?_)
      try simp only [Act.put, List.setIfInBounds_toArray, List.set_cons_zero, List.set_cons_succ]
      first
        | (refine take_at 16 81 (v := ?_) rfl rfl (by kernel_rfl) (by kernel_rfl) (by kernel_rfl) (fun _ _ _ h => h) (Or.inl ⟨by rfl, ?_⟩) (by assumption) ?_; rotate_left; focus (intro w hSw; (try dsimp only at hSw); go_simp; try with_reducible rfl))
        | (refine take_at 16 81 (v := undef) rfl rfl (by kernel_rfl) (by kernel_rfl) (by kernel_rfl) (fun _ _ _ h => h) (Or.inr ⟨by rfl, rfl⟩) (by assumption) ?_)
      try simp only [Act.put, List.setIfInBounds_toArray, List.set_cons_zero, List.set_cons_succ]
      first
        | (refine take_at 17 82 (v := ?_) rfl rfl (by kernel_rfl) (by kernel_rfl) (by kernel_rfl) (fun _ _ _ h => h) (Or.inl ⟨by rfl, ?_⟩) (by assumption) ?_; rotate_left; focus (intro w hSw; (try dsimp only at hSw); go_simp; try with_reducible rfl))
        | (refine take_at 17 82 (v := undef) rfl rfl (by kernel_rfl) (by kernel_rfl) (by kernel_rfl) (fun _ _ _ h => h) (Or.inr ⟨by rfl, rfl⟩) (by assumption) ?_)
      try simp only [Act.put, List.setIfInBounds_toArray, List.set_cons_zero, List.set_cons_succ]
      first
        | (refine take_at 18 83 (v := ?_) rfl rfl (by kernel_rfl) (by kernel_rfl) (by kernel_rfl) (fun _ _ _ h => h) (Or.inl ⟨by rfl, ?_⟩) (by assumption) ?_; rotate_left; focus (intro w hSw; (try dsimp only at hSw); go_simp; try with_reducible rfl))
        | (refine take_at 18 83 (v := undef) rfl rfl (by kernel_rfl) (by kernel_rfl) (by kernel_rfl) (fun _ _ _ h => h) (Or.inr ⟨by rfl, rfl⟩) (by assumption) ?_)
      try simp only [Act.put, List.setIfInBounds_toArray, List.set_cons_zero, List.set_cons_succ]
      first
        | (refine take_at 19 84 (v := ?_) rfl rfl (by kernel_rfl) (by kernel_rfl) (by kernel_rfl) (fun _ _ _ h => h) (Or.inl ⟨by rfl, ?_⟩) (by assumption) ?_; rotate_left; focus (intro w hSw; (try dsimp only at hSw); go_simp; try with_reducible rfl))
        | (refine take_at 19 84 (v := undef) rfl rfl (by kernel_rfl) (by kernel_rfl) (by kernel_rfl) (fun _ _ _ h => h) (Or.inr ⟨by rfl, rfl⟩) (by assumption) ?_)
      try simp only [Act.put, List.setIfInBounds_toArray, List.set_cons_zero, List.set_cons_succ]
      first
        | (refine take_at 20 85 (v := ?_) rfl rfl (by kernel_rfl) (by kernel_rfl) (by kernel_rfl) (fun _ _ _ h => h) (Or.inl ⟨by rfl, ?_⟩) (by assumption) ?_; rotate_left; focus (intro w hSw; (try dsimp only at hSw); go_simp; try with_reducible rfl))
        | (refine take_at 20 85 (v := undef) rfl rfl (by kernel_rfl) (by kernel_rfl) (by kernel_rfl) (fun _ _ _ h => h) (Or.inr ⟨by rfl, rfl⟩) (by assumption) ?_)
      try simp only [Act.put, List.setIfInBounds_toArray, List.set_cons_zero, List.set_cons_succ]
      first
        | (refine take_at 21 86 (v := ?_) rfl rfl (by kernel_rfl) (by kernel_rfl) (by kernel_rfl) (fun _ _ _ h => h) (Or.inl ⟨by rfl, ?_⟩) (by assumption) ?_; rotate_left; focus (intro w hSw; (try dsimp only at hSw); go_simp; try with_reducible rfl))
        | (refine take_at 21 86 (v := undef) rfl rfl (by kernel_rfl) (by kernel_rfl) (by kernel_rfl) (fun _ _ _ h => h) (Or.inr ⟨by rfl, rfl⟩) (by assumption) ?_)
      try simp only [Act.put, List.setIfInBounds_toArray, List.set_cons_zero, List.set_cons_succ]
      first
        | (refine take_at 22 87 (v := ?_) rfl rfl (by kernel_rfl) (by kernel_rfl) (by kernel_rfl) (fun _ _ _ h => h) (Or.inl ⟨by rfl, ?_⟩) (by assumption) ?_; rotate_left; focus (intro w hSw; (try dsimp only at hSw); go_simp; try with_reducible rfl))
        | (refine take_at 22 87 (v := undef) rfl rfl (by kernel_rfl) (by kernel_rfl) (by kernel_rfl) (fun _ _ _ h => h) (Or.inr ⟨by rfl, rfl⟩) (by assumption) ?_)
      try simp only [Act.put, List.setIfInBounds_toArray, List.set_cons_zero, List.set_cons_succ]
      first
        | (refine take_at 23 88 (v := ?_) rfl rfl (by kernel_rfl) (by kernel_rfl) (by kernel_rfl) (fun _ _ _ h => h) (Or.inl ⟨by rfl, ?_⟩) (by assumption) ?_; rotate_left; focus (intro w hSw; (try dsimp only at hSw); go_simp; try with_reducible rfl))
        | (refine take_at 23 88 (v := undef) rfl rfl (by kernel_rfl) (by kernel_rfl) (by kernel_rfl) (fun _ _ _ h => h) (Or.inr ⟨by rfl, rfl⟩) (by assumption) ?_)
      try simp only [Act.put, List.setIfInBounds_toArray, List.set_cons_zero, List.set_cons_succ]
      first
        | (refine take_at 26 91 (v := ?_) rfl rfl (by kernel_rfl) (by kernel_rfl) (by kernel_rfl) (fun _ _ _ h => h) (Or.inl ⟨by rfl, ?_⟩) (by assumption) ?_; rotate_left; focus (intro w hSw; (try dsimp only at hSw); go_simp; try with_reducible rfl))
        | (refine take_at 26 91 (v := undef) rfl rfl (by kernel_rfl) (by kernel_rfl) (by kernel_rfl) (fun _ _ _ h => h) (Or.inr ⟨by rfl, rfl⟩) (by assumption) ?_)
      try simp only [Act.put, List.setIfInBounds_toArray, List.set_cons_zero, List.set_cons_succ]
      first
        | (refine take_at 28 93 (v := ?_) rfl rfl (by kernel_rfl) (by kernel_rfl) (by kernel_rfl) (fun _ _ _ h => h) (Or.inl ⟨by rfl, ?_⟩) (by assumption) ?_; rotate_left; focus (intro w hSw; (try dsimp only at hSw); go_simp; try with_reducible rfl))
        | (refine take_at 28 93 (v := undef) rfl rfl (by kernel_rfl) (by kernel_rfl) (by kernel_rfl) (fun _ _ _ h => h) (Or.inr ⟨by rfl, rfl⟩) (by assumption) ?_)
      try simp only [Act.put, List.setIfInBounds_toArray, List.set_cons_zero, List.set_cons_succ]
      refine wpAnyH_ready (rs := [24]) (by kernel_rfl) (by simp) ?_
      refine AllReadyH.cons rfl (fun K hK => ?_) AllReadyH.nil
      go_simp
      go_wp2_with ((go_at_call 36; (have hgate := HB5.out; clear hgate; refine (HU.out _).mono ?_; rintro e w6 ⟨rfl, hb⟩; have HB6 := Lib.hid (below_step (show Below W.heap.size W _ by repeat (first | exact Below.refl _ _ | exact HB7.out | exact HB6.out | exact HB5.out | apply below_drew1)) hb); have ka0 := (blk_cell (blk_below EA.out HB6.out) 0).trans rfl; have ka1 := (blk_cell (blk_below EA.out HB6.out) 1).trans rfl; have ka2 := (blk_cell (blk_below EA.out HB6.out) 2).trans rfl; have ka3 := (blk_cell (blk_below EA.out HB6.out) 3).trans rfl; have kb0 := pw_cell_below HB6.out EX0.out; have kb1 := pw_cell_below HB6.out EX1.out; have kb2 := pw_cell_below HB6.out EX2.out; have kb3 := pw_cell_below HB6.out EX3.out; have kb4 := pw_cell_below HB6.out EX4.out; clear hb)))
      refine hK.out _ _ ?_ (fun hHeld => ?_)
      focus ((try dsimp only); go_keep)
      clear hK K
      refine wpAnyH_ready (rs := [25]) (by kernel_rfl) (by simp) ?_
      refine AllReadyH.cons rfl (fun K hK => ?_) AllReadyH.nil
      go_simp
      go_wp2_with ((go_at_call 38; (have hgate := HB6.out; clear hgate; refine (HMo.out _ (show Below W.heap.size W _ by repeat (first | exact HB6.out | apply below_drew1))).mono ?_; rintro e w7 ⟨rfl, hb⟩; have HB7 := Lib.hid (below_step (show Below W.heap.size W _ by repeat (first | exact Below.refl _ _ | exact HB7.out | exact HB6.out | exact HB5.out | apply below_drew1)) hb); have ka0 := (blk_cell (blk_below EA.out HB7.out) 0).trans rfl; have ka1 := (blk_cell (blk_below EA.out HB7.out) 1).trans rfl; have ka2 := (blk_cell (blk_below EA.out HB7.out) 2).trans rfl; have ka3 := (blk_cell (blk_below EA.out HB7.out) 3).trans rfl; have kb0 := pw_cell_below HB7.out EX0.out; have kb1 := pw_cell_below HB7.out EX1.out; have kb2 := pw_cell_below HB7.out EX2.out; have kb3 := pw_cell_below HB7.out EX3.out; have kb4 := pw_cell_below HB7.out EX4.out; clear hb)))
      refine hK.out _ _ ?_ (fun hHeld => ?_)
      focus ((try dsimp only); go_keep)
      clear hK K
      first
        | (refine take_at 27 92 (v := ?_) rfl rfl (by kernel_rfl) (by kernel_rfl) (by kernel_rfl) (fun _ _ _ h => h) (Or.inl ⟨by rfl, ?_⟩) (by assumption) ?_; rotate_left; focus (intro w hSw; (try dsimp only at hSw); go_simp; try with_reducible rfl))
        | (refine take_at 27 92 (v := undef) rfl rfl (by kernel_rfl) (by kernel_rfl) (by kernel_rfl) (fun _ _ _ h => h) (Or.inr ⟨by rfl, rfl⟩) (by assumption) ?_)
      try simp only [Act.put, List.setIfInBounds_toArray, List.set_cons_zero, List.set_cons_succ]
      first
        | (refine take_at 29 94 (v := ?_) rfl rfl (by kernel_rfl) (by kernel_rfl) (by kernel_rfl) (fun _ _ _ h => h) (Or.inl ⟨by rfl, ?_⟩) (by assumption) ?_; rotate_left; focus (intro w hSw; (try dsimp only at hSw); go_simp; try with_reducible rfl))
        | (refine take_at 29 94 (v := undef) rfl rfl (by kernel_rfl) (by kernel_rfl) (by kernel_rfl) (fun _ _ _ h => h) (Or.inr ⟨by rfl, rfl⟩) (by assumption) ?_)
      try simp only [Act.put, List.setIfInBounds_toArray, List.set_cons_zero, List.set_cons_succ]
      first
        | (refine take_at 30 95 (v := ?_) rfl rfl (by kernel_rfl) (by kernel_rfl) (by kernel_rfl) (fun _ _ _ h => h) (Or.inl ⟨by rfl, ?_⟩) (by assumption) ?_; rotate_left; focus (intro w hSw; (try dsimp only at hSw); go_simp; try with_reducible rfl))
        | (refine take_at 30 95 (v := undef) rfl rfl (by kernel_rfl) (by kernel_rfl) (by kernel_rfl) (fun _ _ _ h => h) (Or.inr ⟨by rfl, rfl⟩) (by assumption) ?_)
      try simp only [Act.put, List.setIfInBounds_toArray, List.set_cons_zero, List.set_cons_succ]
      refine wpAnyH_done (by kernel_rfl) ?_ _
      refine NoPanic.normal ?_
      exact HPO.out _ _ _ _ _ _ _ _ _ _ _ _ _ _ _ _ _ _ _ _ _ _ _ _ _ _ _ _ _ _ _ HB7.out
  | false =>
    clear h2
    rcases hd1 with rfl | ⟨rfl, hm2⟩
    all_goals
      have ka0 := (blk_cell (blk_below EA.out (Below.refl W.heap.size W)) 0).trans rfl
      have ka1 := (blk_cell (blk_below EA.out (Below.refl W.heap.size W)) 1).trans rfl
      have ka2 := (blk_cell (blk_below EA.out (Below.refl W.heap.size W)) 2).trans rfl
      have ka3 := (blk_cell (blk_below EA.out (Below.refl W.heap.size W)) 3).trans rfl
      have kb0 := pw_cell_below (Below.refl W.heap.size W) EX0.out
      have kb1 := pw_cell_below (Below.refl W.heap.size W) EX1.out
      have kb2 := pw_cell_below (Below.refl W.heap.size W) EX2.out
      have kb3 := pw_cell_below (Below.refl W.heap.size W) EX3.out
      have kb4 := pw_cell_below (Below.refl W.heap.size W) EX4.out
      conv => arg 2; whnf
      refine wp_region_noPanic ?_
      refine wp_region_held_drew (S := fun W1 => W1.cell? ⟨ga, 0, none⟩ = some (.int .i64 a.f0) ∧ W1.cell? ⟨ga, 1, none⟩ = some (.int .i64 a.f1) ∧ W1.cell? ⟨ga, 2, none⟩ = some (.int .i64 a.f2) ∧ W1.cell? ⟨ga, 3, none⟩ = some (.int .i64 a.f3) ∧ W1.cell? ⟨gx, 2, none⟩ = some (.int .i64 b.f0) ∧ W1.cell? ⟨gx, 3, none⟩ = some (.int .i64 b.f1) ∧ W1.cell? ⟨gx, 4, none⟩ = some (.int .i64 b.f2) ∧ W1.cell? ⟨gx, 5, none⟩ = some (.int .i64 b.f3) ∧ W1.cell? ⟨gx, 6, none⟩ = some (.slice A6 nl c6)) (by kernel_rfl) ?_ (fun hHeld => ?_)
      focus ((try dsimp only); go_keep)
      first
        | (refine take_at 0 65 (v := ?_) rfl rfl (by kernel_rfl) (by kernel_rfl) (by kernel_rfl) (fun _ _ _ h => h) (Or.inl ⟨by rfl, ?_⟩) (by assumption) ?_; rotate_left; focus (intro w hSw; (try dsimp only at hSw); go_simp; try with_reducible rfl))
        | (refine take_at 0 65 (v := undef) rfl rfl (by kernel_rfl) (by kernel_rfl) (by kernel_rfl) (fun _ _ _ h => h) (Or.inr ⟨by rfl, rfl⟩) (by assumption) ?_)
      try simp only [Act.put, List.setIfInBounds_toArray, List.set_cons_zero, List.set_cons_succ]
      first
        | (refine take_at 1 66 (v := ?_) rfl rfl (by kernel_rfl) (by kernel_rfl) (by kernel_rfl) (fun _ _ _ h => h) (Or.inl ⟨by rfl, ?_⟩) (by assumption) ?_; rotate_left; focus (intro w hSw; (try dsimp only at hSw); go_simp; try with_reducible rfl))
        | (refine take_at 1 66 (v := undef) rfl rfl (by kernel_rfl) (by kernel_rfl) (by kernel_rfl) (fun _ _ _ h => h) (Or.inr ⟨by rfl, rfl⟩) (by assumption) ?_)
      try simp only [Act.put, List.setIfInBounds_toArray, List.set_cons_zero, List.set_cons_succ]
      first
        | (refine take_at 2 67 (v := ?_) rfl rfl (by kernel_rfl) (by kernel_rfl) (by kernel_rfl) (fun _ _ _ h => h) (Or.inl ⟨by rfl, ?_⟩) (by assumption) ?_; rotate_left; focus (intro w hSw; (try dsimp only at hSw); go_simp; try with_reducible rfl))
        | (refine take_at 2 67 (v := undef) rfl rfl (by kernel_rfl) (by kernel_rfl) (by kernel_rfl) (fun _ _ _ h => h) (Or.inr ⟨by rfl, rfl⟩) (by assumption) ?_)
      try simp only [Act.put, List.setIfInBounds_toArray, List.set_cons_zero, List.set_cons_succ]
      refine wpAnyH_ready (rs := [3]) (by kernel_rfl) (by simp) ?_
      refine AllReadyH.cons rfl (fun K hK => ?_) AllReadyH.nil
      go_simp
      go_wp2_with ((go_at_call 37; (refine (HOv.out _).mono ?_; rintro e w5 ⟨rfl, hb⟩; have HB5 := Lib.hid (below_step (show Below W.heap.size W _ by repeat (first | exact Below.refl _ _ | exact HB7.out | exact HB6.out | exact HB5.out | apply below_drew1)) hb); have ka0 := (blk_cell (blk_below EA.out HB5.out) 0).trans rfl; have ka1 := (blk_cell (blk_below EA.out HB5.out) 1).trans rfl; have ka2 := (blk_cell (blk_below EA.out HB5.out) 2).trans rfl; have ka3 := (blk_cell (blk_below EA.out HB5.out) 3).trans rfl; have kb0 := pw_cell_below HB5.out EX0.out; have kb1 := pw_cell_below HB5.out EX1.out; have kb2 := pw_cell_below HB5.out EX2.out; have kb3 := pw_cell_below HB5.out EX3.out; have kb4 := pw_cell_below HB5.out EX4.out; clear hb)))
      refine hK.out _ _ ?_ (fun hHeld => ?_)
      focus ((try dsimp only); go_keep)
      clear hK K
      first
        | (refine take_at 4 69 (v := ?_) rfl rfl (by kernel_rfl) (by kernel_rfl) (by kernel_rfl) (fun _ _ _ h => h) (Or.inl ⟨by rfl, ?_⟩) (by assumption) ?_; rotate_left; focus (intro w hSw; (try dsimp only at hSw); go_simp; try with_reducible rfl))
        | (refine take_at 4 69 (v := undef) rfl rfl (by kernel_rfl) (by kernel_rfl) (by kernel_rfl) (fun _ _ _ h => h) (Or.inr ⟨by rfl, rfl⟩) (by assumption) ?_)
      try simp only [Act.put, List.setIfInBounds_toArray, List.set_cons_zero, List.set_cons_succ]
      first
        | (refine take_at 5 70 (v := ?_) rfl rfl (by kernel_rfl) (by kernel_rfl) (by kernel_rfl) (fun _ _ _ h => h) (Or.inl ⟨by rfl, ?_⟩) (by assumption) ?_; rotate_left; focus (intro w hSw; (try dsimp only at hSw); go_simp; try with_reducible rfl))
        | (refine take_at 5 70 (v := undef) rfl rfl (by kernel_rfl) (by kernel_rfl) (by kernel_rfl) (fun _ _ _ h => h) (Or.inr ⟨by rfl, rfl⟩) (by assumption) ?_)
      try simp only [Act.put, List.setIfInBounds_toArray, List.set_cons_zero, List.set_cons_succ]
      first
        | (refine take_at 6 71 (v := ?_) rfl rfl (by kernel_rfl) (by kernel_rfl) (by kernel_rfl) (fun _ _ _ h => h) (Or.inl ⟨by rfl, ?_⟩) (by assumption) ?_; rotate_left; focus (intro w hSw; (try dsimp only at hSw); go_simp; try with_reducible rfl))
        | (refine take_at 6 71 (v := undef) rfl rfl (by kernel_rfl) (by kernel_rfl) (by kernel_rfl) (fun _ _ _ h => h) (Or.inr ⟨by rfl, rfl⟩) (by assumption) ?_)
      try simp only [Act.put, List.setIfInBounds_toArray, List.set_cons_zero, List.set_cons_succ]
      first
        | (refine take_at 7 72 (v := ?_) rfl rfl (by kernel_rfl) (by kernel_rfl) (by kernel_rfl) (fun _ _ _ h => h) (Or.inl ⟨by rfl, ?_⟩) (by assumption) ?_; rotate_left; focus (intro w hSw; (try dsimp only at hSw); go_simp; try with_reducible rfl))
        | (refine take_at 7 72 (v := undef) rfl rfl (by kernel_rfl) (by kernel_rfl) (by kernel_rfl) (fun _ _ _ h => h) (Or.inr ⟨by rfl, rfl⟩) (by assumption) ?_)
      try simp only [Act.put, List.setIfInBounds_toArray, List.set_cons_zero, List.set_cons_succ]
      first
        | (refine take_at 8 73 (v := ?_) rfl rfl (by kernel_rfl) (by kernel_rfl) (by kernel_rfl) (fun _ _ _ h => h) (Or.inl ⟨by rfl, ?_⟩) (by assumption) ?_; rotate_left; focus (intro w hSw; (try dsimp only at hSw); go_simp; try with_reducible rfl))
        | (refine take_at 8 73 (v := undef) rfl rfl (by kernel_rfl) (by kernel_rfl) (by kernel_rfl) (fun _ _ _ h => h) (Or.inr ⟨by rfl, rfl⟩) (by assumption) ?_)
      try simp only [Act.put, List.setIfInBounds_toArray, List.set_cons_zero, List.set_cons_succ]
      first
        | (refine take_at 9 74 (v := ?_) rfl rfl (by kernel_rfl) (by kernel_rfl) (by kernel_rfl) (fun _ _ _ h => h) (Or.inl ⟨by rfl, ?_⟩) (by assumption) ?_; rotate_left; focus (intro w hSw; (try dsimp only at hSw); go_simp; try with_reducible rfl))
        | (refine take_at 9 74 (v := undef) rfl rfl (by kernel_rfl) (by kernel_rfl) (by kernel_rfl) (fun _ _ _ h => h) (Or.inr ⟨by rfl, rfl⟩) (by assumption) ?_)
      try simp only [Act.put, List.setIfInBounds_toArray, List.set_cons_zero, List.set_cons_succ]
      first
        | (refine take_at 10 75 (v := ?_) rfl rfl (by kernel_rfl) (by kernel_rfl) (by kernel_rfl) (fun _ _ _ h => h) (Or.inl ⟨by rfl, ?_⟩) (by assumption) ?_; rotate_left; focus (intro w hSw; (try dsimp only at hSw); go_simp; try with_reducible rfl))
        | (refine take_at 10 75 (v := undef) rfl rfl (by kernel_rfl) (by kernel_rfl) (by kernel_rfl) (fun _ _ _ h => h) (Or.inr ⟨by rfl, rfl⟩) (by assumption) ?_)
      try simp only [Act.put, List.setIfInBounds_toArray, List.set_cons_zero, List.set_cons_succ]
      first
        | (refine take_at 11 76 (v := ?_) rfl rfl (by kernel_rfl) (by kernel_rfl) (by kernel_rfl) (fun _ _ _ h => h) (Or.inl ⟨by rfl, ?_⟩) (by assumption) ?_; rotate_left; focus (intro w hSw; (try dsimp only at hSw); go_simp; try with_reducible rfl))
        | (refine take_at 11 76 (v := undef) rfl rfl (by kernel_rfl) (by kernel_rfl) (by kernel_rfl) (fun _ _ _ h => h) (Or.inr ⟨by rfl, rfl⟩) (by assumption) ?_)
      try simp only [Act.put, List.setIfInBounds_toArray, List.set_cons_zero, List.set_cons_succ]
      first
        | (refine take_at 12 77 (v := ?_) rfl rfl (by kernel_rfl) (by kernel_rfl) (by kernel_rfl) (fun _ _ _ h => h) (Or.inl ⟨by rfl, ?_⟩) (by assumption) ?_; rotate_left; focus (intro w hSw; (try dsimp only at hSw); go_simp; try with_reducible rfl))
        | (refine take_at 12 77 (v := undef) rfl rfl (by kernel_rfl) (by kernel_rfl) (by kernel_rfl) (fun _ _ _ h => h) (Or.inr ⟨by rfl, rfl⟩) (by assumption) ?_)
      try simp only [Act.put, List.setIfInBounds_toArray, List.set_cons_zero, List.set_cons_succ]
      first
        | (refine take_at 13 78 (v := ?_) rfl rfl (by kernel_rfl) (by kernel_rfl) (by kernel_rfl) (fun _ _ _ h => h) (Or.inl ⟨by rfl, ?_⟩) (by assumption) ?_; rotate_left; focus (intro w hSw; (try dsimp only at hSw); go_simp; try with_reducible rfl))
        | (refine take_at 13 78 (v := undef) rfl rfl (by kernel_rfl) (by kernel_rfl) (by kernel_rfl) (fun _ _ _ h => h) (Or.inr ⟨by rfl, rfl⟩) (by assumption) ?_)
      try simp only [Act.put, List.setIfInBounds_toArray, List.set_cons_zero, List.set_cons_succ]
      first
        | (refine take_at 14 79 (v := ?_) rfl rfl (by kernel_rfl) (by kernel_rfl) (by kernel_rfl) (fun _ _ _ h => h) (Or.inl ⟨by rfl, ?_⟩) (by assumption) ?_; rotate_left; focus (intro w hSw; (try dsimp only at hSw); go_simp; try with_reducible rfl))
        | (refine take_at 14 79 (v := undef) rfl rfl (by kernel_rfl) (by kernel_rfl) (by kernel_rfl) (fun _ _ _ h => h) (Or.inr ⟨by rfl, rfl⟩) (by assumption) ?_)
      try simp only [Act.put, List.setIfInBounds_toArray, List.set_cons_zero, List.set_cons_succ]
      first
        | (refine take_at 15 80 (v := ?_) rfl rfl (by kernel_rfl) (by kernel_rfl) (by kernel_rfl) (fun _ _ _ h => h) (Or.inl ⟨by rfl, ?_⟩) (by assumption) ?_; rotate_left; focus (intro w hSw; (try dsimp only at hSw); go_simp; try with_reducible rfl))
        | (refine take_at 15 80 (v := undef) rfl rfl (by kernel_rfl) (by kernel_rfl) (by kernel_rfl) (fun _ _ _ h => h) (Or.inr ⟨by rfl, rfl⟩) (by assumption) ?_)
      try simp only [Act.put, List.setIfInBounds_toArray, List.set_cons_zero, List.set_cons_succ]
      first
        | (refine take_at 16 81 (v := ?_) rfl rfl (by kernel_rfl) (by kernel_rfl) (by kernel_rfl) (fun _ _ _ h => h) (Or.inl ⟨by rfl, ?_⟩) (by assumption) ?_; rotate_left; focus (intro w hSw; (try dsimp only at hSw); go_simp; try with_reducible rfl))
        | (refine take_at 16 81 (v := undef) rfl rfl (by kernel_rfl) (by kernel_rfl) (by kernel_rfl) (fun _ _ _ h => h) (Or.inr ⟨by rfl, rfl⟩) (by assumption) ?_)
      try simp only [Act.put, List.setIfInBounds_toArray, List.set_cons_zero, List.set_cons_succ]
      first
        | (refine take_at 17 82 (v := ?_) rfl rfl (by kernel_rfl) (by kernel_rfl) (by kernel_rfl) (fun _ _ _ h => h) (Or.inl ⟨by rfl, ?_⟩) (by assumption) ?_; rotate_left; focus (intro w hSw; (try dsimp only at hSw); go_simp; try with_reducible rfl))
        | (refine take_at 17 82 (v := undef) rfl rfl (by kernel_rfl) (by kernel_rfl) (by kernel_rfl) (fun _ _ _ h => h) (Or.inr ⟨by rfl, rfl⟩) (by assumption) ?_)
      try simp only [Act.put, List.setIfInBounds_toArray, List.set_cons_zero, List.set_cons_succ]
      first
        | (refine take_at 18 83 (v := ?_) rfl rfl (by kernel_rfl) (by kernel_rfl) (by kernel_rfl) (fun _ _ _ h => h) (Or.inl ⟨by rfl, ?_⟩) (by assumption) ?_; rotate_left; focus (intro w hSw; (try dsimp only at hSw); go_simp; try with_reducible rfl))
        | (refine take_at 18 83 (v := undef) rfl rfl (by kernel_rfl) (by kernel_rfl) (by kernel_rfl) (fun _ _ _ h => h) (Or.inr ⟨by rfl, rfl⟩) (by assumption) ?_)
      try simp only [Act.put, List.setIfInBounds_toArray, List.set_cons_zero, List.set_cons_succ]
      first
        | (refine take_at 19 84 (v := ?_) rfl rfl (by kernel_rfl) (by kernel_rfl) (by kernel_rfl) (fun _ _ _ h => h) (Or.inl ⟨by rfl, ?_⟩) (by assumption) ?_; rotate_left; focus (intro w hSw; (try dsimp only at hSw); go_simp; try with_reducible rfl))
        | (refine take_at 19 84 (v := undef) rfl rfl (by kernel_rfl) (by kernel_rfl) (by kernel_rfl) (fun _ _ _ h => h) (Or.inr ⟨by rfl, rfl⟩) (by assumption) ?_)
      try simp only [Act.put, List.setIfInBounds_toArray, List.set_cons_zero, List.set_cons_succ]
      first
        | (refine take_at 20 85 (v := ?_) rfl rfl (by kernel_rfl) (by kernel_rfl) (by kernel_rfl) (fun _ _ _ h => h) (Or.inl ⟨by rfl, ?_⟩) (by assumption) ?_; rotate_left; focus (intro w hSw; (try dsimp only at hSw); go_simp; try with_reducible rfl))
        | (refine take_at 20 85 (v := undef) rfl rfl (by kernel_rfl) (by kernel_rfl) (by kernel_rfl) (fun _ _ _ h => h) (Or.inr ⟨by rfl, rfl⟩) (by assumption) ?_)
      try simp only [Act.put, List.setIfInBounds_toArray, List.set_cons_zero, List.set_cons_succ]
      first
        | (refine take_at 21 86 (v := ?_) rfl rfl (by kernel_rfl) (by kernel_rfl) (by kernel_rfl) (fun _ _ _ h => h) (Or.inl ⟨by rfl, ?_⟩) (by assumption) ?_; rotate_left; focus (intro w hSw; (try dsimp only at hSw); go_simp; try with_reducible rfl))
        | (refine take_at 21 86 (v := undef) rfl rfl (by kernel_rfl) (by kernel_rfl) (by kernel_rfl) (fun _ _ _ h => h) (Or.inr ⟨by rfl, rfl⟩) (by assumption) ?_)
      try simp only [Act.put, List.setIfInBounds_toArray, List.set_cons_zero, List.set_cons_succ]
      first
        | (refine take_at 22 87 (v := ?_) rfl rfl (by kernel_rfl) (by kernel_rfl) (by kernel_rfl) (fun _ _ _ h => h) (Or.inl ⟨by rfl, ?_⟩) (by assumption) ?_; rotate_left; focus (intro w hSw; (try dsimp only at hSw); go_simp; try with_reducible rfl))
        | (refine take_at 22 87 (v := undef) rfl rfl (by kernel_rfl) (by kernel_rfl) (by kernel_rfl) (fun _ _ _ h => h) (Or.inr ⟨by rfl, rfl⟩) (by assumption) ?_)
      try simp only [Act.put, List.setIfInBounds_toArray, List.set_cons_zero, List.set_cons_succ]
      first
        | (refine take_at 23 88 (v := ?_) rfl rfl (by kernel_rfl) (by kernel_rfl) (by kernel_rfl) (fun _ _ _ h => h) (Or.inl ⟨by rfl, ?_⟩) (by assumption) ?_; rotate_left; focus (intro w hSw; (try dsimp only at hSw); go_simp; try with_reducible rfl))
        | (refine take_at 23 88 (v := undef) rfl rfl (by kernel_rfl) (by kernel_rfl) (by kernel_rfl) (fun _ _ _ h => h) (Or.inr ⟨by rfl, rfl⟩) (by assumption) ?_)
      try simp only [Act.put, List.setIfInBounds_toArray, List.set_cons_zero, List.set_cons_succ]
      first
        | (refine take_at 26 91 (v := ?_) rfl rfl (by kernel_rfl) (by kernel_rfl) (by kernel_rfl) (fun _ _ _ h => h) (Or.inl ⟨by rfl, ?_⟩) (by assumption) ?_; rotate_left; focus (intro w hSw; (try dsimp only at hSw); go_simp; try with_reducible rfl))
        | (refine take_at 26 91 (v := undef) rfl rfl (by kernel_rfl) (by kernel_rfl) (by kernel_rfl) (fun _ _ _ h => h) (Or.inr ⟨by rfl, rfl⟩) (by assumption) ?_)
      try simp only [Act.put, List.setIfInBounds_toArray, List.set_cons_zero, List.set_cons_succ]
      first
        | (refine take_at 28 93 (v := ?_) rfl rfl (by kernel_rfl) (by kernel_rfl) (by kernel_rfl) (fun _ _ _ h => h) (Or.inl ⟨by rfl, ?_⟩) (by assumption) ?_; rotate_left; focus (intro w hSw; (try dsimp only at hSw); go_simp; try with_reducible rfl))
        | (refine take_at 28 93 (v := undef) rfl rfl (by kernel_rfl) (by kernel_rfl) (by kernel_rfl) (fun _ _ _ h => h) (Or.inr ⟨by rfl, rfl⟩) (by assumption) ?_)
      try simp only [Act.put, List.setIfInBounds_toArray, List.set_cons_zero, List.set_cons_succ]
      refine wpAnyH_ready (rs := [24]) (by kernel_rfl) (by simp) ?_
      refine AllReadyH.cons rfl (fun K hK => ?_) AllReadyH.nil
      go_simp
      go_wp2_with ((go_at_call 36; (have hgate := HB5.out; clear hgate; refine (HU.out _).mono ?_; rintro e w6 ⟨rfl, hb⟩; have HB6 := Lib.hid (below_step (show Below W.heap.size W _ by repeat (first | exact Below.refl _ _ | exact HB7.out | exact HB6.out | exact HB5.out | apply below_drew1)) hb); have ka0 := (blk_cell (blk_below EA.out HB6.out) 0).trans rfl; have ka1 := (blk_cell (blk_below EA.out HB6.out) 1).trans rfl; have ka2 := (blk_cell (blk_below EA.out HB6.out) 2).trans rfl; have ka3 := (blk_cell (blk_below EA.out HB6.out) 3).trans rfl; have kb0 := pw_cell_below HB6.out EX0.out; have kb1 := pw_cell_below HB6.out EX1.out; have kb2 := pw_cell_below HB6.out EX2.out; have kb3 := pw_cell_below HB6.out EX3.out; have kb4 := pw_cell_below HB6.out EX4.out; clear hb)))
      refine hK.out _ _ ?_ (fun hHeld => ?_)
      focus ((try dsimp only); go_keep)
      clear hK K
      refine wpAnyH_ready (rs := [25]) (by kernel_rfl) (by simp) ?_
      refine AllReadyH.cons rfl (fun K hK => ?_) AllReadyH.nil
      go_simp
      go_wp2_with ((go_at_call 38; (have hgate := HB6.out; clear hgate; refine (HMo.out _ (show Below W.heap.size W _ by repeat (first | exact HB6.out | apply below_drew1))).mono ?_; rintro e w7 ⟨rfl, hb⟩; have HB7 := Lib.hid (below_step (show Below W.heap.size W _ by repeat (first | exact Below.refl _ _ | exact HB7.out | exact HB6.out | exact HB5.out | apply below_drew1)) hb); have ka0 := (blk_cell (blk_below EA.out HB7.out) 0).trans rfl; have ka1 := (blk_cell (blk_below EA.out HB7.out) 1).trans rfl; have ka2 := (blk_cell (blk_below EA.out HB7.out) 2).trans rfl; have ka3 := (blk_cell (blk_below EA.out HB7.out) 3).trans rfl; have kb0 := pw_cell_below HB7.out EX0.out; have kb1 := pw_cell_below HB7.out EX1.out; have kb2 := pw_cell_below HB7.out EX2.out; have kb3 := pw_cell_below HB7.out EX3.out; have kb4 := pw_cell_below HB7.out EX4.out; clear hb)))
      refine hK.out _ _ ?_ (fun hHeld => ?_)
      focus ((try dsimp only); go_keep)
      clear hK K
      first
        | (refine take_at 27 92 (v := ?_) rfl rfl (by kernel_rfl) (by kernel_rfl) (by kernel_rfl) (fun _ _ _ h => h) (Or.inl ⟨by rfl, ?_⟩) (by assumption) ?_; rotate_left; focus (intro w hSw; (try dsimp only at hSw); go_simp; try with_reducible rfl))
        | (refine take_at 27 92 (v := undef) rfl rfl (by kernel_rfl) (by kernel_rfl) (by kernel_rfl) (fun _ _ _ h => h) (Or.inr ⟨by rfl, rfl⟩) (by assumption) ?_)
      try simp only [Act.put, List.setIfInBounds_toArray, List.set_cons_zero, List.set_cons_succ]
      first
        | (refine take_at 29 94 (v := ?_) rfl rfl (by kernel_rfl) (by kernel_rfl) (by kernel_rfl) (fun _ _ _ h => h) (Or.inl ⟨by rfl, ?_⟩) (by assumption) ?_; rotate_left; focus (intro w hSw; (try dsimp only at hSw); go_simp; try with_reducible rfl))
        | (refine take_at 29 94 (v := undef) rfl rfl (by kernel_rfl) (by kernel_rfl) (by kernel_rfl) (fun _ _ _ h => h) (Or.inr ⟨by rfl, rfl⟩) (by assumption) ?_)
      try simp only [Act.put, List.setIfInBounds_toArray, List.set_cons_zero, List.set_cons_succ]
      first
        | (refine take_at 30 95 (v := ?_) rfl rfl (by kernel_rfl) (by kernel_rfl) (by kernel_rfl) (fun _ _ _ h => h) (Or.inl ⟨by rfl, ?_⟩) (by assumption) ?_; rotate_left; focus (intro w hSw; (try dsimp only at hSw); go_simp; try with_reducible rfl))
        | (refine take_at 30 95 (v := undef) rfl rfl (by kernel_rfl) (by kernel_rfl) (by kernel_rfl) (fun _ _ _ h => h) (Or.inr ⟨by rfl, rfl⟩) (by assumption) ?_)
      try simp only [Act.put, List.setIfInBounds_toArray, List.set_cons_zero, List.set_cons_succ]
      refine wpAnyH_done (by kernel_rfl) ?_ _
      refine NoPanic.normal ?_
      exact HPO.out _ _ _ _ _ _ _ _ _ _ _ _ _ _ _ _ _ _ _ _ _ _ _ _ _ _ _ _ _ _ _ HB7.out
end Go.Proofs.YtmndeoncbocplaaDoor.C
/-! CSec -/
namespace Go.Proofs.YtmndeoncbocplaaDoor.C
open Go.RowKit Go.Proofs.YtmndeoncbocplaaDoor.Q Go.Proofs.YtmndeoncbocplaaDoorW.PrintWords Go.Proofs.YtmndeoncbocplaaDoorW.PrintLast Go.Proofs.YtmndeoncbocplaaDoorW.PrintMore
theorem wi7_s (a : Int) (w : World) : Calls Tryd.prog 34 #[.int .i64 a, .int .i64 7] w fun e w' => ∃ t : Nat, (t : Int) < 7 ∧ e = .returned (.int .i64 (t : Int)) ∧ Below w.heap.size w w' := by
  obtain ⟨n, hn⟩ : ∃ n : Int, n = 7 := ⟨_, rfl⟩
  have h := wi13_c a n w (by omega) (by omega)
  rw [hn] at h
  exact h
theorem sec_bits : ∀ (m mode : Fin 8) (L E : Bool), 1 ≤ mode → mayB L E (m.val : Int) (mode.val : Int) = true → (L = false → ((mode.val : Int) != 2) = false) ∧ ((bits .and .i64 (mode.val : Int) 2 != 0) = true → E = true) ∧ (bits .and .i64 (m.val : Int) (mode.val : Int) != (mode.val : Int)) = false := by decide +kernel
theorem sec_law {L E : Bool} {m mode : Int} (hm : 0 ≤ m ∧ m ≤ 7) (h1 : 1 ≤ mode) (h7 : mode ≤ 7) (h : mayB L E m mode = true) : (L = false → (mode != 2) = false) ∧ ((bits .and .i64 mode 2 != 0) = true → E = true) ∧ (bits .and .i64 m mode != mode) = false := by
  obtain ⟨x, rfl⟩ := Int.eq_ofNat_of_zero_le hm.1
  obtain ⟨y, rfl⟩ := Int.eq_ofNat_of_zero_le (show 0 ≤ mode by omega)
  exact sec_bits ⟨x, by omega⟩ ⟨y, by omega⟩ L E (by rw [Fin.le_def]; show 1 ≤ y; omega) h
theorem eqL_eq {a : S41} {n : S50} (h : eqL a n = true) : n.f2 = a := by
  unfold eqL at h
  simp only [Bool.and_eq_true, beq_iff_eq] at h
  obtain ⟨h0, h1, h2, h3⟩ := h
  obtain ⟨a0, a1, a2, a3⟩ := a
  obtain ⟨n0, n1, ⟨b0, b1, b2, b3⟩, n3, n4, n5, n6⟩ := n
  simp only at h0 h1 h2 h3 ⊢
  rw [h0, h1, h2, h3]
theorem who_ne {u : ByteArray} (h : IsWho u) : u ≠ star := by
  obtain ⟨k, hk, rfl⟩ := h
  have key : ∀ k : Fin 5, (⟨#[UInt8.ofNat (97 + k.val)]⟩ : ByteArray) ≠ star := by decide +kernel
  exact key ⟨k, hk⟩
/-- Where one is, going up: behind the root there is nothing. -/
def upP (ns : List (List UInt8)) (m : Nat) : ByteArray := if m = 0 then ⟨#[]⟩ else pth (ns.take (m - 1))
theorem upP_zero (ns : List (List UInt8)) : (upP ns 0).toList = [] := by unfold upP; rw [if_pos rfl, Lib.toList_data]
theorem okp_take {t : List S50} (T : Tree t) {n : S50} (hn : n ∈ t) {ns : List (List UInt8)} (hok : Okp ns) (he : n.f0 = pth ns) (j : Nat) (hj : j ≤ ns.length) : Okp (ns.take j) := by
  obtain ⟨d, hd, h0, _⟩ := tree_anc T _ ns n j hn hok.1 he hj rfl
  obtain ⟨ms, hm, hp⟩ := tree_path T hd
  have : ns.take j = ms := pth_inj (fun x hx => hok.1 x (List.mem_of_mem_take hx)) hm.1 (h0.symm.trans hp)
  rw [this]; exact hm
theorem up_parent {ns : List (List UInt8)} (hok : ∀ j, j ≤ ns.length → Okp (ns.take j)) (m : Nat) (h1 : 1 ≤ m) (hm : m ≤ ns.length + 1) (k : Nat) (hk : 1001 < k) : donjonref7_Parent.f k (pth (ns.take (m - 1))) = some (upP ns (m - 1)) := by
  unfold upP
  by_cases h0 : m - 1 = 0
  · rw [h0, if_pos rfl, List.take_zero]
    unfold donjonref7_Parent.f
    rw [if_pos (by rw [pth_size]; decide)]
  · rw [if_neg h0]
    have ho := hok (m - 1) (by omega)
    have hne : ns.take (m - 1) ≠ [] := by
      intro e
      have := congrArg List.length e
      rw [List.length_take, List.length_nil] at this
      omega
    have e : min (min (m - 1) ns.length - 1) (m - 1) = m - 1 - 1 := by omega
    rw [rparent_f _ ho.1 hne ho.2 k hk, List.dropLast_eq_take, List.take_take, List.length_take, e]
theorem up_top {t : List S50} (T : Tree t) {n : S50} (hn : n ∈ t) {ns : List (List UInt8)} (hok : Okp ns) (he : n.f0 = pth ns) (k : Nat) (hk : 1001 < k) : donjonref7_Parent.f k (pth ns) = some (upP ns ns.length) := by
  have h := up_parent (fun j hj => okp_take T hn hok he j hj) (ns.length + 1) (by omega) (Nat.le_refl _) k hk
  rw [Nat.add_sub_cancel, List.take_length] at h
  exact h
theorem up_some (ns : List (List UInt8)) (m : Nat) (h : ¬ m = 0) : (upP ns m).toList = [] → False := by
  intro e
  unfold upP at e
  rw [if_neg h, Lib.toList_data, pth_data] at e
  have := L.render_flat
  cases hn : ns.take (m - 1) with
  | nil => rw [hn] at e; revert e; decide
  | cons x s => rw [hn, L.render_cons] at e; cases e
attribute [local go_sem ↓] rd_at50 wr_at50 al_at50 wr_at41
attribute [local go_sem] rd50_new wr50_new al50 build50 wr41_new
set_option maxHeartbeats 4000000 in
set_option maxRecDepth 100000 in
theorem secure_c (terms : List S41) (makes : List S80) (A B : Option Addr) (c d : Nat) (who : Int) (at0 : S41) (pick mode : Int) (w : World) (hC : Kd.C k41 w A terms.length terms) (hc : terms.length ≤ c) (hD : Kd.C k80 w B makes.length makes) (hd : makes.length ≤ d) :
    Calls Tryd.prog 7 #[.slice A terms.length c, .slice B makes.length d, .int .i64 who, .agg #[.int .i64 at0.f0, .int .i64 at0.f1, .int .i64 at0.f2, .int .i64 at0.f3], .int .i64 pick, .int .i64 mode] w fun e w' => e = .returned (.bool true) ∧ Below w.heap.size w w' := by
  have HG := Lib.hid fun w1 (hb : Below w.heap.size w w1) => grow_c terms makes A B c d w1 (Kd.C_below hC hb) hc (Kd.C_below hD hb) hd
  clear hC hD
  obtain ⟨u, hws, hu⟩ := who_f who
  have HU := Lib.hid fun w1 => donjonlaw13_Who.calls who u w1 hu
  clear hu
  have EB0 := Lib.hid (blk_new w (.cells #[.int .i64 at0.f0, .int .i64 at0.f1, .int .i64 at0.f2, .int .i64 at0.f3] 41))
  have HB0 := Lib.hid (below_alloc (Below.refl w.heap.size w) (.cells #[.int .i64 at0.f0, .int .i64 at0.f1, .int .i64 at0.f2, .int .i64 at0.f3] 41))
  cases hev : (pick.tmod 2 == 0) with
  | true =>
    go_enter Tryd.func7, Tryd.ntmps7
    go_wp2_with (first | (go_at_call 34; have hg := HC5.out; clear hg; refine (wi13_c _ _ _ (by omega) (by omega)).mono ?_; rintro e w5 ⟨k1, hk1, rfl, hb⟩; obtain ⟨ad2, A6, c6, A11, c11, hA2, hcs, HK⟩ := at50 HC5.out hb k1 (by have := HTL5.out; omega); obtain rfl := Option.some.inj hA2; obtain ⟨_, _, h2, h3, h4, h5, _⟩ := hcs; have HA := Lib.hid (HT5.out.ok _ (List.getElem_mem (l := t) (n := k1) (by have := HTL5.out; omega))).1; generalize (t[k1]'(by have := HTL5.out; omega)).f2 = a at h2 h3 h4 h5 HA; have EB6 := Lib.hid (blk_below EB5.out hb); have hst2 := wr41_blk (cs := #[.int .i64 a.f0, .int .i64 a.f1, .int .i64 a.f2, .int .i64 a.f3]) EB6.out rfl rfl (by simp [Value.oneCell']); obtain ⟨tt, hl, hC6, hT6, _⟩ := tree_turn (r := a) EB6.out (Kd.C_below HC5.out hb) HT5.out; have HC6 := Lib.hid hC6; have HT6 := Lib.hid hT6; have HTL6 := Lib.hid (hl.trans HTL5.out); have EB7 := Lib.hid (setRow_heap _ _ _ #[.int .i64 a.f0, .int .i64 a.f1, .int .i64 a.f2, .int .i64 a.f3] _ _ EB6.out); have HB6 := Lib.hid (below_setRow (below_step HB5.out hb) (Nat.le_refl _) #[.int .i64 a.f0, .int .i64 a.f1, .int .i64 a.f2, .int .i64 a.f3]); clear hb hl hC6 hT6 hA2 HK) | (go_at_call 34; ((with_reducible refine (wi7_s _ _).mono ?_)); rintro e w4 ⟨k7, hk7, rfl, hb⟩; have HX4 := Lib.hid (below_step HX3.out hb); have EB4 := Lib.hid (blk_below EB3.out hb); have hst := wr41_blk (cs := #[.int .i64 q.f0, .int .i64 q.f1, .int .i64 q.f2, .int .i64 q.f3]) EB4.out rfl rfl (by simp [Value.oneCell']); obtain ⟨t, hl, hC5, hT5, _⟩ := tree_turn (r := q) EB4.out (Kd.C_below HC2.out HX4.out) HT2.out; have HC5 := Lib.hid hC5; have HT5 := Lib.hid hT5; have HTL5 := Lib.hid (hl.trans HTL.out); have EB5 := Lib.hid (setRow_heap _ _ _ #[.int .i64 q.f0, .int .i64 q.f1, .int .i64 q.f2, .int .i64 q.f3] _ _ EB4.out); have HB5 := Lib.hid (below_setRow (below_step HB2.out HX4.out) (Nat.le_refl _) #[.int .i64 q.f0, .int .i64 q.f1, .int .i64 q.f2, .int .i64 q.f3]); clear hb hl hC5 hT5) | (go_at_call 33; refine (good_c at0 _).mono ?_; rintro e w3 ⟨q, rfl, hq, hb⟩; have HQ := Lib.hid hq; have HX3 := Lib.hid hb; have EB3 := Lib.hid (blk_below EB2.out hb); clear hb hq) | (go_at_call 32; refine (HG.out _ HB1.out).mono ?_; rintro e w2 ⟨Ag, t0, cg, rfl, hT, hcg, hCt, hb⟩; obtain ⟨ad, rfl, _⟩ := hCt.2.2 (tree_ne hT); obtain ⟨tl, htl⟩ : ∃ n, t0.length = n := ⟨_, rfl⟩; have HT2 := Lib.hid hT; have HC2 := Lib.hid hCt; have HB2 := Lib.hid (below_step HB1.out hb); have EB2 := Lib.hid (blk_below EB1.out hb); have htl0 : 0 < tl := (by have := tree_ne hT; omega); have htl1 : tl ≤ 1000 := (by have := hT.len; omega); have hcl : tl ≤ cg := (by omega); have s0b := (blk_cell EB2.out 0).trans rfl; have s1b := (blk_cell EB2.out 1).trans rfl; have s2b := (blk_cell EB2.out 2).trans rfl; have s3b := (blk_cell EB2.out 3).trans rfl; rw [htl]; have HTL := Lib.hid htl; clear hT hCt hb hcg htl) | (go_at_call 31; refine (known13_c _).mono ?_; rintro e w1 ⟨rfl, hb⟩; have HB1 := Lib.hid (below_step HB0.out hb); have EB1 := Lib.hid (blk_below EB0.out hb); clear hb))
    have HCV := HC6
    have HTV := HT6
    have HTLV := HTL6
    have EAV := EB7
    have HLA := HA
    have hbv := HB6.out
    clear hst hst2 HC6 HT6 HTL6 EB7 HA HB6 h2 h3 h4 h5 EB6 EB5 HB5 EB4 HX4 EB3 HX3 s0b s1b s2b s3b EB2 HB2 HC2 HT2 HTL EB1 HB1 EB0 HB0 HG hev
    generalize w5.setRow w.heap.size #[.int .i64 a.f0, .int .i64 a.f1, .int .i64 a.f2, .int .i64 a.f3] = V at HCV EAV hbv ⊢
    have HWS := Lib.hid hws
    have HBV := Lib.hid hbv
    clear hws hbv
    go_loopg [14] tl (fun k s14 wr => ∃ i : Nat, i ≤ tl ∧ tl - i ≤ k ∧ s14 = .int .i64 i ∧ Hid (Below V.heap.size V wr))
    case atStart => exact ⟨0, Nat.zero_le _, Nat.le_refl _, rfl, Lib.hid (Below.refl _ _)⟩
    case round =>
      obtain ⟨i, hi, hik, rfl, HV⟩ := hrel
      by_cases hlt : i < tl
      · obtain ⟨W0, hW⟩ : ∃ W, W = wr := ⟨_, rfl⟩
        subst hW
        have hit : i < tt.length := by have := HTLV.out; omega
        obtain ⟨ad2, A6, c6, A11, c11, hA2, hcs, _⟩ := at50 HCV.out HV.out i hit
        obtain rfl := Option.some.inj hA2
        have HP0 := Lib.hid hcs.1
        have HM := Lib.hid (List.getElem_mem (l := tt) (n := i) hit)
        clear hcs hA2
        generalize (tt[i]'hit) = n at HP0 HM
        obtain ⟨ns, hok, hp⟩ := tree_path HTV.out HM.out
        have HOK := Lib.hid hok
        have HPP := Lib.hid hp
        clear hok hp
        obtain ⟨x, hx⟩ : ∃ x, (mayR tt a u ns (1 + (k7 : Int))).1 = x := ⟨_, rfl⟩
        obtain ⟨e1, he1⟩ : ∃ x, (mayR tt a u ns (1 + (k7 : Int))).2 = x := ⟨_, rfl⟩
        have HX := Lib.hid hx
        have HE := Lib.hid he1
        clear hx he1
        have HMAY := Lib.hid fun w1 (hb : Below W0.heap.size W0 w1) => (show Calls Tryd.prog 35 #[.slice (some ad) tl cg, .agg #[.string u, .int .i64 a.f0, .int .i64 a.f1, .int .i64 a.f2, .int .i64 a.f3], .string n.f0, .int .i64 (1 + (k7 : Int))] w1 fun e w' => ∃ X6 x6 X11 x11, e = .returned (.tuple #[.agg #[.string x.f0, .bool x.f1, .int .i64 x.f2.f0, .int .i64 x.f2.f1, .int .i64 x.f2.f2, .int .i64 x.f2.f3, .slice X6 x.f3.length x6, .int .i64 x.f4.f0, .int .i64 x.f4.f1, .int .i64 x.f4.f2, .int .i64 x.f4.f3, .slice X11 x.f5.length x11, .int .i64 x.f6.f0, .int .i64 x.f6.f1, .int .i64 x.f6.f2, .int .i64 x.f6.f3], .int .i64 e1]) ∧ k50.FK w' (fun k => w1.heap.size ≤ k) x [.string x.f0, .bool x.f1, .int .i64 x.f2.f0, .int .i64 x.f2.f1, .int .i64 x.f2.f2, .int .i64 x.f2.f3, .slice X6 x.f3.length x6, .int .i64 x.f4.f0, .int .i64 x.f4.f1, .int .i64 x.f4.f2, .int .i64 x.f4.f3, .slice X11 x.f5.length x11, .int .i64 x.f6.f0, .int .i64 x.f6.f1, .int .i64 x.f6.f2, .int .i64 x.f6.f3] ∧ Below w1.heap.size w1 w' from by
          have h := may_tF HTV.out u a ns HOK.out n.f0 HPP.out.symm (1 + (k7 : Int)) x e1 HX.out HE.out (some ad) cg w1 (Kd.C_below HCV.out (below_step HV.out hb)) (by have := HTLV.out; omega)
          rw [HTLV.out] at h
          exact h)
        go_wp2
        refine rs10 who ad tl cg i n.f0 w.heap.size (1 + (k7 : Int)) u a x e1 _ _ _ _ _ _ _ _ _ _ _ _ _ _ _ _ _ _ _ _ _ _ _ _ _ _ _ _ _ _ _ _ _ _ _ _ _ _ _ _ _ _ _ _ _ _ _ _ _ _ _ _ _ _ _ _ _ _ _ _ _ _ _ _ _ _ _ _ _ _ _ _ _ _ _ _ _ _ _ _ _ _ _ _ _ _ _ _ _ _ _ _ _ _ _ _ _ _ _ _ _ _ _ _ _ _ _ _ _ _ _ _ _ _ _ _ _ _ W0 _ (blk_below EAV.out HV.out) HP0.out hlt HU.out HMAY.out ?_
        intro g X6 X11 x6 x11 w6 t48 t49 t50 t51 t52 t53 t54 t55 t56 t57 t58 t59 t60 t61 t62 hG hg hK hb
        have HG6 := Lib.hid hG
        have HK6 := Lib.hid hK
        have HV6 := Lib.hid (below_step HV.out hb)
        have EA6 := Lib.hid (blk_below (blk_below EAV.out HV.out) hb)
        clear hG hg hK hb HMAY
        by_cases hk0 : e1 = 0
        · subst hk0
          obtain ⟨hin, hxn, hmay, hup⟩ := secure_law a u ns (1 + (k7 : Int)) HE.out
          have hnn : nodeN tt (pth ns) = n := by have h := (is_at HTV.out.asc HM.out).2; rw [HPP.out] at h; exact h
          rw [hnn] at hxn hmay
          have hx2 : n = x := hxn.symm.trans HX.out
          subst hx2
          obtain ⟨hs1, hs2, hs3⟩ := sec_law (modes_range (HTV.out.ok n HM.out).2.2.1 u) (by omega) (by omega) hmay
          have HUP := Lib.hid hup
          have HS1 := Lib.hid hs1
          have HS2 := Lib.hid hs2
          have HS3 := Lib.hid hs3
          clear hin hxn hmay hup hnn hs1 hs2 hs3
          have HMO := Lib.hid fun w1 (hb : Below w6.heap.size w6 w1) => (show Calls Tryd.prog 38 #[.slice X6 n.f3.length x6, .string u] w1 fun e w' => e = .returned (.int .i64 (amodes n.f3 u)) ∧ Below w1.heap.size w1 w' from by
            obtain ⟨Y6, y6, Y11, y11, hcs, l6, g6, _⟩ := k50_open HK6.out
            have hA : X6 = Y6 ∧ x6 = y6 := by have h := congrArg (fun l : List Value => l[6]?) hcs; simpa using h
            obtain ⟨rfl, rfl⟩ := hA
            refine (donjonref5_Modes.calls 1100 _ _ n.f3 u _ w1 (Kd.C_below g6 hb) l6 (ref_modes (acl_asc (HTV.out.ok n HM.out).2.2.1) (by have := acl_len (HTV.out.ok n HM.out).2.2.1; omega) u (who_ne HWS.out) 1100 (by have := acl_len (HTV.out.ok n HM.out).2.2.1; omega))).mono ?_
            rintro e w' ⟨he, hd⟩
            exact ⟨he, hd.below⟩)
          have HOV0 := Lib.hid fun w1 : World => donjonref4_Over.calls a.f0 a.f1 a.f2 a.f3 n.f2.f0 n.f2.f1 n.f2.f2 n.f2.f3 (lover a n.f2) w1 (rover_iff HLA.out (HTV.out.ok n HM.out).1)
          go_wp2
          refine rs12 who w.heap.size g (1 + (k7 : Int)) u a n.f2 X6 n.f3.length x6 (amodes n.f3 u) (lover a n.f2) (bits .and .i64 (1 + (k7 : Int)) 2 != 0) _ _ _ _ _ _ _ _ _ _ _ _ _ _ _ _ _ _ _ _ _ _ _ _ _ _ _ _ _ _ _ _ _ _ _ _ _ _ _ _ _ _ _ _ _ _ _ _ _ _ _ _ _ _ _ _ _ _ _ _ _ _ _ _ _ _ _ _ _ _ _ _ _ _ _ _ _ _ _ _ _ _ _ _ _ _ _ _ _ _ _ _ _ _ _ _ _ _ _ _ _ _ _ _ _ _ _ _ _ _ _ _ _ _ _ _ _ _ _ w6 _ EA6.out ((blk_cell HG6.out 2).trans rfl) ((blk_cell HG6.out 3).trans rfl) ((blk_cell HG6.out 4).trans rfl) ((blk_cell HG6.out 5).trans rfl) ((blk_cell HG6.out 6).trans rfl) HU.out HOV0.out HMO.out HS1.out rfl (fun h => eqL_eq (HS2.out h)) HS3.out ?_
          intro w7 t65 t66 t67 t68 t69 t70 t71 t72 t73 t74 t75 t76 t77 t78 t79 t80 t81 t82 t83 t84 t85 t86 t87 t88 t89 t90 t91 t92 t93 t94 hb
          have HV7 := Lib.hid (below_step HV6.out hb)
          have EA7 := Lib.hid (blk_below EA6.out hb)
          have np : w7.cell? ⟨g, 0, none⟩ = some (.string n.f0) := pw_cell_below hb ((blk_cell HG6.out 0).trans rfl)
          clear hb HMO HOV0 HS1 HS2 HS3 HG6 HK6 EA6
          have HTOP := Lib.hid fun w1 => donjonref7_Parent.calls 2000 n.f0 (upP ns ns.length) w1 (by rw [HPP.out]; exact up_top HTV.out HM.out HOK.out HPP.out 2000 (by omega))
          go_wp2_with (go_at_call 39; refine (HTOP.out _).mono ?_; rintro e w8 ⟨rfl, hb⟩; have HI8 := Lib.hid hb.below; clear hb)
          go_loopg [17] ns.length (fun k s17 wr => ∃ m : Nat, m ≤ ns.length ∧ m ≤ k ∧ s17 = .string (upP ns m) ∧ Hid (Below w7.heap.size w7 wr))
          case atStart => exact ⟨ns.length, Nat.le_refl _, Nat.le_refl _, rfl, HI8⟩
          case round =>
            obtain ⟨m, hm, hmk, rfl, HI⟩ := hrel
            by_cases hm0 : m = 0
            · subst hm0
              have hs0 : (upP ns 0).toList = [] := upP_zero ns
              have hs0' : ((upP ns 0).toList != ([] : List UInt8)) = false := by rw [hs0]; rfl
              go_wp2
              go_roundg (tl - (i + 1))
              case measure => omega
              case rel => exact ⟨i + 1, hlt, Nat.le_refl _, by go_num, Lib.hid (below_step HV7.out HI.out)⟩
            · obtain ⟨hu1, hu2, hu3⟩ := HUP.out (m - 1) (by omega)
              have hq : upP ns m = pth (ns.take (m - 1)) := by unfold upP; rw [if_neg hm0]
              have hne : (upP ns m).toList ≠ [] := fun h => up_some ns m hm0 h
              have HPR := Lib.hid fun w1 => donjonref7_Parent.calls 2000 (upP ns m) (upP ns (m - 1)) w1 (by rw [hq]; exact up_parent (fun j hj => okp_take HTV.out HM.out HOK.out HPP.out j hj) m (by omega) (by omega) 2000 (by omega))
              obtain ⟨dn, hdn⟩ : ∃ d, nodeN tt (pth (ns.take (m - 1))) = d := ⟨_, rfl⟩
              rw [hdn] at hu2 hu3
              rw [← hq] at hu1 hdn
              have hdm : dn ∈ tt := by rw [← hdn]; exact (is_mem hu1).1
              have HD1 := Lib.hid hu2
              have HOV := Lib.hid fun w1 : World => donjonref4_Over.calls a.f0 a.f1 a.f2 a.f3 dn.f2.f0 dn.f2.f1 dn.f2.f2 dn.f2.f3 true w1 (by rw [rover_iff HLA.out (HTV.out.ok dn hdm).1, hu3])
              have HFD := Lib.hid fun w1 (hb : Below w7.heap.size w7 w1) => (show Calls Tryd.prog 40 #[.slice (some ad) tl cg, .string (upP ns m)] w1 fun e w' => ∃ D6 d6 D11 d11, e = .returned (.tuple #[.agg #[.string dn.f0, .bool dn.f1, .int .i64 dn.f2.f0, .int .i64 dn.f2.f1, .int .i64 dn.f2.f2, .int .i64 dn.f2.f3, .slice D6 dn.f3.length d6, .int .i64 dn.f4.f0, .int .i64 dn.f4.f1, .int .i64 dn.f4.f2, .int .i64 dn.f4.f3, .slice D11 dn.f5.length d11, .int .i64 dn.f6.f0, .int .i64 dn.f6.f1, .int .i64 dn.f6.f2, .int .i64 dn.f6.f3], .bool true]) ∧ Below w1.heap.size w1 w' from by
                have h := find_t HTV.out (upP ns m) (some ad) cg w1 (Kd.C_below HCV.out (below_step HV7.out hb)) (by have := HTLV.out; omega) dn true hdn hu1
                rw [HTLV.out] at h
                exact h)
              have hs1 : ((upP ns m).toList != ([] : List UInt8)) = true := by simpa using hne
              have hs2 : ((upP ns m).toList == ([] : List UInt8)) = false := by simpa using hne
              have hs3 : (upP ns m).toList.isEmpty = false := by simpa using hne
              have hs4 : (!(upP ns m).toList.isEmpty) = true := by simpa using hne
              clear hne hu1 hu2 hu3 hdn hdm hq
              generalize hpp : upP ns m = p at HPR HFD hs1 hs2 hs3 hs4 ⊢
              clear hpp
              go_wp2_with (first | (go_at_call 39; have hg := HI10.out; clear hg; refine (HPR.out _).mono ?_; rintro e w11 ⟨rfl, hb⟩; have HI11 := Lib.hid (below_step HI10.out hb.below); clear hb) | (go_at_call 37; refine (HOV.out _).mono ?_; rintro e w10 ⟨rfl, hb⟩; have HI10 := Lib.hid (below_step HI9.out hb); clear hb) | (go_at_call 40; refine (HFD.out _ HI.out).mono ?_; rintro e w9 ⟨D6, d6, D11, d11, rfl, hb⟩; have HI9 := Lib.hid (below_alloc (below_step HI.out hb) (.cells #[.string dn.f0, .bool dn.f1, .int .i64 dn.f2.f0, .int .i64 dn.f2.f1, .int .i64 dn.f2.f2, .int .i64 dn.f2.f3, .slice D6 dn.f3.length d6, .int .i64 dn.f4.f0, .int .i64 dn.f4.f1, .int .i64 dn.f4.f2, .int .i64 dn.f4.f3, .slice D11 dn.f5.length d11, .int .i64 dn.f6.f0, .int .i64 dn.f6.f1, .int .i64 dn.f6.f2, .int .i64 dn.f6.f3] 50)); have ED9 := Lib.hid (blk_new w9 (.cells #[.string dn.f0, .bool dn.f1, .int .i64 dn.f2.f0, .int .i64 dn.f2.f1, .int .i64 dn.f2.f2, .int .i64 dn.f2.f3, .slice D6 dn.f3.length d6, .int .i64 dn.f4.f0, .int .i64 dn.f4.f1, .int .i64 dn.f4.f2, .int .i64 dn.f4.f3, .slice D11 dn.f5.length d11, .int .i64 dn.f6.f0, .int .i64 dn.f6.f1, .int .i64 dn.f6.f2, .int .i64 dn.f6.f3] 50)); have EA9 := Lib.hid (blk_alloc (blk_below (blk_below EA7.out HI.out) hb) (.cells #[.string dn.f0, .bool dn.f1, .int .i64 dn.f2.f0, .int .i64 dn.f2.f1, .int .i64 dn.f2.f2, .int .i64 dn.f2.f3, .slice D6 dn.f3.length d6, .int .i64 dn.f4.f0, .int .i64 dn.f4.f1, .int .i64 dn.f4.f2, .int .i64 dn.f4.f3, .slice D11 dn.f5.length d11, .int .i64 dn.f6.f0, .int .i64 dn.f6.f1, .int .i64 dn.f6.f2, .int .i64 dn.f6.f3] 50)); have d1 : (w9.alloc (.cells #[.string dn.f0, .bool dn.f1, .int .i64 dn.f2.f0, .int .i64 dn.f2.f1, .int .i64 dn.f2.f2, .int .i64 dn.f2.f3, .slice D6 dn.f3.length d6, .int .i64 dn.f4.f0, .int .i64 dn.f4.f1, .int .i64 dn.f4.f2, .int .i64 dn.f4.f3, .slice D11 dn.f5.length d11, .int .i64 dn.f6.f0, .int .i64 dn.f6.f1, .int .i64 dn.f6.f2, .int .i64 dn.f6.f3] 50)).cell? ⟨w9.heap.size, 1, none⟩ = some (.bool true) := (blk_cell ED9.out 1).trans (by rw [HD1.out]; rfl); have d2 := (blk_cell ED9.out 2).trans rfl; have d3 := (blk_cell ED9.out 3).trans rfl; have d4 := (blk_cell ED9.out 4).trans rfl; have d5 := (blk_cell ED9.out 5).trans rfl; have s0q := (blk_cell EA9.out 0).trans rfl; have s1q := (blk_cell EA9.out 1).trans rfl; have s2q := (blk_cell EA9.out 2).trans rfl; have s3q := (blk_cell EA9.out 3).trans rfl; clear hb))
              go_roundg (m - 1)
              case measure => omega
              case rel => exact ⟨m - 1, by omega, Nat.le_refl _, rfl, HI11⟩
        · have hkn : (e1 != 0) = true := by simpa using hk0
          go_wp2
          go_roundg (tl - (i + 1))
          case measure => omega
          case rel => exact ⟨i + 1, hlt, Nat.le_refl _, by go_num, HV6⟩
      · obtain rfl : i = tl := by omega
        go_wp2
        go_ret
        exact ⟨rfl, below_step HBV.out HV.out⟩
  | false =>
    go_enter Tryd.func7, Tryd.ntmps7
    go_wp2_with (first | (go_at_call 34; ((with_reducible refine (wi7_s _ _).mono ?_)); rintro e w4 ⟨k7, hk7, rfl, hb⟩; have HX4 := Lib.hid (below_step HX3.out hb); have EB4 := Lib.hid (blk_below EB3.out hb); have hst := wr41_blk (cs := #[.int .i64 a.f0, .int .i64 a.f1, .int .i64 a.f2, .int .i64 a.f3]) EB4.out rfl rfl (by simp [Value.oneCell']); obtain ⟨tt, hl, hC5, hT5, _⟩ := tree_turn (r := a) EB4.out (Kd.C_below HC2.out HX4.out) HT2.out; have HC5 := Lib.hid hC5; have HT5 := Lib.hid hT5; have HTL5 := Lib.hid (hl.trans HTL.out); have EB5 := Lib.hid (setRow_heap _ _ _ #[.int .i64 a.f0, .int .i64 a.f1, .int .i64 a.f2, .int .i64 a.f3] _ _ EB4.out); have HB5 := Lib.hid (below_setRow (below_step HB2.out HX4.out) (Nat.le_refl _) #[.int .i64 a.f0, .int .i64 a.f1, .int .i64 a.f2, .int .i64 a.f3]); clear hb hl hC5 hT5) | (go_at_call 33; refine (good_c at0 _).mono ?_; rintro e w3 ⟨a, rfl, hq, hb⟩; have HQ := Lib.hid hq; have HX3 := Lib.hid hb; have EB3 := Lib.hid (blk_below EB2.out hb); clear hb hq) | (go_at_call 32; refine (HG.out _ HB1.out).mono ?_; rintro e w2 ⟨Ag, t0, cg, rfl, hT, hcg, hCt, hb⟩; obtain ⟨ad, rfl, _⟩ := hCt.2.2 (tree_ne hT); obtain ⟨tl, htl⟩ : ∃ n, t0.length = n := ⟨_, rfl⟩; have HT2 := Lib.hid hT; have HC2 := Lib.hid hCt; have HB2 := Lib.hid (below_step HB1.out hb); have EB2 := Lib.hid (blk_below EB1.out hb); have htl0 : 0 < tl := (by have := tree_ne hT; omega); have htl1 : tl ≤ 1000 := (by have := hT.len; omega); have hcl : tl ≤ cg := (by omega); have s0b := (blk_cell EB2.out 0).trans rfl; have s1b := (blk_cell EB2.out 1).trans rfl; have s2b := (blk_cell EB2.out 2).trans rfl; have s3b := (blk_cell EB2.out 3).trans rfl; rw [htl]; have HTL := Lib.hid htl; clear hT hCt hb hcg htl) | (go_at_call 31; refine (known13_c _).mono ?_; rintro e w1 ⟨rfl, hb⟩; have HB1 := Lib.hid (below_step HB0.out hb); have EB1 := Lib.hid (blk_below EB0.out hb); clear hb))
    have HCV := HC5
    have HTV := HT5
    have HTLV := HTL5
    have EAV := EB5
    have HLA := HQ
    have hbv := HB5.out
    clear hst HC5 HT5 HTL5 EB5 HQ HB5 EB4 HX4 EB3 HX3 s0b s1b s2b s3b EB2 HB2 HC2 HT2 HTL EB1 HB1 EB0 HB0 HG hev
    generalize w4.setRow w.heap.size #[.int .i64 a.f0, .int .i64 a.f1, .int .i64 a.f2, .int .i64 a.f3] = V at HCV EAV hbv ⊢
    have HWS := Lib.hid hws
    have HBV := Lib.hid hbv
    clear hws hbv
    go_loopg [14] tl (fun k s14 wr => ∃ i : Nat, i ≤ tl ∧ tl - i ≤ k ∧ s14 = .int .i64 i ∧ Hid (Below V.heap.size V wr))
    case atStart => exact ⟨0, Nat.zero_le _, Nat.le_refl _, rfl, Lib.hid (Below.refl _ _)⟩
    case round =>
      obtain ⟨i, hi, hik, rfl, HV⟩ := hrel
      by_cases hlt : i < tl
      · obtain ⟨W0, hW⟩ : ∃ W, W = wr := ⟨_, rfl⟩
        subst hW
        have hit : i < tt.length := by have := HTLV.out; omega
        obtain ⟨ad2, A6, c6, A11, c11, hA2, hcs, _⟩ := at50 HCV.out HV.out i hit
        obtain rfl := Option.some.inj hA2
        have HP0 := Lib.hid hcs.1
        have HM := Lib.hid (List.getElem_mem (l := tt) (n := i) hit)
        clear hcs hA2
        generalize (tt[i]'hit) = n at HP0 HM
        obtain ⟨ns, hok, hp⟩ := tree_path HTV.out HM.out
        have HOK := Lib.hid hok
        have HPP := Lib.hid hp
        clear hok hp
        obtain ⟨x, hx⟩ : ∃ x, (mayR tt a u ns (1 + (k7 : Int))).1 = x := ⟨_, rfl⟩
        obtain ⟨e1, he1⟩ : ∃ x, (mayR tt a u ns (1 + (k7 : Int))).2 = x := ⟨_, rfl⟩
        have HX := Lib.hid hx
        have HE := Lib.hid he1
        clear hx he1
        have HMAY := Lib.hid fun w1 (hb : Below W0.heap.size W0 w1) => (show Calls Tryd.prog 35 #[.slice (some ad) tl cg, .agg #[.string u, .int .i64 a.f0, .int .i64 a.f1, .int .i64 a.f2, .int .i64 a.f3], .string n.f0, .int .i64 (1 + (k7 : Int))] w1 fun e w' => ∃ X6 x6 X11 x11, e = .returned (.tuple #[.agg #[.string x.f0, .bool x.f1, .int .i64 x.f2.f0, .int .i64 x.f2.f1, .int .i64 x.f2.f2, .int .i64 x.f2.f3, .slice X6 x.f3.length x6, .int .i64 x.f4.f0, .int .i64 x.f4.f1, .int .i64 x.f4.f2, .int .i64 x.f4.f3, .slice X11 x.f5.length x11, .int .i64 x.f6.f0, .int .i64 x.f6.f1, .int .i64 x.f6.f2, .int .i64 x.f6.f3], .int .i64 e1]) ∧ k50.FK w' (fun k => w1.heap.size ≤ k) x [.string x.f0, .bool x.f1, .int .i64 x.f2.f0, .int .i64 x.f2.f1, .int .i64 x.f2.f2, .int .i64 x.f2.f3, .slice X6 x.f3.length x6, .int .i64 x.f4.f0, .int .i64 x.f4.f1, .int .i64 x.f4.f2, .int .i64 x.f4.f3, .slice X11 x.f5.length x11, .int .i64 x.f6.f0, .int .i64 x.f6.f1, .int .i64 x.f6.f2, .int .i64 x.f6.f3] ∧ Below w1.heap.size w1 w' from by
          have h := may_tF HTV.out u a ns HOK.out n.f0 HPP.out.symm (1 + (k7 : Int)) x e1 HX.out HE.out (some ad) cg w1 (Kd.C_below HCV.out (below_step HV.out hb)) (by have := HTLV.out; omega)
          rw [HTLV.out] at h
          exact h)
        go_wp2
        refine rs10 who ad tl cg i n.f0 w.heap.size (1 + (k7 : Int)) u a x e1 _ _ _ _ _ _ _ _ _ _ _ _ _ _ _ _ _ _ _ _ _ _ _ _ _ _ _ _ _ _ _ _ _ _ _ _ _ _ _ _ _ _ _ _ _ _ _ _ _ _ _ _ _ _ _ _ _ _ _ _ _ _ _ _ _ _ _ _ _ _ _ _ _ _ _ _ _ _ _ _ _ _ _ _ _ _ _ _ _ _ _ _ _ _ _ _ _ _ _ _ _ _ _ _ _ _ _ _ _ _ _ _ _ _ _ _ _ _ W0 _ (blk_below EAV.out HV.out) HP0.out hlt HU.out HMAY.out ?_
        intro g X6 X11 x6 x11 w6 t48 t49 t50 t51 t52 t53 t54 t55 t56 t57 t58 t59 t60 t61 t62 hG hg hK hb
        have HG6 := Lib.hid hG
        have HK6 := Lib.hid hK
        have HV6 := Lib.hid (below_step HV.out hb)
        have EA6 := Lib.hid (blk_below (blk_below EAV.out HV.out) hb)
        clear hG hg hK hb HMAY
        by_cases hk0 : e1 = 0
        · subst hk0
          obtain ⟨hin, hxn, hmay, hup⟩ := secure_law a u ns (1 + (k7 : Int)) HE.out
          have hnn : nodeN tt (pth ns) = n := by have h := (is_at HTV.out.asc HM.out).2; rw [HPP.out] at h; exact h
          rw [hnn] at hxn hmay
          have hx2 : n = x := hxn.symm.trans HX.out
          subst hx2
          obtain ⟨hs1, hs2, hs3⟩ := sec_law (modes_range (HTV.out.ok n HM.out).2.2.1 u) (by omega) (by omega) hmay
          have HUP := Lib.hid hup
          have HS1 := Lib.hid hs1
          have HS2 := Lib.hid hs2
          have HS3 := Lib.hid hs3
          clear hin hxn hmay hup hnn hs1 hs2 hs3
          have HMO := Lib.hid fun w1 (hb : Below w6.heap.size w6 w1) => (show Calls Tryd.prog 38 #[.slice X6 n.f3.length x6, .string u] w1 fun e w' => e = .returned (.int .i64 (amodes n.f3 u)) ∧ Below w1.heap.size w1 w' from by
            obtain ⟨Y6, y6, Y11, y11, hcs, l6, g6, _⟩ := k50_open HK6.out
            have hA : X6 = Y6 ∧ x6 = y6 := by have h := congrArg (fun l : List Value => l[6]?) hcs; simpa using h
            obtain ⟨rfl, rfl⟩ := hA
            refine (donjonref5_Modes.calls 1100 _ _ n.f3 u _ w1 (Kd.C_below g6 hb) l6 (ref_modes (acl_asc (HTV.out.ok n HM.out).2.2.1) (by have := acl_len (HTV.out.ok n HM.out).2.2.1; omega) u (who_ne HWS.out) 1100 (by have := acl_len (HTV.out.ok n HM.out).2.2.1; omega))).mono ?_
            rintro e w' ⟨he, hd⟩
            exact ⟨he, hd.below⟩)
          have HOV0 := Lib.hid fun w1 : World => donjonref4_Over.calls a.f0 a.f1 a.f2 a.f3 n.f2.f0 n.f2.f1 n.f2.f2 n.f2.f3 (lover a n.f2) w1 (rover_iff HLA.out (HTV.out.ok n HM.out).1)
          go_wp2
          refine rs12 who w.heap.size g (1 + (k7 : Int)) u a n.f2 X6 n.f3.length x6 (amodes n.f3 u) (lover a n.f2) (bits .and .i64 (1 + (k7 : Int)) 2 != 0) _ _ _ _ _ _ _ _ _ _ _ _ _ _ _ _ _ _ _ _ _ _ _ _ _ _ _ _ _ _ _ _ _ _ _ _ _ _ _ _ _ _ _ _ _ _ _ _ _ _ _ _ _ _ _ _ _ _ _ _ _ _ _ _ _ _ _ _ _ _ _ _ _ _ _ _ _ _ _ _ _ _ _ _ _ _ _ _ _ _ _ _ _ _ _ _ _ _ _ _ _ _ _ _ _ _ _ _ _ _ _ _ _ _ _ _ _ _ _ w6 _ EA6.out ((blk_cell HG6.out 2).trans rfl) ((blk_cell HG6.out 3).trans rfl) ((blk_cell HG6.out 4).trans rfl) ((blk_cell HG6.out 5).trans rfl) ((blk_cell HG6.out 6).trans rfl) HU.out HOV0.out HMO.out HS1.out rfl (fun h => eqL_eq (HS2.out h)) HS3.out ?_
          intro w7 t65 t66 t67 t68 t69 t70 t71 t72 t73 t74 t75 t76 t77 t78 t79 t80 t81 t82 t83 t84 t85 t86 t87 t88 t89 t90 t91 t92 t93 t94 hb
          have HV7 := Lib.hid (below_step HV6.out hb)
          have EA7 := Lib.hid (blk_below EA6.out hb)
          have np : w7.cell? ⟨g, 0, none⟩ = some (.string n.f0) := pw_cell_below hb ((blk_cell HG6.out 0).trans rfl)
          clear hb HMO HOV0 HS1 HS2 HS3 HG6 HK6 EA6
          have HTOP := Lib.hid fun w1 => donjonref7_Parent.calls 2000 n.f0 (upP ns ns.length) w1 (by rw [HPP.out]; exact up_top HTV.out HM.out HOK.out HPP.out 2000 (by omega))
          go_wp2_with (go_at_call 39; refine (HTOP.out _).mono ?_; rintro e w8 ⟨rfl, hb⟩; have HI8 := Lib.hid hb.below; clear hb)
          go_loopg [17] ns.length (fun k s17 wr => ∃ m : Nat, m ≤ ns.length ∧ m ≤ k ∧ s17 = .string (upP ns m) ∧ Hid (Below w7.heap.size w7 wr))
          case atStart => exact ⟨ns.length, Nat.le_refl _, Nat.le_refl _, rfl, HI8⟩
          case round =>
            obtain ⟨m, hm, hmk, rfl, HI⟩ := hrel
            by_cases hm0 : m = 0
            · subst hm0
              have hs0 : (upP ns 0).toList = [] := upP_zero ns
              have hs0' : ((upP ns 0).toList != ([] : List UInt8)) = false := by rw [hs0]; rfl
              go_wp2
              go_roundg (tl - (i + 1))
              case measure => omega
              case rel => exact ⟨i + 1, hlt, Nat.le_refl _, by go_num, Lib.hid (below_step HV7.out HI.out)⟩
            · obtain ⟨hu1, hu2, hu3⟩ := HUP.out (m - 1) (by omega)
              have hq : upP ns m = pth (ns.take (m - 1)) := by unfold upP; rw [if_neg hm0]
              have hne : (upP ns m).toList ≠ [] := fun h => up_some ns m hm0 h
              have HPR := Lib.hid fun w1 => donjonref7_Parent.calls 2000 (upP ns m) (upP ns (m - 1)) w1 (by rw [hq]; exact up_parent (fun j hj => okp_take HTV.out HM.out HOK.out HPP.out j hj) m (by omega) (by omega) 2000 (by omega))
              obtain ⟨dn, hdn⟩ : ∃ d, nodeN tt (pth (ns.take (m - 1))) = d := ⟨_, rfl⟩
              rw [hdn] at hu2 hu3
              rw [← hq] at hu1 hdn
              have hdm : dn ∈ tt := by rw [← hdn]; exact (is_mem hu1).1
              have HD1 := Lib.hid hu2
              have HOV := Lib.hid fun w1 : World => donjonref4_Over.calls a.f0 a.f1 a.f2 a.f3 dn.f2.f0 dn.f2.f1 dn.f2.f2 dn.f2.f3 true w1 (by rw [rover_iff HLA.out (HTV.out.ok dn hdm).1, hu3])
              have HFD := Lib.hid fun w1 (hb : Below w7.heap.size w7 w1) => (show Calls Tryd.prog 40 #[.slice (some ad) tl cg, .string (upP ns m)] w1 fun e w' => ∃ D6 d6 D11 d11, e = .returned (.tuple #[.agg #[.string dn.f0, .bool dn.f1, .int .i64 dn.f2.f0, .int .i64 dn.f2.f1, .int .i64 dn.f2.f2, .int .i64 dn.f2.f3, .slice D6 dn.f3.length d6, .int .i64 dn.f4.f0, .int .i64 dn.f4.f1, .int .i64 dn.f4.f2, .int .i64 dn.f4.f3, .slice D11 dn.f5.length d11, .int .i64 dn.f6.f0, .int .i64 dn.f6.f1, .int .i64 dn.f6.f2, .int .i64 dn.f6.f3], .bool true]) ∧ Below w1.heap.size w1 w' from by
                have h := find_t HTV.out (upP ns m) (some ad) cg w1 (Kd.C_below HCV.out (below_step HV7.out hb)) (by have := HTLV.out; omega) dn true hdn hu1
                rw [HTLV.out] at h
                exact h)
              have hs1 : ((upP ns m).toList != ([] : List UInt8)) = true := by simpa using hne
              have hs2 : ((upP ns m).toList == ([] : List UInt8)) = false := by simpa using hne
              have hs3 : (upP ns m).toList.isEmpty = false := by simpa using hne
              have hs4 : (!(upP ns m).toList.isEmpty) = true := by simpa using hne
              clear hne hu1 hu2 hu3 hdn hdm hq
              generalize hpp : upP ns m = p at HPR HFD hs1 hs2 hs3 hs4 ⊢
              clear hpp
              go_wp2_with (first | (go_at_call 39; have hg := HI10.out; clear hg; refine (HPR.out _).mono ?_; rintro e w11 ⟨rfl, hb⟩; have HI11 := Lib.hid (below_step HI10.out hb.below); clear hb) | (go_at_call 37; refine (HOV.out _).mono ?_; rintro e w10 ⟨rfl, hb⟩; have HI10 := Lib.hid (below_step HI9.out hb); clear hb) | (go_at_call 40; refine (HFD.out _ HI.out).mono ?_; rintro e w9 ⟨D6, d6, D11, d11, rfl, hb⟩; have HI9 := Lib.hid (below_alloc (below_step HI.out hb) (.cells #[.string dn.f0, .bool dn.f1, .int .i64 dn.f2.f0, .int .i64 dn.f2.f1, .int .i64 dn.f2.f2, .int .i64 dn.f2.f3, .slice D6 dn.f3.length d6, .int .i64 dn.f4.f0, .int .i64 dn.f4.f1, .int .i64 dn.f4.f2, .int .i64 dn.f4.f3, .slice D11 dn.f5.length d11, .int .i64 dn.f6.f0, .int .i64 dn.f6.f1, .int .i64 dn.f6.f2, .int .i64 dn.f6.f3] 50)); have ED9 := Lib.hid (blk_new w9 (.cells #[.string dn.f0, .bool dn.f1, .int .i64 dn.f2.f0, .int .i64 dn.f2.f1, .int .i64 dn.f2.f2, .int .i64 dn.f2.f3, .slice D6 dn.f3.length d6, .int .i64 dn.f4.f0, .int .i64 dn.f4.f1, .int .i64 dn.f4.f2, .int .i64 dn.f4.f3, .slice D11 dn.f5.length d11, .int .i64 dn.f6.f0, .int .i64 dn.f6.f1, .int .i64 dn.f6.f2, .int .i64 dn.f6.f3] 50)); have EA9 := Lib.hid (blk_alloc (blk_below (blk_below EA7.out HI.out) hb) (.cells #[.string dn.f0, .bool dn.f1, .int .i64 dn.f2.f0, .int .i64 dn.f2.f1, .int .i64 dn.f2.f2, .int .i64 dn.f2.f3, .slice D6 dn.f3.length d6, .int .i64 dn.f4.f0, .int .i64 dn.f4.f1, .int .i64 dn.f4.f2, .int .i64 dn.f4.f3, .slice D11 dn.f5.length d11, .int .i64 dn.f6.f0, .int .i64 dn.f6.f1, .int .i64 dn.f6.f2, .int .i64 dn.f6.f3] 50)); have d1 : (w9.alloc (.cells #[.string dn.f0, .bool dn.f1, .int .i64 dn.f2.f0, .int .i64 dn.f2.f1, .int .i64 dn.f2.f2, .int .i64 dn.f2.f3, .slice D6 dn.f3.length d6, .int .i64 dn.f4.f0, .int .i64 dn.f4.f1, .int .i64 dn.f4.f2, .int .i64 dn.f4.f3, .slice D11 dn.f5.length d11, .int .i64 dn.f6.f0, .int .i64 dn.f6.f1, .int .i64 dn.f6.f2, .int .i64 dn.f6.f3] 50)).cell? ⟨w9.heap.size, 1, none⟩ = some (.bool true) := (blk_cell ED9.out 1).trans (by rw [HD1.out]; rfl); have d2 := (blk_cell ED9.out 2).trans rfl; have d3 := (blk_cell ED9.out 3).trans rfl; have d4 := (blk_cell ED9.out 4).trans rfl; have d5 := (blk_cell ED9.out 5).trans rfl; have s0q := (blk_cell EA9.out 0).trans rfl; have s1q := (blk_cell EA9.out 1).trans rfl; have s2q := (blk_cell EA9.out 2).trans rfl; have s3q := (blk_cell EA9.out 3).trans rfl; clear hb))
              go_roundg (m - 1)
              case measure => omega
              case rel => exact ⟨m - 1, by omega, Nat.le_refl _, rfl, HI11⟩
        · have hkn : (e1 != 0) = true := by simpa using hk0
          go_wp2
          go_roundg (tl - (i + 1))
          case measure => omega
          case rel => exact ⟨i + 1, hlt, Nat.le_refl _, by go_num, HV6⟩
      · obtain rfl : i = tl := by omega
        go_wp2
        go_ret
        exact ⟨rfl, below_step HBV.out HV.out⟩
end Go.Proofs.YtmndeoncbocplaaDoor.C
