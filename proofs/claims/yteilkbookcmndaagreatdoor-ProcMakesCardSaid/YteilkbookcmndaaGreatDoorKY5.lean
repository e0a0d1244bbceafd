/- Texts that the claim's law stands on, cut down to what it reaches. -/
import Derived.Test.YteilkbookcmndaaGreatDoorKY2
import Derived.Deep.RegionHeldLaw
import Derived.Deep.RegionHeld3
import Derived.Deep.LoopGhost
set_option linter.unusedVariables false
set_option linter.unusedSimpArgs false
section
namespace Go.Proofs.YteilkbookcmndaaGreatDoor.C
open Go.RowKit Go.Proofs.YteilkbookcmndaaGreatDoor.Q Go.Proofs.YteilkbookcmndaaGreatDoorW.PrintWords Go.Proofs.YteilkbookcmndaaGreatDoorW.PrintLast Go.Proofs.YteilkbookcmndaaGreatDoorW.PrintMore
attribute [local go_sem ↓] rd_at50 wr_at50 al_at50
attribute [local go_sem] rd50_new al50
attribute [local go_sem ↓] rd_at45 wr_at45 rd_at150 wr_at150 rd_at47b wr_at47b rd_at77 wr_at77
attribute [local go_sem] rd45_new wr45_new rd150_new wr150_new wr47b_new wr77_new
attribute [local go_sem] max_two
theorem hdr5 (w : World) : w.drew.heap = w.heap := rfl
def b5 (x : Int) : Obj := .cells #[.int .u8 x] 5
def bG : Obj := .cells #[.string (⟨#[42]⟩ : ByteArray), .int .i64 7] 85
def bZ : Obj := .cells #[.string (⟨#[]⟩ : ByteArray), .bool false, .int .i64 0, .int .i64 0, .int .i64 0, .int .i64 0, .slice none 0 0, .int .i64 0, .int .i64 0, .int .i64 0, .int .i64 0, .slice none 0 0, .int .i64 0, .int .i64 0, .int .i64 0, .int .i64 0] 36
def cN (dir : ByteArray) (dn : S50) (ga : Nat) (A11 : Option Addr) (n c11 : Nat) (x : Int) : Array Value := #[.string (dir ++ ⟨#[47, 112]⟩ ++ strOfNums [x]), .bool false, .int .i64 dn.f2.f0, .int .i64 dn.f2.f1, .int .i64 dn.f2.f2, .int .i64 dn.f2.f3, .slice (some ⟨ga, 0, none⟩) 1 1, .int .i64 4, .int .i64 4, .int .i64 4, .int .i64 0, .slice A11 n c11, .int .i64 0, .int .i64 0, .int .i64 0, .int .i64 0]
theorem cN_one (dir : ByteArray) (dn : S50) (ga : Nat) (A11 : Option Addr) (n c11 : Nat) (x : Int) : (cN dir dn ga A11 n c11 x).all (·.oneCell') = true := by simp [cN, Value.oneCell']
theorem nwb (w : World) (o : Obj) (k : Nat) (h : k = w.heap.size) : (w.alloc o).heap[k]? = some o := by rw [h]; exact blk_new w o
theorem blA {B : Nat} {w V : World} {o : Obj} (h : Below B w V) (hB : B ≤ V.heap.size) : Below B w (V.alloc o) := h.alloc hB o
theorem kp5 {W V : World} {gd i : Nat} {pd : Addr} {dn : S50} {D6 D11 : Option Addr} {d6 d11 : Nat} {v : Value} (hd : W.heap[gd]? = some (.cells #[.string dn.f0, .bool dn.f1, .int .i64 dn.f2.f0, .int .i64 dn.f2.f1, .int .i64 dn.f2.f2, .int .i64 dn.f2.f3, .slice D6 dn.f3.length d6, .int .i64 dn.f4.f0, .int .i64 dn.f4.f1, .int .i64 dn.f4.f2, .int .i64 dn.f4.f3, .slice D11 dn.f5.length d11, .int .i64 dn.f6.f0, .int .i64 dn.f6.f1, .int .i64 dn.f6.f2, .int .i64 dn.f6.f3] 36 (0, 0))) (hp : W.cell? (pd.add i) = some v) (hb : Below W.heap.size W V) :
  V.cell? ⟨gd, 2, none⟩ = some (.int .i64 dn.f2.f0) ∧ V.cell? ⟨gd, 3, none⟩ = some (.int .i64 dn.f2.f1) ∧ V.cell? ⟨gd, 4, none⟩ = some (.int .i64 dn.f2.f2) ∧ V.cell? ⟨gd, 5, none⟩ = some (.int .i64 dn.f2.f3) ∧ V.cell? (pd.add i) = some v :=
 ⟨(blk_cell (blk_below hd hb) 2).trans rfl, (blk_cell (blk_below hd hb) 3).trans rfl, (blk_cell (blk_below hd hb) 4).trans rfl, (blk_cell (blk_below hd hb) 5).trans rfl, pw_cell_below hb hp⟩
theorem blt {w : World} {g : Nat} {o : Obj} (h : w.heap[g]? = some o) : g < w.heap.size := (Array.getElem?_eq_some_iff.1 h).1
theorem gto {G H : Nat → Array Bool → Act → World → Prop} (h : G = H) {f : Nat} {l : Array Bool} {a : Act} {w : World} (x : G f l a w) : H f l a w := h ▸ x
theorem gin {H : Nat → Array Bool → Act → World → Prop} {f : Nat} {l : Array Bool} {a : Act} {w : World} (h : ∀ G, G = H → G f l a w) : H f l a w := h H rfl
set_option maxHeartbeats 16000000 in
set_option maxRecDepth 1000000 in
theorem pt7 (gd np cp i : Nat) (pd : Addr) (dir : ByteArray) (dn : S50) (D6 D11 : Option Addr) (d6 d11 : Nat) (iA : Option Addr) (inn ic : Nat) (x : Int) (u0 u3 u4 u5 u6 u7 u8 u9 u10 u12 u14 u15 u16 u17 u18 u19 u20 u21 u22 u23 u24 u25 u26 u27 u28 u29 u30 u31 u32 u33 u34 u35 u36 u37 u38 u39 u40 u41 u42 u43 u44 u45 u46 u47 u48 u49 u50 u51 u52 u53 u54 u55 u56 u57 u58 u59 u60 u61 u62 u63 u64 u65 u66 u67 u68 u69 u70 u71 u72 u73 u74 u75 u76 u77 u78 u79 u80 u81 u82 u83 u84 u85 u86 u87 u88 u89 u90 u91 u92 : Value) (W : World) (Q : Exit → Act → World → Prop)
  (hd : W.heap[gd]? = some (.cells #[.string dn.f0, .bool dn.f1, .int .i64 dn.f2.f0, .int .i64 dn.f2.f1, .int .i64 dn.f2.f2, .int .i64 dn.f2.f3, .slice D6 dn.f3.length d6, .int .i64 dn.f4.f0, .int .i64 dn.f4.f1, .int .i64 dn.f4.f2, .int .i64 dn.f4.f3, .slice D11 dn.f5.length d11, .int .i64 dn.f6.f0, .int .i64 dn.f6.f1, .int .i64 dn.f6.f2, .int .i64 dn.f6.f3] 36 (0, 0))) (hp : W.cell? (pd.add i) = some (.slice iA inn ic)) (hi : i < np) (hnp : np ≤ cp) (hw1 : IntKind.i64.wrap (48 + (i : Int)) = x) (hw2 : IntKind.u8.wrap x = x) (hdir : dir.size ≤ 1000)
  (hW : ∀ w1 : World, Below W.heap.size W w1 → Calls Tryz.prog 39 #[.agg #[.slice iA inn ic]] w1 fun e w' => ∃ A11 c11 ws, e = .returned (.slice A11 (List.length (α := Int) ws) c11) ∧ (ws.length ≤ 16 ∧ (inn = 0 → ws = [])) ∧ ws.length ≤ c11 ∧ Kd.F (Kd.int .i64) w' (fun k => w1.heap.size ≤ k) A11 ws.length ws ∧ Below w1.heap.size w1 w')
  (hpost : ∀ (g ga : Nat) (w' : World) (A11 : Option Addr) (c11 : Nat) (ws : List Int) (t39 t40 t41 t42 t43 t44 t45 t46 t47 t48 t49 t50 t51 t52 t53 t54 t55 t56 t57 : Value), (ws.length ≤ 16 ∧ (inn = 0 → ws = [])) → ws.length ≤ c11 → Kd.F (Kd.int .i64) w' (fun k => W.heap.size ≤ k ∧ k ≠ g ∧ k ≠ ga) A11 ws.length ws → w'.heap[g]? = some (.cells (cN dir dn ga A11 ws.length c11 x) 36 (0, 0)) → w'.heap[ga]? = some (.cells #[.string (⟨#[42]⟩ : ByteArray), .int .i64 7] 85 (0, 0)) → g ≠ ga → W.heap.size ≤ g → W.heap.size ≤ ga → Below W.heap.size W w' → Q .normal ⟨#[u0, .string dir, .slice (some pd) np cp, u3, u4, u5, u6, u7, u8, u9, u10, .pointer (some ⟨gd, 0, none⟩), u12, .int .i64 (i : Int), .pointer (some ⟨g, 0, none⟩), u15, u16, u17, u18, u19, u20, u21, u22, u23, u24, u25, u26, u27, u28, u29, u30, u31, u32, u33, u34, u35, u36, u37, u38, t39, t40, t41, t42, t43, t44, t45, t46, t47, t48, t49, t50, t51, t52, t53, t54, t55, t56, t57, u58, u59, u60, u61, u62, u63, u64, u65, u66, u67, u68, u69, u70, u71, u72, u73, u74, u75, u76, u77, u78, u79, u80, u81, u82, u83, u84, u85, u86, u87, u88, u89, u90, u91, u92], []⟩ w') :
  Code.wp Tryz.prog (cReg Tryz.f25 7) Q ⟨#[u0, .string dir, .slice (some pd) np cp, u3, u4, u5, u6, u7, u8, u9, u10, .pointer (some ⟨gd, 0, none⟩), u12, .int .i64 (i : Int), u14, u15, u16, u17, u18, u19, u20, u21, u22, u23, u24, u25, u26, u27, u28, u29, u30, u31, u32, u33, u34, u35, u36, u37, u38, u39, u40, u41, u42, u43, u44, u45, u46, u47, u48, u49, u50, u51, u52, u53, u54, u55, u56, u57, u58, u59, u60, u61, u62, u63, u64, u65, u66, u67, u68, u69, u70, u71, u72, u73, u74, u75, u76, u77, u78, u79, u80, u81, u82, u83, u84, u85, u86, u87, u88, u89, u90, u91, u92], []⟩ W := by
 have HPO := Lib.hid hpost
 have ED := Lib.hid hd
 have EP := Lib.hid hp
 have HW := Lib.hid hW
 clear hd hp hW hpost
 have hi0 : (0 : Int) ≤ (i : Int) := by omega
 have hi1 : (i : Int) < (np : Int) := by omega
 have hz1 : ¬ 9223372036854775807 < dir.size + 2 := by omega
 have hz2 : ¬ 9223372036854775807 < dir.size + 2 + (strOfNums [x]).size := by
  have h2 : (strOfNums [x]).size = 1 := rfl
  omega
 have HB := Lib.hid (below_drew1 (Below.refl W.heap.size W))
 conv => arg 2; whnf
 refine wp_region_noPanic ?_
 refine wp_region_held_drew (S := fun W1 => W1.cell? ⟨gd, 2, none⟩ = some (.int .i64 dn.f2.f0) ∧ W1.cell? ⟨gd, 3, none⟩ = some (.int .i64 dn.f2.f1) ∧ W1.cell? ⟨gd, 4, none⟩ = some (.int .i64 dn.f2.f2) ∧ W1.cell? ⟨gd, 5, none⟩ = some (.int .i64 dn.f2.f3) ∧ W1.cell? (pd.add i) = some (.slice iA inn ic)) (by kernel_rfl) ((kp5 ED.out EP.out HB.out)) (fun hHeld => ?_)
 refine gin (fun G hG => ?_)
 suffices D : ∀ (L : Array Bool) (w : World), L = #[true, true, true, true, true, false, false, false, true, true, true, false, true, true, true, true, true, false, false, false, false] → Hid (Below W.heap.size W w) → G 8 L ⟨#[u0, .string dir, .slice (some pd) np cp, u3, u4, u5, u6, u7, u8, u9, u10, .pointer (some ⟨gd, 0, none⟩), u12, .int .i64 (i : Int), u14, u15, u16, u17, u18, u19, u20, u21, u22, u23, u24, u25, u26, u27, u28, u29, u30, u31, u32, u33, u34, u35, u36, u37, u38, .string dir, .string (dir ++ ⟨#[47, 112]⟩), .int .i64 (i : Int), .int .i64 x, .int .u8 x, u44, u45, u46, .pointer (some ⟨gd, 2, none⟩), .agg #[.int .i64 dn.f2.f0, .int .i64 dn.f2.f1, .int .i64 dn.f2.f2, .int .i64 dn.f2.f3], .agg #[.string (⟨#[42]⟩ : ByteArray), .int .i64 7], u50, .agg #[.int .i64 4, .int .i64 4, .int .i64 4, .int .i64 0], .slice (some pd) np cp, .int .i64 (i : Int), .pointer (some (pd.add i)), .agg #[.slice iA inn ic], u56, u57, u58, u59, u60, u61, u62, u63, u64, u65, u66, u67, u68, u69, u70, u71, u72, u73, u74, u75, u76, u77, u78, u79, u80, u81, u82, u83, u84, u85, u86, u87, u88, u89, u90, u91, u92], []⟩ w by
  rw [hG]
  refine tq 0 39 ?_ hHeld
  refine tq 1 40 ?_ hHeld
  refine tq 2 41 ?_ hHeld
  refine tq 3 42 ?_ hHeld
  refine tq 4 43 ?_ hHeld
  refine tq 8 47 ?_ hHeld
  refine tq 9 48 ?_ hHeld
  refine tq 10 49 ?_ hHeld
  refine tq 12 51 ?_ hHeld
  refine tq 13 52 ?_ hHeld
  refine tq 14 53 ?_ hHeld
  refine tq 15 54 ?_ hHeld
  refine tq 16 55 ?_ hHeld
  exact gto hG (D _ W.drew (by kernel_rfl) HB)
 clear HB hHeld
 have Dabgwz : ∀ (L : Array Bool) (w : World) (gb : Nat) (gG : Nat) (gz : Nat) (A11 : Option Addr) (c11 : Nat) (ws : List Int), L = #[true, true, true, true, true, true, true, true, true, true, true, true, true, true, true, true, true, true, true, true, false] → Hid (Below W.heap.size W w) → Hid (w.heap[gG]? = some bG ∧ W.heap.size ≤ gG) → Hid (w.heap[gz]? = some bZ ∧ W.heap.size ≤ gz) → Hid (gz ≠ gG) → Hid ((ws.length ≤ 16 ∧ (inn = 0 → ws = [])) ∧ ws.length ≤ c11) → Hid (Kd.F (Kd.int .i64) w (fun k => W.heap.size ≤ k ∧ k ≠ gz ∧ k ≠ gG) A11 ws.length ws) → G 1 L ⟨#[u0, .string dir, .slice (some pd) np cp, u3, u4, u5, u6, u7, u8, u9, u10, .pointer (some ⟨gd, 0, none⟩), u12, .int .i64 (i : Int), .pointer (some ⟨gz, 0, none⟩), u15, u16, u17, u18, u19, u20, u21, u22, u23, u24, u25, u26, u27, u28, u29, u30, u31, u32, u33, u34, u35, u36, u37, u38, .string dir, .string (dir ++ ⟨#[47, 112]⟩), .int .i64 (i : Int), .int .i64 x, .int .u8 x, .slice (some ⟨gb, 0, none⟩) 1 1, .string (strOfNums [x]), .string (dir ++ ⟨#[47, 112]⟩ ++ strOfNums [x]), .pointer (some ⟨gd, 2, none⟩), .agg #[.int .i64 dn.f2.f0, .int .i64 dn.f2.f1, .int .i64 dn.f2.f2, .int .i64 dn.f2.f3], .agg #[.string (⟨#[42]⟩ : ByteArray), .int .i64 7], .slice (some ⟨gG, 0, none⟩) 1 1, .agg #[.int .i64 4, .int .i64 4, .int .i64 4, .int .i64 0], .slice (some pd) np cp, .int .i64 (i : Int), .pointer (some (pd.add i)), .agg #[.slice iA inn ic], .slice A11 ws.length c11, .agg #[.string (dir ++ ⟨#[47, 112]⟩ ++ strOfNums [x]), .bool false, .int .i64 dn.f2.f0, .int .i64 dn.f2.f1, .int .i64 dn.f2.f2, .int .i64 dn.f2.f3, .slice (some ⟨gG, 0, none⟩) 1 1, .int .i64 4, .int .i64 4, .int .i64 4, .int .i64 0, .slice A11 ws.length c11, .int .i64 0, .int .i64 0, .int .i64 0, .int .i64 0], u58, u59, u60, u61, u62, u63, u64, u65, u66, u67, u68, u69, u70, u71, u72, u73, u74, u75, u76, u77, u78, u79, u80, u81, u82, u83, u84, u85, u86, u87, u88, u89, u90, u91, u92], []⟩ w := by
  intro L w gb gG gz A11 c11 ws hL HB EG EZ HN HC HF
  subst hL
  rw [hG]
  refine wpAnyH_ready (rs := [20]) (by kernel_rfl) (by simp) ?_
  refine AllReadyH.cons rfl (fun K hK => ?_) ?_
  ·have hst := wr50_blk (cs := cN dir dn gG A11 ws.length c11 x) EZ.out.1 rfl rfl (cN_one _ _ _ _ _ _ _)
   simp only [cN] at hst
   have hN := HN.out
   go_simp
   refine hK.out _ _ (kp5 ED.out EP.out (below_setRow HB.out EZ.out.2 (cN dir dn gG A11 ws.length c11 x))) (fun hHeld => ?_)
   refine wpAnyH_done (by kernel_rfl) ?_ _
   refine NoPanic.normal ?_
   exact HPO.out gz gG _ A11 c11 ws _ _ _ _ _ _ _ _ _ _ _ _ _ _ _ _ _ _ _ HC.out.1 HC.out.2 (Kd.F_step (W1 := World.setRow _ gz (cN dir dn gG A11 ws.length c11 x)) HF.out (fun k hk hlt => setRow_other _ _ k _ hk.2.1)) (setRow_heap _ _ _ (cN dir dn gG A11 ws.length c11 x) _ _ EZ.out.1) ((setRow_other _ gz gG (cN dir dn gG A11 ws.length c11 x) (fun h => HN.out h.symm)).trans EG.out.1) HN.out EZ.out.2 EG.out.2 (below_setRow HB.out EZ.out.2 (cN dir dn gG A11 ws.length c11 x))
  exact AllReadyH.nil
 have Dabgw : ∀ (L : Array Bool) (w : World) (gb : Nat) (gG : Nat) (A11 : Option Addr) (c11 : Nat) (ws : List Int), L = #[true, true, true, true, true, true, true, true, true, true, true, true, true, true, true, true, true, true, true, false, false] → Hid (Below W.heap.size W w) → Hid (w.heap[gG]? = some bG ∧ W.heap.size ≤ gG) → Hid ((ws.length ≤ 16 ∧ (inn = 0 → ws = [])) ∧ ws.length ≤ c11) → Hid (Kd.F (Kd.int .i64) w (fun k => W.heap.size ≤ k ∧ k ≠ gG) A11 ws.length ws) → G 2 L ⟨#[u0, .string dir, .slice (some pd) np cp, u3, u4, u5, u6, u7, u8, u9, u10, .pointer (some ⟨gd, 0, none⟩), u12, .int .i64 (i : Int), u14, u15, u16, u17, u18, u19, u20, u21, u22, u23, u24, u25, u26, u27, u28, u29, u30, u31, u32, u33, u34, u35, u36, u37, u38, .string dir, .string (dir ++ ⟨#[47, 112]⟩), .int .i64 (i : Int), .int .i64 x, .int .u8 x, .slice (some ⟨gb, 0, none⟩) 1 1, .string (strOfNums [x]), .string (dir ++ ⟨#[47, 112]⟩ ++ strOfNums [x]), .pointer (some ⟨gd, 2, none⟩), .agg #[.int .i64 dn.f2.f0, .int .i64 dn.f2.f1, .int .i64 dn.f2.f2, .int .i64 dn.f2.f3], .agg #[.string (⟨#[42]⟩ : ByteArray), .int .i64 7], .slice (some ⟨gG, 0, none⟩) 1 1, .agg #[.int .i64 4, .int .i64 4, .int .i64 4, .int .i64 0], .slice (some pd) np cp, .int .i64 (i : Int), .pointer (some (pd.add i)), .agg #[.slice iA inn ic], .slice A11 ws.length c11, .agg #[.string (dir ++ ⟨#[47, 112]⟩ ++ strOfNums [x]), .bool false, .int .i64 dn.f2.f0, .int .i64 dn.f2.f1, .int .i64 dn.f2.f2, .int .i64 dn.f2.f3, .slice (some ⟨gG, 0, none⟩) 1 1, .int .i64 4, .int .i64 4, .int .i64 4, .int .i64 0, .slice A11 ws.length c11, .int .i64 0, .int .i64 0, .int .i64 0, .int .i64 0], u58, u59, u60, u61, u62, u63, u64, u65, u66, u67, u68, u69, u70, u71, u72, u73, u74, u75, u76, u77, u78, u79, u80, u81, u82, u83, u84, u85, u86, u87, u88, u89, u90, u91, u92], []⟩ w := by
  intro L w gb gG A11 c11 ws hL HB EG HC HF
  subst hL
  rw [hG]
  refine wpAnyH_ready (rs := [19]) (by kernel_rfl) (by simp) ?_
  refine AllReadyH.cons rfl (fun K hK => ?_) ?_
  ·go_simp
   refine hK.out _ _ (kp5 ED.out EP.out (blA HB.out HB.out.size)) (fun hHeld => ?_)
   exact gto hG (Dabgwz _ (w.alloc (bZ)) gb gG w.heap.size A11 c11 ws (by kernel_rfl) (Lib.hid (blA HB.out HB.out.size)) (Lib.hid ⟨(blk_alloc EG.out.1 _), EG.out.2⟩) (Lib.hid ⟨(nwb w _ _ rfl), HB.out.size⟩) (Lib.hid (by have h1 := blt EG.out.1; have h1b := EG.out.2; omega)) HC (Lib.hid (Kd.F_alloc (Kd.F_mono (Kd.F_bound HF.out) (fun k (hk : (W.heap.size ≤ k ∧ k ≠ gG) ∧ k < w.heap.size) => by omega)) _)))
  exact AllReadyH.nil
 have Dabgz : ∀ (L : Array Bool) (w : World) (gb : Nat) (gG : Nat) (gz : Nat), L = #[true, true, true, true, true, true, true, true, true, true, true, true, true, true, true, true, true, false, false, true, false] → Hid (Below W.heap.size W w) → Hid (w.heap[gG]? = some bG ∧ W.heap.size ≤ gG) → Hid (w.heap[gz]? = some bZ ∧ W.heap.size ≤ gz) → Hid (gz ≠ gG) → G 3 L ⟨#[u0, .string dir, .slice (some pd) np cp, u3, u4, u5, u6, u7, u8, u9, u10, .pointer (some ⟨gd, 0, none⟩), u12, .int .i64 (i : Int), .pointer (some ⟨gz, 0, none⟩), u15, u16, u17, u18, u19, u20, u21, u22, u23, u24, u25, u26, u27, u28, u29, u30, u31, u32, u33, u34, u35, u36, u37, u38, .string dir, .string (dir ++ ⟨#[47, 112]⟩), .int .i64 (i : Int), .int .i64 x, .int .u8 x, .slice (some ⟨gb, 0, none⟩) 1 1, .string (strOfNums [x]), .string (dir ++ ⟨#[47, 112]⟩ ++ strOfNums [x]), .pointer (some ⟨gd, 2, none⟩), .agg #[.int .i64 dn.f2.f0, .int .i64 dn.f2.f1, .int .i64 dn.f2.f2, .int .i64 dn.f2.f3], .agg #[.string (⟨#[42]⟩ : ByteArray), .int .i64 7], .slice (some ⟨gG, 0, none⟩) 1 1, .agg #[.int .i64 4, .int .i64 4, .int .i64 4, .int .i64 0], .slice (some pd) np cp, .int .i64 (i : Int), .pointer (some (pd.add i)), .agg #[.slice iA inn ic], u56, u57, u58, u59, u60, u61, u62, u63, u64, u65, u66, u67, u68, u69, u70, u71, u72, u73, u74, u75, u76, u77, u78, u79, u80, u81, u82, u83, u84, u85, u86, u87, u88, u89, u90, u91, u92], []⟩ w := by
  intro L w gb gG gz hL HB EG EZ HN
  subst hL
  rw [hG]
  refine wpAnyH_ready (rs := [17]) (by kernel_rfl) (by simp) ?_
  refine AllReadyH.cons rfl (fun K hK => ?_) ?_
  ·go_simp
   go_wp2_with (go_at_call 39; go_loud (refine (HW.out _ HB.out).mono ?_; rintro e wa ⟨A11, c11, ws, rfl, hws, hc, hF, hb⟩))
   refine hK.out _ _ (kp5 ED.out EP.out (below_step HB.out hb)) (fun hHeld => ?_)
   refine tq 18 57 ?_ hHeld
   exact gto hG (Dabgwz _ wa gb gG gz A11 c11 ws (by kernel_rfl) (Lib.hid (below_step HB.out hb)) (Lib.hid ⟨(blk_below EG.out.1 hb), EG.out.2⟩) (Lib.hid ⟨(blk_below EZ.out.1 hb), EZ.out.2⟩) HN (Lib.hid ⟨hws, hc⟩) (Lib.hid (Kd.F_mono hF (fun k (hk : w.heap.size ≤ k) => by have h0 := HB.out.size; have h1 := blt EG.out.1; have h1b := EG.out.2; have h2 := blt EZ.out.1; have h2b := EZ.out.2; omega))))
  exact AllReadyH.nil
 have Dabwz : ∀ (L : Array Bool) (w : World) (gb : Nat) (gz : Nat) (A11 : Option Addr) (c11 : Nat) (ws : List Int), L = #[true, true, true, true, true, true, true, true, true, true, true, false, true, true, true, true, true, true, false, true, false] → Hid (Below W.heap.size W w) → Hid (w.heap[gz]? = some bZ ∧ W.heap.size ≤ gz) → Hid ((ws.length ≤ 16 ∧ (inn = 0 → ws = [])) ∧ ws.length ≤ c11) → Hid (Kd.F (Kd.int .i64) w (fun k => W.heap.size ≤ k ∧ k ≠ gz) A11 ws.length ws) → G 3 L ⟨#[u0, .string dir, .slice (some pd) np cp, u3, u4, u5, u6, u7, u8, u9, u10, .pointer (some ⟨gd, 0, none⟩), u12, .int .i64 (i : Int), .pointer (some ⟨gz, 0, none⟩), u15, u16, u17, u18, u19, u20, u21, u22, u23, u24, u25, u26, u27, u28, u29, u30, u31, u32, u33, u34, u35, u36, u37, u38, .string dir, .string (dir ++ ⟨#[47, 112]⟩), .int .i64 (i : Int), .int .i64 x, .int .u8 x, .slice (some ⟨gb, 0, none⟩) 1 1, .string (strOfNums [x]), .string (dir ++ ⟨#[47, 112]⟩ ++ strOfNums [x]), .pointer (some ⟨gd, 2, none⟩), .agg #[.int .i64 dn.f2.f0, .int .i64 dn.f2.f1, .int .i64 dn.f2.f2, .int .i64 dn.f2.f3], .agg #[.string (⟨#[42]⟩ : ByteArray), .int .i64 7], u50, .agg #[.int .i64 4, .int .i64 4, .int .i64 4, .int .i64 0], .slice (some pd) np cp, .int .i64 (i : Int), .pointer (some (pd.add i)), .agg #[.slice iA inn ic], .slice A11 ws.length c11, u57, u58, u59, u60, u61, u62, u63, u64, u65, u66, u67, u68, u69, u70, u71, u72, u73, u74, u75, u76, u77, u78, u79, u80, u81, u82, u83, u84, u85, u86, u87, u88, u89, u90, u91, u92], []⟩ w := by
  intro L w gb gz A11 c11 ws hL HB EZ HC HF
  subst hL
  rw [hG]
  refine wpAnyH_ready (rs := [11]) (by kernel_rfl) (by simp) ?_
  refine AllReadyH.cons rfl (fun K hK => ?_) ?_
  ·go_simp
   refine hK.out _ _ (kp5 ED.out EP.out (blA HB.out HB.out.size)) (fun hHeld => ?_)
   refine tq 18 57 ?_ hHeld
   exact gto hG (Dabgwz _ (w.alloc (bG)) gb w.heap.size gz A11 c11 ws (by kernel_rfl) (Lib.hid (blA HB.out HB.out.size)) (Lib.hid ⟨(nwb w _ _ rfl), HB.out.size⟩) (Lib.hid ⟨(blk_alloc EZ.out.1 _), EZ.out.2⟩) (Lib.hid (by have h2 := blt EZ.out.1; have h2b := EZ.out.2; omega)) HC (Lib.hid (Kd.F_alloc (Kd.F_mono (Kd.F_bound HF.out) (fun k (hk : (W.heap.size ≤ k ∧ k ≠ gz) ∧ k < w.heap.size) => by omega)) _)))
  exact AllReadyH.nil
 have Dagwz : ∀ (L : Array Bool) (w : World) (gb : Nat) (gG : Nat) (gz : Nat) (A11 : Option Addr) (c11 : Nat) (ws : List Int), L = #[true, true, true, true, true, true, false, false, true, true, true, true, true, true, true, true, true, true, false, true, false] → Hid (Below W.heap.size W w) → Hid (w.heap[gb]? = some (b5 x)) → Hid (w.heap[gG]? = some bG ∧ W.heap.size ≤ gG) → Hid (w.heap[gz]? = some bZ ∧ W.heap.size ≤ gz) → Hid (gz ≠ gG) → Hid ((ws.length ≤ 16 ∧ (inn = 0 → ws = [])) ∧ ws.length ≤ c11) → Hid (Kd.F (Kd.int .i64) w (fun k => W.heap.size ≤ k ∧ k ≠ gz ∧ k ≠ gG) A11 ws.length ws) → G 4 L ⟨#[u0, .string dir, .slice (some pd) np cp, u3, u4, u5, u6, u7, u8, u9, u10, .pointer (some ⟨gd, 0, none⟩), u12, .int .i64 (i : Int), .pointer (some ⟨gz, 0, none⟩), u15, u16, u17, u18, u19, u20, u21, u22, u23, u24, u25, u26, u27, u28, u29, u30, u31, u32, u33, u34, u35, u36, u37, u38, .string dir, .string (dir ++ ⟨#[47, 112]⟩), .int .i64 (i : Int), .int .i64 x, .int .u8 x, .slice (some ⟨gb, 0, none⟩) 1 1, u45, u46, .pointer (some ⟨gd, 2, none⟩), .agg #[.int .i64 dn.f2.f0, .int .i64 dn.f2.f1, .int .i64 dn.f2.f2, .int .i64 dn.f2.f3], .agg #[.string (⟨#[42]⟩ : ByteArray), .int .i64 7], .slice (some ⟨gG, 0, none⟩) 1 1, .agg #[.int .i64 4, .int .i64 4, .int .i64 4, .int .i64 0], .slice (some pd) np cp, .int .i64 (i : Int), .pointer (some (pd.add i)), .agg #[.slice iA inn ic], .slice A11 ws.length c11, u57, u58, u59, u60, u61, u62, u63, u64, u65, u66, u67, u68, u69, u70, u71, u72, u73, u74, u75, u76, u77, u78, u79, u80, u81, u82, u83, u84, u85, u86, u87, u88, u89, u90, u91, u92], []⟩ w := by
  intro L w gb gG gz A11 c11 ws hL HB EB EG EZ HN HC HF
  subst hL
  rw [hG]
  refine wpAnyH_ready (rs := [6]) (by kernel_rfl) (by simp) ?_
  refine AllReadyH.cons rfl (fun K hK => ?_) ?_
  ·have hcv := conv_blk EB.out
   (try simp only [b5] at hcv)
   go_simp
   refine hK.out _ _ (kp5 ED.out EP.out HB.out) (fun hHeld => ?_)
   refine tq 7 46 ?_ hHeld
   refine tq 18 57 ?_ hHeld
   exact gto hG (Dabgwz _ w gb gG gz A11 c11 ws (by kernel_rfl) (Lib.hid HB.out) (Lib.hid ⟨EG.out.1, EG.out.2⟩) (Lib.hid ⟨EZ.out.1, EZ.out.2⟩) HN HC HF)
  exact AllReadyH.nil
 have Dabg : ∀ (L : Array Bool) (w : World) (gb : Nat) (gG : Nat), L = #[true, true, true, true, true, true, true, true, true, true, true, true, true, true, true, true, true, false, false, false, false] → Hid (Below W.heap.size W w) → Hid (w.heap[gG]? = some bG ∧ W.heap.size ≤ gG) → G 4 L ⟨#[u0, .string dir, .slice (some pd) np cp, u3, u4, u5, u6, u7, u8, u9, u10, .pointer (some ⟨gd, 0, none⟩), u12, .int .i64 (i : Int), u14, u15, u16, u17, u18, u19, u20, u21, u22, u23, u24, u25, u26, u27, u28, u29, u30, u31, u32, u33, u34, u35, u36, u37, u38, .string dir, .string (dir ++ ⟨#[47, 112]⟩), .int .i64 (i : Int), .int .i64 x, .int .u8 x, .slice (some ⟨gb, 0, none⟩) 1 1, .string (strOfNums [x]), .string (dir ++ ⟨#[47, 112]⟩ ++ strOfNums [x]), .pointer (some ⟨gd, 2, none⟩), .agg #[.int .i64 dn.f2.f0, .int .i64 dn.f2.f1, .int .i64 dn.f2.f2, .int .i64 dn.f2.f3], .agg #[.string (⟨#[42]⟩ : ByteArray), .int .i64 7], .slice (some ⟨gG, 0, none⟩) 1 1, .agg #[.int .i64 4, .int .i64 4, .int .i64 4, .int .i64 0], .slice (some pd) np cp, .int .i64 (i : Int), .pointer (some (pd.add i)), .agg #[.slice iA inn ic], u56, u57, u58, u59, u60, u61, u62, u63, u64, u65, u66, u67, u68, u69, u70, u71, u72, u73, u74, u75, u76, u77, u78, u79, u80, u81, u82, u83, u84, u85, u86, u87, u88, u89, u90, u91, u92], []⟩ w := by
  intro L w gb gG hL HB EG
  subst hL
  rw [hG]
  refine wpAnyH_ready (rs := [17, 19]) (by kernel_rfl) (by simp) ?_
  refine AllReadyH.cons rfl (fun K hK => ?_) ?_
  ·go_simp
   go_wp2_with (go_at_call 39; go_loud (refine (HW.out _ HB.out).mono ?_; rintro e wa ⟨A11, c11, ws, rfl, hws, hc, hF, hb⟩))
   refine hK.out _ _ (kp5 ED.out EP.out (below_step HB.out hb)) (fun hHeld => ?_)
   refine tq 18 57 ?_ hHeld
   exact gto hG (Dabgw _ wa gb gG A11 c11 ws (by kernel_rfl) (Lib.hid (below_step HB.out hb)) (Lib.hid ⟨(blk_below EG.out.1 hb), EG.out.2⟩) (Lib.hid ⟨hws, hc⟩) (Lib.hid (Kd.F_mono hF (fun k (hk : w.heap.size ≤ k) => by have h0 := HB.out.size; have h1 := blt EG.out.1; have h1b := EG.out.2; omega))))
  refine AllReadyH.cons rfl (fun K hK => ?_) ?_
  ·go_simp
   refine hK.out _ _ (kp5 ED.out EP.out (blA HB.out HB.out.size)) (fun hHeld => ?_)
   exact gto hG (Dabgz _ (w.alloc (bZ)) gb gG w.heap.size (by kernel_rfl) (Lib.hid (blA HB.out HB.out.size)) (Lib.hid ⟨(blk_alloc EG.out.1 _), EG.out.2⟩) (Lib.hid ⟨(nwb w _ _ rfl), HB.out.size⟩) (Lib.hid (by have h1 := blt EG.out.1; have h1b := EG.out.2; omega)))
  exact AllReadyH.nil
 have Dabw : ∀ (L : Array Bool) (w : World) (gb : Nat) (A11 : Option Addr) (c11 : Nat) (ws : List Int), L = #[true, true, true, true, true, true, true, true, true, true, true, false, true, true, true, true, true, true, false, false, false] → Hid (Below W.heap.size W w) → Hid ((ws.length ≤ 16 ∧ (inn = 0 → ws = [])) ∧ ws.length ≤ c11) → Hid (Kd.F (Kd.int .i64) w (fun k => W.heap.size ≤ k) A11 ws.length ws) → G 4 L ⟨#[u0, .string dir, .slice (some pd) np cp, u3, u4, u5, u6, u7, u8, u9, u10, .pointer (some ⟨gd, 0, none⟩), u12, .int .i64 (i : Int), u14, u15, u16, u17, u18, u19, u20, u21, u22, u23, u24, u25, u26, u27, u28, u29, u30, u31, u32, u33, u34, u35, u36, u37, u38, .string dir, .string (dir ++ ⟨#[47, 112]⟩), .int .i64 (i : Int), .int .i64 x, .int .u8 x, .slice (some ⟨gb, 0, none⟩) 1 1, .string (strOfNums [x]), .string (dir ++ ⟨#[47, 112]⟩ ++ strOfNums [x]), .pointer (some ⟨gd, 2, none⟩), .agg #[.int .i64 dn.f2.f0, .int .i64 dn.f2.f1, .int .i64 dn.f2.f2, .int .i64 dn.f2.f3], .agg #[.string (⟨#[42]⟩ : ByteArray), .int .i64 7], u50, .agg #[.int .i64 4, .int .i64 4, .int .i64 4, .int .i64 0], .slice (some pd) np cp, .int .i64 (i : Int), .pointer (some (pd.add i)), .agg #[.slice iA inn ic], .slice A11 ws.length c11, u57, u58, u59, u60, u61, u62, u63, u64, u65, u66, u67, u68, u69, u70, u71, u72, u73, u74, u75, u76, u77, u78, u79, u80, u81, u82, u83, u84, u85, u86, u87, u88, u89, u90, u91, u92], []⟩ w := by
  intro L w gb A11 c11 ws hL HB HC HF
  subst hL
  rw [hG]
  refine wpAnyH_ready (rs := [11, 19]) (by kernel_rfl) (by simp) ?_
  refine AllReadyH.cons rfl (fun K hK => ?_) ?_
  ·go_simp
   refine hK.out _ _ (kp5 ED.out EP.out (blA HB.out HB.out.size)) (fun hHeld => ?_)
   refine tq 18 57 ?_ hHeld
   exact gto hG (Dabgw _ (w.alloc (bG)) gb w.heap.size A11 c11 ws (by kernel_rfl) (Lib.hid (blA HB.out HB.out.size)) (Lib.hid ⟨(nwb w _ _ rfl), HB.out.size⟩) HC (Lib.hid (Kd.F_alloc (Kd.F_mono (Kd.F_bound HF.out) (fun k (hk : (W.heap.size ≤ k) ∧ k < w.heap.size) => by omega)) _)))
  refine AllReadyH.cons rfl (fun K hK => ?_) ?_
  ·go_simp
   refine hK.out _ _ (kp5 ED.out EP.out (blA HB.out HB.out.size)) (fun hHeld => ?_)
   exact gto hG (Dabwz _ (w.alloc (bZ)) gb w.heap.size A11 c11 ws (by kernel_rfl) (Lib.hid (blA HB.out HB.out.size)) (Lib.hid ⟨(nwb w _ _ rfl), HB.out.size⟩) HC (Lib.hid (Kd.F_alloc (Kd.F_mono (Kd.F_bound HF.out) (fun k (hk : (W.heap.size ≤ k) ∧ k < w.heap.size) => by omega)) _)))
  exact AllReadyH.nil
 have Dabz : ∀ (L : Array Bool) (w : World) (gb : Nat) (gz : Nat), L = #[true, true, true, true, true, true, true, true, true, true, true, false, true, true, true, true, true, false, false, true, false] → Hid (Below W.heap.size W w) → Hid (w.heap[gz]? = some bZ ∧ W.heap.size ≤ gz) → G 4 L ⟨#[u0, .string dir, .slice (some pd) np cp, u3, u4, u5, u6, u7, u8, u9, u10, .pointer (some ⟨gd, 0, none⟩), u12, .int .i64 (i : Int), .pointer (some ⟨gz, 0, none⟩), u15, u16, u17, u18, u19, u20, u21, u22, u23, u24, u25, u26, u27, u28, u29, u30, u31, u32, u33, u34, u35, u36, u37, u38, .string dir, .string (dir ++ ⟨#[47, 112]⟩), .int .i64 (i : Int), .int .i64 x, .int .u8 x, .slice (some ⟨gb, 0, none⟩) 1 1, .string (strOfNums [x]), .string (dir ++ ⟨#[47, 112]⟩ ++ strOfNums [x]), .pointer (some ⟨gd, 2, none⟩), .agg #[.int .i64 dn.f2.f0, .int .i64 dn.f2.f1, .int .i64 dn.f2.f2, .int .i64 dn.f2.f3], .agg #[.string (⟨#[42]⟩ : ByteArray), .int .i64 7], u50, .agg #[.int .i64 4, .int .i64 4, .int .i64 4, .int .i64 0], .slice (some pd) np cp, .int .i64 (i : Int), .pointer (some (pd.add i)), .agg #[.slice iA inn ic], u56, u57, u58, u59, u60, u61, u62, u63, u64, u65, u66, u67, u68, u69, u70, u71, u72, u73, u74, u75, u76, u77, u78, u79, u80, u81, u82, u83, u84, u85, u86, u87, u88, u89, u90, u91, u92], []⟩ w := by
  intro L w gb gz hL HB EZ
  subst hL
  rw [hG]
  refine wpAnyH_ready (rs := [11, 17]) (by kernel_rfl) (by simp) ?_
  refine AllReadyH.cons rfl (fun K hK => ?_) ?_
  ·go_simp
   refine hK.out _ _ (kp5 ED.out EP.out (blA HB.out HB.out.size)) (fun hHeld => ?_)
   exact gto hG (Dabgz _ (w.alloc (bG)) gb w.heap.size gz (by kernel_rfl) (Lib.hid (blA HB.out HB.out.size)) (Lib.hid ⟨(nwb w _ _ rfl), HB.out.size⟩) (Lib.hid ⟨(blk_alloc EZ.out.1 _), EZ.out.2⟩) (Lib.hid (by have h2 := blt EZ.out.1; have h2b := EZ.out.2; omega)))
  refine AllReadyH.cons rfl (fun K hK => ?_) ?_
  ·go_simp
   go_wp2_with (go_at_call 39; go_loud (refine (HW.out _ HB.out).mono ?_; rintro e wa ⟨A11, c11, ws, rfl, hws, hc, hF, hb⟩))
   refine hK.out _ _ (kp5 ED.out EP.out (below_step HB.out hb)) (fun hHeld => ?_)
   exact gto hG (Dabwz _ wa gb gz A11 c11 ws (by kernel_rfl) (Lib.hid (below_step HB.out hb)) (Lib.hid ⟨(blk_below EZ.out.1 hb), EZ.out.2⟩) (Lib.hid ⟨hws, hc⟩) (Lib.hid (Kd.F_mono hF (fun k (hk : w.heap.size ≤ k) => by have h0 := HB.out.size; have h2 := blt EZ.out.1; have h2b := EZ.out.2; omega))))
  exact AllReadyH.nil
 have Dagw : ∀ (L : Array Bool) (w : World) (gb : Nat) (gG : Nat) (A11 : Option Addr) (c11 : Nat) (ws : List Int), L = #[true, true, true, true, true, true, false, false, true, true, true, true, true, true, true, true, true, true, false, false, false] → Hid (Below W.heap.size W w) → Hid (w.heap[gb]? = some (b5 x)) → Hid (w.heap[gG]? = some bG ∧ W.heap.size ≤ gG) → Hid ((ws.length ≤ 16 ∧ (inn = 0 → ws = [])) ∧ ws.length ≤ c11) → Hid (Kd.F (Kd.int .i64) w (fun k => W.heap.size ≤ k ∧ k ≠ gG) A11 ws.length ws) → G 5 L ⟨#[u0, .string dir, .slice (some pd) np cp, u3, u4, u5, u6, u7, u8, u9, u10, .pointer (some ⟨gd, 0, none⟩), u12, .int .i64 (i : Int), u14, u15, u16, u17, u18, u19, u20, u21, u22, u23, u24, u25, u26, u27, u28, u29, u30, u31, u32, u33, u34, u35, u36, u37, u38, .string dir, .string (dir ++ ⟨#[47, 112]⟩), .int .i64 (i : Int), .int .i64 x, .int .u8 x, .slice (some ⟨gb, 0, none⟩) 1 1, u45, u46, .pointer (some ⟨gd, 2, none⟩), .agg #[.int .i64 dn.f2.f0, .int .i64 dn.f2.f1, .int .i64 dn.f2.f2, .int .i64 dn.f2.f3], .agg #[.string (⟨#[42]⟩ : ByteArray), .int .i64 7], .slice (some ⟨gG, 0, none⟩) 1 1, .agg #[.int .i64 4, .int .i64 4, .int .i64 4, .int .i64 0], .slice (some pd) np cp, .int .i64 (i : Int), .pointer (some (pd.add i)), .agg #[.slice iA inn ic], .slice A11 ws.length c11, u57, u58, u59, u60, u61, u62, u63, u64, u65, u66, u67, u68, u69, u70, u71, u72, u73, u74, u75, u76, u77, u78, u79, u80, u81, u82, u83, u84, u85, u86, u87, u88, u89, u90, u91, u92], []⟩ w := by
  intro L w gb gG A11 c11 ws hL HB EB EG HC HF
  subst hL
  rw [hG]
  refine wpAnyH_ready (rs := [6, 19]) (by kernel_rfl) (by simp) ?_
  refine AllReadyH.cons rfl (fun K hK => ?_) ?_
  ·have hcv := conv_blk EB.out
   (try simp only [b5] at hcv)
   go_simp
   refine hK.out _ _ (kp5 ED.out EP.out HB.out) (fun hHeld => ?_)
   refine tq 7 46 ?_ hHeld
   refine tq 18 57 ?_ hHeld
   exact gto hG (Dabgw _ w gb gG A11 c11 ws (by kernel_rfl) (Lib.hid HB.out) (Lib.hid ⟨EG.out.1, EG.out.2⟩) HC HF)
  refine AllReadyH.cons rfl (fun K hK => ?_) ?_
  ·go_simp
   refine hK.out _ _ (kp5 ED.out EP.out (blA HB.out HB.out.size)) (fun hHeld => ?_)
   exact gto hG (Dagwz _ (w.alloc (bZ)) gb gG w.heap.size A11 c11 ws (by kernel_rfl) (Lib.hid (blA HB.out HB.out.size)) (Lib.hid (blk_alloc EB.out _)) (Lib.hid ⟨(blk_alloc EG.out.1 _), EG.out.2⟩) (Lib.hid ⟨(nwb w _ _ rfl), HB.out.size⟩) (Lib.hid (by have h1 := blt EG.out.1; have h1b := EG.out.2; omega)) HC (Lib.hid (Kd.F_alloc (Kd.F_mono (Kd.F_bound HF.out) (fun k (hk : (W.heap.size ≤ k ∧ k ≠ gG) ∧ k < w.heap.size) => by omega)) _)))
  exact AllReadyH.nil
 have Dagz : ∀ (L : Array Bool) (w : World) (gb : Nat) (gG : Nat) (gz : Nat), L = #[true, true, true, true, true, true, false, false, true, true, true, true, true, true, true, true, true, false, false, true, false] → Hid (Below W.heap.size W w) → Hid (w.heap[gb]? = some (b5 x)) → Hid (w.heap[gG]? = some bG ∧ W.heap.size ≤ gG) → Hid (w.heap[gz]? = some bZ ∧ W.heap.size ≤ gz) → Hid (gz ≠ gG) → G 5 L ⟨#[u0, .string dir, .slice (some pd) np cp, u3, u4, u5, u6, u7, u8, u9, u10, .pointer (some ⟨gd, 0, none⟩), u12, .int .i64 (i : Int), .pointer (some ⟨gz, 0, none⟩), u15, u16, u17, u18, u19, u20, u21, u22, u23, u24, u25, u26, u27, u28, u29, u30, u31, u32, u33, u34, u35, u36, u37, u38, .string dir, .string (dir ++ ⟨#[47, 112]⟩), .int .i64 (i : Int), .int .i64 x, .int .u8 x, .slice (some ⟨gb, 0, none⟩) 1 1, u45, u46, .pointer (some ⟨gd, 2, none⟩), .agg #[.int .i64 dn.f2.f0, .int .i64 dn.f2.f1, .int .i64 dn.f2.f2, .int .i64 dn.f2.f3], .agg #[.string (⟨#[42]⟩ : ByteArray), .int .i64 7], .slice (some ⟨gG, 0, none⟩) 1 1, .agg #[.int .i64 4, .int .i64 4, .int .i64 4, .int .i64 0], .slice (some pd) np cp, .int .i64 (i : Int), .pointer (some (pd.add i)), .agg #[.slice iA inn ic], u56, u57, u58, u59, u60, u61, u62, u63, u64, u65, u66, u67, u68, u69, u70, u71, u72, u73, u74, u75, u76, u77, u78, u79, u80, u81, u82, u83, u84, u85, u86, u87, u88, u89, u90, u91, u92], []⟩ w := by
  intro L w gb gG gz hL HB EB EG EZ HN
  subst hL
  rw [hG]
  refine wpAnyH_ready (rs := [6, 17]) (by kernel_rfl) (by simp) ?_
  refine AllReadyH.cons rfl (fun K hK => ?_) ?_
  ·have hcv := conv_blk EB.out
   (try simp only [b5] at hcv)
   go_simp
   refine hK.out _ _ (kp5 ED.out EP.out HB.out) (fun hHeld => ?_)
   refine tq 7 46 ?_ hHeld
   exact gto hG (Dabgz _ w gb gG gz (by kernel_rfl) (Lib.hid HB.out) (Lib.hid ⟨EG.out.1, EG.out.2⟩) (Lib.hid ⟨EZ.out.1, EZ.out.2⟩) HN)
  refine AllReadyH.cons rfl (fun K hK => ?_) ?_
  ·go_simp
   go_wp2_with (go_at_call 39; go_loud (refine (HW.out _ HB.out).mono ?_; rintro e wa ⟨A11, c11, ws, rfl, hws, hc, hF, hb⟩))
   refine hK.out _ _ (kp5 ED.out EP.out (below_step HB.out hb)) (fun hHeld => ?_)
   exact gto hG (Dagwz _ wa gb gG gz A11 c11 ws (by kernel_rfl) (Lib.hid (below_step HB.out hb)) (Lib.hid (blk_below EB.out hb)) (Lib.hid ⟨(blk_below EG.out.1 hb), EG.out.2⟩) (Lib.hid ⟨(blk_below EZ.out.1 hb), EZ.out.2⟩) HN (Lib.hid ⟨hws, hc⟩) (Lib.hid (Kd.F_mono hF (fun k (hk : w.heap.size ≤ k) => by have h0 := HB.out.size; have h1 := blt EG.out.1; have h1b := EG.out.2; have h2 := blt EZ.out.1; have h2b := EZ.out.2; omega))))
  exact AllReadyH.nil
 have Dawz : ∀ (L : Array Bool) (w : World) (gb : Nat) (gz : Nat) (A11 : Option Addr) (c11 : Nat) (ws : List Int), L = #[true, true, true, true, true, true, false, false, true, true, true, false, true, true, true, true, true, true, false, true, false] → Hid (Below W.heap.size W w) → Hid (w.heap[gb]? = some (b5 x)) → Hid (w.heap[gz]? = some bZ ∧ W.heap.size ≤ gz) → Hid ((ws.length ≤ 16 ∧ (inn = 0 → ws = [])) ∧ ws.length ≤ c11) → Hid (Kd.F (Kd.int .i64) w (fun k => W.heap.size ≤ k ∧ k ≠ gz) A11 ws.length ws) → G 5 L ⟨#[u0, .string dir, .slice (some pd) np cp, u3, u4, u5, u6, u7, u8, u9, u10, .pointer (some ⟨gd, 0, none⟩), u12, .int .i64 (i : Int), .pointer (some ⟨gz, 0, none⟩), u15, u16, u17, u18, u19, u20, u21, u22, u23, u24, u25, u26, u27, u28, u29, u30, u31, u32, u33, u34, u35, u36, u37, u38, .string dir, .string (dir ++ ⟨#[47, 112]⟩), .int .i64 (i : Int), .int .i64 x, .int .u8 x, .slice (some ⟨gb, 0, none⟩) 1 1, u45, u46, .pointer (some ⟨gd, 2, none⟩), .agg #[.int .i64 dn.f2.f0, .int .i64 dn.f2.f1, .int .i64 dn.f2.f2, .int .i64 dn.f2.f3], .agg #[.string (⟨#[42]⟩ : ByteArray), .int .i64 7], u50, .agg #[.int .i64 4, .int .i64 4, .int .i64 4, .int .i64 0], .slice (some pd) np cp, .int .i64 (i : Int), .pointer (some (pd.add i)), .agg #[.slice iA inn ic], .slice A11 ws.length c11, u57, u58, u59, u60, u61, u62, u63, u64, u65, u66, u67, u68, u69, u70, u71, u72, u73, u74, u75, u76, u77, u78, u79, u80, u81, u82, u83, u84, u85, u86, u87, u88, u89, u90, u91, u92], []⟩ w := by
  intro L w gb gz A11 c11 ws hL HB EB EZ HC HF
  subst hL
  rw [hG]
  refine wpAnyH_ready (rs := [6, 11]) (by kernel_rfl) (by simp) ?_
  refine AllReadyH.cons rfl (fun K hK => ?_) ?_
  ·have hcv := conv_blk EB.out
   (try simp only [b5] at hcv)
   go_simp
   refine hK.out _ _ (kp5 ED.out EP.out HB.out) (fun hHeld => ?_)
   refine tq 7 46 ?_ hHeld
   exact gto hG (Dabwz _ w gb gz A11 c11 ws (by kernel_rfl) (Lib.hid HB.out) (Lib.hid ⟨EZ.out.1, EZ.out.2⟩) HC HF)
  refine AllReadyH.cons rfl (fun K hK => ?_) ?_
  ·go_simp
   refine hK.out _ _ (kp5 ED.out EP.out (blA HB.out HB.out.size)) (fun hHeld => ?_)
   exact gto hG (Dagwz _ (w.alloc (bG)) gb w.heap.size gz A11 c11 ws (by kernel_rfl) (Lib.hid (blA HB.out HB.out.size)) (Lib.hid (blk_alloc EB.out _)) (Lib.hid ⟨(nwb w _ _ rfl), HB.out.size⟩) (Lib.hid ⟨(blk_alloc EZ.out.1 _), EZ.out.2⟩) (Lib.hid (by have h2 := blt EZ.out.1; have h2b := EZ.out.2; omega)) HC (Lib.hid (Kd.F_alloc (Kd.F_mono (Kd.F_bound HF.out) (fun k (hk : (W.heap.size ≤ k ∧ k ≠ gz) ∧ k < w.heap.size) => by omega)) _)))
  exact AllReadyH.nil
 have Dgwz : ∀ (L : Array Bool) (w : World) (gG : Nat) (gz : Nat) (A11 : Option Addr) (c11 : Nat) (ws : List Int), L = #[true, true, true, true, true, false, false, false, true, true, true, true, true, true, true, true, true, true, false, true, false] → Hid (Below W.heap.size W w) → Hid (w.heap[gG]? = some bG ∧ W.heap.size ≤ gG) → Hid (w.heap[gz]? = some bZ ∧ W.heap.size ≤ gz) → Hid (gz ≠ gG) → Hid ((ws.length ≤ 16 ∧ (inn = 0 → ws = [])) ∧ ws.length ≤ c11) → Hid (Kd.F (Kd.int .i64) w (fun k => W.heap.size ≤ k ∧ k ≠ gz ∧ k ≠ gG) A11 ws.length ws) → G 5 L ⟨#[u0, .string dir, .slice (some pd) np cp, u3, u4, u5, u6, u7, u8, u9, u10, .pointer (some ⟨gd, 0, none⟩), u12, .int .i64 (i : Int), .pointer (some ⟨gz, 0, none⟩), u15, u16, u17, u18, u19, u20, u21, u22, u23, u24, u25, u26, u27, u28, u29, u30, u31, u32, u33, u34, u35, u36, u37, u38, .string dir, .string (dir ++ ⟨#[47, 112]⟩), .int .i64 (i : Int), .int .i64 x, .int .u8 x, u44, u45, u46, .pointer (some ⟨gd, 2, none⟩), .agg #[.int .i64 dn.f2.f0, .int .i64 dn.f2.f1, .int .i64 dn.f2.f2, .int .i64 dn.f2.f3], .agg #[.string (⟨#[42]⟩ : ByteArray), .int .i64 7], .slice (some ⟨gG, 0, none⟩) 1 1, .agg #[.int .i64 4, .int .i64 4, .int .i64 4, .int .i64 0], .slice (some pd) np cp, .int .i64 (i : Int), .pointer (some (pd.add i)), .agg #[.slice iA inn ic], .slice A11 ws.length c11, u57, u58, u59, u60, u61, u62, u63, u64, u65, u66, u67, u68, u69, u70, u71, u72, u73, u74, u75, u76, u77, u78, u79, u80, u81, u82, u83, u84, u85, u86, u87, u88, u89, u90, u91, u92], []⟩ w := by
  intro L w gG gz A11 c11 ws hL HB EG EZ HN HC HF
  subst hL
  rw [hG]
  refine wpAnyH_ready (rs := [5]) (by kernel_rfl) (by simp) ?_
  refine AllReadyH.cons rfl (fun K hK => ?_) ?_
  ·go_simp
   refine hK.out _ _ (kp5 ED.out EP.out (blA HB.out HB.out.size)) (fun hHeld => ?_)
   exact gto hG (Dagwz _ (w.alloc (b5 x)) w.heap.size gG gz A11 c11 ws (by kernel_rfl) (Lib.hid (blA HB.out HB.out.size)) (Lib.hid (nwb w _ _ rfl)) (Lib.hid ⟨(blk_alloc EG.out.1 _), EG.out.2⟩) (Lib.hid ⟨(blk_alloc EZ.out.1 _), EZ.out.2⟩) HN HC (Lib.hid (Kd.F_alloc HF.out _)))
  exact AllReadyH.nil
 have Dab : ∀ (L : Array Bool) (w : World) (gb : Nat), L = #[true, true, true, true, true, true, true, true, true, true, true, false, true, true, true, true, true, false, false, false, false] → Hid (Below W.heap.size W w) → G 5 L ⟨#[u0, .string dir, .slice (some pd) np cp, u3, u4, u5, u6, u7, u8, u9, u10, .pointer (some ⟨gd, 0, none⟩), u12, .int .i64 (i : Int), u14, u15, u16, u17, u18, u19, u20, u21, u22, u23, u24, u25, u26, u27, u28, u29, u30, u31, u32, u33, u34, u35, u36, u37, u38, .string dir, .string (dir ++ ⟨#[47, 112]⟩), .int .i64 (i : Int), .int .i64 x, .int .u8 x, .slice (some ⟨gb, 0, none⟩) 1 1, .string (strOfNums [x]), .string (dir ++ ⟨#[47, 112]⟩ ++ strOfNums [x]), .pointer (some ⟨gd, 2, none⟩), .agg #[.int .i64 dn.f2.f0, .int .i64 dn.f2.f1, .int .i64 dn.f2.f2, .int .i64 dn.f2.f3], .agg #[.string (⟨#[42]⟩ : ByteArray), .int .i64 7], u50, .agg #[.int .i64 4, .int .i64 4, .int .i64 4, .int .i64 0], .slice (some pd) np cp, .int .i64 (i : Int), .pointer (some (pd.add i)), .agg #[.slice iA inn ic], u56, u57, u58, u59, u60, u61, u62, u63, u64, u65, u66, u67, u68, u69, u70, u71, u72, u73, u74, u75, u76, u77, u78, u79, u80, u81, u82, u83, u84, u85, u86, u87, u88, u89, u90, u91, u92], []⟩ w := by
  intro L w gb hL HB
  subst hL
  rw [hG]
  refine wpAnyH_ready (rs := [11, 17, 19]) (by kernel_rfl) (by simp) ?_
  refine AllReadyH.cons rfl (fun K hK => ?_) ?_
  ·go_simp
   refine hK.out _ _ (kp5 ED.out EP.out (blA HB.out HB.out.size)) (fun hHeld => ?_)
   exact gto hG (Dabg _ (w.alloc (bG)) gb w.heap.size (by kernel_rfl) (Lib.hid (blA HB.out HB.out.size)) (Lib.hid ⟨(nwb w _ _ rfl), HB.out.size⟩))
  refine AllReadyH.cons rfl (fun K hK => ?_) ?_
  ·go_simp
   go_wp2_with (go_at_call 39; go_loud (refine (HW.out _ HB.out).mono ?_; rintro e wa ⟨A11, c11, ws, rfl, hws, hc, hF, hb⟩))
   refine hK.out _ _ (kp5 ED.out EP.out (below_step HB.out hb)) (fun hHeld => ?_)
   exact gto hG (Dabw _ wa gb A11 c11 ws (by kernel_rfl) (Lib.hid (below_step HB.out hb)) (Lib.hid ⟨hws, hc⟩) (Lib.hid (Kd.F_mono hF (fun k (hk : w.heap.size ≤ k) => by have h0 := HB.out.size; omega))))
  refine AllReadyH.cons rfl (fun K hK => ?_) ?_
  ·go_simp
   refine hK.out _ _ (kp5 ED.out EP.out (blA HB.out HB.out.size)) (fun hHeld => ?_)
   exact gto hG (Dabz _ (w.alloc (bZ)) gb w.heap.size (by kernel_rfl) (Lib.hid (blA HB.out HB.out.size)) (Lib.hid ⟨(nwb w _ _ rfl), HB.out.size⟩))
  exact AllReadyH.nil
 have Dag : ∀ (L : Array Bool) (w : World) (gb : Nat) (gG : Nat), L = #[true, true, true, true, true, true, false, false, true, true, true, true, true, true, true, true, true, false, false, false, false] → Hid (Below W.heap.size W w) → Hid (w.heap[gb]? = some (b5 x)) → Hid (w.heap[gG]? = some bG ∧ W.heap.size ≤ gG) → G 6 L ⟨#[u0, .string dir, .slice (some pd) np cp, u3, u4, u5, u6, u7, u8, u9, u10, .pointer (some ⟨gd, 0, none⟩), u12, .int .i64 (i : Int), u14, u15, u16, u17, u18, u19, u20, u21, u22, u23, u24, u25, u26, u27, u28, u29, u30, u31, u32, u33, u34, u35, u36, u37, u38, .string dir, .string (dir ++ ⟨#[47, 112]⟩), .int .i64 (i : Int), .int .i64 x, .int .u8 x, .slice (some ⟨gb, 0, none⟩) 1 1, u45, u46, .pointer (some ⟨gd, 2, none⟩), .agg #[.int .i64 dn.f2.f0, .int .i64 dn.f2.f1, .int .i64 dn.f2.f2, .int .i64 dn.f2.f3], .agg #[.string (⟨#[42]⟩ : ByteArray), .int .i64 7], .slice (some ⟨gG, 0, none⟩) 1 1, .agg #[.int .i64 4, .int .i64 4, .int .i64 4, .int .i64 0], .slice (some pd) np cp, .int .i64 (i : Int), .pointer (some (pd.add i)), .agg #[.slice iA inn ic], u56, u57, u58, u59, u60, u61, u62, u63, u64, u65, u66, u67, u68, u69, u70, u71, u72, u73, u74, u75, u76, u77, u78, u79, u80, u81, u82, u83, u84, u85, u86, u87, u88, u89, u90, u91, u92], []⟩ w := by
  intro L w gb gG hL HB EB EG
  subst hL
  rw [hG]
  refine wpAnyH_ready (rs := [6, 17, 19]) (by kernel_rfl) (by simp) ?_
  refine AllReadyH.cons rfl (fun K hK => ?_) ?_
  ·have hcv := conv_blk EB.out
   (try simp only [b5] at hcv)
   go_simp
   refine hK.out _ _ (kp5 ED.out EP.out HB.out) (fun hHeld => ?_)
   refine tq 7 46 ?_ hHeld
   exact gto hG (Dabg _ w gb gG (by kernel_rfl) (Lib.hid HB.out) (Lib.hid ⟨EG.out.1, EG.out.2⟩))
  refine AllReadyH.cons rfl (fun K hK => ?_) ?_
  ·go_simp
   go_wp2_with (go_at_call 39; go_loud (refine (HW.out _ HB.out).mono ?_; rintro e wa ⟨A11, c11, ws, rfl, hws, hc, hF, hb⟩))
   refine hK.out _ _ (kp5 ED.out EP.out (below_step HB.out hb)) (fun hHeld => ?_)
   exact gto hG (Dagw _ wa gb gG A11 c11 ws (by kernel_rfl) (Lib.hid (below_step HB.out hb)) (Lib.hid (blk_below EB.out hb)) (Lib.hid ⟨(blk_below EG.out.1 hb), EG.out.2⟩) (Lib.hid ⟨hws, hc⟩) (Lib.hid (Kd.F_mono hF (fun k (hk : w.heap.size ≤ k) => by have h0 := HB.out.size; have h1 := blt EG.out.1; have h1b := EG.out.2; omega))))
  refine AllReadyH.cons rfl (fun K hK => ?_) ?_
  ·go_simp
   refine hK.out _ _ (kp5 ED.out EP.out (blA HB.out HB.out.size)) (fun hHeld => ?_)
   exact gto hG (Dagz _ (w.alloc (bZ)) gb gG w.heap.size (by kernel_rfl) (Lib.hid (blA HB.out HB.out.size)) (Lib.hid (blk_alloc EB.out _)) (Lib.hid ⟨(blk_alloc EG.out.1 _), EG.out.2⟩) (Lib.hid ⟨(nwb w _ _ rfl), HB.out.size⟩) (Lib.hid (by have h1 := blt EG.out.1; have h1b := EG.out.2; omega)))
  exact AllReadyH.nil
 have Daw : ∀ (L : Array Bool) (w : World) (gb : Nat) (A11 : Option Addr) (c11 : Nat) (ws : List Int), L = #[true, true, true, true, true, true, false, false, true, true, true, false, true, true, true, true, true, true, false, false, false] → Hid (Below W.heap.size W w) → Hid (w.heap[gb]? = some (b5 x)) → Hid ((ws.length ≤ 16 ∧ (inn = 0 → ws = [])) ∧ ws.length ≤ c11) → Hid (Kd.F (Kd.int .i64) w (fun k => W.heap.size ≤ k) A11 ws.length ws) → G 6 L ⟨#[u0, .string dir, .slice (some pd) np cp, u3, u4, u5, u6, u7, u8, u9, u10, .pointer (some ⟨gd, 0, none⟩), u12, .int .i64 (i : Int), u14, u15, u16, u17, u18, u19, u20, u21, u22, u23, u24, u25, u26, u27, u28, u29, u30, u31, u32, u33, u34, u35, u36, u37, u38, .string dir, .string (dir ++ ⟨#[47, 112]⟩), .int .i64 (i : Int), .int .i64 x, .int .u8 x, .slice (some ⟨gb, 0, none⟩) 1 1, u45, u46, .pointer (some ⟨gd, 2, none⟩), .agg #[.int .i64 dn.f2.f0, .int .i64 dn.f2.f1, .int .i64 dn.f2.f2, .int .i64 dn.f2.f3], .agg #[.string (⟨#[42]⟩ : ByteArray), .int .i64 7], u50, .agg #[.int .i64 4, .int .i64 4, .int .i64 4, .int .i64 0], .slice (some pd) np cp, .int .i64 (i : Int), .pointer (some (pd.add i)), .agg #[.slice iA inn ic], .slice A11 ws.length c11, u57, u58, u59, u60, u61, u62, u63, u64, u65, u66, u67, u68, u69, u70, u71, u72, u73, u74, u75, u76, u77, u78, u79, u80, u81, u82, u83, u84, u85, u86, u87, u88, u89, u90, u91, u92], []⟩ w := by
  intro L w gb A11 c11 ws hL HB EB HC HF
  subst hL
  rw [hG]
  refine wpAnyH_ready (rs := [6, 11, 19]) (by kernel_rfl) (by simp) ?_
  refine AllReadyH.cons rfl (fun K hK => ?_) ?_
  ·have hcv := conv_blk EB.out
   (try simp only [b5] at hcv)
   go_simp
   refine hK.out _ _ (kp5 ED.out EP.out HB.out) (fun hHeld => ?_)
   refine tq 7 46 ?_ hHeld
   exact gto hG (Dabw _ w gb A11 c11 ws (by kernel_rfl) (Lib.hid HB.out) HC HF)
  refine AllReadyH.cons rfl (fun K hK => ?_) ?_
  ·go_simp
   refine hK.out _ _ (kp5 ED.out EP.out (blA HB.out HB.out.size)) (fun hHeld => ?_)
   exact gto hG (Dagw _ (w.alloc (bG)) gb w.heap.size A11 c11 ws (by kernel_rfl) (Lib.hid (blA HB.out HB.out.size)) (Lib.hid (blk_alloc EB.out _)) (Lib.hid ⟨(nwb w _ _ rfl), HB.out.size⟩) HC (Lib.hid (Kd.F_alloc (Kd.F_mono (Kd.F_bound HF.out) (fun k (hk : (W.heap.size ≤ k) ∧ k < w.heap.size) => by omega)) _)))
  refine AllReadyH.cons rfl (fun K hK => ?_) ?_
  ·go_simp
   refine hK.out _ _ (kp5 ED.out EP.out (blA HB.out HB.out.size)) (fun hHeld => ?_)
   exact gto hG (Dawz _ (w.alloc (bZ)) gb w.heap.size A11 c11 ws (by kernel_rfl) (Lib.hid (blA HB.out HB.out.size)) (Lib.hid (blk_alloc EB.out _)) (Lib.hid ⟨(nwb w _ _ rfl), HB.out.size⟩) HC (Lib.hid (Kd.F_alloc (Kd.F_mono (Kd.F_bound HF.out) (fun k (hk : (W.heap.size ≤ k) ∧ k < w.heap.size) => by omega)) _)))
  exact AllReadyH.nil
 have Daz : ∀ (L : Array Bool) (w : World) (gb : Nat) (gz : Nat), L = #[true, true, true, true, true, true, false, false, true, true, true, false, true, true, true, true, true, false, false, true, false] → Hid (Below W.heap.size W w) → Hid (w.heap[gb]? = some (b5 x)) → Hid (w.heap[gz]? = some bZ ∧ W.heap.size ≤ gz) → G 6 L ⟨#[u0, .string dir, .slice (some pd) np cp, u3, u4, u5, u6, u7, u8, u9, u10, .pointer (some ⟨gd, 0, none⟩), u12, .int .i64 (i : Int), .pointer (some ⟨gz, 0, none⟩), u15, u16, u17, u18, u19, u20, u21, u22, u23, u24, u25, u26, u27, u28, u29, u30, u31, u32, u33, u34, u35, u36, u37, u38, .string dir, .string (dir ++ ⟨#[47, 112]⟩), .int .i64 (i : Int), .int .i64 x, .int .u8 x, .slice (some ⟨gb, 0, none⟩) 1 1, u45, u46, .pointer (some ⟨gd, 2, none⟩), .agg #[.int .i64 dn.f2.f0, .int .i64 dn.f2.f1, .int .i64 dn.f2.f2, .int .i64 dn.f2.f3], .agg #[.string (⟨#[42]⟩ : ByteArray), .int .i64 7], u50, .agg #[.int .i64 4, .int .i64 4, .int .i64 4, .int .i64 0], .slice (some pd) np cp, .int .i64 (i : Int), .pointer (some (pd.add i)), .agg #[.slice iA inn ic], u56, u57, u58, u59, u60, u61, u62, u63, u64, u65, u66, u67, u68, u69, u70, u71, u72, u73, u74, u75, u76, u77, u78, u79, u80, u81, u82, u83, u84, u85, u86, u87, u88, u89, u90, u91, u92], []⟩ w := by
  intro L w gb gz hL HB EB EZ
  subst hL
  rw [hG]
  refine wpAnyH_ready (rs := [6, 11, 17]) (by kernel_rfl) (by simp) ?_
  refine AllReadyH.cons rfl (fun K hK => ?_) ?_
  ·have hcv := conv_blk EB.out
   (try simp only [b5] at hcv)
   go_simp
   refine hK.out _ _ (kp5 ED.out EP.out HB.out) (fun hHeld => ?_)
   refine tq 7 46 ?_ hHeld
   exact gto hG (Dabz _ w gb gz (by kernel_rfl) (Lib.hid HB.out) (Lib.hid ⟨EZ.out.1, EZ.out.2⟩))
  refine AllReadyH.cons rfl (fun K hK => ?_) ?_
  ·go_simp
   refine hK.out _ _ (kp5 ED.out EP.out (blA HB.out HB.out.size)) (fun hHeld => ?_)
   exact gto hG (Dagz _ (w.alloc (bG)) gb w.heap.size gz (by kernel_rfl) (Lib.hid (blA HB.out HB.out.size)) (Lib.hid (blk_alloc EB.out _)) (Lib.hid ⟨(nwb w _ _ rfl), HB.out.size⟩) (Lib.hid ⟨(blk_alloc EZ.out.1 _), EZ.out.2⟩) (Lib.hid (by have h2 := blt EZ.out.1; have h2b := EZ.out.2; omega)))
  refine AllReadyH.cons rfl (fun K hK => ?_) ?_
  ·go_simp
   go_wp2_with (go_at_call 39; go_loud (refine (HW.out _ HB.out).mono ?_; rintro e wa ⟨A11, c11, ws, rfl, hws, hc, hF, hb⟩))
   refine hK.out _ _ (kp5 ED.out EP.out (below_step HB.out hb)) (fun hHeld => ?_)
   exact gto hG (Dawz _ wa gb gz A11 c11 ws (by kernel_rfl) (Lib.hid (below_step HB.out hb)) (Lib.hid (blk_below EB.out hb)) (Lib.hid ⟨(blk_below EZ.out.1 hb), EZ.out.2⟩) (Lib.hid ⟨hws, hc⟩) (Lib.hid (Kd.F_mono hF (fun k (hk : w.heap.size ≤ k) => by have h0 := HB.out.size; have h2 := blt EZ.out.1; have h2b := EZ.out.2; omega))))
  exact AllReadyH.nil
 have Dgw : ∀ (L : Array Bool) (w : World) (gG : Nat) (A11 : Option Addr) (c11 : Nat) (ws : List Int), L = #[true, true, true, true, true, false, false, false, true, true, true, true, true, true, true, true, true, true, false, false, false] → Hid (Below W.heap.size W w) → Hid (w.heap[gG]? = some bG ∧ W.heap.size ≤ gG) → Hid ((ws.length ≤ 16 ∧ (inn = 0 → ws = [])) ∧ ws.length ≤ c11) → Hid (Kd.F (Kd.int .i64) w (fun k => W.heap.size ≤ k ∧ k ≠ gG) A11 ws.length ws) → G 6 L ⟨#[u0, .string dir, .slice (some pd) np cp, u3, u4, u5, u6, u7, u8, u9, u10, .pointer (some ⟨gd, 0, none⟩), u12, .int .i64 (i : Int), u14, u15, u16, u17, u18, u19, u20, u21, u22, u23, u24, u25, u26, u27, u28, u29, u30, u31, u32, u33, u34, u35, u36, u37, u38, .string dir, .string (dir ++ ⟨#[47, 112]⟩), .int .i64 (i : Int), .int .i64 x, .int .u8 x, u44, u45, u46, .pointer (some ⟨gd, 2, none⟩), .agg #[.int .i64 dn.f2.f0, .int .i64 dn.f2.f1, .int .i64 dn.f2.f2, .int .i64 dn.f2.f3], .agg #[.string (⟨#[42]⟩ : ByteArray), .int .i64 7], .slice (some ⟨gG, 0, none⟩) 1 1, .agg #[.int .i64 4, .int .i64 4, .int .i64 4, .int .i64 0], .slice (some pd) np cp, .int .i64 (i : Int), .pointer (some (pd.add i)), .agg #[.slice iA inn ic], .slice A11 ws.length c11, u57, u58, u59, u60, u61, u62, u63, u64, u65, u66, u67, u68, u69, u70, u71, u72, u73, u74, u75, u76, u77, u78, u79, u80, u81, u82, u83, u84, u85, u86, u87, u88, u89, u90, u91, u92], []⟩ w := by
  intro L w gG A11 c11 ws hL HB EG HC HF
  subst hL
  rw [hG]
  refine wpAnyH_ready (rs := [5, 19]) (by kernel_rfl) (by simp) ?_
  refine AllReadyH.cons rfl (fun K hK => ?_) ?_
  ·go_simp
   refine hK.out _ _ (kp5 ED.out EP.out (blA HB.out HB.out.size)) (fun hHeld => ?_)
   exact gto hG (Dagw _ (w.alloc (b5 x)) w.heap.size gG A11 c11 ws (by kernel_rfl) (Lib.hid (blA HB.out HB.out.size)) (Lib.hid (nwb w _ _ rfl)) (Lib.hid ⟨(blk_alloc EG.out.1 _), EG.out.2⟩) HC (Lib.hid (Kd.F_alloc HF.out _)))
  refine AllReadyH.cons rfl (fun K hK => ?_) ?_
  ·go_simp
   refine hK.out _ _ (kp5 ED.out EP.out (blA HB.out HB.out.size)) (fun hHeld => ?_)
   exact gto hG (Dgwz _ (w.alloc (bZ)) gG w.heap.size A11 c11 ws (by kernel_rfl) (Lib.hid (blA HB.out HB.out.size)) (Lib.hid ⟨(blk_alloc EG.out.1 _), EG.out.2⟩) (Lib.hid ⟨(nwb w _ _ rfl), HB.out.size⟩) (Lib.hid (by have h1 := blt EG.out.1; have h1b := EG.out.2; omega)) HC (Lib.hid (Kd.F_alloc (Kd.F_mono (Kd.F_bound HF.out) (fun k (hk : (W.heap.size ≤ k ∧ k ≠ gG) ∧ k < w.heap.size) => by omega)) _)))
  exact AllReadyH.nil
 have Dgz : ∀ (L : Array Bool) (w : World) (gG : Nat) (gz : Nat), L = #[true, true, true, true, true, false, false, false, true, true, true, true, true, true, true, true, true, false, false, true, false] → Hid (Below W.heap.size W w) → Hid (w.heap[gG]? = some bG ∧ W.heap.size ≤ gG) → Hid (w.heap[gz]? = some bZ ∧ W.heap.size ≤ gz) → Hid (gz ≠ gG) → G 6 L ⟨#[u0, .string dir, .slice (some pd) np cp, u3, u4, u5, u6, u7, u8, u9, u10, .pointer (some ⟨gd, 0, none⟩), u12, .int .i64 (i : Int), .pointer (some ⟨gz, 0, none⟩), u15, u16, u17, u18, u19, u20, u21, u22, u23, u24, u25, u26, u27, u28, u29, u30, u31, u32, u33, u34, u35, u36, u37, u38, .string dir, .string (dir ++ ⟨#[47, 112]⟩), .int .i64 (i : Int), .int .i64 x, .int .u8 x, u44, u45, u46, .pointer (some ⟨gd, 2, none⟩), .agg #[.int .i64 dn.f2.f0, .int .i64 dn.f2.f1, .int .i64 dn.f2.f2, .int .i64 dn.f2.f3], .agg #[.string (⟨#[42]⟩ : ByteArray), .int .i64 7], .slice (some ⟨gG, 0, none⟩) 1 1, .agg #[.int .i64 4, .int .i64 4, .int .i64 4, .int .i64 0], .slice (some pd) np cp, .int .i64 (i : Int), .pointer (some (pd.add i)), .agg #[.slice iA inn ic], u56, u57, u58, u59, u60, u61, u62, u63, u64, u65, u66, u67, u68, u69, u70, u71, u72, u73, u74, u75, u76, u77, u78, u79, u80, u81, u82, u83, u84, u85, u86, u87, u88, u89, u90, u91, u92], []⟩ w := by
  intro L w gG gz hL HB EG EZ HN
  subst hL
  rw [hG]
  refine wpAnyH_ready (rs := [5, 17]) (by kernel_rfl) (by simp) ?_
  refine AllReadyH.cons rfl (fun K hK => ?_) ?_
  ·go_simp
   refine hK.out _ _ (kp5 ED.out EP.out (blA HB.out HB.out.size)) (fun hHeld => ?_)
   exact gto hG (Dagz _ (w.alloc (b5 x)) w.heap.size gG gz (by kernel_rfl) (Lib.hid (blA HB.out HB.out.size)) (Lib.hid (nwb w _ _ rfl)) (Lib.hid ⟨(blk_alloc EG.out.1 _), EG.out.2⟩) (Lib.hid ⟨(blk_alloc EZ.out.1 _), EZ.out.2⟩) HN)
  refine AllReadyH.cons rfl (fun K hK => ?_) ?_
  ·go_simp
   go_wp2_with (go_at_call 39; go_loud (refine (HW.out _ HB.out).mono ?_; rintro e wa ⟨A11, c11, ws, rfl, hws, hc, hF, hb⟩))
   refine hK.out _ _ (kp5 ED.out EP.out (below_step HB.out hb)) (fun hHeld => ?_)
   exact gto hG (Dgwz _ wa gG gz A11 c11 ws (by kernel_rfl) (Lib.hid (below_step HB.out hb)) (Lib.hid ⟨(blk_below EG.out.1 hb), EG.out.2⟩) (Lib.hid ⟨(blk_below EZ.out.1 hb), EZ.out.2⟩) HN (Lib.hid ⟨hws, hc⟩) (Lib.hid (Kd.F_mono hF (fun k (hk : w.heap.size ≤ k) => by have h0 := HB.out.size; have h1 := blt EG.out.1; have h1b := EG.out.2; have h2 := blt EZ.out.1; have h2b := EZ.out.2; omega))))
  exact AllReadyH.nil
 have Dwz : ∀ (L : Array Bool) (w : World) (gz : Nat) (A11 : Option Addr) (c11 : Nat) (ws : List Int), L = #[true, true, true, true, true, false, false, false, true, true, true, false, true, true, true, true, true, true, false, true, false] → Hid (Below W.heap.size W w) → Hid (w.heap[gz]? = some bZ ∧ W.heap.size ≤ gz) → Hid ((ws.length ≤ 16 ∧ (inn = 0 → ws = [])) ∧ ws.length ≤ c11) → Hid (Kd.F (Kd.int .i64) w (fun k => W.heap.size ≤ k ∧ k ≠ gz) A11 ws.length ws) → G 6 L ⟨#[u0, .string dir, .slice (some pd) np cp, u3, u4, u5, u6, u7, u8, u9, u10, .pointer (some ⟨gd, 0, none⟩), u12, .int .i64 (i : Int), .pointer (some ⟨gz, 0, none⟩), u15, u16, u17, u18, u19, u20, u21, u22, u23, u24, u25, u26, u27, u28, u29, u30, u31, u32, u33, u34, u35, u36, u37, u38, .string dir, .string (dir ++ ⟨#[47, 112]⟩), .int .i64 (i : Int), .int .i64 x, .int .u8 x, u44, u45, u46, .pointer (some ⟨gd, 2, none⟩), .agg #[.int .i64 dn.f2.f0, .int .i64 dn.f2.f1, .int .i64 dn.f2.f2, .int .i64 dn.f2.f3], .agg #[.string (⟨#[42]⟩ : ByteArray), .int .i64 7], u50, .agg #[.int .i64 4, .int .i64 4, .int .i64 4, .int .i64 0], .slice (some pd) np cp, .int .i64 (i : Int), .pointer (some (pd.add i)), .agg #[.slice iA inn ic], .slice A11 ws.length c11, u57, u58, u59, u60, u61, u62, u63, u64, u65, u66, u67, u68, u69, u70, u71, u72, u73, u74, u75, u76, u77, u78, u79, u80, u81, u82, u83, u84, u85, u86, u87, u88, u89, u90, u91, u92], []⟩ w := by
  intro L w gz A11 c11 ws hL HB EZ HC HF
  subst hL
  rw [hG]
  refine wpAnyH_ready (rs := [5, 11]) (by kernel_rfl) (by simp) ?_
  refine AllReadyH.cons rfl (fun K hK => ?_) ?_
  ·go_simp
   refine hK.out _ _ (kp5 ED.out EP.out (blA HB.out HB.out.size)) (fun hHeld => ?_)
   exact gto hG (Dawz _ (w.alloc (b5 x)) w.heap.size gz A11 c11 ws (by kernel_rfl) (Lib.hid (blA HB.out HB.out.size)) (Lib.hid (nwb w _ _ rfl)) (Lib.hid ⟨(blk_alloc EZ.out.1 _), EZ.out.2⟩) HC (Lib.hid (Kd.F_alloc HF.out _)))
  refine AllReadyH.cons rfl (fun K hK => ?_) ?_
  ·go_simp
   refine hK.out _ _ (kp5 ED.out EP.out (blA HB.out HB.out.size)) (fun hHeld => ?_)
   exact gto hG (Dgwz _ (w.alloc (bG)) w.heap.size gz A11 c11 ws (by kernel_rfl) (Lib.hid (blA HB.out HB.out.size)) (Lib.hid ⟨(nwb w _ _ rfl), HB.out.size⟩) (Lib.hid ⟨(blk_alloc EZ.out.1 _), EZ.out.2⟩) (Lib.hid (by have h2 := blt EZ.out.1; have h2b := EZ.out.2; omega)) HC (Lib.hid (Kd.F_alloc (Kd.F_mono (Kd.F_bound HF.out) (fun k (hk : (W.heap.size ≤ k ∧ k ≠ gz) ∧ k < w.heap.size) => by omega)) _)))
  exact AllReadyH.nil
 have Da : ∀ (L : Array Bool) (w : World) (gb : Nat), L = #[true, true, true, true, true, true, false, false, true, true, true, false, true, true, true, true, true, false, false, false, false] → Hid (Below W.heap.size W w) → Hid (w.heap[gb]? = some (b5 x)) → G 7 L ⟨#[u0, .string dir, .slice (some pd) np cp, u3, u4, u5, u6, u7, u8, u9, u10, .pointer (some ⟨gd, 0, none⟩), u12, .int .i64 (i : Int), u14, u15, u16, u17, u18, u19, u20, u21, u22, u23, u24, u25, u26, u27, u28, u29, u30, u31, u32, u33, u34, u35, u36, u37, u38, .string dir, .string (dir ++ ⟨#[47, 112]⟩), .int .i64 (i : Int), .int .i64 x, .int .u8 x, .slice (some ⟨gb, 0, none⟩) 1 1, u45, u46, .pointer (some ⟨gd, 2, none⟩), .agg #[.int .i64 dn.f2.f0, .int .i64 dn.f2.f1, .int .i64 dn.f2.f2, .int .i64 dn.f2.f3], .agg #[.string (⟨#[42]⟩ : ByteArray), .int .i64 7], u50, .agg #[.int .i64 4, .int .i64 4, .int .i64 4, .int .i64 0], .slice (some pd) np cp, .int .i64 (i : Int), .pointer (some (pd.add i)), .agg #[.slice iA inn ic], u56, u57, u58, u59, u60, u61, u62, u63, u64, u65, u66, u67, u68, u69, u70, u71, u72, u73, u74, u75, u76, u77, u78, u79, u80, u81, u82, u83, u84, u85, u86, u87, u88, u89, u90, u91, u92], []⟩ w := by
  intro L w gb hL HB EB
  subst hL
  rw [hG]
  refine wpAnyH_ready (rs := [6, 11, 17, 19]) (by kernel_rfl) (by simp) ?_
  refine AllReadyH.cons rfl (fun K hK => ?_) ?_
  ·have hcv := conv_blk EB.out
   (try simp only [b5] at hcv)
   go_simp
   refine hK.out _ _ (kp5 ED.out EP.out HB.out) (fun hHeld => ?_)
   refine tq 7 46 ?_ hHeld
   exact gto hG (Dab _ w gb (by kernel_rfl) (Lib.hid HB.out))
  refine AllReadyH.cons rfl (fun K hK => ?_) ?_
  ·go_simp
   refine hK.out _ _ (kp5 ED.out EP.out (blA HB.out HB.out.size)) (fun hHeld => ?_)
   exact gto hG (Dag _ (w.alloc (bG)) gb w.heap.size (by kernel_rfl) (Lib.hid (blA HB.out HB.out.size)) (Lib.hid (blk_alloc EB.out _)) (Lib.hid ⟨(nwb w _ _ rfl), HB.out.size⟩))
  refine AllReadyH.cons rfl (fun K hK => ?_) ?_
  ·go_simp
   go_wp2_with (go_at_call 39; go_loud (refine (HW.out _ HB.out).mono ?_; rintro e wa ⟨A11, c11, ws, rfl, hws, hc, hF, hb⟩))
   refine hK.out _ _ (kp5 ED.out EP.out (below_step HB.out hb)) (fun hHeld => ?_)
   exact gto hG (Daw _ wa gb A11 c11 ws (by kernel_rfl) (Lib.hid (below_step HB.out hb)) (Lib.hid (blk_below EB.out hb)) (Lib.hid ⟨hws, hc⟩) (Lib.hid (Kd.F_mono hF (fun k (hk : w.heap.size ≤ k) => by have h0 := HB.out.size; omega))))
  refine AllReadyH.cons rfl (fun K hK => ?_) ?_
  ·go_simp
   refine hK.out _ _ (kp5 ED.out EP.out (blA HB.out HB.out.size)) (fun hHeld => ?_)
   exact gto hG (Daz _ (w.alloc (bZ)) gb w.heap.size (by kernel_rfl) (Lib.hid (blA HB.out HB.out.size)) (Lib.hid (blk_alloc EB.out _)) (Lib.hid ⟨(nwb w _ _ rfl), HB.out.size⟩))
  exact AllReadyH.nil
 have Dg : ∀ (L : Array Bool) (w : World) (gG : Nat), L = #[true, true, true, true, true, false, false, false, true, true, true, true, true, true, true, true, true, false, false, false, false] → Hid (Below W.heap.size W w) → Hid (w.heap[gG]? = some bG ∧ W.heap.size ≤ gG) → G 7 L ⟨#[u0, .string dir, .slice (some pd) np cp, u3, u4, u5, u6, u7, u8, u9, u10, .pointer (some ⟨gd, 0, none⟩), u12, .int .i64 (i : Int), u14, u15, u16, u17, u18, u19, u20, u21, u22, u23, u24, u25, u26, u27, u28, u29, u30, u31, u32, u33, u34, u35, u36, u37, u38, .string dir, .string (dir ++ ⟨#[47, 112]⟩), .int .i64 (i : Int), .int .i64 x, .int .u8 x, u44, u45, u46, .pointer (some ⟨gd, 2, none⟩), .agg #[.int .i64 dn.f2.f0, .int .i64 dn.f2.f1, .int .i64 dn.f2.f2, .int .i64 dn.f2.f3], .agg #[.string (⟨#[42]⟩ : ByteArray), .int .i64 7], .slice (some ⟨gG, 0, none⟩) 1 1, .agg #[.int .i64 4, .int .i64 4, .int .i64 4, .int .i64 0], .slice (some pd) np cp, .int .i64 (i : Int), .pointer (some (pd.add i)), .agg #[.slice iA inn ic], u56, u57, u58, u59, u60, u61, u62, u63, u64, u65, u66, u67, u68, u69, u70, u71, u72, u73, u74, u75, u76, u77, u78, u79, u80, u81, u82, u83, u84, u85, u86, u87, u88, u89, u90, u91, u92], []⟩ w := by
  intro L w gG hL HB EG
  subst hL
  rw [hG]
  refine wpAnyH_ready (rs := [5, 17, 19]) (by kernel_rfl) (by simp) ?_
  refine AllReadyH.cons rfl (fun K hK => ?_) ?_
  ·go_simp
   refine hK.out _ _ (kp5 ED.out EP.out (blA HB.out HB.out.size)) (fun hHeld => ?_)
   exact gto hG (Dag _ (w.alloc (b5 x)) w.heap.size gG (by kernel_rfl) (Lib.hid (blA HB.out HB.out.size)) (Lib.hid (nwb w _ _ rfl)) (Lib.hid ⟨(blk_alloc EG.out.1 _), EG.out.2⟩))
  refine AllReadyH.cons rfl (fun K hK => ?_) ?_
  ·go_simp
   go_wp2_with (go_at_call 39; go_loud (refine (HW.out _ HB.out).mono ?_; rintro e wa ⟨A11, c11, ws, rfl, hws, hc, hF, hb⟩))
   refine hK.out _ _ (kp5 ED.out EP.out (below_step HB.out hb)) (fun hHeld => ?_)
   exact gto hG (Dgw _ wa gG A11 c11 ws (by kernel_rfl) (Lib.hid (below_step HB.out hb)) (Lib.hid ⟨(blk_below EG.out.1 hb), EG.out.2⟩) (Lib.hid ⟨hws, hc⟩) (Lib.hid (Kd.F_mono hF (fun k (hk : w.heap.size ≤ k) => by have h0 := HB.out.size; have h1 := blt EG.out.1; have h1b := EG.out.2; omega))))
  refine AllReadyH.cons rfl (fun K hK => ?_) ?_
  ·go_simp
   refine hK.out _ _ (kp5 ED.out EP.out (blA HB.out HB.out.size)) (fun hHeld => ?_)
   exact gto hG (Dgz _ (w.alloc (bZ)) gG w.heap.size (by kernel_rfl) (Lib.hid (blA HB.out HB.out.size)) (Lib.hid ⟨(blk_alloc EG.out.1 _), EG.out.2⟩) (Lib.hid ⟨(nwb w _ _ rfl), HB.out.size⟩) (Lib.hid (by have h1 := blt EG.out.1; have h1b := EG.out.2; omega)))
  exact AllReadyH.nil
 have Dw : ∀ (L : Array Bool) (w : World) (A11 : Option Addr) (c11 : Nat) (ws : List Int), L = #[true, true, true, true, true, false, false, false, true, true, true, false, true, true, true, true, true, true, false, false, false] → Hid (Below W.heap.size W w) → Hid ((ws.length ≤ 16 ∧ (inn = 0 → ws = [])) ∧ ws.length ≤ c11) → Hid (Kd.F (Kd.int .i64) w (fun k => W.heap.size ≤ k) A11 ws.length ws) → G 7 L ⟨#[u0, .string dir, .slice (some pd) np cp, u3, u4, u5, u6, u7, u8, u9, u10, .pointer (some ⟨gd, 0, none⟩), u12, .int .i64 (i : Int), u14, u15, u16, u17, u18, u19, u20, u21, u22, u23, u24, u25, u26, u27, u28, u29, u30, u31, u32, u33, u34, u35, u36, u37, u38, .string dir, .string (dir ++ ⟨#[47, 112]⟩), .int .i64 (i : Int), .int .i64 x, .int .u8 x, u44, u45, u46, .pointer (some ⟨gd, 2, none⟩), .agg #[.int .i64 dn.f2.f0, .int .i64 dn.f2.f1, .int .i64 dn.f2.f2, .int .i64 dn.f2.f3], .agg #[.string (⟨#[42]⟩ : ByteArray), .int .i64 7], u50, .agg #[.int .i64 4, .int .i64 4, .int .i64 4, .int .i64 0], .slice (some pd) np cp, .int .i64 (i : Int), .pointer (some (pd.add i)), .agg #[.slice iA inn ic], .slice A11 ws.length c11, u57, u58, u59, u60, u61, u62, u63, u64, u65, u66, u67, u68, u69, u70, u71, u72, u73, u74, u75, u76, u77, u78, u79, u80, u81, u82, u83, u84, u85, u86, u87, u88, u89, u90, u91, u92], []⟩ w := by
  intro L w A11 c11 ws hL HB HC HF
  subst hL
  rw [hG]
  refine wpAnyH_ready (rs := [5, 11, 19]) (by kernel_rfl) (by simp) ?_
  refine AllReadyH.cons rfl (fun K hK => ?_) ?_
  ·go_simp
   refine hK.out _ _ (kp5 ED.out EP.out (blA HB.out HB.out.size)) (fun hHeld => ?_)
   exact gto hG (Daw _ (w.alloc (b5 x)) w.heap.size A11 c11 ws (by kernel_rfl) (Lib.hid (blA HB.out HB.out.size)) (Lib.hid (nwb w _ _ rfl)) HC (Lib.hid (Kd.F_alloc HF.out _)))
  refine AllReadyH.cons rfl (fun K hK => ?_) ?_
  ·go_simp
   refine hK.out _ _ (kp5 ED.out EP.out (blA HB.out HB.out.size)) (fun hHeld => ?_)
   exact gto hG (Dgw _ (w.alloc (bG)) w.heap.size A11 c11 ws (by kernel_rfl) (Lib.hid (blA HB.out HB.out.size)) (Lib.hid ⟨(nwb w _ _ rfl), HB.out.size⟩) HC (Lib.hid (Kd.F_alloc (Kd.F_mono (Kd.F_bound HF.out) (fun k (hk : (W.heap.size ≤ k) ∧ k < w.heap.size) => by omega)) _)))
  refine AllReadyH.cons rfl (fun K hK => ?_) ?_
  ·go_simp
   refine hK.out _ _ (kp5 ED.out EP.out (blA HB.out HB.out.size)) (fun hHeld => ?_)
   exact gto hG (Dwz _ (w.alloc (bZ)) w.heap.size A11 c11 ws (by kernel_rfl) (Lib.hid (blA HB.out HB.out.size)) (Lib.hid ⟨(nwb w _ _ rfl), HB.out.size⟩) HC (Lib.hid (Kd.F_alloc (Kd.F_mono (Kd.F_bound HF.out) (fun k (hk : (W.heap.size ≤ k) ∧ k < w.heap.size) => by omega)) _)))
  exact AllReadyH.nil
 have Dz : ∀ (L : Array Bool) (w : World) (gz : Nat), L = #[true, true, true, true, true, false, false, false, true, true, true, false, true, true, true, true, true, false, false, true, false] → Hid (Below W.heap.size W w) → Hid (w.heap[gz]? = some bZ ∧ W.heap.size ≤ gz) → G 7 L ⟨#[u0, .string dir, .slice (some pd) np cp, u3, u4, u5, u6, u7, u8, u9, u10, .pointer (some ⟨gd, 0, none⟩), u12, .int .i64 (i : Int), .pointer (some ⟨gz, 0, none⟩), u15, u16, u17, u18, u19, u20, u21, u22, u23, u24, u25, u26, u27, u28, u29, u30, u31, u32, u33, u34, u35, u36, u37, u38, .string dir, .string (dir ++ ⟨#[47, 112]⟩), .int .i64 (i : Int), .int .i64 x, .int .u8 x, u44, u45, u46, .pointer (some ⟨gd, 2, none⟩), .agg #[.int .i64 dn.f2.f0, .int .i64 dn.f2.f1, .int .i64 dn.f2.f2, .int .i64 dn.f2.f3], .agg #[.string (⟨#[42]⟩ : ByteArray), .int .i64 7], u50, .agg #[.int .i64 4, .int .i64 4, .int .i64 4, .int .i64 0], .slice (some pd) np cp, .int .i64 (i : Int), .pointer (some (pd.add i)), .agg #[.slice iA inn ic], u56, u57, u58, u59, u60, u61, u62, u63, u64, u65, u66, u67, u68, u69, u70, u71, u72, u73, u74, u75, u76, u77, u78, u79, u80, u81, u82, u83, u84, u85, u86, u87, u88, u89, u90, u91, u92], []⟩ w := by
  intro L w gz hL HB EZ
  subst hL
  rw [hG]
  refine wpAnyH_ready (rs := [5, 11, 17]) (by kernel_rfl) (by simp) ?_
  refine AllReadyH.cons rfl (fun K hK => ?_) ?_
  ·go_simp
   refine hK.out _ _ (kp5 ED.out EP.out (blA HB.out HB.out.size)) (fun hHeld => ?_)
   exact gto hG (Daz _ (w.alloc (b5 x)) w.heap.size gz (by kernel_rfl) (Lib.hid (blA HB.out HB.out.size)) (Lib.hid (nwb w _ _ rfl)) (Lib.hid ⟨(blk_alloc EZ.out.1 _), EZ.out.2⟩))
  refine AllReadyH.cons rfl (fun K hK => ?_) ?_
  ·go_simp
   refine hK.out _ _ (kp5 ED.out EP.out (blA HB.out HB.out.size)) (fun hHeld => ?_)
   exact gto hG (Dgz _ (w.alloc (bG)) w.heap.size gz (by kernel_rfl) (Lib.hid (blA HB.out HB.out.size)) (Lib.hid ⟨(nwb w _ _ rfl), HB.out.size⟩) (Lib.hid ⟨(blk_alloc EZ.out.1 _), EZ.out.2⟩) (Lib.hid (by have h2 := blt EZ.out.1; have h2b := EZ.out.2; omega)))
  refine AllReadyH.cons rfl (fun K hK => ?_) ?_
  ·go_simp
   go_wp2_with (go_at_call 39; go_loud (refine (HW.out _ HB.out).mono ?_; rintro e wa ⟨A11, c11, ws, rfl, hws, hc, hF, hb⟩))
   refine hK.out _ _ (kp5 ED.out EP.out (below_step HB.out hb)) (fun hHeld => ?_)
   exact gto hG (Dwz _ wa gz A11 c11 ws (by kernel_rfl) (Lib.hid (below_step HB.out hb)) (Lib.hid ⟨(blk_below EZ.out.1 hb), EZ.out.2⟩) (Lib.hid ⟨hws, hc⟩) (Lib.hid (Kd.F_mono hF (fun k (hk : w.heap.size ≤ k) => by have h0 := HB.out.size; have h2 := blt EZ.out.1; have h2b := EZ.out.2; omega))))
  exact AllReadyH.nil
 intro L w hL HB
 subst hL
 rw [hG]
 refine wpAnyH_ready (rs := [5, 11, 17, 19]) (by kernel_rfl) (by simp) ?_
 refine AllReadyH.cons rfl (fun K hK => ?_) ?_
 ·go_simp
  refine hK.out _ _ (kp5 ED.out EP.out (blA HB.out HB.out.size)) (fun hHeld => ?_)
  exact gto hG (Da _ (w.alloc (b5 x)) w.heap.size (by kernel_rfl) (Lib.hid (blA HB.out HB.out.size)) (Lib.hid (nwb w _ _ rfl)))
 refine AllReadyH.cons rfl (fun K hK => ?_) ?_
 ·go_simp
  refine hK.out _ _ (kp5 ED.out EP.out (blA HB.out HB.out.size)) (fun hHeld => ?_)
  exact gto hG (Dg _ (w.alloc (bG)) w.heap.size (by kernel_rfl) (Lib.hid (blA HB.out HB.out.size)) (Lib.hid ⟨(nwb w _ _ rfl), HB.out.size⟩))
 refine AllReadyH.cons rfl (fun K hK => ?_) ?_
 ·go_simp
  go_wp2_with (go_at_call 39; go_loud (refine (HW.out _ HB.out).mono ?_; rintro e wa ⟨A11, c11, ws, rfl, hws, hc, hF, hb⟩))
  refine hK.out _ _ (kp5 ED.out EP.out (below_step HB.out hb)) (fun hHeld => ?_)
  exact gto hG (Dw _ wa A11 c11 ws (by kernel_rfl) (Lib.hid (below_step HB.out hb)) (Lib.hid ⟨hws, hc⟩) (Lib.hid (Kd.F_mono hF (fun k (hk : w.heap.size ≤ k) => by have h0 := HB.out.size; omega))))
 refine AllReadyH.cons rfl (fun K hK => ?_) ?_
 ·go_simp
  refine hK.out _ _ (kp5 ED.out EP.out (blA HB.out HB.out.size)) (fun hHeld => ?_)
  exact gto hG (Dz _ (w.alloc (bZ)) w.heap.size (by kernel_rfl) (Lib.hid (blA HB.out HB.out.size)) (Lib.hid ⟨(nwb w _ _ rfl), HB.out.size⟩))
 exact AllReadyH.nil
end Go.Proofs.YteilkbookcmndaaGreatDoor.C
end
