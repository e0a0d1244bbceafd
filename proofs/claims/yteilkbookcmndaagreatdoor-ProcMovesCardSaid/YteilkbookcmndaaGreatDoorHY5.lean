/- Texts that the claim's law stands on, cut down to what it reaches. -/
import Derived.Test.YteilkbookcmndaaGreatDoorHY2
import Derived.Deep.RegionHeldLaw
import Derived.Deep.RegionHeld3
import Derived.Deep.LoopGhost
set_option linter.unusedVariables false
set_option linter.unusedSimpArgs false
section
set_option linter.unusedVariables false
set_option linter.unusedSimpArgs false
namespace Go.Proofs.YteilkbookcmndaaGreatDoor.C
open Go.RowKit Go.Proofs.YteilkbookcmndaaGreatDoor.Q Go.Proofs.YteilkbookcmndaaGreatDoorW.PrintWords Go.Proofs.YteilkbookcmndaaGreatDoorW.PrintLast Go.Proofs.YteilkbookcmndaaGreatDoorW.PrintMore
attribute [local go_sem ↓] rd_at50 wr_at50 al_at50
attribute [local go_sem] rd50_new al50
attribute [local go_sem ↓] rd_at45 wr_at45 rd_at150 wr_at150 rd_at47b wr_at47b rd_at77 wr_at77 rd_at41p wr_at41p
attribute [local go_sem] rd45_new wr45_new rd150_new wr150_new wr47b_new
attribute [local go_sem] max2_mx max_two
theorem lf5 {B : Nat} {W V : World} {g h : Nat} {A : Option Addr} {n : Nat} {xs : List Int} {ok : Nat → Prop} {o : Obj} {cs0 : Array Value} (c : Array Value) (EZ : V.heap[g]? = some (.cells cs0 36 (0, 0))) (EG : V.heap[h]? = some o) (HF : Kd.F (Kd.int .i64) V ok A n xs) (HB : Below B W V) (hg : B ≤ g) (hgh : h ≠ g) (hok : ∀ k, ok k → B ≤ k ∧ k ≠ g ∧ k ≠ h) :
 (V.setRow g c).heap[g]? = some (.cells c 36 (0, 0)) ∧ (V.setRow g c).heap[h]? = some o ∧ Kd.F (Kd.int .i64) (V.setRow g c) (fun k => B ≤ k ∧ k ≠ g ∧ k ≠ h) A n xs ∧ Below B W (V.setRow g c) :=
 ⟨setRow_heap _ _ _ c _ _ EZ, (setRow_other _ g h c hgh).trans EG, Kd.F_step (W1 := World.setRow _ g c) (Kd.F_mono HF hok) (fun k hk hlt => setRow_other _ _ k _ hk.2.1), below_setRow HB hg c⟩
theorem hdr5 (w : World) : w.drew.heap = w.heap := rfl
def b5 (x : Int) : Obj := .cells #[.int .u8 x] 5
def bG : Obj := .cells #[.string (⟨#[42]⟩ : ByteArray), .int .i64 7] 85
def bZ : Obj := .cells #[.string (⟨#[]⟩ : ByteArray), .bool false, .int .i64 0, .int .i64 0, .int .i64 0, .int .i64 0, .slice none 0 0, .int .i64 0, .int .i64 0, .int .i64 0, .int .i64 0, .slice none 0 0, .int .i64 0, .int .i64 0, .int .i64 0, .int .i64 0] 36
def cN (dir : ByteArray) (dn : S50) (ga : Nat) (A11 : Option Addr) (n c11 : Nat) (x : Int) : Array Value := #[.string (dir ++ ⟨#[47, 112]⟩ ++ strOfNums [x]), .bool false, .int .i64 dn.f2.f0, .int .i64 dn.f2.f1, .int .i64 dn.f2.f2, .int .i64 dn.f2.f3, .slice (some ⟨ga, 0, none⟩) 1 1, .int .i64 4, .int .i64 4, .int .i64 4, .int .i64 0, .slice A11 n c11, .int .i64 0, .int .i64 0, .int .i64 0, .int .i64 0]
theorem cN_one (dir : ByteArray) (dn : S50) (ga : Nat) (A11 : Option Addr) (n c11 : Nat) (x : Int) : (cN dir dn ga A11 n c11 x).all (·.oneCell') = true := by simp [cN, Value.oneCell']
theorem nwb (w : World) (o : Obj) (k : Nat) (h : k = w.heap.size) : (w.alloc o).heap[k]? = some o := by rw [h]; exact blk_new w o
theorem blA {B : Nat} {w V : World} {o : Obj} (h : Below B w V) (hB : B ≤ V.heap.size) : Below B w (V.alloc o) := h.alloc hB o
theorem kp5 {W V : World} {gd i : Nat} {pd : Addr} {dn : S50} {D6 D11 : Option Addr} {d6 d11 : Nat} {v : Value} (hd : W.heap[gd]? = some (.cells #[.string dn.f0, .bool dn.f1, .int .i64 dn.f2.f0, .int .i64 dn.f2.f1, .int .i64 dn.f2.f2, .int .i64 dn.f2.f3, .slice D6 dn.f3.length d6, .int .i64 dn.f4.f0, .int .i64 dn.f4.f1, .int .i64 dn.f4.f2, .int .i64 dn.f4.f3, .slice D11 dn.f5.length d11, .int .i64 dn.f6.f0, .int .i64 dn.f6.f1, .int .i64 dn.f6.f2, .int .i64 dn.f6.f3] 36 (0, 0))) (hp : W.cell? (pd.add i) = some v) (hb : Below W.heap.size W V) :
  V.cell? ⟨gd, 2, none⟩ = some (.int .i64 dn.f2.f0) ∧ V.cell? ⟨gd, 3, none⟩ = some (.int .i64 dn.f2.f1) ∧ V.cell? ⟨gd, 4, none⟩ = some (.int .i64 dn.f2.f2) ∧ V.cell? ⟨gd, 5, none⟩ = some (.int .i64 dn.f2.f3) ∧ V.cell? (pd.add i) = some v :=
 ⟨(blk_cell (blk_below hd hb) 2).trans rfl, (blk_cell (blk_below hd hb) 3).trans rfl, (blk_cell (blk_below hd hb) 4).trans rfl, (blk_cell (blk_below hd hb) 5).trans rfl, pw_cell_below hb hp⟩
set_option maxHeartbeats 16000000 in
set_option maxRecDepth 1000000 in
theorem pt7 (gd np cp i : Nat) (pd : Addr) (dir : ByteArray) (dn : S50) (D6 D11 : Option Addr) (d6 d11 : Nat) (iA : Option Addr) (inn ic : Nat) (x : Int) (u0 u3 u4 u5 u6 u7 u8 u9 u10 u12 u14 u15 u16 u17 u18 u19 u20 u21 u22 u23 u24 u25 u26 u27 u28 u29 u30 u31 u32 u33 u34 u35 u36 u37 u38 u39 u40 u41 u42 u43 u44 u45 u46 u47 u48 u49 u50 u51 u52 u53 u54 u55 u56 u57 u58 u59 u60 u61 u62 u63 u64 u65 u66 u67 u68 u69 u70 u71 u72 u73 u74 u75 u76 u77 u78 u79 u80 u81 u82 u83 u84 u85 u86 u87 u88 u89 u90 u91 u92 : Value) (W : World) (Q : Exit → Act → World → Prop)
  (hd : W.heap[gd]? = some (.cells #[.string dn.f0, .bool dn.f1, .int .i64 dn.f2.f0, .int .i64 dn.f2.f1, .int .i64 dn.f2.f2, .int .i64 dn.f2.f3, .slice D6 dn.f3.length d6, .int .i64 dn.f4.f0, .int .i64 dn.f4.f1, .int .i64 dn.f4.f2, .int .i64 dn.f4.f3, .slice D11 dn.f5.length d11, .int .i64 dn.f6.f0, .int .i64 dn.f6.f1, .int .i64 dn.f6.f2, .int .i64 dn.f6.f3] 36 (0, 0))) (hp : W.cell? (pd.add i) = some (.slice iA inn ic)) (hi : i < np) (hnp : np ≤ cp) (hw1 : IntKind.i64.wrap (48 + (i : Int)) = x) (hw2 : IntKind.u8.wrap x = x) (hdir : dir.size ≤ 1000)
  (hW : ∀ w1 : World, Below W.heap.size W w1 → Calls Tryz.prog 39 #[.agg #[.slice iA inn ic]] w1 fun e w' => ∃ A11 c11 ws, e = .returned (.slice A11 (List.length (α := Int) ws) c11) ∧ (ws.length ≤ 16 ∧ (inn = 0 → ws = [])) ∧ ws.length ≤ c11 ∧ Kd.F (Kd.int .i64) w' (fun k => w1.heap.size ≤ k) A11 ws.length ws ∧ Below w1.heap.size w1 w')
  (hpost : ∀ (g ga : Nat) (w' : World) (A11 : Option Addr) (c11 : Nat) (ws : List Int) (t39 t40 t41 t42 t43 t44 t45 t46 t47 t48 t49 t50 t51 t52 t53 t54 t55 t56 t57 : Value), (ws.length ≤ 16 ∧ (inn = 0 → ws = [])) → ws.length ≤ c11 → Kd.F (Kd.int .i64) w' (fun k => W.heap.size ≤ k ∧ k ≠ g ∧ k ≠ ga) A11 ws.length ws → w'.heap[g]? = some (.cells (cN dir dn ga A11 ws.length c11 x) 36 (0, 0)) → w'.heap[ga]? = some (.cells #[.string (⟨#[42]⟩ : ByteArray), .int .i64 7] 85 (0, 0)) → g ≠ ga → W.heap.size ≤ g → W.heap.size ≤ ga → Below W.heap.size W w' → Q .normal ⟨#[u0, .string dir, .slice (some pd) np cp, u3, u4, u5, u6, u7, u8, u9, u10, .pointer (some ⟨gd, 0, none⟩), u12, .int .i64 (i : Int), .pointer (some ⟨g, 0, none⟩), u15, u16, u17, u18, u19, u20, u21, u22, u23, u24, u25, u26, u27, u28, u29, u30, u31, u32, u33, u34, u35, u36, u37, u38, t39, t40, t41, t42, t43, t44, t45, t46, t47, t48, t49, t50, t51, t52, t53, t54, t55, t56, t57, u58, u59, u60, u61, u62, u63, u64, u65, u66, u67, u68, u69, u70, u71, u72, u73, u74, u75, u76, u77, u78, u79, u80, u81, u82, u83, u84, u85, u86, u87, u88, u89, u90, u91, u92], []⟩ w') :
  Code.wp Tryz.prog (cReg Tryz.f25 7) Q ⟨#[u0, .string dir, .slice (some pd) np cp, u3, u4, u5, u6, u7, u8, u9, u10, .pointer (some ⟨gd, 0, none⟩), u12, .int .i64 (i : Int), u14, u15, u16, u17, u18, u19, u20, u21, u22, u23, u24, u25, u26, u27, u28, u29, u30, u31, u32, u33, u34, u35, u36, u37, u38, u39, u40, u41, u42, u43, u44, u45, u46, u47, u48, u49, u50, u51, u52, u53, u54, u55, u56, u57, u58, u59, u60, u61, u62, u63, u64, u65, u66, u67, u68, u69, u70, u71, u72, u73, u74, u75, u76, u77, u78, u79, u80, u81, u82, u83, u84, u85, u86, u87, u88, u89, u90, u91, u92], []⟩ W := by
 have HPO := Lib.hid hpost
 have ED := Lib.hid hd
 have EP := Lib.hid hp
 have HW := Lib.hid hW
 clear hd hp hW hpost
 have hi0 : (0 : Int) ≤ (i : Int) := by omega
 have hi1 : (i : Int) < (np : Int) := by omega
 have hz1 : ¬ 9223372036854775807 < dir.size + 2 := by omega
 have hz2 : ¬ 9223372036854775807 < dir.size + 2 + (strOfNums [x]).size := by
  have h2 : (strOfNums [x]).size = 1 := rfl
  omega
 have HB := Lib.hid (below_drew1 (Below.refl W.heap.size W))
 conv => arg 2; whnf
 refine wp_region_noPanic ?_
 refine wp_region_held_drew (S := fun W1 => W1.cell? ⟨gd, 2, none⟩ = some (.int .i64 dn.f2.f0) ∧ W1.cell? ⟨gd, 3, none⟩ = some (.int .i64 dn.f2.f1) ∧ W1.cell? ⟨gd, 4, none⟩ = some (.int .i64 dn.f2.f2) ∧ W1.cell? ⟨gd, 5, none⟩ = some (.int .i64 dn.f2.f3) ∧ W1.cell? (pd.add i) = some (.slice iA inn ic)) (by kernel_rfl) ?_ (fun hHeld => ?_)
 focus ((try dsimp only); exact kp5 ED.out EP.out HB.out)
 refine tk 0 39 (v := ?_) rfl rfl (by kernel_rfl) rfl ?_ (by assumption) ?_; rotate_left; focus (intro w hSw; go_simp; try with_reducible rfl)
 try simp only [Act.put, List.setIfInBounds_toArray, List.set_cons_zero, List.set_cons_succ]
 refine tk 1 40 (v := ?_) rfl rfl (by kernel_rfl) rfl ?_ (by assumption) ?_; rotate_left; focus (intro w hSw; go_simp; try with_reducible rfl)
 try simp only [Act.put, List.setIfInBounds_toArray, List.set_cons_zero, List.set_cons_succ]
 refine tk 2 41 (v := ?_) rfl rfl (by kernel_rfl) rfl ?_ (by assumption) ?_; rotate_left; focus (intro w hSw; go_simp; try with_reducible rfl)
 try simp only [Act.put, List.setIfInBounds_toArray, List.set_cons_zero, List.set_cons_succ]
 refine tk 3 42 (v := ?_) rfl rfl (by kernel_rfl) rfl ?_ (by assumption) ?_; rotate_left; focus (intro w hSw; go_simp; try with_reducible rfl)
 try simp only [Act.put, List.setIfInBounds_toArray, List.set_cons_zero, List.set_cons_succ]
 refine tk 4 43 (v := ?_) rfl rfl (by kernel_rfl) rfl ?_ (by assumption) ?_; rotate_left; focus (intro w hSw; go_simp; try with_reducible rfl)
 try simp only [Act.put, List.setIfInBounds_toArray, List.set_cons_zero, List.set_cons_succ]
 refine tk 8 47 (v := ?_) rfl rfl (by kernel_rfl) rfl ?_ (by assumption) ?_; rotate_left; focus (intro w hSw; go_simp; try with_reducible rfl)
 try simp only [Act.put, List.setIfInBounds_toArray, List.set_cons_zero, List.set_cons_succ]
 refine tk 9 48 (v := ?_) rfl rfl (by kernel_rfl) rfl ?_ (by assumption) ?_; rotate_left; focus (intro w hSw; go_simp; try with_reducible rfl)
 try simp only [Act.put, List.setIfInBounds_toArray, List.set_cons_zero, List.set_cons_succ]
 refine tk 10 49 (v := ?_) rfl rfl (by kernel_rfl) rfl ?_ (by assumption) ?_; rotate_left; focus (intro w hSw; go_simp; try with_reducible rfl)
 try simp only [Act.put, List.setIfInBounds_toArray, List.set_cons_zero, List.set_cons_succ]
 refine tk 12 51 (v := ?_) rfl rfl (by kernel_rfl) rfl ?_ (by assumption) ?_; rotate_left; focus (intro w hSw; go_simp; try with_reducible rfl)
 try simp only [Act.put, List.setIfInBounds_toArray, List.set_cons_zero, List.set_cons_succ]
 refine tk 13 52 (v := ?_) rfl rfl (by kernel_rfl) rfl ?_ (by assumption) ?_; rotate_left; focus (intro w hSw; go_simp; try with_reducible rfl)
 try simp only [Act.put, List.setIfInBounds_toArray, List.set_cons_zero, List.set_cons_succ]
 refine tk 14 53 (v := ?_) rfl rfl (by kernel_rfl) rfl ?_ (by assumption) ?_; rotate_left; focus (intro w hSw; go_simp; try with_reducible rfl)
 try simp only [Act.put, List.setIfInBounds_toArray, List.set_cons_zero, List.set_cons_succ]
 refine tk 15 54 (v := ?_) rfl rfl (by kernel_rfl) rfl ?_ (by assumption) ?_; rotate_left; focus (intro w hSw; go_simp; try with_reducible rfl)
 try simp only [Act.put, List.setIfInBounds_toArray, List.set_cons_zero, List.set_cons_succ]
 refine tk 16 55 (v := ?_) rfl rfl (by kernel_rfl) rfl ?_ (by assumption) ?_; rotate_left; focus (intro w hSw; go_simp; try with_reducible rfl)
 try simp only [Act.put, List.setIfInBounds_toArray, List.set_cons_zero, List.set_cons_succ]
 refine wpAnyH_ready (rs := [5, 11, 17, 19]) (by kernel_rfl) (by simp) ?_
 refine AllReadyH.cons rfl (fun K hK => ?_) ?_
 ·have EB := Lib.hid (show (W.alloc (b5 x)).drew.heap[W.heap.size]? = some (b5 x) from nwb W (b5 x) _ (by simp only [World.size_alloc]))
  have HB := Lib.hid (show Below W.heap.size W (W.alloc (b5 x)).drew from blA HB.out HB.out.size)
  have hSZ : (W.alloc (b5 x)).drew.heap.size = W.heap.size + 1 := by simp only [hdr5, World.size_alloc]
  simp only [b5, bG, bZ]
  go_simp
  refine hK.out _ _ ?_ (fun hHeld => ?_)
  focus ((try dsimp only); exact kp5 ED.out EP.out HB.out)
  clear hK K
  refine wpAnyH_ready (rs := [6, 11, 17, 19]) (by kernel_rfl) (by simp) ?_
  refine AllReadyH.cons rfl (fun K hK => ?_) ?_
  ·have hcv := conv_blk EB.out
   (try simp only [b5, bG, bZ] at hcv)
   go_simp
   refine hK.out _ _ ?_ (fun hHeld => ?_)
   focus ((try dsimp only); exact kp5 ED.out EP.out HB.out)
   clear hK K
   refine tk 7 46 (v := ?_) rfl rfl (by kernel_rfl) rfl ?_ (by assumption) ?_; rotate_left; focus (intro w hSw; go_simp; try with_reducible rfl)
   try simp only [Act.put, List.setIfInBounds_toArray, List.set_cons_zero, List.set_cons_succ]
   refine wpAnyH_ready (rs := [11, 17, 19]) (by kernel_rfl) (by simp) ?_
   refine AllReadyH.cons rfl (fun K hK => ?_) ?_
   ·have EB := Lib.hid (show ((W.alloc (b5 x)).alloc (bG)).drew.heap[W.heap.size]? = some (b5 x) from blk_alloc EB.out _)
    have EG := Lib.hid (show ((W.alloc (b5 x)).alloc (bG)).drew.heap[W.heap.size + 1]? = some (bG) from nwb (W.alloc (b5 x)) (bG) _ (by simp only [World.size_alloc]))
    have HB := Lib.hid (show Below W.heap.size W ((W.alloc (b5 x)).alloc (bG)).drew from blA HB.out HB.out.size)
    have hSZ : ((W.alloc (b5 x)).alloc (bG)).drew.heap.size = W.heap.size + 1 + 1 := by simp only [hdr5, World.size_alloc]
    simp only [b5, bG, bZ]
    go_simp
    refine hK.out _ _ ?_ (fun hHeld => ?_)
    focus ((try dsimp only); exact kp5 ED.out EP.out HB.out)
    clear hK K
    refine wpAnyH_ready (rs := [17, 19]) (by kernel_rfl) (by simp) ?_
    refine AllReadyH.cons rfl (fun K hK => ?_) ?_
    ·go_simp
     go_wp2_with (go_at_call 39; go_loud (refine (HW.out _ HB.out).mono ?_; rintro e wa ⟨A11, c11, ws, rfl, hws, hc, hF, hb⟩; have EB := Lib.hid (blk_below EB.out hb); have EG := Lib.hid (blk_below EG.out hb); have hz5 := hb.size; rw [hSZ] at hz5; have hF := Kd.F_mono hF (ok' := fun k => W.heap.size + 1 + 1 ≤ k) (fun k hk => by rw [hSZ] at hk; exact hk); have HF := Lib.hid (Kd.F_bound hF); have HB := Lib.hid (below_step HB.out hb); have HC := Lib.hid hc; have HWS := Lib.hid hws; clear hb hF hc hws))
     refine hK.out _ _ ?_ (fun hHeld => ?_)
     focus ((try dsimp only); exact kp5 ED.out EP.out HB.out)
     clear hK K
     refine tk 18 57 (v := ?_) rfl rfl (by kernel_rfl) rfl ?_ (by assumption) ?_; rotate_left; focus (intro w hSw; go_simp; try with_reducible rfl)
     try simp only [Act.put, List.setIfInBounds_toArray, List.set_cons_zero, List.set_cons_succ]
     refine wpAnyH_ready (rs := [19]) (by kernel_rfl) (by simp) ?_
     refine AllReadyH.cons rfl (fun K hK => ?_) ?_
     ·have EB := Lib.hid (show (wa.alloc (bZ)).heap[W.heap.size]? = some (b5 x) from blk_alloc EB.out _)
      have EG := Lib.hid (show (wa.alloc (bZ)).heap[W.heap.size + 1]? = some (bG) from blk_alloc EG.out _)
      have EZ := Lib.hid (show (wa.alloc (bZ)).heap[wa.heap.size]? = some (bZ) from nwb wa (bZ) _ (by simp only [World.size_alloc]))
      have HB := Lib.hid (show Below W.heap.size W (wa.alloc (bZ)) from blA HB.out HB.out.size)
      have HF := Lib.hid (Kd.F_alloc HF.out (bZ))
      have hSZ : (wa.alloc (bZ)).heap.size = wa.heap.size + 1 := by simp only [hdr5, World.size_alloc]
      simp only [b5, bG, bZ]
      go_simp
      refine hK.out _ _ ?_ (fun hHeld => ?_)
      focus ((try dsimp only); exact kp5 ED.out EP.out HB.out)
      clear hK K
      refine wpAnyH_ready (rs := [20]) (by kernel_rfl) (by simp) ?_
      refine AllReadyH.cons rfl (fun K hK => ?_) ?_
      ·have hst := wr50_blk (cs := cN dir dn (W.heap.size + 1) A11 ws.length c11 x) EZ.out rfl rfl (cN_one _ _ _ _ _ _ _)
       simp only [b5, bG, bZ, cN] at hst
       have HL := lf5 (cN dir dn (W.heap.size + 1) A11 ws.length c11 x) EZ.out EG.out HF.out HB.out (by omega) (by omega) (fun k hk => by have h1 := hk.1; have h2 := hk.2; omega)
       have EX := Lib.hid HL.1; have EG := Lib.hid HL.2.1; have HF := Lib.hid HL.2.2.1; have HB := Lib.hid HL.2.2.2; clear HL
       go_simp
       refine hK.out _ _ ?_ (fun hHeld => ?_)
       focus ((try dsimp only); exact kp5 ED.out EP.out HB.out)
       clear hK K
       refine wpAnyH_done (by kernel_rfl) ?_ _
       refine NoPanic.normal ?_
       exact HPO.out (wa.heap.size) (W.heap.size + 1) _ A11 c11 ws _ _ _ _ _ _ _ _ _ _ _ _ _ _ _ _ _ _ _ HWS.out HC.out HF.out EX.out EG.out (by omega) (by omega) (by omega) HB.out
      exact AllReadyH.nil
     exact AllReadyH.nil
    refine AllReadyH.cons rfl (fun K hK => ?_) ?_
    ·have EB := Lib.hid (show (((W.alloc (b5 x)).alloc (bG)).alloc (bZ)).drew.heap[W.heap.size]? = some (b5 x) from blk_alloc EB.out _)
     have EG := Lib.hid (show (((W.alloc (b5 x)).alloc (bG)).alloc (bZ)).drew.heap[W.heap.size + 1]? = some (bG) from blk_alloc EG.out _)
     have EZ := Lib.hid (show (((W.alloc (b5 x)).alloc (bG)).alloc (bZ)).drew.heap[W.heap.size + 1 + 1]? = some (bZ) from nwb ((W.alloc (b5 x)).alloc (bG)) (bZ) _ (by simp only [World.size_alloc]))
     have HB := Lib.hid (show Below W.heap.size W (((W.alloc (b5 x)).alloc (bG)).alloc (bZ)).drew from blA HB.out HB.out.size)
     have hSZ : (((W.alloc (b5 x)).alloc (bG)).alloc (bZ)).drew.heap.size = W.heap.size + 1 + 1 + 1 := by simp only [hdr5, World.size_alloc]
     simp only [b5, bG, bZ]
     go_simp
     refine hK.out _ _ ?_ (fun hHeld => ?_)
     focus ((try dsimp only); exact kp5 ED.out EP.out HB.out)
     clear hK K
     refine wpAnyH_ready (rs := [17]) (by kernel_rfl) (by simp) ?_
     refine AllReadyH.cons rfl (fun K hK => ?_) ?_
     ·go_simp
      go_wp2_with (go_at_call 39; go_loud (refine (HW.out _ HB.out).mono ?_; rintro e wa ⟨A11, c11, ws, rfl, hws, hc, hF, hb⟩; have EB := Lib.hid (blk_below EB.out hb); have EG := Lib.hid (blk_below EG.out hb); have EZ := Lib.hid (blk_below EZ.out hb); have hz5 := hb.size; rw [hSZ] at hz5; have hF := Kd.F_mono hF (ok' := fun k => W.heap.size + 1 + 1 + 1 ≤ k) (fun k hk => by rw [hSZ] at hk; exact hk); have HF := Lib.hid (Kd.F_bound hF); have HB := Lib.hid (below_step HB.out hb); have HC := Lib.hid hc; have HWS := Lib.hid hws; clear hb hF hc hws))
      refine hK.out _ _ ?_ (fun hHeld => ?_)
      focus ((try dsimp only); exact kp5 ED.out EP.out HB.out)
      clear hK K
      refine tk 18 57 (v := ?_) rfl rfl (by kernel_rfl) rfl ?_ (by assumption) ?_; rotate_left; focus (intro w hSw; go_simp; try with_reducible rfl)
      try simp only [Act.put, List.setIfInBounds_toArray, List.set_cons_zero, List.set_cons_succ]
      refine wpAnyH_ready (rs := [20]) (by kernel_rfl) (by simp) ?_
      refine AllReadyH.cons rfl (fun K hK => ?_) ?_
      ·have hst := wr50_blk (cs := cN dir dn (W.heap.size + 1) A11 ws.length c11 x) EZ.out rfl rfl (cN_one _ _ _ _ _ _ _)
       simp only [b5, bG, bZ, cN] at hst
       have HL := lf5 (cN dir dn (W.heap.size + 1) A11 ws.length c11 x) EZ.out EG.out HF.out HB.out (by omega) (by omega) (fun k hk => by have h1 := hk.1; have h2 := hk.2; omega)
       have EX := Lib.hid HL.1; have EG := Lib.hid HL.2.1; have HF := Lib.hid HL.2.2.1; have HB := Lib.hid HL.2.2.2; clear HL
       go_simp
       refine hK.out _ _ ?_ (fun hHeld => ?_)
       focus ((try dsimp only); exact kp5 ED.out EP.out HB.out)
       clear hK K
       refine wpAnyH_done (by kernel_rfl) ?_ _
       refine NoPanic.normal ?_
       exact HPO.out (W.heap.size + 1 + 1) (W.heap.size + 1) _ A11 c11 ws _ _ _ _ _ _ _ _ _ _ _ _ _ _ _ _ _ _ _ HWS.out HC.out HF.out EX.out EG.out (by omega) (by omega) (by omega) HB.out
      exact AllReadyH.nil
     exact AllReadyH.nil
    exact AllReadyH.nil
   refine AllReadyH.cons rfl (fun K hK => ?_) ?_
   ·go_simp
    go_wp2_with (go_at_call 39; go_loud (refine (HW.out _ HB.out).mono ?_; rintro e wa ⟨A11, c11, ws, rfl, hws, hc, hF, hb⟩; have EB := Lib.hid (blk_below EB.out hb); have hz5 := hb.size; rw [hSZ] at hz5; have hF := Kd.F_mono hF (ok' := fun k => W.heap.size + 1 ≤ k) (fun k hk => by rw [hSZ] at hk; exact hk); have HF := Lib.hid (Kd.F_bound hF); have HB := Lib.hid (below_step HB.out hb); have HC := Lib.hid hc; have HWS := Lib.hid hws; clear hb hF hc hws))
    refine hK.out _ _ ?_ (fun hHeld => ?_)
    focus ((try dsimp only); exact kp5 ED.out EP.out HB.out)
    clear hK K
    refine wpAnyH_ready (rs := [11, 19]) (by kernel_rfl) (by simp) ?_
    refine AllReadyH.cons rfl (fun K hK => ?_) ?_
    ·have EB := Lib.hid (show (wa.alloc (bG)).heap[W.heap.size]? = some (b5 x) from blk_alloc EB.out _)
     have EG := Lib.hid (show (wa.alloc (bG)).heap[wa.heap.size]? = some (bG) from nwb wa (bG) _ (by simp only [World.size_alloc]))
     have HB := Lib.hid (show Below W.heap.size W (wa.alloc (bG)) from blA HB.out HB.out.size)
     have HF := Lib.hid (Kd.F_alloc HF.out (bG))
     have hSZ : (wa.alloc (bG)).heap.size = wa.heap.size + 1 := by simp only [hdr5, World.size_alloc]
     simp only [b5, bG, bZ]
     go_simp
     refine hK.out _ _ ?_ (fun hHeld => ?_)
     focus ((try dsimp only); exact kp5 ED.out EP.out HB.out)
     clear hK K
     refine tk 18 57 (v := ?_) rfl rfl (by kernel_rfl) rfl ?_ (by assumption) ?_; rotate_left; focus (intro w hSw; go_simp; try with_reducible rfl)
     try simp only [Act.put, List.setIfInBounds_toArray, List.set_cons_zero, List.set_cons_succ]
     refine wpAnyH_ready (rs := [19]) (by kernel_rfl) (by simp) ?_
     refine AllReadyH.cons rfl (fun K hK => ?_) ?_
     ·have EB := Lib.hid (show ((wa.alloc (bG)).alloc (bZ)).heap[W.heap.size]? = some (b5 x) from blk_alloc EB.out _)
      have EG := Lib.hid (show ((wa.alloc (bG)).alloc (bZ)).heap[wa.heap.size]? = some (bG) from blk_alloc EG.out _)
      have EZ := Lib.hid (show ((wa.alloc (bG)).alloc (bZ)).heap[wa.heap.size + 1]? = some (bZ) from nwb (wa.alloc (bG)) (bZ) _ (by simp only [World.size_alloc]))
      have HB := Lib.hid (show Below W.heap.size W ((wa.alloc (bG)).alloc (bZ)) from blA HB.out HB.out.size)
      have HF := Lib.hid (Kd.F_alloc HF.out (bZ))
      have hSZ : ((wa.alloc (bG)).alloc (bZ)).heap.size = wa.heap.size + 1 + 1 := by simp only [hdr5, World.size_alloc]
      simp only [b5, bG, bZ]
      go_simp
      refine hK.out _ _ ?_ (fun hHeld => ?_)
      focus ((try dsimp only); exact kp5 ED.out EP.out HB.out)
      clear hK K
      refine wpAnyH_ready (rs := [20]) (by kernel_rfl) (by simp) ?_
      refine AllReadyH.cons rfl (fun K hK => ?_) ?_
      ·have hst := wr50_blk (cs := cN dir dn (wa.heap.size) A11 ws.length c11 x) EZ.out rfl rfl (cN_one _ _ _ _ _ _ _)
       simp only [b5, bG, bZ, cN] at hst
       have HL := lf5 (cN dir dn (wa.heap.size) A11 ws.length c11 x) EZ.out EG.out HF.out HB.out (by omega) (by omega) (fun k hk => by have h1 := hk.1; have h2 := hk.2; omega)
       have EX := Lib.hid HL.1; have EG := Lib.hid HL.2.1; have HF := Lib.hid HL.2.2.1; have HB := Lib.hid HL.2.2.2; clear HL
       go_simp
       refine hK.out _ _ ?_ (fun hHeld => ?_)
       focus ((try dsimp only); exact kp5 ED.out EP.out HB.out)
       clear hK K
       refine wpAnyH_done (by kernel_rfl) ?_ _
       refine NoPanic.normal ?_
       exact HPO.out (wa.heap.size + 1) (wa.heap.size) _ A11 c11 ws _ _ _ _ _ _ _ _ _ _ _ _ _ _ _ _ _ _ _ HWS.out HC.out HF.out EX.out EG.out (by omega) (by omega) (by omega) HB.out
      exact AllReadyH.nil
     exact AllReadyH.nil
    refine AllReadyH.cons rfl (fun K hK => ?_) ?_
    ·have EB := Lib.hid (show (wa.alloc (bZ)).heap[W.heap.size]? = some (b5 x) from blk_alloc EB.out _)
     have EZ := Lib.hid (show (wa.alloc (bZ)).heap[wa.heap.size]? = some (bZ) from nwb wa (bZ) _ (by simp only [World.size_alloc]))
     have HB := Lib.hid (show Below W.heap.size W (wa.alloc (bZ)) from blA HB.out HB.out.size)
     have HF := Lib.hid (Kd.F_alloc HF.out (bZ))
     have hSZ : (wa.alloc (bZ)).heap.size = wa.heap.size + 1 := by simp only [hdr5, World.size_alloc]
     simp only [b5, bG, bZ]
     go_simp
     refine hK.out _ _ ?_ (fun hHeld => ?_)
     focus ((try dsimp only); exact kp5 ED.out EP.out HB.out)
     clear hK K
     refine wpAnyH_ready (rs := [11]) (by kernel_rfl) (by simp) ?_
     refine AllReadyH.cons rfl (fun K hK => ?_) ?_
     ·have EB := Lib.hid (show ((wa.alloc (bZ)).alloc (bG)).heap[W.heap.size]? = some (b5 x) from blk_alloc EB.out _)
      have EZ := Lib.hid (show ((wa.alloc (bZ)).alloc (bG)).heap[wa.heap.size]? = some (bZ) from blk_alloc EZ.out _)
      have EG := Lib.hid (show ((wa.alloc (bZ)).alloc (bG)).heap[wa.heap.size + 1]? = some (bG) from nwb (wa.alloc (bZ)) (bG) _ (by simp only [World.size_alloc]))
      have HB := Lib.hid (show Below W.heap.size W ((wa.alloc (bZ)).alloc (bG)) from blA HB.out HB.out.size)
      have HF := Lib.hid (Kd.F_alloc HF.out (bG))
      have hSZ : ((wa.alloc (bZ)).alloc (bG)).heap.size = wa.heap.size + 1 + 1 := by simp only [hdr5, World.size_alloc]
      simp only [b5, bG, bZ]
      go_simp
      refine hK.out _ _ ?_ (fun hHeld => ?_)
      focus ((try dsimp only); exact kp5 ED.out EP.out HB.out)
      clear hK K
      refine tk 18 57 (v := ?_) rfl rfl (by kernel_rfl) rfl ?_ (by assumption) ?_; rotate_left; focus (intro w hSw; go_simp; try with_reducible rfl)
      try simp only [Act.put, List.setIfInBounds_toArray, List.set_cons_zero, List.set_cons_succ]
      refine wpAnyH_ready (rs := [20]) (by kernel_rfl) (by simp) ?_
      refine AllReadyH.cons rfl (fun K hK => ?_) ?_
      ·have hst := wr50_blk (cs := cN dir dn (wa.heap.size + 1) A11 ws.length c11 x) EZ.out rfl rfl (cN_one _ _ _ _ _ _ _)
       simp only [b5, bG, bZ, cN] at hst
       have HL := lf5 (cN dir dn (wa.heap.size + 1) A11 ws.length c11 x) EZ.out EG.out HF.out HB.out (by omega) (by omega) (fun k hk => by have h1 := hk.1; have h2 := hk.2; omega)
       have EX := Lib.hid HL.1; have EG := Lib.hid HL.2.1; have HF := Lib.hid HL.2.2.1; have HB := Lib.hid HL.2.2.2; clear HL
       go_simp
       refine hK.out _ _ ?_ (fun hHeld => ?_)
       focus ((try dsimp only); exact kp5 ED.out EP.out HB.out)
       clear hK K
       refine wpAnyH_done (by kernel_rfl) ?_ _
       refine NoPanic.normal ?_
       exact HPO.out (wa.heap.size) (wa.heap.size + 1) _ A11 c11 ws _ _ _ _ _ _ _ _ _ _ _ _ _ _ _ _ _ _ _ HWS.out HC.out HF.out EX.out EG.out (by omega) (by omega) (by omega) HB.out
      exact AllReadyH.nil
     exact AllReadyH.nil
    exact AllReadyH.nil
   refine AllReadyH.cons rfl (fun K hK => ?_) ?_
   ·have EB := Lib.hid (show ((W.alloc (b5 x)).alloc (bZ)).drew.heap[W.heap.size]? = some (b5 x) from blk_alloc EB.out _)
    have EZ := Lib.hid (show ((W.alloc (b5 x)).alloc (bZ)).drew.heap[W.heap.size + 1]? = some (bZ) from nwb (W.alloc (b5 x)) (bZ) _ (by simp only [World.size_alloc]))
    have HB := Lib.hid (show Below W.heap.size W ((W.alloc (b5 x)).alloc (bZ)).drew from blA HB.out HB.out.size)
    have hSZ : ((W.alloc (b5 x)).alloc (bZ)).drew.heap.size = W.heap.size + 1 + 1 := by simp only [hdr5, World.size_alloc]
    simp only [b5, bG, bZ]
    go_simp
    refine hK.out _ _ ?_ (fun hHeld => ?_)
    focus ((try dsimp only); exact kp5 ED.out EP.out HB.out)
    clear hK K
    refine wpAnyH_ready (rs := [11, 17]) (by kernel_rfl) (by simp) ?_
    refine AllReadyH.cons rfl (fun K hK => ?_) ?_
    ·have EB := Lib.hid (show (((W.alloc (b5 x)).alloc (bZ)).alloc (bG)).drew.heap[W.heap.size]? = some (b5 x) from blk_alloc EB.out _)
     have EZ := Lib.hid (show (((W.alloc (b5 x)).alloc (bZ)).alloc (bG)).drew.heap[W.heap.size + 1]? = some (bZ) from blk_alloc EZ.out _)
     have EG := Lib.hid (show (((W.alloc (b5 x)).alloc (bZ)).alloc (bG)).drew.heap[W.heap.size + 1 + 1]? = some (bG) from nwb ((W.alloc (b5 x)).alloc (bZ)) (bG) _ (by simp only [World.size_alloc]))
     have HB := Lib.hid (show Below W.heap.size W (((W.alloc (b5 x)).alloc (bZ)).alloc (bG)).drew from blA HB.out HB.out.size)
     have hSZ : (((W.alloc (b5 x)).alloc (bZ)).alloc (bG)).drew.heap.size = W.heap.size + 1 + 1 + 1 := by simp only [hdr5, World.size_alloc]
     simp only [b5, bG, bZ]
     go_simp
     refine hK.out _ _ ?_ (fun hHeld => ?_)
     focus ((try dsimp only); exact kp5 ED.out EP.out HB.out)
     clear hK K
     refine wpAnyH_ready (rs := [17]) (by kernel_rfl) (by simp) ?_
     refine AllReadyH.cons rfl (fun K hK => ?_) ?_
     ·go_simp
      go_wp2_with (go_at_call 39; go_loud (refine (HW.out _ HB.out).mono ?_; rintro e wa ⟨A11, c11, ws, rfl, hws, hc, hF, hb⟩; have EB := Lib.hid (blk_below EB.out hb); have EG := Lib.hid (blk_below EG.out hb); have EZ := Lib.hid (blk_below EZ.out hb); have hz5 := hb.size; rw [hSZ] at hz5; have hF := Kd.F_mono hF (ok' := fun k => W.heap.size + 1 + 1 + 1 ≤ k) (fun k hk => by rw [hSZ] at hk; exact hk); have HF := Lib.hid (Kd.F_bound hF); have HB := Lib.hid (below_step HB.out hb); have HC := Lib.hid hc; have HWS := Lib.hid hws; clear hb hF hc hws))
      refine hK.out _ _ ?_ (fun hHeld => ?_)
      focus ((try dsimp only); exact kp5 ED.out EP.out HB.out)
      clear hK K
      refine tk 18 57 (v := ?_) rfl rfl (by kernel_rfl) rfl ?_ (by assumption) ?_; rotate_left; focus (intro w hSw; go_simp; try with_reducible rfl)
      try simp only [Act.put, List.setIfInBounds_toArray, List.set_cons_zero, List.set_cons_succ]
      refine wpAnyH_ready (rs := [20]) (by kernel_rfl) (by simp) ?_
      refine AllReadyH.cons rfl (fun K hK => ?_) ?_
      ·have hst := wr50_blk (cs := cN dir dn (W.heap.size + 1 + 1) A11 ws.length c11 x) EZ.out rfl rfl (cN_one _ _ _ _ _ _ _)
       simp only [b5, bG, bZ, cN] at hst
       have HL := lf5 (cN dir dn (W.heap.size + 1 + 1) A11 ws.length c11 x) EZ.out EG.out HF.out HB.out (by omega) (by omega) (fun k hk => by have h1 := hk.1; have h2 := hk.2; omega)
       have EX := Lib.hid HL.1; have EG := Lib.hid HL.2.1; have HF := Lib.hid HL.2.2.1; have HB := Lib.hid HL.2.2.2; clear HL
       go_simp
       refine hK.out _ _ ?_ (fun hHeld => ?_)
       focus ((try dsimp only); exact kp5 ED.out EP.out HB.out)
       clear hK K
       refine wpAnyH_done (by kernel_rfl) ?_ _
       refine NoPanic.normal ?_
       exact HPO.out (W.heap.size + 1) (W.heap.size + 1 + 1) _ A11 c11 ws _ _ _ _ _ _ _ _ _ _ _ _ _ _ _ _ _ _ _ HWS.out HC.out HF.out EX.out EG.out (by omega) (by omega) (by omega) HB.out
      exact AllReadyH.nil
     exact AllReadyH.nil
    refine AllReadyH.cons rfl (fun K hK => ?_) ?_
    ·go_simp
     go_wp2_with (go_at_call 39; go_loud (refine (HW.out _ HB.out).mono ?_; rintro e wa ⟨A11, c11, ws, rfl, hws, hc, hF, hb⟩; have EB := Lib.hid (blk_below EB.out hb); have EZ := Lib.hid (blk_below EZ.out hb); have hz5 := hb.size; rw [hSZ] at hz5; have hF := Kd.F_mono hF (ok' := fun k => W.heap.size + 1 + 1 ≤ k) (fun k hk => by rw [hSZ] at hk; exact hk); have HF := Lib.hid (Kd.F_bound hF); have HB := Lib.hid (below_step HB.out hb); have HC := Lib.hid hc; have HWS := Lib.hid hws; clear hb hF hc hws))
     refine hK.out _ _ ?_ (fun hHeld => ?_)
     focus ((try dsimp only); exact kp5 ED.out EP.out HB.out)
     clear hK K
     refine wpAnyH_ready (rs := [11]) (by kernel_rfl) (by simp) ?_
     refine AllReadyH.cons rfl (fun K hK => ?_) ?_
     ·have EB := Lib.hid (show (wa.alloc (bG)).heap[W.heap.size]? = some (b5 x) from blk_alloc EB.out _)
      have EZ := Lib.hid (show (wa.alloc (bG)).heap[W.heap.size + 1]? = some (bZ) from blk_alloc EZ.out _)
      have EG := Lib.hid (show (wa.alloc (bG)).heap[wa.heap.size]? = some (bG) from nwb wa (bG) _ (by simp only [World.size_alloc]))
      have HB := Lib.hid (show Below W.heap.size W (wa.alloc (bG)) from blA HB.out HB.out.size)
      have HF := Lib.hid (Kd.F_alloc HF.out (bG))
      have hSZ : (wa.alloc (bG)).heap.size = wa.heap.size + 1 := by simp only [hdr5, World.size_alloc]
      simp only [b5, bG, bZ]
      go_simp
      refine hK.out _ _ ?_ (fun hHeld => ?_)
      focus ((try dsimp only); exact kp5 ED.out EP.out HB.out)
      clear hK K
      refine tk 18 57 (v := ?_) rfl rfl (by kernel_rfl) rfl ?_ (by assumption) ?_; rotate_left; focus (intro w hSw; go_simp; try with_reducible rfl)
      try simp only [Act.put, List.setIfInBounds_toArray, List.set_cons_zero, List.set_cons_succ]
      refine wpAnyH_ready (rs := [20]) (by kernel_rfl) (by simp) ?_
      refine AllReadyH.cons rfl (fun K hK => ?_) ?_
      ·have hst := wr50_blk (cs := cN dir dn (wa.heap.size) A11 ws.length c11 x) EZ.out rfl rfl (cN_one _ _ _ _ _ _ _)
       simp only [b5, bG, bZ, cN] at hst
       have HL := lf5 (cN dir dn (wa.heap.size) A11 ws.length c11 x) EZ.out EG.out HF.out HB.out (by omega) (by omega) (fun k hk => by have h1 := hk.1; have h2 := hk.2; omega)
       have EX := Lib.hid HL.1; have EG := Lib.hid HL.2.1; have HF := Lib.hid HL.2.2.1; have HB := Lib.hid HL.2.2.2; clear HL
       go_simp
       refine hK.out _ _ ?_ (fun hHeld => ?_)
       focus ((try dsimp only); exact kp5 ED.out EP.out HB.out)
       clear hK K
       refine wpAnyH_done (by kernel_rfl) ?_ _
       refine NoPanic.normal ?_
       exact HPO.out (W.heap.size + 1) (wa.heap.size) _ A11 c11 ws _ _ _ _ _ _ _ _ _ _ _ _ _ _ _ _ _ _ _ HWS.out HC.out HF.out EX.out EG.out (by omega) (by omega) (by omega) HB.out
      exact AllReadyH.nil
     exact AllReadyH.nil
    exact AllReadyH.nil
   exact AllReadyH.nil
  refine AllReadyH.cons rfl (fun K hK => ?_) ?_
  ·have EB := Lib.hid (show ((W.alloc (b5 x)).alloc (bG)).drew.heap[W.heap.size]? = some (b5 x) from blk_alloc EB.out _)
   have EG := Lib.hid (show ((W.alloc (b5 x)).alloc (bG)).drew.heap[W.heap.size + 1]? = some (bG) from nwb (W.alloc (b5 x)) (bG) _ (by simp only [World.size_alloc]))
   have HB := Lib.hid (show Below W.heap.size W ((W.alloc (b5 x)).alloc (bG)).drew from blA HB.out HB.out.size)
   have hSZ : ((W.alloc (b5 x)).alloc (bG)).drew.heap.size = W.heap.size + 1 + 1 := by simp only [hdr5, World.size_alloc]
   simp only [b5, bG, bZ]
   go_simp
   refine hK.out _ _ ?_ (fun hHeld => ?_)
   focus ((try dsimp only); exact kp5 ED.out EP.out HB.out)
   clear hK K
   refine wpAnyH_ready (rs := [6, 17, 19]) (by kernel_rfl) (by simp) ?_
   refine AllReadyH.cons rfl (fun K hK => ?_) ?_
   ·have hcv := conv_blk EB.out
    (try simp only [b5, bG, bZ] at hcv)
    go_simp
    refine hK.out _ _ ?_ (fun hHeld => ?_)
    focus ((try dsimp only); exact kp5 ED.out EP.out HB.out)
    clear hK K
    refine tk 7 46 (v := ?_) rfl rfl (by kernel_rfl) rfl ?_ (by assumption) ?_; rotate_left; focus (intro w hSw; go_simp; try with_reducible rfl)
    try simp only [Act.put, List.setIfInBounds_toArray, List.set_cons_zero, List.set_cons_succ]
    refine wpAnyH_ready (rs := [17, 19]) (by kernel_rfl) (by simp) ?_
    refine AllReadyH.cons rfl (fun K hK => ?_) ?_
    ·go_simp
     go_wp2_with (go_at_call 39; go_loud (refine (HW.out _ HB.out).mono ?_; rintro e wa ⟨A11, c11, ws, rfl, hws, hc, hF, hb⟩; have EB := Lib.hid (blk_below EB.out hb); have EG := Lib.hid (blk_below EG.out hb); have hz5 := hb.size; rw [hSZ] at hz5; have hF := Kd.F_mono hF (ok' := fun k => W.heap.size + 1 + 1 ≤ k) (fun k hk => by rw [hSZ] at hk; exact hk); have HF := Lib.hid (Kd.F_bound hF); have HB := Lib.hid (below_step HB.out hb); have HC := Lib.hid hc; have HWS := Lib.hid hws; clear hb hF hc hws))
     refine hK.out _ _ ?_ (fun hHeld => ?_)
     focus ((try dsimp only); exact kp5 ED.out EP.out HB.out)
     clear hK K
     refine tk 18 57 (v := ?_) rfl rfl (by kernel_rfl) rfl ?_ (by assumption) ?_; rotate_left; focus (intro w hSw; go_simp; try with_reducible rfl)
     try simp only [Act.put, List.setIfInBounds_toArray, List.set_cons_zero, List.set_cons_succ]
     refine wpAnyH_ready (rs := [19]) (by kernel_rfl) (by simp) ?_
     refine AllReadyH.cons rfl (fun K hK => ?_) ?_
     ·have EB := Lib.hid (show (wa.alloc (bZ)).heap[W.heap.size]? = some (b5 x) from blk_alloc EB.out _)
      have EG := Lib.hid (show (wa.alloc (bZ)).heap[W.heap.size + 1]? = some (bG) from blk_alloc EG.out _)
      have EZ := Lib.hid (show (wa.alloc (bZ)).heap[wa.heap.size]? = some (bZ) from nwb wa (bZ) _ (by simp only [World.size_alloc]))
      have HB := Lib.hid (show Below W.heap.size W (wa.alloc (bZ)) from blA HB.out HB.out.size)
      have HF := Lib.hid (Kd.F_alloc HF.out (bZ))
      have hSZ : (wa.alloc (bZ)).heap.size = wa.heap.size + 1 := by simp only [hdr5, World.size_alloc]
      simp only [b5, bG, bZ]
      go_simp
      refine hK.out _ _ ?_ (fun hHeld => ?_)
      focus ((try dsimp only); exact kp5 ED.out EP.out HB.out)
      clear hK K
      refine wpAnyH_ready (rs := [20]) (by kernel_rfl) (by simp) ?_
      refine AllReadyH.cons rfl (fun K hK => ?_) ?_
      ·have hst := wr50_blk (cs := cN dir dn (W.heap.size + 1) A11 ws.length c11 x) EZ.out rfl rfl (cN_one _ _ _ _ _ _ _)
       simp only [b5, bG, bZ, cN] at hst
       have HL := lf5 (cN dir dn (W.heap.size + 1) A11 ws.length c11 x) EZ.out EG.out HF.out HB.out (by omega) (by omega) (fun k hk => by have h1 := hk.1; have h2 := hk.2; omega)
       have EX := Lib.hid HL.1; have EG := Lib.hid HL.2.1; have HF := Lib.hid HL.2.2.1; have HB := Lib.hid HL.2.2.2; clear HL
       go_simp
       refine hK.out _ _ ?_ (fun hHeld => ?_)
       focus ((try dsimp only); exact kp5 ED.out EP.out HB.out)
       clear hK K
       refine wpAnyH_done (by kernel_rfl) ?_ _
       refine NoPanic.normal ?_
       exact HPO.out (wa.heap.size) (W.heap.size + 1) _ A11 c11 ws _ _ _ _ _ _ _ _ _ _ _ _ _ _ _ _ _ _ _ HWS.out HC.out HF.out EX.out EG.out (by omega) (by omega) (by omega) HB.out
      exact AllReadyH.nil
     exact AllReadyH.nil
    refine AllReadyH.cons rfl (fun K hK => ?_) ?_
    ·have EB := Lib.hid (show (((W.alloc (b5 x)).alloc (bG)).alloc (bZ)).drew.heap[W.heap.size]? = some (b5 x) from blk_alloc EB.out _)
     have EG := Lib.hid (show (((W.alloc (b5 x)).alloc (bG)).alloc (bZ)).drew.heap[W.heap.size + 1]? = some (bG) from blk_alloc EG.out _)
     have EZ := Lib.hid (show (((W.alloc (b5 x)).alloc (bG)).alloc (bZ)).drew.heap[W.heap.size + 1 + 1]? = some (bZ) from nwb ((W.alloc (b5 x)).alloc (bG)) (bZ) _ (by simp only [World.size_alloc]))
     have HB := Lib.hid (show Below W.heap.size W (((W.alloc (b5 x)).alloc (bG)).alloc (bZ)).drew from blA HB.out HB.out.size)
     have hSZ : (((W.alloc (b5 x)).alloc (bG)).alloc (bZ)).drew.heap.size = W.heap.size + 1 + 1 + 1 := by simp only [hdr5, World.size_alloc]
     simp only [b5, bG, bZ]
     go_simp
     refine hK.out _ _ ?_ (fun hHeld => ?_)
     focus ((try dsimp only); exact kp5 ED.out EP.out HB.out)
     clear hK K
     refine wpAnyH_ready (rs := [17]) (by kernel_rfl) (by simp) ?_
     refine AllReadyH.cons rfl (fun K hK => ?_) ?_
     ·go_simp
      go_wp2_with (go_at_call 39; go_loud (refine (HW.out _ HB.out).mono ?_; rintro e wa ⟨A11, c11, ws, rfl, hws, hc, hF, hb⟩; have EB := Lib.hid (blk_below EB.out hb); have EG := Lib.hid (blk_below EG.out hb); have EZ := Lib.hid (blk_below EZ.out hb); have hz5 := hb.size; rw [hSZ] at hz5; have hF := Kd.F_mono hF (ok' := fun k => W.heap.size + 1 + 1 + 1 ≤ k) (fun k hk => by rw [hSZ] at hk; exact hk); have HF := Lib.hid (Kd.F_bound hF); have HB := Lib.hid (below_step HB.out hb); have HC := Lib.hid hc; have HWS := Lib.hid hws; clear hb hF hc hws))
      refine hK.out _ _ ?_ (fun hHeld => ?_)
      focus ((try dsimp only); exact kp5 ED.out EP.out HB.out)
      clear hK K
      refine tk 18 57 (v := ?_) rfl rfl (by kernel_rfl) rfl ?_ (by assumption) ?_; rotate_left; focus (intro w hSw; go_simp; try with_reducible rfl)
      try simp only [Act.put, List.setIfInBounds_toArray, List.set_cons_zero, List.set_cons_succ]
      refine wpAnyH_ready (rs := [20]) (by kernel_rfl) (by simp) ?_
      refine AllReadyH.cons rfl (fun K hK => ?_) ?_
      ·have hst := wr50_blk (cs := cN dir dn (W.heap.size + 1) A11 ws.length c11 x) EZ.out rfl rfl (cN_one _ _ _ _ _ _ _)
       simp only [b5, bG, bZ, cN] at hst
       have HL := lf5 (cN dir dn (W.heap.size + 1) A11 ws.length c11 x) EZ.out EG.out HF.out HB.out (by omega) (by omega) (fun k hk => by have h1 := hk.1; have h2 := hk.2; omega)
       have EX := Lib.hid HL.1; have EG := Lib.hid HL.2.1; have HF := Lib.hid HL.2.2.1; have HB := Lib.hid HL.2.2.2; clear HL
       go_simp
       refine hK.out _ _ ?_ (fun hHeld => ?_)
       focus ((try dsimp only); exact kp5 ED.out EP.out HB.out)
       clear hK K
       refine wpAnyH_done (by kernel_rfl) ?_ _
       refine NoPanic.normal ?_
       exact HPO.out (W.heap.size + 1 + 1) (W.heap.size + 1) _ A11 c11 ws _ _ _ _ _ _ _ _ _ _ _ _ _ _ _ _ _ _ _ HWS.out HC.out HF.out EX.out EG.out (by omega) (by omega) (by omega) HB.out
      exact AllReadyH.nil
     exact AllReadyH.nil
    exact AllReadyH.nil
   refine AllReadyH.cons rfl (fun K hK => ?_) ?_
   ·go_simp
    go_wp2_with (go_at_call 39; go_loud (refine (HW.out _ HB.out).mono ?_; rintro e wa ⟨A11, c11, ws, rfl, hws, hc, hF, hb⟩; have EB := Lib.hid (blk_below EB.out hb); have EG := Lib.hid (blk_below EG.out hb); have hz5 := hb.size; rw [hSZ] at hz5; have hF := Kd.F_mono hF (ok' := fun k => W.heap.size + 1 + 1 ≤ k) (fun k hk => by rw [hSZ] at hk; exact hk); have HF := Lib.hid (Kd.F_bound hF); have HB := Lib.hid (below_step HB.out hb); have HC := Lib.hid hc; have HWS := Lib.hid hws; clear hb hF hc hws))
    refine hK.out _ _ ?_ (fun hHeld => ?_)
    focus ((try dsimp only); exact kp5 ED.out EP.out HB.out)
    clear hK K
    refine wpAnyH_ready (rs := [6, 19]) (by kernel_rfl) (by simp) ?_
    refine AllReadyH.cons rfl (fun K hK => ?_) ?_
    ·have hcv := conv_blk EB.out
     (try simp only [b5, bG, bZ] at hcv)
     go_simp
     refine hK.out _ _ ?_ (fun hHeld => ?_)
     focus ((try dsimp only); exact kp5 ED.out EP.out HB.out)
     clear hK K
     refine tk 7 46 (v := ?_) rfl rfl (by kernel_rfl) rfl ?_ (by assumption) ?_; rotate_left; focus (intro w hSw; go_simp; try with_reducible rfl)
     try simp only [Act.put, List.setIfInBounds_toArray, List.set_cons_zero, List.set_cons_succ]
     refine tk 18 57 (v := ?_) rfl rfl (by kernel_rfl) rfl ?_ (by assumption) ?_; rotate_left; focus (intro w hSw; go_simp; try with_reducible rfl)
     try simp only [Act.put, List.setIfInBounds_toArray, List.set_cons_zero, List.set_cons_succ]
     refine wpAnyH_ready (rs := [19]) (by kernel_rfl) (by simp) ?_
     refine AllReadyH.cons rfl (fun K hK => ?_) ?_
     ·have EB := Lib.hid (show (wa.alloc (bZ)).heap[W.heap.size]? = some (b5 x) from blk_alloc EB.out _)
      have EG := Lib.hid (show (wa.alloc (bZ)).heap[W.heap.size + 1]? = some (bG) from blk_alloc EG.out _)
      have EZ := Lib.hid (show (wa.alloc (bZ)).heap[wa.heap.size]? = some (bZ) from nwb wa (bZ) _ (by simp only [World.size_alloc]))
      have HB := Lib.hid (show Below W.heap.size W (wa.alloc (bZ)) from blA HB.out HB.out.size)
      have HF := Lib.hid (Kd.F_alloc HF.out (bZ))
      have hSZ : (wa.alloc (bZ)).heap.size = wa.heap.size + 1 := by simp only [hdr5, World.size_alloc]
      simp only [b5, bG, bZ]
      go_simp
      refine hK.out _ _ ?_ (fun hHeld => ?_)
      focus ((try dsimp only); exact kp5 ED.out EP.out HB.out)
      clear hK K
      refine wpAnyH_ready (rs := [20]) (by kernel_rfl) (by simp) ?_
      refine AllReadyH.cons rfl (fun K hK => ?_) ?_
      ·have hst := wr50_blk (cs := cN dir dn (W.heap.size + 1) A11 ws.length c11 x) EZ.out rfl rfl (cN_one _ _ _ _ _ _ _)
       simp only [b5, bG, bZ, cN] at hst
       have HL := lf5 (cN dir dn (W.heap.size + 1) A11 ws.length c11 x) EZ.out EG.out HF.out HB.out (by omega) (by omega) (fun k hk => by have h1 := hk.1; have h2 := hk.2; omega)
       have EX := Lib.hid HL.1; have EG := Lib.hid HL.2.1; have HF := Lib.hid HL.2.2.1; have HB := Lib.hid HL.2.2.2; clear HL
       go_simp
       refine hK.out _ _ ?_ (fun hHeld => ?_)
       focus ((try dsimp only); exact kp5 ED.out EP.out HB.out)
       clear hK K
       refine wpAnyH_done (by kernel_rfl) ?_ _
       refine NoPanic.normal ?_
       exact HPO.out (wa.heap.size) (W.heap.size + 1) _ A11 c11 ws _ _ _ _ _ _ _ _ _ _ _ _ _ _ _ _ _ _ _ HWS.out HC.out HF.out EX.out EG.out (by omega) (by omega) (by omega) HB.out
      exact AllReadyH.nil
     exact AllReadyH.nil
    refine AllReadyH.cons rfl (fun K hK => ?_) ?_
    ·have EB := Lib.hid (show (wa.alloc (bZ)).heap[W.heap.size]? = some (b5 x) from blk_alloc EB.out _)
     have EG := Lib.hid (show (wa.alloc (bZ)).heap[W.heap.size + 1]? = some (bG) from blk_alloc EG.out _)
     have EZ := Lib.hid (show (wa.alloc (bZ)).heap[wa.heap.size]? = some (bZ) from nwb wa (bZ) _ (by simp only [World.size_alloc]))
     have HB := Lib.hid (show Below W.heap.size W (wa.alloc (bZ)) from blA HB.out HB.out.size)
     have HF := Lib.hid (Kd.F_alloc HF.out (bZ))
     have hSZ : (wa.alloc (bZ)).heap.size = wa.heap.size + 1 := by simp only [hdr5, World.size_alloc]
     simp only [b5, bG, bZ]
     go_simp
     refine hK.out _ _ ?_ (fun hHeld => ?_)
     focus ((try dsimp only); exact kp5 ED.out EP.out HB.out)
     clear hK K
     refine wpAnyH_ready (rs := [6]) (by kernel_rfl) (by simp) ?_
     refine AllReadyH.cons rfl (fun K hK => ?_) ?_
     ·have hcv := conv_blk EB.out
      (try simp only [b5, bG, bZ] at hcv)
      go_simp
      refine hK.out _ _ ?_ (fun hHeld => ?_)
      focus ((try dsimp only); exact kp5 ED.out EP.out HB.out)
      clear hK K
      refine tk 7 46 (v := ?_) rfl rfl (by kernel_rfl) rfl ?_ (by assumption) ?_; rotate_left; focus (intro w hSw; go_simp; try with_reducible rfl)
      try simp only [Act.put, List.setIfInBounds_toArray, List.set_cons_zero, List.set_cons_succ]
      refine tk 18 57 (v := ?_) rfl rfl (by kernel_rfl) rfl ?_ (by assumption) ?_; rotate_left; focus (intro w hSw; go_simp; try with_reducible rfl)
      try simp only [Act.put, List.setIfInBounds_toArray, List.set_cons_zero, List.set_cons_succ]
      refine wpAnyH_ready (rs := [20]) (by kernel_rfl) (by simp) ?_
      refine AllReadyH.cons rfl (fun K hK => ?_) ?_
      ·have hst := wr50_blk (cs := cN dir dn (W.heap.size + 1) A11 ws.length c11 x) EZ.out rfl rfl (cN_one _ _ _ _ _ _ _)
       simp only [b5, bG, bZ, cN] at hst
       have HL := lf5 (cN dir dn (W.heap.size + 1) A11 ws.length c11 x) EZ.out EG.out HF.out HB.out (by omega) (by omega) (fun k hk => by have h1 := hk.1; have h2 := hk.2; omega)
       have EX := Lib.hid HL.1; have EG := Lib.hid HL.2.1; have HF := Lib.hid HL.2.2.1; have HB := Lib.hid HL.2.2.2; clear HL
       go_simp
       refine hK.out _ _ ?_ (fun hHeld => ?_)
       focus ((try dsimp only); exact kp5 ED.out EP.out HB.out)
       clear hK K
       refine wpAnyH_done (by kernel_rfl) ?_ _
       refine NoPanic.normal ?_
       exact HPO.out (wa.heap.size) (W.heap.size + 1) _ A11 c11 ws _ _ _ _ _ _ _ _ _ _ _ _ _ _ _ _ _ _ _ HWS.out HC.out HF.out EX.out EG.out (by omega) (by omega) (by omega) HB.out
      exact AllReadyH.nil
     exact AllReadyH.nil
    exact AllReadyH.nil
   refine AllReadyH.cons rfl (fun K hK => ?_) ?_
   ·have EB := Lib.hid (show (((W.alloc (b5 x)).alloc (bG)).alloc (bZ)).drew.heap[W.heap.size]? = some (b5 x) from blk_alloc EB.out _)
    have EG := Lib.hid (show (((W.alloc (b5 x)).alloc (bG)).alloc (bZ)).drew.heap[W.heap.size + 1]? = some (bG) from blk_alloc EG.out _)
    have EZ := Lib.hid (show (((W.alloc (b5 x)).alloc (bG)).alloc (bZ)).drew.heap[W.heap.size + 1 + 1]? = some (bZ) from nwb ((W.alloc (b5 x)).alloc (bG)) (bZ) _ (by simp only [World.size_alloc]))
    have HB := Lib.hid (show Below W.heap.size W (((W.alloc (b5 x)).alloc (bG)).alloc (bZ)).drew from blA HB.out HB.out.size)
    have hSZ : (((W.alloc (b5 x)).alloc (bG)).alloc (bZ)).drew.heap.size = W.heap.size + 1 + 1 + 1 := by simp only [hdr5, World.size_alloc]
    simp only [b5, bG, bZ]
    go_simp
    refine hK.out _ _ ?_ (fun hHeld => ?_)
    focus ((try dsimp only); exact kp5 ED.out EP.out HB.out)
    clear hK K
    refine wpAnyH_ready (rs := [6, 17]) (by kernel_rfl) (by simp) ?_
    refine AllReadyH.cons rfl (fun K hK => ?_) ?_
    ·have hcv := conv_blk EB.out
     (try simp only [b5, bG, bZ] at hcv)
     go_simp
     refine hK.out _ _ ?_ (fun hHeld => ?_)
     focus ((try dsimp only); exact kp5 ED.out EP.out HB.out)
     clear hK K
     refine tk 7 46 (v := ?_) rfl rfl (by kernel_rfl) rfl ?_ (by assumption) ?_; rotate_left; focus (intro w hSw; go_simp; try with_reducible rfl)
     try simp only [Act.put, List.setIfInBounds_toArray, List.set_cons_zero, List.set_cons_succ]
     refine wpAnyH_ready (rs := [17]) (by kernel_rfl) (by simp) ?_
     refine AllReadyH.cons rfl (fun K hK => ?_) ?_
     ·go_simp
      go_wp2_with (go_at_call 39; go_loud (refine (HW.out _ HB.out).mono ?_; rintro e wa ⟨A11, c11, ws, rfl, hws, hc, hF, hb⟩; have EB := Lib.hid (blk_below EB.out hb); have EG := Lib.hid (blk_below EG.out hb); have EZ := Lib.hid (blk_below EZ.out hb); have hz5 := hb.size; rw [hSZ] at hz5; have hF := Kd.F_mono hF (ok' := fun k => W.heap.size + 1 + 1 + 1 ≤ k) (fun k hk => by rw [hSZ] at hk; exact hk); have HF := Lib.hid (Kd.F_bound hF); have HB := Lib.hid (below_step HB.out hb); have HC := Lib.hid hc; have HWS := Lib.hid hws; clear hb hF hc hws))
      refine hK.out _ _ ?_ (fun hHeld => ?_)
      focus ((try dsimp only); exact kp5 ED.out EP.out HB.out)
      clear hK K
      refine tk 18 57 (v := ?_) rfl rfl (by kernel_rfl) rfl ?_ (by assumption) ?_; rotate_left; focus (intro w hSw; go_simp; try with_reducible rfl)
      try simp only [Act.put, List.setIfInBounds_toArray, List.set_cons_zero, List.set_cons_succ]
      refine wpAnyH_ready (rs := [20]) (by kernel_rfl) (by simp) ?_
      refine AllReadyH.cons rfl (fun K hK => ?_) ?_
      ·have hst := wr50_blk (cs := cN dir dn (W.heap.size + 1) A11 ws.length c11 x) EZ.out rfl rfl (cN_one _ _ _ _ _ _ _)
       simp only [b5, bG, bZ, cN] at hst
       have HL := lf5 (cN dir dn (W.heap.size + 1) A11 ws.length c11 x) EZ.out EG.out HF.out HB.out (by omega) (by omega) (fun k hk => by have h1 := hk.1; have h2 := hk.2; omega)
       have EX := Lib.hid HL.1; have EG := Lib.hid HL.2.1; have HF := Lib.hid HL.2.2.1; have HB := Lib.hid HL.2.2.2; clear HL
       go_simp
       refine hK.out _ _ ?_ (fun hHeld => ?_)
       focus ((try dsimp only); exact kp5 ED.out EP.out HB.out)
       clear hK K
       refine wpAnyH_done (by kernel_rfl) ?_ _
       refine NoPanic.normal ?_
       exact HPO.out (W.heap.size + 1 + 1) (W.heap.size + 1) _ A11 c11 ws _ _ _ _ _ _ _ _ _ _ _ _ _ _ _ _ _ _ _ HWS.out HC.out HF.out EX.out EG.out (by omega) (by omega) (by omega) HB.out
      exact AllReadyH.nil
     exact AllReadyH.nil
    refine AllReadyH.cons rfl (fun K hK => ?_) ?_
    ·go_simp
     go_wp2_with (go_at_call 39; go_loud (refine (HW.out _ HB.out).mono ?_; rintro e wa ⟨A11, c11, ws, rfl, hws, hc, hF, hb⟩; have EB := Lib.hid (blk_below EB.out hb); have EG := Lib.hid (blk_below EG.out hb); have EZ := Lib.hid (blk_below EZ.out hb); have hz5 := hb.size; rw [hSZ] at hz5; have hF := Kd.F_mono hF (ok' := fun k => W.heap.size + 1 + 1 + 1 ≤ k) (fun k hk => by rw [hSZ] at hk; exact hk); have HF := Lib.hid (Kd.F_bound hF); have HB := Lib.hid (below_step HB.out hb); have HC := Lib.hid hc; have HWS := Lib.hid hws; clear hb hF hc hws))
     refine hK.out _ _ ?_ (fun hHeld => ?_)
     focus ((try dsimp only); exact kp5 ED.out EP.out HB.out)
     clear hK K
     refine wpAnyH_ready (rs := [6]) (by kernel_rfl) (by simp) ?_
     refine AllReadyH.cons rfl (fun K hK => ?_) ?_
     ·have hcv := conv_blk EB.out
      (try simp only [b5, bG, bZ] at hcv)
      go_simp
      refine hK.out _ _ ?_ (fun hHeld => ?_)
      focus ((try dsimp only); exact kp5 ED.out EP.out HB.out)
      clear hK K
      refine tk 7 46 (v := ?_) rfl rfl (by kernel_rfl) rfl ?_ (by assumption) ?_; rotate_left; focus (intro w hSw; go_simp; try with_reducible rfl)
      try simp only [Act.put, List.setIfInBounds_toArray, List.set_cons_zero, List.set_cons_succ]
      refine tk 18 57 (v := ?_) rfl rfl (by kernel_rfl) rfl ?_ (by assumption) ?_; rotate_left; focus (intro w hSw; go_simp; try with_reducible rfl)
      try simp only [Act.put, List.setIfInBounds_toArray, List.set_cons_zero, List.set_cons_succ]
      refine wpAnyH_ready (rs := [20]) (by kernel_rfl) (by simp) ?_
      refine AllReadyH.cons rfl (fun K hK => ?_) ?_
      ·have hst := wr50_blk (cs := cN dir dn (W.heap.size + 1) A11 ws.length c11 x) EZ.out rfl rfl (cN_one _ _ _ _ _ _ _)
       simp only [b5, bG, bZ, cN] at hst
       have HL := lf5 (cN dir dn (W.heap.size + 1) A11 ws.length c11 x) EZ.out EG.out HF.out HB.out (by omega) (by omega) (fun k hk => by have h1 := hk.1; have h2 := hk.2; omega)
       have EX := Lib.hid HL.1; have EG := Lib.hid HL.2.1; have HF := Lib.hid HL.2.2.1; have HB := Lib.hid HL.2.2.2; clear HL
       go_simp
       refine hK.out _ _ ?_ (fun hHeld => ?_)
       focus ((try dsimp only); exact kp5 ED.out EP.out HB.out)
       clear hK K
       refine wpAnyH_done (by kernel_rfl) ?_ _
       refine NoPanic.normal ?_
       exact HPO.out (W.heap.size + 1 + 1) (W.heap.size + 1) _ A11 c11 ws _ _ _ _ _ _ _ _ _ _ _ _ _ _ _ _ _ _ _ HWS.out HC.out HF.out EX.out EG.out (by omega) (by omega) (by omega) HB.out
      exact AllReadyH.nil
     exact AllReadyH.nil
    exact AllReadyH.nil
   exact AllReadyH.nil
  refine AllReadyH.cons rfl (fun K hK => ?_) ?_
  ·go_simp
   go_wp2_with (go_at_call 39; go_loud (refine (HW.out _ HB.out).mono ?_; rintro e wa ⟨A11, c11, ws, rfl, hws, hc, hF, hb⟩; have EB := Lib.hid (blk_below EB.out hb); have hz5 := hb.size; rw [hSZ] at hz5; have hF := Kd.F_mono hF (ok' := fun k => W.heap.size + 1 ≤ k) (fun k hk => by rw [hSZ] at hk; exact hk); have HF := Lib.hid (Kd.F_bound hF); have HB := Lib.hid (below_step HB.out hb); have HC := Lib.hid hc; have HWS := Lib.hid hws; clear hb hF hc hws))
   refine hK.out _ _ ?_ (fun hHeld => ?_)
   focus ((try dsimp only); exact kp5 ED.out EP.out HB.out)
   clear hK K
   refine wpAnyH_ready (rs := [6, 11, 19]) (by kernel_rfl) (by simp) ?_
   refine AllReadyH.cons rfl (fun K hK => ?_) ?_
   ·have hcv := conv_blk EB.out
    (try simp only [b5, bG, bZ] at hcv)
    go_simp
    refine hK.out _ _ ?_ (fun hHeld => ?_)
    focus ((try dsimp only); exact kp5 ED.out EP.out HB.out)
    clear hK K
    refine tk 7 46 (v := ?_) rfl rfl (by kernel_rfl) rfl ?_ (by assumption) ?_; rotate_left; focus (intro w hSw; go_simp; try with_reducible rfl)
    try simp only [Act.put, List.setIfInBounds_toArray, List.set_cons_zero, List.set_cons_succ]
    refine wpAnyH_ready (rs := [11, 19]) (by kernel_rfl) (by simp) ?_
    refine AllReadyH.cons rfl (fun K hK => ?_) ?_
    ·have EB := Lib.hid (show (wa.alloc (bG)).heap[W.heap.size]? = some (b5 x) from blk_alloc EB.out _)
     have EG := Lib.hid (show (wa.alloc (bG)).heap[wa.heap.size]? = some (bG) from nwb wa (bG) _ (by simp only [World.size_alloc]))
     have HB := Lib.hid (show Below W.heap.size W (wa.alloc (bG)) from blA HB.out HB.out.size)
     have HF := Lib.hid (Kd.F_alloc HF.out (bG))
     have hSZ : (wa.alloc (bG)).heap.size = wa.heap.size + 1 := by simp only [hdr5, World.size_alloc]
     simp only [b5, bG, bZ]
     go_simp
     refine hK.out _ _ ?_ (fun hHeld => ?_)
     focus ((try dsimp only); exact kp5 ED.out EP.out HB.out)
     clear hK K
     refine tk 18 57 (v := ?_) rfl rfl (by kernel_rfl) rfl ?_ (by assumption) ?_; rotate_left; focus (intro w hSw; go_simp; try with_reducible rfl)
     try simp only [Act.put, List.setIfInBounds_toArray, List.set_cons_zero, List.set_cons_succ]
     refine wpAnyH_ready (rs := [19]) (by kernel_rfl) (by simp) ?_
     refine AllReadyH.cons rfl (fun K hK => ?_) ?_
     ·have EB := Lib.hid (show ((wa.alloc (bG)).alloc (bZ)).heap[W.heap.size]? = some (b5 x) from blk_alloc EB.out _)
      have EG := Lib.hid (show ((wa.alloc (bG)).alloc (bZ)).heap[wa.heap.size]? = some (bG) from blk_alloc EG.out _)
      have EZ := Lib.hid (show ((wa.alloc (bG)).alloc (bZ)).heap[wa.heap.size + 1]? = some (bZ) from nwb (wa.alloc (bG)) (bZ) _ (by simp only [World.size_alloc]))
      have HB := Lib.hid (show Below W.heap.size W ((wa.alloc (bG)).alloc (bZ)) from blA HB.out HB.out.size)
      have HF := Lib.hid (Kd.F_alloc HF.out (bZ))
      have hSZ : ((wa.alloc (bG)).alloc (bZ)).heap.size = wa.heap.size + 1 + 1 := by simp only [hdr5, World.size_alloc]
      simp only [b5, bG, bZ]
      go_simp
      refine hK.out _ _ ?_ (fun hHeld => ?_)
      focus ((try dsimp only); exact kp5 ED.out EP.out HB.out)
      clear hK K
      refine wpAnyH_ready (rs := [20]) (by kernel_rfl) (by simp) ?_
      refine AllReadyH.cons rfl (fun K hK => ?_) ?_
      ·have hst := wr50_blk (cs := cN dir dn (wa.heap.size) A11 ws.length c11 x) EZ.out rfl rfl (cN_one _ _ _ _ _ _ _)
       simp only [b5, bG, bZ, cN] at hst
       have HL := lf5 (cN dir dn (wa.heap.size) A11 ws.length c11 x) EZ.out EG.out HF.out HB.out (by omega) (by omega) (fun k hk => by have h1 := hk.1; have h2 := hk.2; omega)
       have EX := Lib.hid HL.1; have EG := Lib.hid HL.2.1; have HF := Lib.hid HL.2.2.1; have HB := Lib.hid HL.2.2.2; clear HL
       go_simp
       refine hK.out _ _ ?_ (fun hHeld => ?_)
       focus ((try dsimp only); exact kp5 ED.out EP.out HB.out)
       clear hK K
       refine wpAnyH_done (by kernel_rfl) ?_ _
       refine NoPanic.normal ?_
       exact HPO.out (wa.heap.size + 1) (wa.heap.size) _ A11 c11 ws _ _ _ _ _ _ _ _ _ _ _ _ _ _ _ _ _ _ _ HWS.out HC.out HF.out EX.out EG.out (by omega) (by omega) (by omega) HB.out
      exact AllReadyH.nil
     exact AllReadyH.nil
    refine AllReadyH.cons rfl (fun K hK => ?_) ?_
    ·have EB := Lib.hid (show (wa.alloc (bZ)).heap[W.heap.size]? = some (b5 x) from blk_alloc EB.out _)
     have EZ := Lib.hid (show (wa.alloc (bZ)).heap[wa.heap.size]? = some (bZ) from nwb wa (bZ) _ (by simp only [World.size_alloc]))
     have HB := Lib.hid (show Below W.heap.size W (wa.alloc (bZ)) from blA HB.out HB.out.size)
     have HF := Lib.hid (Kd.F_alloc HF.out (bZ))
     have hSZ : (wa.alloc (bZ)).heap.size = wa.heap.size + 1 := by simp only [hdr5, World.size_alloc]
     simp only [b5, bG, bZ]
     go_simp
     refine hK.out _ _ ?_ (fun hHeld => ?_)
     focus ((try dsimp only); exact kp5 ED.out EP.out HB.out)
     clear hK K
     refine wpAnyH_ready (rs := [11]) (by kernel_rfl) (by simp) ?_
     refine AllReadyH.cons rfl (fun K hK => ?_) ?_
     ·have EB := Lib.hid (show ((wa.alloc (bZ)).alloc (bG)).heap[W.heap.size]? = some (b5 x) from blk_alloc EB.out _)
      have EZ := Lib.hid (show ((wa.alloc (bZ)).alloc (bG)).heap[wa.heap.size]? = some (bZ) from blk_alloc EZ.out _)
      have EG := Lib.hid (show ((wa.alloc (bZ)).alloc (bG)).heap[wa.heap.size + 1]? = some (bG) from nwb (wa.alloc (bZ)) (bG) _ (by simp only [World.size_alloc]))
      have HB := Lib.hid (show Below W.heap.size W ((wa.alloc (bZ)).alloc (bG)) from blA HB.out HB.out.size)
      have HF := Lib.hid (Kd.F_alloc HF.out (bG))
      have hSZ : ((wa.alloc (bZ)).alloc (bG)).heap.size = wa.heap.size + 1 + 1 := by simp only [hdr5, World.size_alloc]
      simp only [b5, bG, bZ]
      go_simp
      refine hK.out _ _ ?_ (fun hHeld => ?_)
      focus ((try dsimp only); exact kp5 ED.out EP.out HB.out)
      clear hK K
      refine tk 18 57 (v := ?_) rfl rfl (by kernel_rfl) rfl ?_ (by assumption) ?_; rotate_left; focus (intro w hSw; go_simp; try with_reducible rfl)
      try simp only [Act.put, List.setIfInBounds_toArray, List.set_cons_zero, List.set_cons_succ]
      refine wpAnyH_ready (rs := [20]) (by kernel_rfl) (by simp) ?_
      refine AllReadyH.cons rfl (fun K hK => ?_) ?_
      ·have hst := wr50_blk (cs := cN dir dn (wa.heap.size + 1) A11 ws.length c11 x) EZ.out rfl rfl (cN_one _ _ _ _ _ _ _)
       simp only [b5, bG, bZ, cN] at hst
       have HL := lf5 (cN dir dn (wa.heap.size + 1) A11 ws.length c11 x) EZ.out EG.out HF.out HB.out (by omega) (by omega) (fun k hk => by have h1 := hk.1; have h2 := hk.2; omega)
       have EX := Lib.hid HL.1; have EG := Lib.hid HL.2.1; have HF := Lib.hid HL.2.2.1; have HB := Lib.hid HL.2.2.2; clear HL
       go_simp
       refine hK.out _ _ ?_ (fun hHeld => ?_)
       focus ((try dsimp only); exact kp5 ED.out EP.out HB.out)
       clear hK K
       refine wpAnyH_done (by kernel_rfl) ?_ _
       refine NoPanic.normal ?_
       exact HPO.out (wa.heap.size) (wa.heap.size + 1) _ A11 c11 ws _ _ _ _ _ _ _ _ _ _ _ _ _ _ _ _ _ _ _ HWS.out HC.out HF.out EX.out EG.out (by omega) (by omega) (by omega) HB.out
      exact AllReadyH.nil
     exact AllReadyH.nil
    exact AllReadyH.nil
   refine AllReadyH.cons rfl (fun K hK => ?_) ?_
   ·have EB := Lib.hid (show (wa.alloc (bG)).heap[W.heap.size]? = some (b5 x) from blk_alloc EB.out _)
    have EG := Lib.hid (show (wa.alloc (bG)).heap[wa.heap.size]? = some (bG) from nwb wa (bG) _ (by simp only [World.size_alloc]))
    have HB := Lib.hid (show Below W.heap.size W (wa.alloc (bG)) from blA HB.out HB.out.size)
    have HF := Lib.hid (Kd.F_alloc HF.out (bG))
    have hSZ : (wa.alloc (bG)).heap.size = wa.heap.size + 1 := by simp only [hdr5, World.size_alloc]
    simp only [b5, bG, bZ]
    go_simp
    refine hK.out _ _ ?_ (fun hHeld => ?_)
    focus ((try dsimp only); exact kp5 ED.out EP.out HB.out)
    clear hK K
    refine wpAnyH_ready (rs := [6, 19]) (by kernel_rfl) (by simp) ?_
    refine AllReadyH.cons rfl (fun K hK => ?_) ?_
    ·have hcv := conv_blk EB.out
     (try simp only [b5, bG, bZ] at hcv)
     go_simp
     refine hK.out _ _ ?_ (fun hHeld => ?_)
     focus ((try dsimp only); exact kp5 ED.out EP.out HB.out)
     clear hK K
     refine tk 7 46 (v := ?_) rfl rfl (by kernel_rfl) rfl ?_ (by assumption) ?_; rotate_left; focus (intro w hSw; go_simp; try with_reducible rfl)
     try simp only [Act.put, List.setIfInBounds_toArray, List.set_cons_zero, List.set_cons_succ]
     refine tk 18 57 (v := ?_) rfl rfl (by kernel_rfl) rfl ?_ (by assumption) ?_; rotate_left; focus (intro w hSw; go_simp; try with_reducible rfl)
     try simp only [Act.put, List.setIfInBounds_toArray, List.set_cons_zero, List.set_cons_succ]
     refine wpAnyH_ready (rs := [19]) (by kernel_rfl) (by simp) ?_
     refine AllReadyH.cons rfl (fun K hK => ?_) ?_
     ·have EB := Lib.hid (show ((wa.alloc (bG)).alloc (bZ)).heap[W.heap.size]? = some (b5 x) from blk_alloc EB.out _)
      have EG := Lib.hid (show ((wa.alloc (bG)).alloc (bZ)).heap[wa.heap.size]? = some (bG) from blk_alloc EG.out _)
      have EZ := Lib.hid (show ((wa.alloc (bG)).alloc (bZ)).heap[wa.heap.size + 1]? = some (bZ) from nwb (wa.alloc (bG)) (bZ) _ (by simp only [World.size_alloc]))
      have HB := Lib.hid (show Below W.heap.size W ((wa.alloc (bG)).alloc (bZ)) from blA HB.out HB.out.size)
      have HF := Lib.hid (Kd.F_alloc HF.out (bZ))
      have hSZ : ((wa.alloc (bG)).alloc (bZ)).heap.size = wa.heap.size + 1 + 1 := by simp only [hdr5, World.size_alloc]
      simp only [b5, bG, bZ]
      go_simp
      refine hK.out _ _ ?_ (fun hHeld => ?_)
      focus ((try dsimp only); exact kp5 ED.out EP.out HB.out)
      clear hK K
      refine wpAnyH_ready (rs := [20]) (by kernel_rfl) (by simp) ?_
      refine AllReadyH.cons rfl (fun K hK => ?_) ?_
      ·have hst := wr50_blk (cs := cN dir dn (wa.heap.size) A11 ws.length c11 x) EZ.out rfl rfl (cN_one _ _ _ _ _ _ _)
       simp only [b5, bG, bZ, cN] at hst
       have HL := lf5 (cN dir dn (wa.heap.size) A11 ws.length c11 x) EZ.out EG.out HF.out HB.out (by omega) (by omega) (fun k hk => by have h1 := hk.1; have h2 := hk.2; omega)
       have EX := Lib.hid HL.1; have EG := Lib.hid HL.2.1; have HF := Lib.hid HL.2.2.1; have HB := Lib.hid HL.2.2.2; clear HL
       go_simp
       refine hK.out _ _ ?_ (fun hHeld => ?_)
       focus ((try dsimp only); exact kp5 ED.out EP.out HB.out)
       clear hK K
       refine wpAnyH_done (by kernel_rfl) ?_ _
       refine NoPanic.normal ?_
       exact HPO.out (wa.heap.size + 1) (wa.heap.size) _ A11 c11 ws _ _ _ _ _ _ _ _ _ _ _ _ _ _ _ _ _ _ _ HWS.out HC.out HF.out EX.out EG.out (by omega) (by omega) (by omega) HB.out
      exact AllReadyH.nil
     exact AllReadyH.nil
    refine AllReadyH.cons rfl (fun K hK => ?_) ?_
    ·have EB := Lib.hid (show ((wa.alloc (bG)).alloc (bZ)).heap[W.heap.size]? = some (b5 x) from blk_alloc EB.out _)
     have EG := Lib.hid (show ((wa.alloc (bG)).alloc (bZ)).heap[wa.heap.size]? = some (bG) from blk_alloc EG.out _)
     have EZ := Lib.hid (show ((wa.alloc (bG)).alloc (bZ)).heap[wa.heap.size + 1]? = some (bZ) from nwb (wa.alloc (bG)) (bZ) _ (by simp only [World.size_alloc]))
     have HB := Lib.hid (show Below W.heap.size W ((wa.alloc (bG)).alloc (bZ)) from blA HB.out HB.out.size)
     have HF := Lib.hid (Kd.F_alloc HF.out (bZ))
     have hSZ : ((wa.alloc (bG)).alloc (bZ)).heap.size = wa.heap.size + 1 + 1 := by simp only [hdr5, World.size_alloc]
     simp only [b5, bG, bZ]
     go_simp
     refine hK.out _ _ ?_ (fun hHeld => ?_)
     focus ((try dsimp only); exact kp5 ED.out EP.out HB.out)
     clear hK K
     refine wpAnyH_ready (rs := [6]) (by kernel_rfl) (by simp) ?_
     refine AllReadyH.cons rfl (fun K hK => ?_) ?_
     ·have hcv := conv_blk EB.out
      (try simp only [b5, bG, bZ] at hcv)
      go_simp
      refine hK.out _ _ ?_ (fun hHeld => ?_)
      focus ((try dsimp only); exact kp5 ED.out EP.out HB.out)
      clear hK K
      refine tk 7 46 (v := ?_) rfl rfl (by kernel_rfl) rfl ?_ (by assumption) ?_; rotate_left; focus (intro w hSw; go_simp; try with_reducible rfl)
      try simp only [Act.put, List.setIfInBounds_toArray, List.set_cons_zero, List.set_cons_succ]
      refine tk 18 57 (v := ?_) rfl rfl (by kernel_rfl) rfl ?_ (by assumption) ?_; rotate_left; focus (intro w hSw; go_simp; try with_reducible rfl)
      try simp only [Act.put, List.setIfInBounds_toArray, List.set_cons_zero, List.set_cons_succ]
      refine wpAnyH_ready (rs := [20]) (by kernel_rfl) (by simp) ?_
      refine AllReadyH.cons rfl (fun K hK => ?_) ?_
      ·have hst := wr50_blk (cs := cN dir dn (wa.heap.size) A11 ws.length c11 x) EZ.out rfl rfl (cN_one _ _ _ _ _ _ _)
       simp only [b5, bG, bZ, cN] at hst
       have HL := lf5 (cN dir dn (wa.heap.size) A11 ws.length c11 x) EZ.out EG.out HF.out HB.out (by omega) (by omega) (fun k hk => by have h1 := hk.1; have h2 := hk.2; omega)
       have EX := Lib.hid HL.1; have EG := Lib.hid HL.2.1; have HF := Lib.hid HL.2.2.1; have HB := Lib.hid HL.2.2.2; clear HL
       go_simp
       refine hK.out _ _ ?_ (fun hHeld => ?_)
       focus ((try dsimp only); exact kp5 ED.out EP.out HB.out)
       clear hK K
       refine wpAnyH_done (by kernel_rfl) ?_ _
       refine NoPanic.normal ?_
       exact HPO.out (wa.heap.size + 1) (wa.heap.size) _ A11 c11 ws _ _ _ _ _ _ _ _ _ _ _ _ _ _ _ _ _ _ _ HWS.out HC.out HF.out EX.out EG.out (by omega) (by omega) (by omega) HB.out
      exact AllReadyH.nil
     exact AllReadyH.nil
    exact AllReadyH.nil
   refine AllReadyH.cons rfl (fun K hK => ?_) ?_
   ·have EB := Lib.hid (show (wa.alloc (bZ)).heap[W.heap.size]? = some (b5 x) from blk_alloc EB.out _)
    have EZ := Lib.hid (show (wa.alloc (bZ)).heap[wa.heap.size]? = some (bZ) from nwb wa (bZ) _ (by simp only [World.size_alloc]))
    have HB := Lib.hid (show Below W.heap.size W (wa.alloc (bZ)) from blA HB.out HB.out.size)
    have HF := Lib.hid (Kd.F_alloc HF.out (bZ))
    have hSZ : (wa.alloc (bZ)).heap.size = wa.heap.size + 1 := by simp only [hdr5, World.size_alloc]
    simp only [b5, bG, bZ]
    go_simp
    refine hK.out _ _ ?_ (fun hHeld => ?_)
    focus ((try dsimp only); exact kp5 ED.out EP.out HB.out)
    clear hK K
    refine wpAnyH_ready (rs := [6, 11]) (by kernel_rfl) (by simp) ?_
    refine AllReadyH.cons rfl (fun K hK => ?_) ?_
    ·have hcv := conv_blk EB.out
     (try simp only [b5, bG, bZ] at hcv)
     go_simp
     refine hK.out _ _ ?_ (fun hHeld => ?_)
     focus ((try dsimp only); exact kp5 ED.out EP.out HB.out)
     clear hK K
     refine tk 7 46 (v := ?_) rfl rfl (by kernel_rfl) rfl ?_ (by assumption) ?_; rotate_left; focus (intro w hSw; go_simp; try with_reducible rfl)
     try simp only [Act.put, List.setIfInBounds_toArray, List.set_cons_zero, List.set_cons_succ]
     refine wpAnyH_ready (rs := [11]) (by kernel_rfl) (by simp) ?_
     refine AllReadyH.cons rfl (fun K hK => ?_) ?_
     ·have EB := Lib.hid (show ((wa.alloc (bZ)).alloc (bG)).heap[W.heap.size]? = some (b5 x) from blk_alloc EB.out _)
      have EZ := Lib.hid (show ((wa.alloc (bZ)).alloc (bG)).heap[wa.heap.size]? = some (bZ) from blk_alloc EZ.out _)
      have EG := Lib.hid (show ((wa.alloc (bZ)).alloc (bG)).heap[wa.heap.size + 1]? = some (bG) from nwb (wa.alloc (bZ)) (bG) _ (by simp only [World.size_alloc]))
      have HB := Lib.hid (show Below W.heap.size W ((wa.alloc (bZ)).alloc (bG)) from blA HB.out HB.out.size)
      have HF := Lib.hid (Kd.F_alloc HF.out (bG))
      have hSZ : ((wa.alloc (bZ)).alloc (bG)).heap.size = wa.heap.size + 1 + 1 := by simp only [hdr5, World.size_alloc]
      simp only [b5, bG, bZ]
      go_simp
      refine hK.out _ _ ?_ (fun hHeld => ?_)
      focus ((try dsimp only); exact kp5 ED.out EP.out HB.out)
      clear hK K
      refine tk 18 57 (v := ?_) rfl rfl (by kernel_rfl) rfl ?_ (by assumption) ?_; rotate_left; focus (intro w hSw; go_simp; try with_reducible rfl)
      try simp only [Act.put, List.setIfInBounds_toArray, List.set_cons_zero, List.set_cons_succ]
      refine wpAnyH_ready (rs := [20]) (by kernel_rfl) (by simp) ?_
      refine AllReadyH.cons rfl (fun K hK => ?_) ?_
      ·have hst := wr50_blk (cs := cN dir dn (wa.heap.size + 1) A11 ws.length c11 x) EZ.out rfl rfl (cN_one _ _ _ _ _ _ _)
       simp only [b5, bG, bZ, cN] at hst
       have HL := lf5 (cN dir dn (wa.heap.size + 1) A11 ws.length c11 x) EZ.out EG.out HF.out HB.out (by omega) (by omega) (fun k hk => by have h1 := hk.1; have h2 := hk.2; omega)
       have EX := Lib.hid HL.1; have EG := Lib.hid HL.2.1; have HF := Lib.hid HL.2.2.1; have HB := Lib.hid HL.2.2.2; clear HL
       go_simp
       refine hK.out _ _ ?_ (fun hHeld => ?_)
       focus ((try dsimp only); exact kp5 ED.out EP.out HB.out)
       clear hK K
       refine wpAnyH_done (by kernel_rfl) ?_ _
       refine NoPanic.normal ?_
       exact HPO.out (wa.heap.size) (wa.heap.size + 1) _ A11 c11 ws _ _ _ _ _ _ _ _ _ _ _ _ _ _ _ _ _ _ _ HWS.out HC.out HF.out EX.out EG.out (by omega) (by omega) (by omega) HB.out
      exact AllReadyH.nil
     exact AllReadyH.nil
    refine AllReadyH.cons rfl (fun K hK => ?_) ?_
    ·have EB := Lib.hid (show ((wa.alloc (bZ)).alloc (bG)).heap[W.heap.size]? = some (b5 x) from blk_alloc EB.out _)
     have EZ := Lib.hid (show ((wa.alloc (bZ)).alloc (bG)).heap[wa.heap.size]? = some (bZ) from blk_alloc EZ.out _)
     have EG := Lib.hid (show ((wa.alloc (bZ)).alloc (bG)).heap[wa.heap.size + 1]? = some (bG) from nwb (wa.alloc (bZ)) (bG) _ (by simp only [World.size_alloc]))
     have HB := Lib.hid (show Below W.heap.size W ((wa.alloc (bZ)).alloc (bG)) from blA HB.out HB.out.size)
     have HF := Lib.hid (Kd.F_alloc HF.out (bG))
     have hSZ : ((wa.alloc (bZ)).alloc (bG)).heap.size = wa.heap.size + 1 + 1 := by simp only [hdr5, World.size_alloc]
     simp only [b5, bG, bZ]
     go_simp
     refine hK.out _ _ ?_ (fun hHeld => ?_)
     focus ((try dsimp only); exact kp5 ED.out EP.out HB.out)
     clear hK K
     refine wpAnyH_ready (rs := [6]) (by kernel_rfl) (by simp) ?_
     refine AllReadyH.cons rfl (fun K hK => ?_) ?_
     ·have hcv := conv_blk EB.out
      (try simp only [b5, bG, bZ] at hcv)
      go_simp
      refine hK.out _ _ ?_ (fun hHeld => ?_)
      focus ((try dsimp only); exact kp5 ED.out EP.out HB.out)
      clear hK K
      refine tk 7 46 (v := ?_) rfl rfl (by kernel_rfl) rfl ?_ (by assumption) ?_; rotate_left; focus (intro w hSw; go_simp; try with_reducible rfl)
      try simp only [Act.put, List.setIfInBounds_toArray, List.set_cons_zero, List.set_cons_succ]
      refine tk 18 57 (v := ?_) rfl rfl (by kernel_rfl) rfl ?_ (by assumption) ?_; rotate_left; focus (intro w hSw; go_simp; try with_reducible rfl)
      try simp only [Act.put, List.setIfInBounds_toArray, List.set_cons_zero, List.set_cons_succ]
      refine wpAnyH_ready (rs := [20]) (by kernel_rfl) (by simp) ?_
      refine AllReadyH.cons rfl (fun K hK => ?_) ?_
      ·have hst := wr50_blk (cs := cN dir dn (wa.heap.size + 1) A11 ws.length c11 x) EZ.out rfl rfl (cN_one _ _ _ _ _ _ _)
       simp only [b5, bG, bZ, cN] at hst
       have HL := lf5 (cN dir dn (wa.heap.size + 1) A11 ws.length c11 x) EZ.out EG.out HF.out HB.out (by omega) (by omega) (fun k hk => by have h1 := hk.1; have h2 := hk.2; omega)
       have EX := Lib.hid HL.1; have EG := Lib.hid HL.2.1; have HF := Lib.hid HL.2.2.1; have HB := Lib.hid HL.2.2.2; clear HL
       go_simp
       refine hK.out _ _ ?_ (fun hHeld => ?_)
       focus ((try dsimp only); exact kp5 ED.out EP.out HB.out)
       clear hK K
       refine wpAnyH_done (by kernel_rfl) ?_ _
       refine NoPanic.normal ?_
       exact HPO.out (wa.heap.size) (wa.heap.size + 1) _ A11 c11 ws _ _ _ _ _ _ _ _ _ _ _ _ _ _ _ _ _ _ _ HWS.out HC.out HF.out EX.out EG.out (by omega) (by omega) (by omega) HB.out
      exact AllReadyH.nil
     exact AllReadyH.nil
    exact AllReadyH.nil
   exact AllReadyH.nil
  refine AllReadyH.cons rfl (fun K hK => ?_) ?_
  ·have EB := Lib.hid (show ((W.alloc (b5 x)).alloc (bZ)).drew.heap[W.heap.size]? = some (b5 x) from blk_alloc EB.out _)
   have EZ := Lib.hid (show ((W.alloc (b5 x)).alloc (bZ)).drew.heap[W.heap.size + 1]? = some (bZ) from nwb (W.alloc (b5 x)) (bZ) _ (by simp only [World.size_alloc]))
   have HB := Lib.hid (show Below W.heap.size W ((W.alloc (b5 x)).alloc (bZ)).drew from blA HB.out HB.out.size)
   have hSZ : ((W.alloc (b5 x)).alloc (bZ)).drew.heap.size = W.heap.size + 1 + 1 := by simp only [hdr5, World.size_alloc]
   simp only [b5, bG, bZ]
   go_simp
   refine hK.out _ _ ?_ (fun hHeld => ?_)
   focus ((try dsimp only); exact kp5 ED.out EP.out HB.out)
   clear hK K
   refine wpAnyH_ready (rs := [6, 11, 17]) (by kernel_rfl) (by simp) ?_
   refine AllReadyH.cons rfl (fun K hK => ?_) ?_
   ·have hcv := conv_blk EB.out
    (try simp only [b5, bG, bZ] at hcv)
    go_simp
    refine hK.out _ _ ?_ (fun hHeld => ?_)
    focus ((try dsimp only); exact kp5 ED.out EP.out HB.out)
    clear hK K
    refine tk 7 46 (v := ?_) rfl rfl (by kernel_rfl) rfl ?_ (by assumption) ?_; rotate_left; focus (intro w hSw; go_simp; try with_reducible rfl)
    try simp only [Act.put, List.setIfInBounds_toArray, List.set_cons_zero, List.set_cons_succ]
    refine wpAnyH_ready (rs := [11, 17]) (by kernel_rfl) (by simp) ?_
    refine AllReadyH.cons rfl (fun K hK => ?_) ?_
    ·have EB := Lib.hid (show (((W.alloc (b5 x)).alloc (bZ)).alloc (bG)).drew.heap[W.heap.size]? = some (b5 x) from blk_alloc EB.out _)
     have EZ := Lib.hid (show (((W.alloc (b5 x)).alloc (bZ)).alloc (bG)).drew.heap[W.heap.size + 1]? = some (bZ) from blk_alloc EZ.out _)
     have EG := Lib.hid (show (((W.alloc (b5 x)).alloc (bZ)).alloc (bG)).drew.heap[W.heap.size + 1 + 1]? = some (bG) from nwb ((W.alloc (b5 x)).alloc (bZ)) (bG) _ (by simp only [World.size_alloc]))
     have HB := Lib.hid (show Below W.heap.size W (((W.alloc (b5 x)).alloc (bZ)).alloc (bG)).drew from blA HB.out HB.out.size)
     have hSZ : (((W.alloc (b5 x)).alloc (bZ)).alloc (bG)).drew.heap.size = W.heap.size + 1 + 1 + 1 := by simp only [hdr5, World.size_alloc]
     simp only [b5, bG, bZ]
     go_simp
     refine hK.out _ _ ?_ (fun hHeld => ?_)
     focus ((try dsimp only); exact kp5 ED.out EP.out HB.out)
     clear hK K
     refine wpAnyH_ready (rs := [17]) (by kernel_rfl) (by simp) ?_
     refine AllReadyH.cons rfl (fun K hK => ?_) ?_
     ·go_simp
      go_wp2_with (go_at_call 39; go_loud (refine (HW.out _ HB.out).mono ?_; rintro e wa ⟨A11, c11, ws, rfl, hws, hc, hF, hb⟩; have EB := Lib.hid (blk_below EB.out hb); have EG := Lib.hid (blk_below EG.out hb); have EZ := Lib.hid (blk_below EZ.out hb); have hz5 := hb.size; rw [hSZ] at hz5; have hF := Kd.F_mono hF (ok' := fun k => W.heap.size + 1 + 1 + 1 ≤ k) (fun k hk => by rw [hSZ] at hk; exact hk); have HF := Lib.hid (Kd.F_bound hF); have HB := Lib.hid (below_step HB.out hb); have HC := Lib.hid hc; have HWS := Lib.hid hws; clear hb hF hc hws))
      refine hK.out _ _ ?_ (fun hHeld => ?_)
      focus ((try dsimp only); exact kp5 ED.out EP.out HB.out)
      clear hK K
      refine tk 18 57 (v := ?_) rfl rfl (by kernel_rfl) rfl ?_ (by assumption) ?_; rotate_left; focus (intro w hSw; go_simp; try with_reducible rfl)
      try simp only [Act.put, List.setIfInBounds_toArray, List.set_cons_zero, List.set_cons_succ]
      refine wpAnyH_ready (rs := [20]) (by kernel_rfl) (by simp) ?_
      refine AllReadyH.cons rfl (fun K hK => ?_) ?_
      ·have hst := wr50_blk (cs := cN dir dn (W.heap.size + 1 + 1) A11 ws.length c11 x) EZ.out rfl rfl (cN_one _ _ _ _ _ _ _)
       simp only [b5, bG, bZ, cN] at hst
       have HL := lf5 (cN dir dn (W.heap.size + 1 + 1) A11 ws.length c11 x) EZ.out EG.out HF.out HB.out (by omega) (by omega) (fun k hk => by have h1 := hk.1; have h2 := hk.2; omega)
       have EX := Lib.hid HL.1; have EG := Lib.hid HL.2.1; have HF := Lib.hid HL.2.2.1; have HB := Lib.hid HL.2.2.2; clear HL
       go_simp
       refine hK.out _ _ ?_ (fun hHeld => ?_)
       focus ((try dsimp only); exact kp5 ED.out EP.out HB.out)
       clear hK K
       refine wpAnyH_done (by kernel_rfl) ?_ _
       refine NoPanic.normal ?_
       exact HPO.out (W.heap.size + 1) (W.heap.size + 1 + 1) _ A11 c11 ws _ _ _ _ _ _ _ _ _ _ _ _ _ _ _ _ _ _ _ HWS.out HC.out HF.out EX.out EG.out (by omega) (by omega) (by omega) HB.out
      exact AllReadyH.nil
     exact AllReadyH.nil
    refine AllReadyH.cons rfl (fun K hK => ?_) ?_
    ·go_simp
     go_wp2_with (go_at_call 39; go_loud (refine (HW.out _ HB.out).mono ?_; rintro e wa ⟨A11, c11, ws, rfl, hws, hc, hF, hb⟩; have EB := Lib.hid (blk_below EB.out hb); have EZ := Lib.hid (blk_below EZ.out hb); have hz5 := hb.size; rw [hSZ] at hz5; have hF := Kd.F_mono hF (ok' := fun k => W.heap.size + 1 + 1 ≤ k) (fun k hk => by rw [hSZ] at hk; exact hk); have HF := Lib.hid (Kd.F_bound hF); have HB := Lib.hid (below_step HB.out hb); have HC := Lib.hid hc; have HWS := Lib.hid hws; clear hb hF hc hws))
     refine hK.out _ _ ?_ (fun hHeld => ?_)
     focus ((try dsimp only); exact kp5 ED.out EP.out HB.out)
     clear hK K
     refine wpAnyH_ready (rs := [11]) (by kernel_rfl) (by simp) ?_
     refine AllReadyH.cons rfl (fun K hK => ?_) ?_
     ·have EB := Lib.hid (show (wa.alloc (bG)).heap[W.heap.size]? = some (b5 x) from blk_alloc EB.out _)
      have EZ := Lib.hid (show (wa.alloc (bG)).heap[W.heap.size + 1]? = some (bZ) from blk_alloc EZ.out _)
      have EG := Lib.hid (show (wa.alloc (bG)).heap[wa.heap.size]? = some (bG) from nwb wa (bG) _ (by simp only [World.size_alloc]))
      have HB := Lib.hid (show Below W.heap.size W (wa.alloc (bG)) from blA HB.out HB.out.size)
      have HF := Lib.hid (Kd.F_alloc HF.out (bG))
      have hSZ : (wa.alloc (bG)).heap.size = wa.heap.size + 1 := by simp only [hdr5, World.size_alloc]
      simp only [b5, bG, bZ]
      go_simp
      refine hK.out _ _ ?_ (fun hHeld => ?_)
      focus ((try dsimp only); exact kp5 ED.out EP.out HB.out)
      clear hK K
      refine tk 18 57 (v := ?_) rfl rfl (by kernel_rfl) rfl ?_ (by assumption) ?_; rotate_left; focus (intro w hSw; go_simp; try with_reducible rfl)
      try simp only [Act.put, List.setIfInBounds_toArray, List.set_cons_zero, List.set_cons_succ]
      refine wpAnyH_ready (rs := [20]) (by kernel_rfl) (by simp) ?_
      refine AllReadyH.cons rfl (fun K hK => ?_) ?_
      ·have hst := wr50_blk (cs := cN dir dn (wa.heap.size) A11 ws.length c11 x) EZ.out rfl rfl (cN_one _ _ _ _ _ _ _)
       simp only [b5, bG, bZ, cN] at hst
       have HL := lf5 (cN dir dn (wa.heap.size) A11 ws.length c11 x) EZ.out EG.out HF.out HB.out (by omega) (by omega) (fun k hk => by have h1 := hk.1; have h2 := hk.2; omega)
       have EX := Lib.hid HL.1; have EG := Lib.hid HL.2.1; have HF := Lib.hid HL.2.2.1; have HB := Lib.hid HL.2.2.2; clear HL
       go_simp
       refine hK.out _ _ ?_ (fun hHeld => ?_)
       focus ((try dsimp only); exact kp5 ED.out EP.out HB.out)
       clear hK K
       refine wpAnyH_done (by kernel_rfl) ?_ _
       refine NoPanic.normal ?_
       exact HPO.out (W.heap.size + 1) (wa.heap.size) _ A11 c11 ws _ _ _ _ _ _ _ _ _ _ _ _ _ _ _ _ _ _ _ HWS.out HC.out HF.out EX.out EG.out (by omega) (by omega) (by omega) HB.out
      exact AllReadyH.nil
     exact AllReadyH.nil
    exact AllReadyH.nil
   refine AllReadyH.cons rfl (fun K hK => ?_) ?_
   ·have EB := Lib.hid (show (((W.alloc (b5 x)).alloc (bZ)).alloc (bG)).drew.heap[W.heap.size]? = some (b5 x) from blk_alloc EB.out _)
    have EZ := Lib.hid (show (((W.alloc (b5 x)).alloc (bZ)).alloc (bG)).drew.heap[W.heap.size + 1]? = some (bZ) from blk_alloc EZ.out _)
    have EG := Lib.hid (show (((W.alloc (b5 x)).alloc (bZ)).alloc (bG)).drew.heap[W.heap.size + 1 + 1]? = some (bG) from nwb ((W.alloc (b5 x)).alloc (bZ)) (bG) _ (by simp only [World.size_alloc]))
    have HB := Lib.hid (show Below W.heap.size W (((W.alloc (b5 x)).alloc (bZ)).alloc (bG)).drew from blA HB.out HB.out.size)
    have hSZ : (((W.alloc (b5 x)).alloc (bZ)).alloc (bG)).drew.heap.size = W.heap.size + 1 + 1 + 1 := by simp only [hdr5, World.size_alloc]
    simp only [b5, bG, bZ]
    go_simp
    refine hK.out _ _ ?_ (fun hHeld => ?_)
    focus ((try dsimp only); exact kp5 ED.out EP.out HB.out)
    clear hK K
    refine wpAnyH_ready (rs := [6, 17]) (by kernel_rfl) (by simp) ?_
    refine AllReadyH.cons rfl (fun K hK => ?_) ?_
    ·have hcv := conv_blk EB.out
     (try simp only [b5, bG, bZ] at hcv)
     go_simp
     refine hK.out _ _ ?_ (fun hHeld => ?_)
     focus ((try dsimp only); exact kp5 ED.out EP.out HB.out)
     clear hK K
     refine tk 7 46 (v := ?_) rfl rfl (by kernel_rfl) rfl ?_ (by assumption) ?_; rotate_left; focus (intro w hSw; go_simp; try with_reducible rfl)
     try simp only [Act.put, List.setIfInBounds_toArray, List.set_cons_zero, List.set_cons_succ]
     refine wpAnyH_ready (rs := [17]) (by kernel_rfl) (by simp) ?_
     refine AllReadyH.cons rfl (fun K hK => ?_) ?_
     ·go_simp
      go_wp2_with (go_at_call 39; go_loud (refine (HW.out _ HB.out).mono ?_; rintro e wa ⟨A11, c11, ws, rfl, hws, hc, hF, hb⟩; have EB := Lib.hid (blk_below EB.out hb); have EG := Lib.hid (blk_below EG.out hb); have EZ := Lib.hid (blk_below EZ.out hb); have hz5 := hb.size; rw [hSZ] at hz5; have hF := Kd.F_mono hF (ok' := fun k => W.heap.size + 1 + 1 + 1 ≤ k) (fun k hk => by rw [hSZ] at hk; exact hk); have HF := Lib.hid (Kd.F_bound hF); have HB := Lib.hid (below_step HB.out hb); have HC := Lib.hid hc; have HWS := Lib.hid hws; clear hb hF hc hws))
      refine hK.out _ _ ?_ (fun hHeld => ?_)
      focus ((try dsimp only); exact kp5 ED.out EP.out HB.out)
      clear hK K
      refine tk 18 57 (v := ?_) rfl rfl (by kernel_rfl) rfl ?_ (by assumption) ?_; rotate_left; focus (intro w hSw; go_simp; try with_reducible rfl)
      try simp only [Act.put, List.setIfInBounds_toArray, List.set_cons_zero, List.set_cons_succ]
      refine wpAnyH_ready (rs := [20]) (by kernel_rfl) (by simp) ?_
      refine AllReadyH.cons rfl (fun K hK => ?_) ?_
      ·have hst := wr50_blk (cs := cN dir dn (W.heap.size + 1 + 1) A11 ws.length c11 x) EZ.out rfl rfl (cN_one _ _ _ _ _ _ _)
       simp only [b5, bG, bZ, cN] at hst
       have HL := lf5 (cN dir dn (W.heap.size + 1 + 1) A11 ws.length c11 x) EZ.out EG.out HF.out HB.out (by omega) (by omega) (fun k hk => by have h1 := hk.1; have h2 := hk.2; omega)
       have EX := Lib.hid HL.1; have EG := Lib.hid HL.2.1; have HF := Lib.hid HL.2.2.1; have HB := Lib.hid HL.2.2.2; clear HL
       go_simp
       refine hK.out _ _ ?_ (fun hHeld => ?_)
       focus ((try dsimp only); exact kp5 ED.out EP.out HB.out)
       clear hK K
       refine wpAnyH_done (by kernel_rfl) ?_ _
       refine NoPanic.normal ?_
       exact HPO.out (W.heap.size + 1) (W.heap.size + 1 + 1) _ A11 c11 ws _ _ _ _ _ _ _ _ _ _ _ _ _ _ _ _ _ _ _ HWS.out HC.out HF.out EX.out EG.out (by omega) (by omega) (by omega) HB.out
      exact AllReadyH.nil
     exact AllReadyH.nil
    refine AllReadyH.cons rfl (fun K hK => ?_) ?_
    ·go_simp
     go_wp2_with (go_at_call 39; go_loud (refine (HW.out _ HB.out).mono ?_; rintro e wa ⟨A11, c11, ws, rfl, hws, hc, hF, hb⟩; have EB := Lib.hid (blk_below EB.out hb); have EG := Lib.hid (blk_below EG.out hb); have EZ := Lib.hid (blk_below EZ.out hb); have hz5 := hb.size; rw [hSZ] at hz5; have hF := Kd.F_mono hF (ok' := fun k => W.heap.size + 1 + 1 + 1 ≤ k) (fun k hk => by rw [hSZ] at hk; exact hk); have HF := Lib.hid (Kd.F_bound hF); have HB := Lib.hid (below_step HB.out hb); have HC := Lib.hid hc; have HWS := Lib.hid hws; clear hb hF hc hws))
     refine hK.out _ _ ?_ (fun hHeld => ?_)
     focus ((try dsimp only); exact kp5 ED.out EP.out HB.out)
     clear hK K
     refine wpAnyH_ready (rs := [6]) (by kernel_rfl) (by simp) ?_
     refine AllReadyH.cons rfl (fun K hK => ?_) ?_
     ·have hcv := conv_blk EB.out
      (try simp only [b5, bG, bZ] at hcv)
      go_simp
      refine hK.out _ _ ?_ (fun hHeld => ?_)
      focus ((try dsimp only); exact kp5 ED.out EP.out HB.out)
      clear hK K
      refine tk 7 46 (v := ?_) rfl rfl (by kernel_rfl) rfl ?_ (by assumption) ?_; rotate_left; focus (intro w hSw; go_simp; try with_reducible rfl)
      try simp only [Act.put, List.setIfInBounds_toArray, List.set_cons_zero, List.set_cons_succ]
      refine tk 18 57 (v := ?_) rfl rfl (by kernel_rfl) rfl ?_ (by assumption) ?_; rotate_left; focus (intro w hSw; go_simp; try with_reducible rfl)
      try simp only [Act.put, List.setIfInBounds_toArray, List.set_cons_zero, List.set_cons_succ]
      refine wpAnyH_ready (rs := [20]) (by kernel_rfl) (by simp) ?_
      refine AllReadyH.cons rfl (fun K hK => ?_) ?_
      ·have hst := wr50_blk (cs := cN dir dn (W.heap.size + 1 + 1) A11 ws.length c11 x) EZ.out rfl rfl (cN_one _ _ _ _ _ _ _)
       simp only [b5, bG, bZ, cN] at hst
       have HL := lf5 (cN dir dn (W.heap.size + 1 + 1) A11 ws.length c11 x) EZ.out EG.out HF.out HB.out (by omega) (by omega) (fun k hk => by have h1 := hk.1; have h2 := hk.2; omega)
       have EX := Lib.hid HL.1; have EG := Lib.hid HL.2.1; have HF := Lib.hid HL.2.2.1; have HB := Lib.hid HL.2.2.2; clear HL
       go_simp
       refine hK.out _ _ ?_ (fun hHeld => ?_)
       focus ((try dsimp only); exact kp5 ED.out EP.out HB.out)
       clear hK K
       refine wpAnyH_done (by kernel_rfl) ?_ _
       refine NoPanic.normal ?_
       exact HPO.out (W.heap.size + 1) (W.heap.size + 1 + 1) _ A11 c11 ws _ _ _ _ _ _ _ _ _ _ _ _ _ _ _ _ _ _ _ HWS.out HC.out HF.out EX.out EG.out (by omega) (by omega) (by omega) HB.out
      exact AllReadyH.nil
     exact AllReadyH.nil
    exact AllReadyH.nil
   refine AllReadyH.cons rfl (fun K hK => ?_) ?_
   ·go_simp
    go_wp2_with (go_at_call 39; go_loud (refine (HW.out _ HB.out).mono ?_; rintro e wa ⟨A11, c11, ws, rfl, hws, hc, hF, hb⟩; have EB := Lib.hid (blk_below EB.out hb); have EZ := Lib.hid (blk_below EZ.out hb); have hz5 := hb.size; rw [hSZ] at hz5; have hF := Kd.F_mono hF (ok' := fun k => W.heap.size + 1 + 1 ≤ k) (fun k hk => by rw [hSZ] at hk; exact hk); have HF := Lib.hid (Kd.F_bound hF); have HB := Lib.hid (below_step HB.out hb); have HC := Lib.hid hc; have HWS := Lib.hid hws; clear hb hF hc hws))
    refine hK.out _ _ ?_ (fun hHeld => ?_)
    focus ((try dsimp only); exact kp5 ED.out EP.out HB.out)
    clear hK K
    refine wpAnyH_ready (rs := [6, 11]) (by kernel_rfl) (by simp) ?_
    refine AllReadyH.cons rfl (fun K hK => ?_) ?_
    ·have hcv := conv_blk EB.out
     (try simp only [b5, bG, bZ] at hcv)
     go_simp
     refine hK.out _ _ ?_ (fun hHeld => ?_)
     focus ((try dsimp only); exact kp5 ED.out EP.out HB.out)
     clear hK K
     refine tk 7 46 (v := ?_) rfl rfl (by kernel_rfl) rfl ?_ (by assumption) ?_; rotate_left; focus (intro w hSw; go_simp; try with_reducible rfl)
     try simp only [Act.put, List.setIfInBounds_toArray, List.set_cons_zero, List.set_cons_succ]
     refine wpAnyH_ready (rs := [11]) (by kernel_rfl) (by simp) ?_
     refine AllReadyH.cons rfl (fun K hK => ?_) ?_
     ·have EB := Lib.hid (show (wa.alloc (bG)).heap[W.heap.size]? = some (b5 x) from blk_alloc EB.out _)
      have EZ := Lib.hid (show (wa.alloc (bG)).heap[W.heap.size + 1]? = some (bZ) from blk_alloc EZ.out _)
      have EG := Lib.hid (show (wa.alloc (bG)).heap[wa.heap.size]? = some (bG) from nwb wa (bG) _ (by simp only [World.size_alloc]))
      have HB := Lib.hid (show Below W.heap.size W (wa.alloc (bG)) from blA HB.out HB.out.size)
      have HF := Lib.hid (Kd.F_alloc HF.out (bG))
      have hSZ : (wa.alloc (bG)).heap.size = wa.heap.size + 1 := by simp only [hdr5, World.size_alloc]
      simp only [b5, bG, bZ]
      go_simp
      refine hK.out _ _ ?_ (fun hHeld => ?_)
      focus ((try dsimp only); exact kp5 ED.out EP.out HB.out)
      clear hK K
      refine tk 18 57 (v := ?_) rfl rfl (by kernel_rfl) rfl ?_ (by assumption) ?_; rotate_left; focus (intro w hSw; go_simp; try with_reducible rfl)
      try simp only [Act.put, List.setIfInBounds_toArray, List.set_cons_zero, List.set_cons_succ]
      refine wpAnyH_ready (rs := [20]) (by kernel_rfl) (by simp) ?_
      refine AllReadyH.cons rfl (fun K hK => ?_) ?_
      ·have hst := wr50_blk (cs := cN dir dn (wa.heap.size) A11 ws.length c11 x) EZ.out rfl rfl (cN_one _ _ _ _ _ _ _)
       simp only [b5, bG, bZ, cN] at hst
       have HL := lf5 (cN dir dn (wa.heap.size) A11 ws.length c11 x) EZ.out EG.out HF.out HB.out (by omega) (by omega) (fun k hk => by have h1 := hk.1; have h2 := hk.2; omega)
       have EX := Lib.hid HL.1; have EG := Lib.hid HL.2.1; have HF := Lib.hid HL.2.2.1; have HB := Lib.hid HL.2.2.2; clear HL
       go_simp
       refine hK.out _ _ ?_ (fun hHeld => ?_)
       focus ((try dsimp only); exact kp5 ED.out EP.out HB.out)
       clear hK K
       refine wpAnyH_done (by kernel_rfl) ?_ _
       refine NoPanic.normal ?_
       exact HPO.out (W.heap.size + 1) (wa.heap.size) _ A11 c11 ws _ _ _ _ _ _ _ _ _ _ _ _ _ _ _ _ _ _ _ HWS.out HC.out HF.out EX.out EG.out (by omega) (by omega) (by omega) HB.out
      exact AllReadyH.nil
     exact AllReadyH.nil
    refine AllReadyH.cons rfl (fun K hK => ?_) ?_
    ·have EB := Lib.hid (show (wa.alloc (bG)).heap[W.heap.size]? = some (b5 x) from blk_alloc EB.out _)
     have EZ := Lib.hid (show (wa.alloc (bG)).heap[W.heap.size + 1]? = some (bZ) from blk_alloc EZ.out _)
     have EG := Lib.hid (show (wa.alloc (bG)).heap[wa.heap.size]? = some (bG) from nwb wa (bG) _ (by simp only [World.size_alloc]))
     have HB := Lib.hid (show Below W.heap.size W (wa.alloc (bG)) from blA HB.out HB.out.size)
     have HF := Lib.hid (Kd.F_alloc HF.out (bG))
     have hSZ : (wa.alloc (bG)).heap.size = wa.heap.size + 1 := by simp only [hdr5, World.size_alloc]
     simp only [b5, bG, bZ]
     go_simp
     refine hK.out _ _ ?_ (fun hHeld => ?_)
     focus ((try dsimp only); exact kp5 ED.out EP.out HB.out)
     clear hK K
     refine wpAnyH_ready (rs := [6]) (by kernel_rfl) (by simp) ?_
     refine AllReadyH.cons rfl (fun K hK => ?_) ?_
     ·have hcv := conv_blk EB.out
      (try simp only [b5, bG, bZ] at hcv)
      go_simp
      refine hK.out _ _ ?_ (fun hHeld => ?_)
      focus ((try dsimp only); exact kp5 ED.out EP.out HB.out)
      clear hK K
      refine tk 7 46 (v := ?_) rfl rfl (by kernel_rfl) rfl ?_ (by assumption) ?_; rotate_left; focus (intro w hSw; go_simp; try with_reducible rfl)
      try simp only [Act.put, List.setIfInBounds_toArray, List.set_cons_zero, List.set_cons_succ]
      refine tk 18 57 (v := ?_) rfl rfl (by kernel_rfl) rfl ?_ (by assumption) ?_; rotate_left; focus (intro w hSw; go_simp; try with_reducible rfl)
      try simp only [Act.put, List.setIfInBounds_toArray, List.set_cons_zero, List.set_cons_succ]
      refine wpAnyH_ready (rs := [20]) (by kernel_rfl) (by simp) ?_
      refine AllReadyH.cons rfl (fun K hK => ?_) ?_
      ·have hst := wr50_blk (cs := cN dir dn (wa.heap.size) A11 ws.length c11 x) EZ.out rfl rfl (cN_one _ _ _ _ _ _ _)
       simp only [b5, bG, bZ, cN] at hst
       have HL := lf5 (cN dir dn (wa.heap.size) A11 ws.length c11 x) EZ.out EG.out HF.out HB.out (by omega) (by omega) (fun k hk => by have h1 := hk.1; have h2 := hk.2; omega)
       have EX := Lib.hid HL.1; have EG := Lib.hid HL.2.1; have HF := Lib.hid HL.2.2.1; have HB := Lib.hid HL.2.2.2; clear HL
       go_simp
       refine hK.out _ _ ?_ (fun hHeld => ?_)
       focus ((try dsimp only); exact kp5 ED.out EP.out HB.out)
       clear hK K
       refine wpAnyH_done (by kernel_rfl) ?_ _
       refine NoPanic.normal ?_
       exact HPO.out (W.heap.size + 1) (wa.heap.size) _ A11 c11 ws _ _ _ _ _ _ _ _ _ _ _ _ _ _ _ _ _ _ _ HWS.out HC.out HF.out EX.out EG.out (by omega) (by omega) (by omega) HB.out
      exact AllReadyH.nil
     exact AllReadyH.nil
    exact AllReadyH.nil
   exact AllReadyH.nil
  exact AllReadyH.nil
 refine AllReadyH.cons rfl (fun K hK => ?_) ?_
 ·have EG := Lib.hid (show (W.alloc (bG)).drew.heap[W.heap.size]? = some (bG) from nwb W (bG) _ (by simp only [World.size_alloc]))
  have HB := Lib.hid (show Below W.heap.size W (W.alloc (bG)).drew from blA HB.out HB.out.size)
  have hSZ : (W.alloc (bG)).drew.heap.size = W.heap.size + 1 := by simp only [hdr5, World.size_alloc]
  simp only [b5, bG, bZ]
  go_simp
  refine hK.out _ _ ?_ (fun hHeld => ?_)
  focus ((try dsimp only); exact kp5 ED.out EP.out HB.out)
  clear hK K
  refine wpAnyH_ready (rs := [5, 17, 19]) (by kernel_rfl) (by simp) ?_
  refine AllReadyH.cons rfl (fun K hK => ?_) ?_
  ·have EG := Lib.hid (show ((W.alloc (bG)).alloc (b5 x)).drew.heap[W.heap.size]? = some (bG) from blk_alloc EG.out _)
   have EB := Lib.hid (show ((W.alloc (bG)).alloc (b5 x)).drew.heap[W.heap.size + 1]? = some (b5 x) from nwb (W.alloc (bG)) (b5 x) _ (by simp only [World.size_alloc]))
   have HB := Lib.hid (show Below W.heap.size W ((W.alloc (bG)).alloc (b5 x)).drew from blA HB.out HB.out.size)
   have hSZ : ((W.alloc (bG)).alloc (b5 x)).drew.heap.size = W.heap.size + 1 + 1 := by simp only [hdr5, World.size_alloc]
   simp only [b5, bG, bZ]
   go_simp
   refine hK.out _ _ ?_ (fun hHeld => ?_)
   focus ((try dsimp only); exact kp5 ED.out EP.out HB.out)
   clear hK K
   refine wpAnyH_ready (rs := [6, 17, 19]) (by kernel_rfl) (by simp) ?_
   refine AllReadyH.cons rfl (fun K hK => ?_) ?_
   ·have hcv := conv_blk EB.out
    (try simp only [b5, bG, bZ] at hcv)
    go_simp
    refine hK.out _ _ ?_ (fun hHeld => ?_)
    focus ((try dsimp only); exact kp5 ED.out EP.out HB.out)
    clear hK K
    refine tk 7 46 (v := ?_) rfl rfl (by kernel_rfl) rfl ?_ (by assumption) ?_; rotate_left; focus (intro w hSw; go_simp; try with_reducible rfl)
    try simp only [Act.put, List.setIfInBounds_toArray, List.set_cons_zero, List.set_cons_succ]
    refine wpAnyH_ready (rs := [17, 19]) (by kernel_rfl) (by simp) ?_
    refine AllReadyH.cons rfl (fun K hK => ?_) ?_
    ·go_simp
     go_wp2_with (go_at_call 39; go_loud (refine (HW.out _ HB.out).mono ?_; rintro e wa ⟨A11, c11, ws, rfl, hws, hc, hF, hb⟩; have EB := Lib.hid (blk_below EB.out hb); have EG := Lib.hid (blk_below EG.out hb); have hz5 := hb.size; rw [hSZ] at hz5; have hF := Kd.F_mono hF (ok' := fun k => W.heap.size + 1 + 1 ≤ k) (fun k hk => by rw [hSZ] at hk; exact hk); have HF := Lib.hid (Kd.F_bound hF); have HB := Lib.hid (below_step HB.out hb); have HC := Lib.hid hc; have HWS := Lib.hid hws; clear hb hF hc hws))
     refine hK.out _ _ ?_ (fun hHeld => ?_)
     focus ((try dsimp only); exact kp5 ED.out EP.out HB.out)
     clear hK K
     refine tk 18 57 (v := ?_) rfl rfl (by kernel_rfl) rfl ?_ (by assumption) ?_; rotate_left; focus (intro w hSw; go_simp; try with_reducible rfl)
     try simp only [Act.put, List.setIfInBounds_toArray, List.set_cons_zero, List.set_cons_succ]
     refine wpAnyH_ready (rs := [19]) (by kernel_rfl) (by simp) ?_
     refine AllReadyH.cons rfl (fun K hK => ?_) ?_
     ·have EB := Lib.hid (show (wa.alloc (bZ)).heap[W.heap.size + 1]? = some (b5 x) from blk_alloc EB.out _)
      have EG := Lib.hid (show (wa.alloc (bZ)).heap[W.heap.size]? = some (bG) from blk_alloc EG.out _)
      have EZ := Lib.hid (show (wa.alloc (bZ)).heap[wa.heap.size]? = some (bZ) from nwb wa (bZ) _ (by simp only [World.size_alloc]))
      have HB := Lib.hid (show Below W.heap.size W (wa.alloc (bZ)) from blA HB.out HB.out.size)
      have HF := Lib.hid (Kd.F_alloc HF.out (bZ))
      have hSZ : (wa.alloc (bZ)).heap.size = wa.heap.size + 1 := by simp only [hdr5, World.size_alloc]
      simp only [b5, bG, bZ]
      go_simp
      refine hK.out _ _ ?_ (fun hHeld => ?_)
      focus ((try dsimp only); exact kp5 ED.out EP.out HB.out)
      clear hK K
      refine wpAnyH_ready (rs := [20]) (by kernel_rfl) (by simp) ?_
      refine AllReadyH.cons rfl (fun K hK => ?_) ?_
      ·have hst := wr50_blk (cs := cN dir dn (W.heap.size) A11 ws.length c11 x) EZ.out rfl rfl (cN_one _ _ _ _ _ _ _)
       simp only [b5, bG, bZ, cN] at hst
       have HL := lf5 (cN dir dn (W.heap.size) A11 ws.length c11 x) EZ.out EG.out HF.out HB.out (by omega) (by omega) (fun k hk => by have h1 := hk.1; have h2 := hk.2; omega)
       have EX := Lib.hid HL.1; have EG := Lib.hid HL.2.1; have HF := Lib.hid HL.2.2.1; have HB := Lib.hid HL.2.2.2; clear HL
       go_simp
       refine hK.out _ _ ?_ (fun hHeld => ?_)
       focus ((try dsimp only); exact kp5 ED.out EP.out HB.out)
       clear hK K
       refine wpAnyH_done (by kernel_rfl) ?_ _
       refine NoPanic.normal ?_
       exact HPO.out (wa.heap.size) (W.heap.size) _ A11 c11 ws _ _ _ _ _ _ _ _ _ _ _ _ _ _ _ _ _ _ _ HWS.out HC.out HF.out EX.out EG.out (by omega) (by omega) (by omega) HB.out
      exact AllReadyH.nil
     exact AllReadyH.nil
    refine AllReadyH.cons rfl (fun K hK => ?_) ?_
    ·have EB := Lib.hid (show (((W.alloc (bG)).alloc (b5 x)).alloc (bZ)).drew.heap[W.heap.size + 1]? = some (b5 x) from blk_alloc EB.out _)
     have EG := Lib.hid (show (((W.alloc (bG)).alloc (b5 x)).alloc (bZ)).drew.heap[W.heap.size]? = some (bG) from blk_alloc EG.out _)
     have EZ := Lib.hid (show (((W.alloc (bG)).alloc (b5 x)).alloc (bZ)).drew.heap[W.heap.size + 1 + 1]? = some (bZ) from nwb ((W.alloc (bG)).alloc (b5 x)) (bZ) _ (by simp only [World.size_alloc]))
     have HB := Lib.hid (show Below W.heap.size W (((W.alloc (bG)).alloc (b5 x)).alloc (bZ)).drew from blA HB.out HB.out.size)
     have hSZ : (((W.alloc (bG)).alloc (b5 x)).alloc (bZ)).drew.heap.size = W.heap.size + 1 + 1 + 1 := by simp only [hdr5, World.size_alloc]
     simp only [b5, bG, bZ]
     go_simp
     refine hK.out _ _ ?_ (fun hHeld => ?_)
     focus ((try dsimp only); exact kp5 ED.out EP.out HB.out)
     clear hK K
     refine wpAnyH_ready (rs := [17]) (by kernel_rfl) (by simp) ?_
     refine AllReadyH.cons rfl (fun K hK => ?_) ?_
     ·go_simp
      go_wp2_with (go_at_call 39; go_loud (refine (HW.out _ HB.out).mono ?_; rintro e wa ⟨A11, c11, ws, rfl, hws, hc, hF, hb⟩; have EB := Lib.hid (blk_below EB.out hb); have EG := Lib.hid (blk_below EG.out hb); have EZ := Lib.hid (blk_below EZ.out hb); have hz5 := hb.size; rw [hSZ] at hz5; have hF := Kd.F_mono hF (ok' := fun k => W.heap.size + 1 + 1 + 1 ≤ k) (fun k hk => by rw [hSZ] at hk; exact hk); have HF := Lib.hid (Kd.F_bound hF); have HB := Lib.hid (below_step HB.out hb); have HC := Lib.hid hc; have HWS := Lib.hid hws; clear hb hF hc hws))
      refine hK.out _ _ ?_ (fun hHeld => ?_)
      focus ((try dsimp only); exact kp5 ED.out EP.out HB.out)
      clear hK K
      refine tk 18 57 (v := ?_) rfl rfl (by kernel_rfl) rfl ?_ (by assumption) ?_; rotate_left; focus (intro w hSw; go_simp; try with_reducible rfl)
      try simp only [Act.put, List.setIfInBounds_toArray, List.set_cons_zero, List.set_cons_succ]
      refine wpAnyH_ready (rs := [20]) (by kernel_rfl) (by simp) ?_
      refine AllReadyH.cons rfl (fun K hK => ?_) ?_
      ·have hst := wr50_blk (cs := cN dir dn (W.heap.size) A11 ws.length c11 x) EZ.out rfl rfl (cN_one _ _ _ _ _ _ _)
       simp only [b5, bG, bZ, cN] at hst
       have HL := lf5 (cN dir dn (W.heap.size) A11 ws.length c11 x) EZ.out EG.out HF.out HB.out (by omega) (by omega) (fun k hk => by have h1 := hk.1; have h2 := hk.2; omega)
       have EX := Lib.hid HL.1; have EG := Lib.hid HL.2.1; have HF := Lib.hid HL.2.2.1; have HB := Lib.hid HL.2.2.2; clear HL
       go_simp
       refine hK.out _ _ ?_ (fun hHeld => ?_)
       focus ((try dsimp only); exact kp5 ED.out EP.out HB.out)
       clear hK K
       refine wpAnyH_done (by kernel_rfl) ?_ _
       refine NoPanic.normal ?_
       exact HPO.out (W.heap.size + 1 + 1) (W.heap.size) _ A11 c11 ws _ _ _ _ _ _ _ _ _ _ _ _ _ _ _ _ _ _ _ HWS.out HC.out HF.out EX.out EG.out (by omega) (by omega) (by omega) HB.out
      exact AllReadyH.nil
     exact AllReadyH.nil
    exact AllReadyH.nil
   refine AllReadyH.cons rfl (fun K hK => ?_) ?_
   ·go_simp
    go_wp2_with (go_at_call 39; go_loud (refine (HW.out _ HB.out).mono ?_; rintro e wa ⟨A11, c11, ws, rfl, hws, hc, hF, hb⟩; have EB := Lib.hid (blk_below EB.out hb); have EG := Lib.hid (blk_below EG.out hb); have hz5 := hb.size; rw [hSZ] at hz5; have hF := Kd.F_mono hF (ok' := fun k => W.heap.size + 1 + 1 ≤ k) (fun k hk => by rw [hSZ] at hk; exact hk); have HF := Lib.hid (Kd.F_bound hF); have HB := Lib.hid (below_step HB.out hb); have HC := Lib.hid hc; have HWS := Lib.hid hws; clear hb hF hc hws))
    refine hK.out _ _ ?_ (fun hHeld => ?_)
    focus ((try dsimp only); exact kp5 ED.out EP.out HB.out)
    clear hK K
    refine wpAnyH_ready (rs := [6, 19]) (by kernel_rfl) (by simp) ?_
    refine AllReadyH.cons rfl (fun K hK => ?_) ?_
    ·have hcv := conv_blk EB.out
     (try simp only [b5, bG, bZ] at hcv)
     go_simp
     refine hK.out _ _ ?_ (fun hHeld => ?_)
     focus ((try dsimp only); exact kp5 ED.out EP.out HB.out)
     clear hK K
     refine tk 7 46 (v := ?_) rfl rfl (by kernel_rfl) rfl ?_ (by assumption) ?_; rotate_left; focus (intro w hSw; go_simp; try with_reducible rfl)
     try simp only [Act.put, List.setIfInBounds_toArray, List.set_cons_zero, List.set_cons_succ]
     refine tk 18 57 (v := ?_) rfl rfl (by kernel_rfl) rfl ?_ (by assumption) ?_; rotate_left; focus (intro w hSw; go_simp; try with_reducible rfl)
     try simp only [Act.put, List.setIfInBounds_toArray, List.set_cons_zero, List.set_cons_succ]
     refine wpAnyH_ready (rs := [19]) (by kernel_rfl) (by simp) ?_
     refine AllReadyH.cons rfl (fun K hK => ?_) ?_
     ·have EB := Lib.hid (show (wa.alloc (bZ)).heap[W.heap.size + 1]? = some (b5 x) from blk_alloc EB.out _)
      have EG := Lib.hid (show (wa.alloc (bZ)).heap[W.heap.size]? = some (bG) from blk_alloc EG.out _)
      have EZ := Lib.hid (show (wa.alloc (bZ)).heap[wa.heap.size]? = some (bZ) from nwb wa (bZ) _ (by simp only [World.size_alloc]))
      have HB := Lib.hid (show Below W.heap.size W (wa.alloc (bZ)) from blA HB.out HB.out.size)
      have HF := Lib.hid (Kd.F_alloc HF.out (bZ))
      have hSZ : (wa.alloc (bZ)).heap.size = wa.heap.size + 1 := by simp only [hdr5, World.size_alloc]
      simp only [b5, bG, bZ]
      go_simp
      refine hK.out _ _ ?_ (fun hHeld => ?_)
      focus ((try dsimp only); exact kp5 ED.out EP.out HB.out)
      clear hK K
      refine wpAnyH_ready (rs := [20]) (by kernel_rfl) (by simp) ?_
      refine AllReadyH.cons rfl (fun K hK => ?_) ?_
      ·have hst := wr50_blk (cs := cN dir dn (W.heap.size) A11 ws.length c11 x) EZ.out rfl rfl (cN_one _ _ _ _ _ _ _)
       simp only [b5, bG, bZ, cN] at hst
       have HL := lf5 (cN dir dn (W.heap.size) A11 ws.length c11 x) EZ.out EG.out HF.out HB.out (by omega) (by omega) (fun k hk => by have h1 := hk.1; have h2 := hk.2; omega)
       have EX := Lib.hid HL.1; have EG := Lib.hid HL.2.1; have HF := Lib.hid HL.2.2.1; have HB := Lib.hid HL.2.2.2; clear HL
       go_simp
       refine hK.out _ _ ?_ (fun hHeld => ?_)
       focus ((try dsimp only); exact kp5 ED.out EP.out HB.out)
       clear hK K
       refine wpAnyH_done (by kernel_rfl) ?_ _
       refine NoPanic.normal ?_
       exact HPO.out (wa.heap.size) (W.heap.size) _ A11 c11 ws _ _ _ _ _ _ _ _ _ _ _ _ _ _ _ _ _ _ _ HWS.out HC.out HF.out EX.out EG.out (by omega) (by omega) (by omega) HB.out
      exact AllReadyH.nil
     exact AllReadyH.nil
    refine AllReadyH.cons rfl (fun K hK => ?_) ?_
    ·have EB := Lib.hid (show (wa.alloc (bZ)).heap[W.heap.size + 1]? = some (b5 x) from blk_alloc EB.out _)
     have EG := Lib.hid (show (wa.alloc (bZ)).heap[W.heap.size]? = some (bG) from blk_alloc EG.out _)
     have EZ := Lib.hid (show (wa.alloc (bZ)).heap[wa.heap.size]? = some (bZ) from nwb wa (bZ) _ (by simp only [World.size_alloc]))
     have HB := Lib.hid (show Below W.heap.size W (wa.alloc (bZ)) from blA HB.out HB.out.size)
     have HF := Lib.hid (Kd.F_alloc HF.out (bZ))
     have hSZ : (wa.alloc (bZ)).heap.size = wa.heap.size + 1 := by simp only [hdr5, World.size_alloc]
     simp only [b5, bG, bZ]
     go_simp
     refine hK.out _ _ ?_ (fun hHeld => ?_)
     focus ((try dsimp only); exact kp5 ED.out EP.out HB.out)
     clear hK K
     refine wpAnyH_ready (rs := [6]) (by kernel_rfl) (by simp) ?_
     refine AllReadyH.cons rfl (fun K hK => ?_) ?_
     ·have hcv := conv_blk EB.out
      (try simp only [b5, bG, bZ] at hcv)
      go_simp
      refine hK.out _ _ ?_ (fun hHeld => ?_)
      focus ((try dsimp only); exact kp5 ED.out EP.out HB.out)
      clear hK K
      refine tk 7 46 (v := ?_) rfl rfl (by kernel_rfl) rfl ?_ (by assumption) ?_; rotate_left; focus (intro w hSw; go_simp; try with_reducible rfl)
      try simp only [Act.put, List.setIfInBounds_toArray, List.set_cons_zero, List.set_cons_succ]
      refine tk 18 57 (v := ?_) rfl rfl (by kernel_rfl) rfl ?_ (by assumption) ?_; rotate_left; focus (intro w hSw; go_simp; try with_reducible rfl)
      try simp only [Act.put, List.setIfInBounds_toArray, List.set_cons_zero, List.set_cons_succ]
      refine wpAnyH_ready (rs := [20]) (by kernel_rfl) (by simp) ?_
      refine AllReadyH.cons rfl (fun K hK => ?_) ?_
      ·have hst := wr50_blk (cs := cN dir dn (W.heap.size) A11 ws.length c11 x) EZ.out rfl rfl (cN_one _ _ _ _ _ _ _)
       simp only [b5, bG, bZ, cN] at hst
       have HL := lf5 (cN dir dn (W.heap.size) A11 ws.length c11 x) EZ.out EG.out HF.out HB.out (by omega) (by omega) (fun k hk => by have h1 := hk.1; have h2 := hk.2; omega)
       have EX := Lib.hid HL.1; have EG := Lib.hid HL.2.1; have HF := Lib.hid HL.2.2.1; have HB := Lib.hid HL.2.2.2; clear HL
       go_simp
       refine hK.out _ _ ?_ (fun hHeld => ?_)
       focus ((try dsimp only); exact kp5 ED.out EP.out HB.out)
       clear hK K
       refine wpAnyH_done (by kernel_rfl) ?_ _
       refine NoPanic.normal ?_
       exact HPO.out (wa.heap.size) (W.heap.size) _ A11 c11 ws _ _ _ _ _ _ _ _ _ _ _ _ _ _ _ _ _ _ _ HWS.out HC.out HF.out EX.out EG.out (by omega) (by omega) (by omega) HB.out
      exact AllReadyH.nil
     exact AllReadyH.nil
    exact AllReadyH.nil
   refine AllReadyH.cons rfl (fun K hK => ?_) ?_
   ·have EB := Lib.hid (show (((W.alloc (bG)).alloc (b5 x)).alloc (bZ)).drew.heap[W.heap.size + 1]? = some (b5 x) from blk_alloc EB.out _)
    have EG := Lib.hid (show (((W.alloc (bG)).alloc (b5 x)).alloc (bZ)).drew.heap[W.heap.size]? = some (bG) from blk_alloc EG.out _)
    have EZ := Lib.hid (show (((W.alloc (bG)).alloc (b5 x)).alloc (bZ)).drew.heap[W.heap.size + 1 + 1]? = some (bZ) from nwb ((W.alloc (bG)).alloc (b5 x)) (bZ) _ (by simp only [World.size_alloc]))
    have HB := Lib.hid (show Below W.heap.size W (((W.alloc (bG)).alloc (b5 x)).alloc (bZ)).drew from blA HB.out HB.out.size)
    have hSZ : (((W.alloc (bG)).alloc (b5 x)).alloc (bZ)).drew.heap.size = W.heap.size + 1 + 1 + 1 := by simp only [hdr5, World.size_alloc]
    simp only [b5, bG, bZ]
    go_simp
    refine hK.out _ _ ?_ (fun hHeld => ?_)
    focus ((try dsimp only); exact kp5 ED.out EP.out HB.out)
    clear hK K
    refine wpAnyH_ready (rs := [6, 17]) (by kernel_rfl) (by simp) ?_
    refine AllReadyH.cons rfl (fun K hK => ?_) ?_
    ·have hcv := conv_blk EB.out
     (try simp only [b5, bG, bZ] at hcv)
     go_simp
     refine hK.out _ _ ?_ (fun hHeld => ?_)
     focus ((try dsimp only); exact kp5 ED.out EP.out HB.out)
     clear hK K
     refine tk 7 46 (v := ?_) rfl rfl (by kernel_rfl) rfl ?_ (by assumption) ?_; rotate_left; focus (intro w hSw; go_simp; try with_reducible rfl)
     try simp only [Act.put, List.setIfInBounds_toArray, List.set_cons_zero, List.set_cons_succ]
     refine wpAnyH_ready (rs := [17]) (by kernel_rfl) (by simp) ?_
     refine AllReadyH.cons rfl (fun K hK => ?_) ?_
     ·go_simp
      go_wp2_with (go_at_call 39; go_loud (refine (HW.out _ HB.out).mono ?_; rintro e wa ⟨A11, c11, ws, rfl, hws, hc, hF, hb⟩; have EB := Lib.hid (blk_below EB.out hb); have EG := Lib.hid (blk_below EG.out hb); have EZ := Lib.hid (blk_below EZ.out hb); have hz5 := hb.size; rw [hSZ] at hz5; have hF := Kd.F_mono hF (ok' := fun k => W.heap.size + 1 + 1 + 1 ≤ k) (fun k hk => by rw [hSZ] at hk; exact hk); have HF := Lib.hid (Kd.F_bound hF); have HB := Lib.hid (below_step HB.out hb); have HC := Lib.hid hc; have HWS := Lib.hid hws; clear hb hF hc hws))
      refine hK.out _ _ ?_ (fun hHeld => ?_)
      focus ((try dsimp only); exact kp5 ED.out EP.out HB.out)
      clear hK K
      refine tk 18 57 (v := ?_) rfl rfl (by kernel_rfl) rfl ?_ (by assumption) ?_; rotate_left; focus (intro w hSw; go_simp; try with_reducible rfl)
      try simp only [Act.put, List.setIfInBounds_toArray, List.set_cons_zero, List.set_cons_succ]
      refine wpAnyH_ready (rs := [20]) (by kernel_rfl) (by simp) ?_
      refine AllReadyH.cons rfl (fun K hK => ?_) ?_
      ·have hst := wr50_blk (cs := cN dir dn (W.heap.size) A11 ws.length c11 x) EZ.out rfl rfl (cN_one _ _ _ _ _ _ _)
       simp only [b5, bG, bZ, cN] at hst
       have HL := lf5 (cN dir dn (W.heap.size) A11 ws.length c11 x) EZ.out EG.out HF.out HB.out (by omega) (by omega) (fun k hk => by have h1 := hk.1; have h2 := hk.2; omega)
       have EX := Lib.hid HL.1; have EG := Lib.hid HL.2.1; have HF := Lib.hid HL.2.2.1; have HB := Lib.hid HL.2.2.2; clear HL
       go_simp
       refine hK.out _ _ ?_ (fun hHeld => ?_)
       focus ((try dsimp only); exact kp5 ED.out EP.out HB.out)
       clear hK K
       refine wpAnyH_done (by kernel_rfl) ?_ _
       refine NoPanic.normal ?_
       exact HPO.out (W.heap.size + 1 + 1) (W.heap.size) _ A11 c11 ws _ _ _ _ _ _ _ _ _ _ _ _ _ _ _ _ _ _ _ HWS.out HC.out HF.out EX.out EG.out (by omega) (by omega) (by omega) HB.out
      exact AllReadyH.nil
     exact AllReadyH.nil
    refine AllReadyH.cons rfl (fun K hK => ?_) ?_
    ·go_simp
     go_wp2_with (go_at_call 39; go_loud (refine (HW.out _ HB.out).mono ?_; rintro e wa ⟨A11, c11, ws, rfl, hws, hc, hF, hb⟩; have EB := Lib.hid (blk_below EB.out hb); have EG := Lib.hid (blk_below EG.out hb); have EZ := Lib.hid (blk_below EZ.out hb); have hz5 := hb.size; rw [hSZ] at hz5; have hF := Kd.F_mono hF (ok' := fun k => W.heap.size + 1 + 1 + 1 ≤ k) (fun k hk => by rw [hSZ] at hk; exact hk); have HF := Lib.hid (Kd.F_bound hF); have HB := Lib.hid (below_step HB.out hb); have HC := Lib.hid hc; have HWS := Lib.hid hws; clear hb hF hc hws))
     refine hK.out _ _ ?_ (fun hHeld => ?_)
     focus ((try dsimp only); exact kp5 ED.out EP.out HB.out)
     clear hK K
     refine wpAnyH_ready (rs := [6]) (by kernel_rfl) (by simp) ?_
     refine AllReadyH.cons rfl (fun K hK => ?_) ?_
     ·have hcv := conv_blk EB.out
      (try simp only [b5, bG, bZ] at hcv)
      go_simp
      refine hK.out _ _ ?_ (fun hHeld => ?_)
      focus ((try dsimp only); exact kp5 ED.out EP.out HB.out)
      clear hK K
      refine tk 7 46 (v := ?_) rfl rfl (by kernel_rfl) rfl ?_ (by assumption) ?_; rotate_left; focus (intro w hSw; go_simp; try with_reducible rfl)
      try simp only [Act.put, List.setIfInBounds_toArray, List.set_cons_zero, List.set_cons_succ]
      refine tk 18 57 (v := ?_) rfl rfl (by kernel_rfl) rfl ?_ (by assumption) ?_; rotate_left; focus (intro w hSw; go_simp; try with_reducible rfl)
      try simp only [Act.put, List.setIfInBounds_toArray, List.set_cons_zero, List.set_cons_succ]
      refine wpAnyH_ready (rs := [20]) (by kernel_rfl) (by simp) ?_
      refine AllReadyH.cons rfl (fun K hK => ?_) ?_
      ·have hst := wr50_blk (cs := cN dir dn (W.heap.size) A11 ws.length c11 x) EZ.out rfl rfl (cN_one _ _ _ _ _ _ _)
       simp only [b5, bG, bZ, cN] at hst
       have HL := lf5 (cN dir dn (W.heap.size) A11 ws.length c11 x) EZ.out EG.out HF.out HB.out (by omega) (by omega) (fun k hk => by have h1 := hk.1; have h2 := hk.2; omega)
       have EX := Lib.hid HL.1; have EG := Lib.hid HL.2.1; have HF := Lib.hid HL.2.2.1; have HB := Lib.hid HL.2.2.2; clear HL
       go_simp
       refine hK.out _ _ ?_ (fun hHeld => ?_)
       focus ((try dsimp only); exact kp5 ED.out EP.out HB.out)
       clear hK K
       refine wpAnyH_done (by kernel_rfl) ?_ _
       refine NoPanic.normal ?_
       exact HPO.out (W.heap.size + 1 + 1) (W.heap.size) _ A11 c11 ws _ _ _ _ _ _ _ _ _ _ _ _ _ _ _ _ _ _ _ HWS.out HC.out HF.out EX.out EG.out (by omega) (by omega) (by omega) HB.out
      exact AllReadyH.nil
     exact AllReadyH.nil
    exact AllReadyH.nil
   exact AllReadyH.nil
  refine AllReadyH.cons rfl (fun K hK => ?_) ?_
  ·go_simp
   go_wp2_with (go_at_call 39; go_loud (refine (HW.out _ HB.out).mono ?_; rintro e wa ⟨A11, c11, ws, rfl, hws, hc, hF, hb⟩; have EG := Lib.hid (blk_below EG.out hb); have hz5 := hb.size; rw [hSZ] at hz5; have hF := Kd.F_mono hF (ok' := fun k => W.heap.size + 1 ≤ k) (fun k hk => by rw [hSZ] at hk; exact hk); have HF := Lib.hid (Kd.F_bound hF); have HB := Lib.hid (below_step HB.out hb); have HC := Lib.hid hc; have HWS := Lib.hid hws; clear hb hF hc hws))
   refine hK.out _ _ ?_ (fun hHeld => ?_)
   focus ((try dsimp only); exact kp5 ED.out EP.out HB.out)
   clear hK K
   refine wpAnyH_ready (rs := [5, 19]) (by kernel_rfl) (by simp) ?_
   refine AllReadyH.cons rfl (fun K hK => ?_) ?_
   ·have EG := Lib.hid (show (wa.alloc (b5 x)).heap[W.heap.size]? = some (bG) from blk_alloc EG.out _)
    have EB := Lib.hid (show (wa.alloc (b5 x)).heap[wa.heap.size]? = some (b5 x) from nwb wa (b5 x) _ (by simp only [World.size_alloc]))
    have HB := Lib.hid (show Below W.heap.size W (wa.alloc (b5 x)) from blA HB.out HB.out.size)
    have HF := Lib.hid (Kd.F_alloc HF.out (b5 x))
    have hSZ : (wa.alloc (b5 x)).heap.size = wa.heap.size + 1 := by simp only [hdr5, World.size_alloc]
    simp only [b5, bG, bZ]
    go_simp
    refine hK.out _ _ ?_ (fun hHeld => ?_)
    focus ((try dsimp only); exact kp5 ED.out EP.out HB.out)
    clear hK K
    refine wpAnyH_ready (rs := [6, 19]) (by kernel_rfl) (by simp) ?_
    refine AllReadyH.cons rfl (fun K hK => ?_) ?_
    ·have hcv := conv_blk EB.out
     (try simp only [b5, bG, bZ] at hcv)
     go_simp
     refine hK.out _ _ ?_ (fun hHeld => ?_)
     focus ((try dsimp only); exact kp5 ED.out EP.out HB.out)
     clear hK K
     refine tk 7 46 (v := ?_) rfl rfl (by kernel_rfl) rfl ?_ (by assumption) ?_; rotate_left; focus (intro w hSw; go_simp; try with_reducible rfl)
     try simp only [Act.put, List.setIfInBounds_toArray, List.set_cons_zero, List.set_cons_succ]
     refine tk 18 57 (v := ?_) rfl rfl (by kernel_rfl) rfl ?_ (by assumption) ?_; rotate_left; focus (intro w hSw; go_simp; try with_reducible rfl)
     try simp only [Act.put, List.setIfInBounds_toArray, List.set_cons_zero, List.set_cons_succ]
     refine wpAnyH_ready (rs := [19]) (by kernel_rfl) (by simp) ?_
     refine AllReadyH.cons rfl (fun K hK => ?_) ?_
     ·have EB := Lib.hid (show ((wa.alloc (b5 x)).alloc (bZ)).heap[wa.heap.size]? = some (b5 x) from blk_alloc EB.out _)
      have EG := Lib.hid (show ((wa.alloc (b5 x)).alloc (bZ)).heap[W.heap.size]? = some (bG) from blk_alloc EG.out _)
      have EZ := Lib.hid (show ((wa.alloc (b5 x)).alloc (bZ)).heap[wa.heap.size + 1]? = some (bZ) from nwb (wa.alloc (b5 x)) (bZ) _ (by simp only [World.size_alloc]))
      have HB := Lib.hid (show Below W.heap.size W ((wa.alloc (b5 x)).alloc (bZ)) from blA HB.out HB.out.size)
      have HF := Lib.hid (Kd.F_alloc HF.out (bZ))
      have hSZ : ((wa.alloc (b5 x)).alloc (bZ)).heap.size = wa.heap.size + 1 + 1 := by simp only [hdr5, World.size_alloc]
      simp only [b5, bG, bZ]
      go_simp
      refine hK.out _ _ ?_ (fun hHeld => ?_)
      focus ((try dsimp only); exact kp5 ED.out EP.out HB.out)
      clear hK K
      refine wpAnyH_ready (rs := [20]) (by kernel_rfl) (by simp) ?_
      refine AllReadyH.cons rfl (fun K hK => ?_) ?_
      ·have hst := wr50_blk (cs := cN dir dn (W.heap.size) A11 ws.length c11 x) EZ.out rfl rfl (cN_one _ _ _ _ _ _ _)
       simp only [b5, bG, bZ, cN] at hst
       have HL := lf5 (cN dir dn (W.heap.size) A11 ws.length c11 x) EZ.out EG.out HF.out HB.out (by omega) (by omega) (fun k hk => by have h1 := hk.1; have h2 := hk.2; omega)
       have EX := Lib.hid HL.1; have EG := Lib.hid HL.2.1; have HF := Lib.hid HL.2.2.1; have HB := Lib.hid HL.2.2.2; clear HL
       go_simp
       refine hK.out _ _ ?_ (fun hHeld => ?_)
       focus ((try dsimp only); exact kp5 ED.out EP.out HB.out)
       clear hK K
       refine wpAnyH_done (by kernel_rfl) ?_ _
       refine NoPanic.normal ?_
       exact HPO.out (wa.heap.size + 1) (W.heap.size) _ A11 c11 ws _ _ _ _ _ _ _ _ _ _ _ _ _ _ _ _ _ _ _ HWS.out HC.out HF.out EX.out EG.out (by omega) (by omega) (by omega) HB.out
      exact AllReadyH.nil
     exact AllReadyH.nil
    refine AllReadyH.cons rfl (fun K hK => ?_) ?_
    ·have EB := Lib.hid (show ((wa.alloc (b5 x)).alloc (bZ)).heap[wa.heap.size]? = some (b5 x) from blk_alloc EB.out _)
     have EG := Lib.hid (show ((wa.alloc (b5 x)).alloc (bZ)).heap[W.heap.size]? = some (bG) from blk_alloc EG.out _)
     have EZ := Lib.hid (show ((wa.alloc (b5 x)).alloc (bZ)).heap[wa.heap.size + 1]? = some (bZ) from nwb (wa.alloc (b5 x)) (bZ) _ (by simp only [World.size_alloc]))
     have HB := Lib.hid (show Below W.heap.size W ((wa.alloc (b5 x)).alloc (bZ)) from blA HB.out HB.out.size)
     have HF := Lib.hid (Kd.F_alloc HF.out (bZ))
     have hSZ : ((wa.alloc (b5 x)).alloc (bZ)).heap.size = wa.heap.size + 1 + 1 := by simp only [hdr5, World.size_alloc]
     simp only [b5, bG, bZ]
     go_simp
     refine hK.out _ _ ?_ (fun hHeld => ?_)
     focus ((try dsimp only); exact kp5 ED.out EP.out HB.out)
     clear hK K
     refine wpAnyH_ready (rs := [6]) (by kernel_rfl) (by simp) ?_
     refine AllReadyH.cons rfl (fun K hK => ?_) ?_
     ·have hcv := conv_blk EB.out
      (try simp only [b5, bG, bZ] at hcv)
      go_simp
      refine hK.out _ _ ?_ (fun hHeld => ?_)
      focus ((try dsimp only); exact kp5 ED.out EP.out HB.out)
      clear hK K
      refine tk 7 46 (v := ?_) rfl rfl (by kernel_rfl) rfl ?_ (by assumption) ?_; rotate_left; focus (intro w hSw; go_simp; try with_reducible rfl)
      try simp only [Act.put, List.setIfInBounds_toArray, List.set_cons_zero, List.set_cons_succ]
      refine tk 18 57 (v := ?_) rfl rfl (by kernel_rfl) rfl ?_ (by assumption) ?_; rotate_left; focus (intro w hSw; go_simp; try with_reducible rfl)
      try simp only [Act.put, List.setIfInBounds_toArray, List.set_cons_zero, List.set_cons_succ]
      refine wpAnyH_ready (rs := [20]) (by kernel_rfl) (by simp) ?_
      refine AllReadyH.cons rfl (fun K hK => ?_) ?_
      ·have hst := wr50_blk (cs := cN dir dn (W.heap.size) A11 ws.length c11 x) EZ.out rfl rfl (cN_one _ _ _ _ _ _ _)
       simp only [b5, bG, bZ, cN] at hst
       have HL := lf5 (cN dir dn (W.heap.size) A11 ws.length c11 x) EZ.out EG.out HF.out HB.out (by omega) (by omega) (fun k hk => by have h1 := hk.1; have h2 := hk.2; omega)
       have EX := Lib.hid HL.1; have EG := Lib.hid HL.2.1; have HF := Lib.hid HL.2.2.1; have HB := Lib.hid HL.2.2.2; clear HL
       go_simp
       refine hK.out _ _ ?_ (fun hHeld => ?_)
       focus ((try dsimp only); exact kp5 ED.out EP.out HB.out)
       clear hK K
       refine wpAnyH_done (by kernel_rfl) ?_ _
       refine NoPanic.normal ?_
       exact HPO.out (wa.heap.size + 1) (W.heap.size) _ A11 c11 ws _ _ _ _ _ _ _ _ _ _ _ _ _ _ _ _ _ _ _ HWS.out HC.out HF.out EX.out EG.out (by omega) (by omega) (by omega) HB.out
      exact AllReadyH.nil
     exact AllReadyH.nil
    exact AllReadyH.nil
   refine AllReadyH.cons rfl (fun K hK => ?_) ?_
   ·have EG := Lib.hid (show (wa.alloc (bZ)).heap[W.heap.size]? = some (bG) from blk_alloc EG.out _)
    have EZ := Lib.hid (show (wa.alloc (bZ)).heap[wa.heap.size]? = some (bZ) from nwb wa (bZ) _ (by simp only [World.size_alloc]))
    have HB := Lib.hid (show Below W.heap.size W (wa.alloc (bZ)) from blA HB.out HB.out.size)
    have HF := Lib.hid (Kd.F_alloc HF.out (bZ))
    have hSZ : (wa.alloc (bZ)).heap.size = wa.heap.size + 1 := by simp only [hdr5, World.size_alloc]
    simp only [b5, bG, bZ]
    go_simp
    refine hK.out _ _ ?_ (fun hHeld => ?_)
    focus ((try dsimp only); exact kp5 ED.out EP.out HB.out)
    clear hK K
    refine wpAnyH_ready (rs := [5]) (by kernel_rfl) (by simp) ?_
    refine AllReadyH.cons rfl (fun K hK => ?_) ?_
    ·have EG := Lib.hid (show ((wa.alloc (bZ)).alloc (b5 x)).heap[W.heap.size]? = some (bG) from blk_alloc EG.out _)
     have EZ := Lib.hid (show ((wa.alloc (bZ)).alloc (b5 x)).heap[wa.heap.size]? = some (bZ) from blk_alloc EZ.out _)
     have EB := Lib.hid (show ((wa.alloc (bZ)).alloc (b5 x)).heap[wa.heap.size + 1]? = some (b5 x) from nwb (wa.alloc (bZ)) (b5 x) _ (by simp only [World.size_alloc]))
     have HB := Lib.hid (show Below W.heap.size W ((wa.alloc (bZ)).alloc (b5 x)) from blA HB.out HB.out.size)
     have HF := Lib.hid (Kd.F_alloc HF.out (b5 x))
     have hSZ : ((wa.alloc (bZ)).alloc (b5 x)).heap.size = wa.heap.size + 1 + 1 := by simp only [hdr5, World.size_alloc]
     simp only [b5, bG, bZ]
     go_simp
     refine hK.out _ _ ?_ (fun hHeld => ?_)
     focus ((try dsimp only); exact kp5 ED.out EP.out HB.out)
     clear hK K
     refine wpAnyH_ready (rs := [6]) (by kernel_rfl) (by simp) ?_
     refine AllReadyH.cons rfl (fun K hK => ?_) ?_
     ·have hcv := conv_blk EB.out
      (try simp only [b5, bG, bZ] at hcv)
      go_simp
      refine hK.out _ _ ?_ (fun hHeld => ?_)
      focus ((try dsimp only); exact kp5 ED.out EP.out HB.out)
      clear hK K
      refine tk 7 46 (v := ?_) rfl rfl (by kernel_rfl) rfl ?_ (by assumption) ?_; rotate_left; focus (intro w hSw; go_simp; try with_reducible rfl)
      try simp only [Act.put, List.setIfInBounds_toArray, List.set_cons_zero, List.set_cons_succ]
      refine tk 18 57 (v := ?_) rfl rfl (by kernel_rfl) rfl ?_ (by assumption) ?_; rotate_left; focus (intro w hSw; go_simp; try with_reducible rfl)
      try simp only [Act.put, List.setIfInBounds_toArray, List.set_cons_zero, List.set_cons_succ]
      refine wpAnyH_ready (rs := [20]) (by kernel_rfl) (by simp) ?_
      refine AllReadyH.cons rfl (fun K hK => ?_) ?_
      ·have hst := wr50_blk (cs := cN dir dn (W.heap.size) A11 ws.length c11 x) EZ.out rfl rfl (cN_one _ _ _ _ _ _ _)
       simp only [b5, bG, bZ, cN] at hst
       have HL := lf5 (cN dir dn (W.heap.size) A11 ws.length c11 x) EZ.out EG.out HF.out HB.out (by omega) (by omega) (fun k hk => by have h1 := hk.1; have h2 := hk.2; omega)
       have EX := Lib.hid HL.1; have EG := Lib.hid HL.2.1; have HF := Lib.hid HL.2.2.1; have HB := Lib.hid HL.2.2.2; clear HL
       go_simp
       refine hK.out _ _ ?_ (fun hHeld => ?_)
       focus ((try dsimp only); exact kp5 ED.out EP.out HB.out)
       clear hK K
       refine wpAnyH_done (by kernel_rfl) ?_ _
       refine NoPanic.normal ?_
       exact HPO.out (wa.heap.size) (W.heap.size) _ A11 c11 ws _ _ _ _ _ _ _ _ _ _ _ _ _ _ _ _ _ _ _ HWS.out HC.out HF.out EX.out EG.out (by omega) (by omega) (by omega) HB.out
      exact AllReadyH.nil
     exact AllReadyH.nil
    exact AllReadyH.nil
   exact AllReadyH.nil
  refine AllReadyH.cons rfl (fun K hK => ?_) ?_
  ·have EG := Lib.hid (show ((W.alloc (bG)).alloc (bZ)).drew.heap[W.heap.size]? = some (bG) from blk_alloc EG.out _)
   have EZ := Lib.hid (show ((W.alloc (bG)).alloc (bZ)).drew.heap[W.heap.size + 1]? = some (bZ) from nwb (W.alloc (bG)) (bZ) _ (by simp only [World.size_alloc]))
   have HB := Lib.hid (show Below W.heap.size W ((W.alloc (bG)).alloc (bZ)).drew from blA HB.out HB.out.size)
   have hSZ : ((W.alloc (bG)).alloc (bZ)).drew.heap.size = W.heap.size + 1 + 1 := by simp only [hdr5, World.size_alloc]
   simp only [b5, bG, bZ]
   go_simp
   refine hK.out _ _ ?_ (fun hHeld => ?_)
   focus ((try dsimp only); exact kp5 ED.out EP.out HB.out)
   clear hK K
   refine wpAnyH_ready (rs := [5, 17]) (by kernel_rfl) (by simp) ?_
   refine AllReadyH.cons rfl (fun K hK => ?_) ?_
   ·have EG := Lib.hid (show (((W.alloc (bG)).alloc (bZ)).alloc (b5 x)).drew.heap[W.heap.size]? = some (bG) from blk_alloc EG.out _)
    have EZ := Lib.hid (show (((W.alloc (bG)).alloc (bZ)).alloc (b5 x)).drew.heap[W.heap.size + 1]? = some (bZ) from blk_alloc EZ.out _)
    have EB := Lib.hid (show (((W.alloc (bG)).alloc (bZ)).alloc (b5 x)).drew.heap[W.heap.size + 1 + 1]? = some (b5 x) from nwb ((W.alloc (bG)).alloc (bZ)) (b5 x) _ (by simp only [World.size_alloc]))
    have HB := Lib.hid (show Below W.heap.size W (((W.alloc (bG)).alloc (bZ)).alloc (b5 x)).drew from blA HB.out HB.out.size)
    have hSZ : (((W.alloc (bG)).alloc (bZ)).alloc (b5 x)).drew.heap.size = W.heap.size + 1 + 1 + 1 := by simp only [hdr5, World.size_alloc]
    simp only [b5, bG, bZ]
    go_simp
    refine hK.out _ _ ?_ (fun hHeld => ?_)
    focus ((try dsimp only); exact kp5 ED.out EP.out HB.out)
    clear hK K
    refine wpAnyH_ready (rs := [6, 17]) (by kernel_rfl) (by simp) ?_
    refine AllReadyH.cons rfl (fun K hK => ?_) ?_
    ·have hcv := conv_blk EB.out
     (try simp only [b5, bG, bZ] at hcv)
     go_simp
     refine hK.out _ _ ?_ (fun hHeld => ?_)
     focus ((try dsimp only); exact kp5 ED.out EP.out HB.out)
     clear hK K
     refine tk 7 46 (v := ?_) rfl rfl (by kernel_rfl) rfl ?_ (by assumption) ?_; rotate_left; focus (intro w hSw; go_simp; try with_reducible rfl)
     try simp only [Act.put, List.setIfInBounds_toArray, List.set_cons_zero, List.set_cons_succ]
     refine wpAnyH_ready (rs := [17]) (by kernel_rfl) (by simp) ?_
     refine AllReadyH.cons rfl (fun K hK => ?_) ?_
     ·go_simp
      go_wp2_with (go_at_call 39; go_loud (refine (HW.out _ HB.out).mono ?_; rintro e wa ⟨A11, c11, ws, rfl, hws, hc, hF, hb⟩; have EB := Lib.hid (blk_below EB.out hb); have EG := Lib.hid (blk_below EG.out hb); have EZ := Lib.hid (blk_below EZ.out hb); have hz5 := hb.size; rw [hSZ] at hz5; have hF := Kd.F_mono hF (ok' := fun k => W.heap.size + 1 + 1 + 1 ≤ k) (fun k hk => by rw [hSZ] at hk; exact hk); have HF := Lib.hid (Kd.F_bound hF); have HB := Lib.hid (below_step HB.out hb); have HC := Lib.hid hc; have HWS := Lib.hid hws; clear hb hF hc hws))
      refine hK.out _ _ ?_ (fun hHeld => ?_)
      focus ((try dsimp only); exact kp5 ED.out EP.out HB.out)
      clear hK K
      refine tk 18 57 (v := ?_) rfl rfl (by kernel_rfl) rfl ?_ (by assumption) ?_; rotate_left; focus (intro w hSw; go_simp; try with_reducible rfl)
      try simp only [Act.put, List.setIfInBounds_toArray, List.set_cons_zero, List.set_cons_succ]
      refine wpAnyH_ready (rs := [20]) (by kernel_rfl) (by simp) ?_
      refine AllReadyH.cons rfl (fun K hK => ?_) ?_
      ·have hst := wr50_blk (cs := cN dir dn (W.heap.size) A11 ws.length c11 x) EZ.out rfl rfl (cN_one _ _ _ _ _ _ _)
       simp only [b5, bG, bZ, cN] at hst
       have HL := lf5 (cN dir dn (W.heap.size) A11 ws.length c11 x) EZ.out EG.out HF.out HB.out (by omega) (by omega) (fun k hk => by have h1 := hk.1; have h2 := hk.2; omega)
       have EX := Lib.hid HL.1; have EG := Lib.hid HL.2.1; have HF := Lib.hid HL.2.2.1; have HB := Lib.hid HL.2.2.2; clear HL
       go_simp
       refine hK.out _ _ ?_ (fun hHeld => ?_)
       focus ((try dsimp only); exact kp5 ED.out EP.out HB.out)
       clear hK K
       refine wpAnyH_done (by kernel_rfl) ?_ _
       refine NoPanic.normal ?_
       exact HPO.out (W.heap.size + 1) (W.heap.size) _ A11 c11 ws _ _ _ _ _ _ _ _ _ _ _ _ _ _ _ _ _ _ _ HWS.out HC.out HF.out EX.out EG.out (by omega) (by omega) (by omega) HB.out
      exact AllReadyH.nil
     exact AllReadyH.nil
    refine AllReadyH.cons rfl (fun K hK => ?_) ?_
    ·go_simp
     go_wp2_with (go_at_call 39; go_loud (refine (HW.out _ HB.out).mono ?_; rintro e wa ⟨A11, c11, ws, rfl, hws, hc, hF, hb⟩; have EB := Lib.hid (blk_below EB.out hb); have EG := Lib.hid (blk_below EG.out hb); have EZ := Lib.hid (blk_below EZ.out hb); have hz5 := hb.size; rw [hSZ] at hz5; have hF := Kd.F_mono hF (ok' := fun k => W.heap.size + 1 + 1 + 1 ≤ k) (fun k hk => by rw [hSZ] at hk; exact hk); have HF := Lib.hid (Kd.F_bound hF); have HB := Lib.hid (below_step HB.out hb); have HC := Lib.hid hc; have HWS := Lib.hid hws; clear hb hF hc hws))
     refine hK.out _ _ ?_ (fun hHeld => ?_)
     focus ((try dsimp only); exact kp5 ED.out EP.out HB.out)
     clear hK K
     refine wpAnyH_ready (rs := [6]) (by kernel_rfl) (by simp) ?_
     refine AllReadyH.cons rfl (fun K hK => ?_) ?_
     ·have hcv := conv_blk EB.out
      (try simp only [b5, bG, bZ] at hcv)
      go_simp
      refine hK.out _ _ ?_ (fun hHeld => ?_)
      focus ((try dsimp only); exact kp5 ED.out EP.out HB.out)
      clear hK K
      refine tk 7 46 (v := ?_) rfl rfl (by kernel_rfl) rfl ?_ (by assumption) ?_; rotate_left; focus (intro w hSw; go_simp; try with_reducible rfl)
      try simp only [Act.put, List.setIfInBounds_toArray, List.set_cons_zero, List.set_cons_succ]
      refine tk 18 57 (v := ?_) rfl rfl (by kernel_rfl) rfl ?_ (by assumption) ?_; rotate_left; focus (intro w hSw; go_simp; try with_reducible rfl)
      try simp only [Act.put, List.setIfInBounds_toArray, List.set_cons_zero, List.set_cons_succ]
      refine wpAnyH_ready (rs := [20]) (by kernel_rfl) (by simp) ?_
      refine AllReadyH.cons rfl (fun K hK => ?_) ?_
      ·have hst := wr50_blk (cs := cN dir dn (W.heap.size) A11 ws.length c11 x) EZ.out rfl rfl (cN_one _ _ _ _ _ _ _)
       simp only [b5, bG, bZ, cN] at hst
       have HL := lf5 (cN dir dn (W.heap.size) A11 ws.length c11 x) EZ.out EG.out HF.out HB.out (by omega) (by omega) (fun k hk => by have h1 := hk.1; have h2 := hk.2; omega)
       have EX := Lib.hid HL.1; have EG := Lib.hid HL.2.1; have HF := Lib.hid HL.2.2.1; have HB := Lib.hid HL.2.2.2; clear HL
       go_simp
       refine hK.out _ _ ?_ (fun hHeld => ?_)
       focus ((try dsimp only); exact kp5 ED.out EP.out HB.out)
       clear hK K
       refine wpAnyH_done (by kernel_rfl) ?_ _
       refine NoPanic.normal ?_
       exact HPO.out (W.heap.size + 1) (W.heap.size) _ A11 c11 ws _ _ _ _ _ _ _ _ _ _ _ _ _ _ _ _ _ _ _ HWS.out HC.out HF.out EX.out EG.out (by omega) (by omega) (by omega) HB.out
      exact AllReadyH.nil
     exact AllReadyH.nil
    exact AllReadyH.nil
   refine AllReadyH.cons rfl (fun K hK => ?_) ?_
   ·go_simp
    go_wp2_with (go_at_call 39; go_loud (refine (HW.out _ HB.out).mono ?_; rintro e wa ⟨A11, c11, ws, rfl, hws, hc, hF, hb⟩; have EG := Lib.hid (blk_below EG.out hb); have EZ := Lib.hid (blk_below EZ.out hb); have hz5 := hb.size; rw [hSZ] at hz5; have hF := Kd.F_mono hF (ok' := fun k => W.heap.size + 1 + 1 ≤ k) (fun k hk => by rw [hSZ] at hk; exact hk); have HF := Lib.hid (Kd.F_bound hF); have HB := Lib.hid (below_step HB.out hb); have HC := Lib.hid hc; have HWS := Lib.hid hws; clear hb hF hc hws))
    refine hK.out _ _ ?_ (fun hHeld => ?_)
    focus ((try dsimp only); exact kp5 ED.out EP.out HB.out)
    clear hK K
    refine wpAnyH_ready (rs := [5]) (by kernel_rfl) (by simp) ?_
    refine AllReadyH.cons rfl (fun K hK => ?_) ?_
    ·have EG := Lib.hid (show (wa.alloc (b5 x)).heap[W.heap.size]? = some (bG) from blk_alloc EG.out _)
     have EZ := Lib.hid (show (wa.alloc (b5 x)).heap[W.heap.size + 1]? = some (bZ) from blk_alloc EZ.out _)
     have EB := Lib.hid (show (wa.alloc (b5 x)).heap[wa.heap.size]? = some (b5 x) from nwb wa (b5 x) _ (by simp only [World.size_alloc]))
     have HB := Lib.hid (show Below W.heap.size W (wa.alloc (b5 x)) from blA HB.out HB.out.size)
     have HF := Lib.hid (Kd.F_alloc HF.out (b5 x))
     have hSZ : (wa.alloc (b5 x)).heap.size = wa.heap.size + 1 := by simp only [hdr5, World.size_alloc]
     simp only [b5, bG, bZ]
     go_simp
     refine hK.out _ _ ?_ (fun hHeld => ?_)
     focus ((try dsimp only); exact kp5 ED.out EP.out HB.out)
     clear hK K
     refine wpAnyH_ready (rs := [6]) (by kernel_rfl) (by simp) ?_
     refine AllReadyH.cons rfl (fun K hK => ?_) ?_
     ·have hcv := conv_blk EB.out
      (try simp only [b5, bG, bZ] at hcv)
      go_simp
      refine hK.out _ _ ?_ (fun hHeld => ?_)
      focus ((try dsimp only); exact kp5 ED.out EP.out HB.out)
      clear hK K
      refine tk 7 46 (v := ?_) rfl rfl (by kernel_rfl) rfl ?_ (by assumption) ?_; rotate_left; focus (intro w hSw; go_simp; try with_reducible rfl)
      try simp only [Act.put, List.setIfInBounds_toArray, List.set_cons_zero, List.set_cons_succ]
      refine tk 18 57 (v := ?_) rfl rfl (by kernel_rfl) rfl ?_ (by assumption) ?_; rotate_left; focus (intro w hSw; go_simp; try with_reducible rfl)
      try simp only [Act.put, List.setIfInBounds_toArray, List.set_cons_zero, List.set_cons_succ]
      refine wpAnyH_ready (rs := [20]) (by kernel_rfl) (by simp) ?_
      refine AllReadyH.cons rfl (fun K hK => ?_) ?_
      ·have hst := wr50_blk (cs := cN dir dn (W.heap.size) A11 ws.length c11 x) EZ.out rfl rfl (cN_one _ _ _ _ _ _ _)
       simp only [b5, bG, bZ, cN] at hst
       have HL := lf5 (cN dir dn (W.heap.size) A11 ws.length c11 x) EZ.out EG.out HF.out HB.out (by omega) (by omega) (fun k hk => by have h1 := hk.1; have h2 := hk.2; omega)
       have EX := Lib.hid HL.1; have EG := Lib.hid HL.2.1; have HF := Lib.hid HL.2.2.1; have HB := Lib.hid HL.2.2.2; clear HL
       go_simp
       refine hK.out _ _ ?_ (fun hHeld => ?_)
       focus ((try dsimp only); exact kp5 ED.out EP.out HB.out)
       clear hK K
       refine wpAnyH_done (by kernel_rfl) ?_ _
       refine NoPanic.normal ?_
       exact HPO.out (W.heap.size + 1) (W.heap.size) _ A11 c11 ws _ _ _ _ _ _ _ _ _ _ _ _ _ _ _ _ _ _ _ HWS.out HC.out HF.out EX.out EG.out (by omega) (by omega) (by omega) HB.out
      exact AllReadyH.nil
     exact AllReadyH.nil
    exact AllReadyH.nil
   exact AllReadyH.nil
  exact AllReadyH.nil
 refine AllReadyH.cons rfl (fun K hK => ?_) ?_
 ·go_simp
  go_wp2_with (go_at_call 39; go_loud (refine (HW.out _ HB.out).mono ?_; rintro e wa ⟨A11, c11, ws, rfl, hws, hc, hF, hb⟩; have hz5 : W.heap.size ≤ wa.heap.size := hb.size; have hF := Kd.F_mono hF (ok' := fun k => W.heap.size ≤ k) (fun k hk => hk); have HF := Lib.hid (Kd.F_bound hF); have HB := Lib.hid (below_step HB.out hb); have HC := Lib.hid hc; have HWS := Lib.hid hws; clear hb hF hc hws))
  refine hK.out _ _ ?_ (fun hHeld => ?_)
  focus ((try dsimp only); exact kp5 ED.out EP.out HB.out)
  clear hK K
  refine wpAnyH_ready (rs := [5, 11, 19]) (by kernel_rfl) (by simp) ?_
  refine AllReadyH.cons rfl (fun K hK => ?_) ?_
  ·have EB := Lib.hid (show (wa.alloc (b5 x)).heap[wa.heap.size]? = some (b5 x) from nwb wa (b5 x) _ (by simp only [World.size_alloc]))
   have HB := Lib.hid (show Below W.heap.size W (wa.alloc (b5 x)) from blA HB.out HB.out.size)
   have HF := Lib.hid (Kd.F_alloc HF.out (b5 x))
   have hSZ : (wa.alloc (b5 x)).heap.size = wa.heap.size + 1 := by simp only [hdr5, World.size_alloc]
   simp only [b5, bG, bZ]
   go_simp
   refine hK.out _ _ ?_ (fun hHeld => ?_)
   focus ((try dsimp only); exact kp5 ED.out EP.out HB.out)
   clear hK K
   refine wpAnyH_ready (rs := [6, 11, 19]) (by kernel_rfl) (by simp) ?_
   refine AllReadyH.cons rfl (fun K hK => ?_) ?_
   ·have hcv := conv_blk EB.out
    (try simp only [b5, bG, bZ] at hcv)
    go_simp
    refine hK.out _ _ ?_ (fun hHeld => ?_)
    focus ((try dsimp only); exact kp5 ED.out EP.out HB.out)
    clear hK K
    refine tk 7 46 (v := ?_) rfl rfl (by kernel_rfl) rfl ?_ (by assumption) ?_; rotate_left; focus (intro w hSw; go_simp; try with_reducible rfl)
    try simp only [Act.put, List.setIfInBounds_toArray, List.set_cons_zero, List.set_cons_succ]
    refine wpAnyH_ready (rs := [11, 19]) (by kernel_rfl) (by simp) ?_
    refine AllReadyH.cons rfl (fun K hK => ?_) ?_
    ·have EB := Lib.hid (show ((wa.alloc (b5 x)).alloc (bG)).heap[wa.heap.size]? = some (b5 x) from blk_alloc EB.out _)
     have EG := Lib.hid (show ((wa.alloc (b5 x)).alloc (bG)).heap[wa.heap.size + 1]? = some (bG) from nwb (wa.alloc (b5 x)) (bG) _ (by simp only [World.size_alloc]))
     have HB := Lib.hid (show Below W.heap.size W ((wa.alloc (b5 x)).alloc (bG)) from blA HB.out HB.out.size)
     have HF := Lib.hid (Kd.F_alloc HF.out (bG))
     have hSZ : ((wa.alloc (b5 x)).alloc (bG)).heap.size = wa.heap.size + 1 + 1 := by simp only [hdr5, World.size_alloc]
     simp only [b5, bG, bZ]
     go_simp
     refine hK.out _ _ ?_ (fun hHeld => ?_)
     focus ((try dsimp only); exact kp5 ED.out EP.out HB.out)
     clear hK K
     refine tk 18 57 (v := ?_) rfl rfl (by kernel_rfl) rfl ?_ (by assumption) ?_; rotate_left; focus (intro w hSw; go_simp; try with_reducible rfl)
     try simp only [Act.put, List.setIfInBounds_toArray, List.set_cons_zero, List.set_cons_succ]
     refine wpAnyH_ready (rs := [19]) (by kernel_rfl) (by simp) ?_
     refine AllReadyH.cons rfl (fun K hK => ?_) ?_
     ·have EB := Lib.hid (show (((wa.alloc (b5 x)).alloc (bG)).alloc (bZ)).heap[wa.heap.size]? = some (b5 x) from blk_alloc EB.out _)
      have EG := Lib.hid (show (((wa.alloc (b5 x)).alloc (bG)).alloc (bZ)).heap[wa.heap.size + 1]? = some (bG) from blk_alloc EG.out _)
      have EZ := Lib.hid (show (((wa.alloc (b5 x)).alloc (bG)).alloc (bZ)).heap[wa.heap.size + 1 + 1]? = some (bZ) from nwb ((wa.alloc (b5 x)).alloc (bG)) (bZ) _ (by simp only [World.size_alloc]))
      have HB := Lib.hid (show Below W.heap.size W (((wa.alloc (b5 x)).alloc (bG)).alloc (bZ)) from blA HB.out HB.out.size)
      have HF := Lib.hid (Kd.F_alloc HF.out (bZ))
      have hSZ : (((wa.alloc (b5 x)).alloc (bG)).alloc (bZ)).heap.size = wa.heap.size + 1 + 1 + 1 := by simp only [hdr5, World.size_alloc]
      simp only [b5, bG, bZ]
      go_simp
      refine hK.out _ _ ?_ (fun hHeld => ?_)
      focus ((try dsimp only); exact kp5 ED.out EP.out HB.out)
      clear hK K
      refine wpAnyH_ready (rs := [20]) (by kernel_rfl) (by simp) ?_
      refine AllReadyH.cons rfl (fun K hK => ?_) ?_
      ·have hst := wr50_blk (cs := cN dir dn (wa.heap.size + 1) A11 ws.length c11 x) EZ.out rfl rfl (cN_one _ _ _ _ _ _ _)
       simp only [b5, bG, bZ, cN] at hst
       have HL := lf5 (cN dir dn (wa.heap.size + 1) A11 ws.length c11 x) EZ.out EG.out HF.out HB.out (by omega) (by omega) (fun k hk => by have h1 := hk.1; have h2 := hk.2; omega)
       have EX := Lib.hid HL.1; have EG := Lib.hid HL.2.1; have HF := Lib.hid HL.2.2.1; have HB := Lib.hid HL.2.2.2; clear HL
       go_simp
       refine hK.out _ _ ?_ (fun hHeld => ?_)
       focus ((try dsimp only); exact kp5 ED.out EP.out HB.out)
       clear hK K
       refine wpAnyH_done (by kernel_rfl) ?_ _
       refine NoPanic.normal ?_
       exact HPO.out (wa.heap.size + 1 + 1) (wa.heap.size + 1) _ A11 c11 ws _ _ _ _ _ _ _ _ _ _ _ _ _ _ _ _ _ _ _ HWS.out HC.out HF.out EX.out EG.out (by omega) (by omega) (by omega) HB.out
      exact AllReadyH.nil
     exact AllReadyH.nil
    refine AllReadyH.cons rfl (fun K hK => ?_) ?_
    ·have EB := Lib.hid (show ((wa.alloc (b5 x)).alloc (bZ)).heap[wa.heap.size]? = some (b5 x) from blk_alloc EB.out _)
     have EZ := Lib.hid (show ((wa.alloc (b5 x)).alloc (bZ)).heap[wa.heap.size + 1]? = some (bZ) from nwb (wa.alloc (b5 x)) (bZ) _ (by simp only [World.size_alloc]))
     have HB := Lib.hid (show Below W.heap.size W ((wa.alloc (b5 x)).alloc (bZ)) from blA HB.out HB.out.size)
     have HF := Lib.hid (Kd.F_alloc HF.out (bZ))
     have hSZ : ((wa.alloc (b5 x)).alloc (bZ)).heap.size = wa.heap.size + 1 + 1 := by simp only [hdr5, World.size_alloc]
     simp only [b5, bG, bZ]
     go_simp
     refine hK.out _ _ ?_ (fun hHeld => ?_)
     focus ((try dsimp only); exact kp5 ED.out EP.out HB.out)
     clear hK K
     refine wpAnyH_ready (rs := [11]) (by kernel_rfl) (by simp) ?_
     refine AllReadyH.cons rfl (fun K hK => ?_) ?_
     ·have EB := Lib.hid (show (((wa.alloc (b5 x)).alloc (bZ)).alloc (bG)).heap[wa.heap.size]? = some (b5 x) from blk_alloc EB.out _)
      have EZ := Lib.hid (show (((wa.alloc (b5 x)).alloc (bZ)).alloc (bG)).heap[wa.heap.size + 1]? = some (bZ) from blk_alloc EZ.out _)
      have EG := Lib.hid (show (((wa.alloc (b5 x)).alloc (bZ)).alloc (bG)).heap[wa.heap.size + 1 + 1]? = some (bG) from nwb ((wa.alloc (b5 x)).alloc (bZ)) (bG) _ (by simp only [World.size_alloc]))
      have HB := Lib.hid (show Below W.heap.size W (((wa.alloc (b5 x)).alloc (bZ)).alloc (bG)) from blA HB.out HB.out.size)
      have HF := Lib.hid (Kd.F_alloc HF.out (bG))
      have hSZ : (((wa.alloc (b5 x)).alloc (bZ)).alloc (bG)).heap.size = wa.heap.size + 1 + 1 + 1 := by simp only [hdr5, World.size_alloc]
      simp only [b5, bG, bZ]
      go_simp
      refine hK.out _ _ ?_ (fun hHeld => ?_)
      focus ((try dsimp only); exact kp5 ED.out EP.out HB.out)
      clear hK K
      refine tk 18 57 (v := ?_) rfl rfl (by kernel_rfl) rfl ?_ (by assumption) ?_; rotate_left; focus (intro w hSw; go_simp; try with_reducible rfl)
      try simp only [Act.put, List.setIfInBounds_toArray, List.set_cons_zero, List.set_cons_succ]
      refine wpAnyH_ready (rs := [20]) (by kernel_rfl) (by simp) ?_
      refine AllReadyH.cons rfl (fun K hK => ?_) ?_
      ·have hst := wr50_blk (cs := cN dir dn (wa.heap.size + 1 + 1) A11 ws.length c11 x) EZ.out rfl rfl (cN_one _ _ _ _ _ _ _)
       simp only [b5, bG, bZ, cN] at hst
       have HL := lf5 (cN dir dn (wa.heap.size + 1 + 1) A11 ws.length c11 x) EZ.out EG.out HF.out HB.out (by omega) (by omega) (fun k hk => by have h1 := hk.1; have h2 := hk.2; omega)
       have EX := Lib.hid HL.1; have EG := Lib.hid HL.2.1; have HF := Lib.hid HL.2.2.1; have HB := Lib.hid HL.2.2.2; clear HL
       go_simp
       refine hK.out _ _ ?_ (fun hHeld => ?_)
       focus ((try dsimp only); exact kp5 ED.out EP.out HB.out)
       clear hK K
       refine wpAnyH_done (by kernel_rfl) ?_ _
       refine NoPanic.normal ?_
       exact HPO.out (wa.heap.size + 1) (wa.heap.size + 1 + 1) _ A11 c11 ws _ _ _ _ _ _ _ _ _ _ _ _ _ _ _ _ _ _ _ HWS.out HC.out HF.out EX.out EG.out (by omega) (by omega) (by omega) HB.out
      exact AllReadyH.nil
     exact AllReadyH.nil
    exact AllReadyH.nil
   refine AllReadyH.cons rfl (fun K hK => ?_) ?_
   ·have EB := Lib.hid (show ((wa.alloc (b5 x)).alloc (bG)).heap[wa.heap.size]? = some (b5 x) from blk_alloc EB.out _)
    have EG := Lib.hid (show ((wa.alloc (b5 x)).alloc (bG)).heap[wa.heap.size + 1]? = some (bG) from nwb (wa.alloc (b5 x)) (bG) _ (by simp only [World.size_alloc]))
    have HB := Lib.hid (show Below W.heap.size W ((wa.alloc (b5 x)).alloc (bG)) from blA HB.out HB.out.size)
    have HF := Lib.hid (Kd.F_alloc HF.out (bG))
    have hSZ : ((wa.alloc (b5 x)).alloc (bG)).heap.size = wa.heap.size + 1 + 1 := by simp only [hdr5, World.size_alloc]
    simp only [b5, bG, bZ]
    go_simp
    refine hK.out _ _ ?_ (fun hHeld => ?_)
    focus ((try dsimp only); exact kp5 ED.out EP.out HB.out)
    clear hK K
    refine wpAnyH_ready (rs := [6, 19]) (by kernel_rfl) (by simp) ?_
    refine AllReadyH.cons rfl (fun K hK => ?_) ?_
    ·have hcv := conv_blk EB.out
     (try simp only [b5, bG, bZ] at hcv)
     go_simp
     refine hK.out _ _ ?_ (fun hHeld => ?_)
     focus ((try dsimp only); exact kp5 ED.out EP.out HB.out)
     clear hK K
     refine tk 7 46 (v := ?_) rfl rfl (by kernel_rfl) rfl ?_ (by assumption) ?_; rotate_left; focus (intro w hSw; go_simp; try with_reducible rfl)
     try simp only [Act.put, List.setIfInBounds_toArray, List.set_cons_zero, List.set_cons_succ]
     refine tk 18 57 (v := ?_) rfl rfl (by kernel_rfl) rfl ?_ (by assumption) ?_; rotate_left; focus (intro w hSw; go_simp; try with_reducible rfl)
     try simp only [Act.put, List.setIfInBounds_toArray, List.set_cons_zero, List.set_cons_succ]
     refine wpAnyH_ready (rs := [19]) (by kernel_rfl) (by simp) ?_
     refine AllReadyH.cons rfl (fun K hK => ?_) ?_
     ·have EB := Lib.hid (show (((wa.alloc (b5 x)).alloc (bG)).alloc (bZ)).heap[wa.heap.size]? = some (b5 x) from blk_alloc EB.out _)
      have EG := Lib.hid (show (((wa.alloc (b5 x)).alloc (bG)).alloc (bZ)).heap[wa.heap.size + 1]? = some (bG) from blk_alloc EG.out _)
      have EZ := Lib.hid (show (((wa.alloc (b5 x)).alloc (bG)).alloc (bZ)).heap[wa.heap.size + 1 + 1]? = some (bZ) from nwb ((wa.alloc (b5 x)).alloc (bG)) (bZ) _ (by simp only [World.size_alloc]))
      have HB := Lib.hid (show Below W.heap.size W (((wa.alloc (b5 x)).alloc (bG)).alloc (bZ)) from blA HB.out HB.out.size)
      have HF := Lib.hid (Kd.F_alloc HF.out (bZ))
      have hSZ : (((wa.alloc (b5 x)).alloc (bG)).alloc (bZ)).heap.size = wa.heap.size + 1 + 1 + 1 := by simp only [hdr5, World.size_alloc]
      simp only [b5, bG, bZ]
      go_simp
      refine hK.out _ _ ?_ (fun hHeld => ?_)
      focus ((try dsimp only); exact kp5 ED.out EP.out HB.out)
      clear hK K
      refine wpAnyH_ready (rs := [20]) (by kernel_rfl) (by simp) ?_
      refine AllReadyH.cons rfl (fun K hK => ?_) ?_
      ·have hst := wr50_blk (cs := cN dir dn (wa.heap.size + 1) A11 ws.length c11 x) EZ.out rfl rfl (cN_one _ _ _ _ _ _ _)
       simp only [b5, bG, bZ, cN] at hst
       have HL := lf5 (cN dir dn (wa.heap.size + 1) A11 ws.length c11 x) EZ.out EG.out HF.out HB.out (by omega) (by omega) (fun k hk => by have h1 := hk.1; have h2 := hk.2; omega)
       have EX := Lib.hid HL.1; have EG := Lib.hid HL.2.1; have HF := Lib.hid HL.2.2.1; have HB := Lib.hid HL.2.2.2; clear HL
       go_simp
       refine hK.out _ _ ?_ (fun hHeld => ?_)
       focus ((try dsimp only); exact kp5 ED.out EP.out HB.out)
       clear hK K
       refine wpAnyH_done (by kernel_rfl) ?_ _
       refine NoPanic.normal ?_
       exact HPO.out (wa.heap.size + 1 + 1) (wa.heap.size + 1) _ A11 c11 ws _ _ _ _ _ _ _ _ _ _ _ _ _ _ _ _ _ _ _ HWS.out HC.out HF.out EX.out EG.out (by omega) (by omega) (by omega) HB.out
      exact AllReadyH.nil
     exact AllReadyH.nil
    refine AllReadyH.cons rfl (fun K hK => ?_) ?_
    ·have EB := Lib.hid (show (((wa.alloc (b5 x)).alloc (bG)).alloc (bZ)).heap[wa.heap.size]? = some (b5 x) from blk_alloc EB.out _)
     have EG := Lib.hid (show (((wa.alloc (b5 x)).alloc (bG)).alloc (bZ)).heap[wa.heap.size + 1]? = some (bG) from blk_alloc EG.out _)
     have EZ := Lib.hid (show (((wa.alloc (b5 x)).alloc (bG)).alloc (bZ)).heap[wa.heap.size + 1 + 1]? = some (bZ) from nwb ((wa.alloc (b5 x)).alloc (bG)) (bZ) _ (by simp only [World.size_alloc]))
     have HB := Lib.hid (show Below W.heap.size W (((wa.alloc (b5 x)).alloc (bG)).alloc (bZ)) from blA HB.out HB.out.size)
     have HF := Lib.hid (Kd.F_alloc HF.out (bZ))
     have hSZ : (((wa.alloc (b5 x)).alloc (bG)).alloc (bZ)).heap.size = wa.heap.size + 1 + 1 + 1 := by simp only [hdr5, World.size_alloc]
     simp only [b5, bG, bZ]
     go_simp
     refine hK.out _ _ ?_ (fun hHeld => ?_)
     focus ((try dsimp only); exact kp5 ED.out EP.out HB.out)
     clear hK K
     refine wpAnyH_ready (rs := [6]) (by kernel_rfl) (by simp) ?_
     refine AllReadyH.cons rfl (fun K hK => ?_) ?_
     ·have hcv := conv_blk EB.out
      (try simp only [b5, bG, bZ] at hcv)
      go_simp
      refine hK.out _ _ ?_ (fun hHeld => ?_)
      focus ((try dsimp only); exact kp5 ED.out EP.out HB.out)
      clear hK K
      refine tk 7 46 (v := ?_) rfl rfl (by kernel_rfl) rfl ?_ (by assumption) ?_; rotate_left; focus (intro w hSw; go_simp; try with_reducible rfl)
      try simp only [Act.put, List.setIfInBounds_toArray, List.set_cons_zero, List.set_cons_succ]
      refine tk 18 57 (v := ?_) rfl rfl (by kernel_rfl) rfl ?_ (by assumption) ?_; rotate_left; focus (intro w hSw; go_simp; try with_reducible rfl)
      try simp only [Act.put, List.setIfInBounds_toArray, List.set_cons_zero, List.set_cons_succ]
      refine wpAnyH_ready (rs := [20]) (by kernel_rfl) (by simp) ?_
      refine AllReadyH.cons rfl (fun K hK => ?_) ?_
      ·have hst := wr50_blk (cs := cN dir dn (wa.heap.size + 1) A11 ws.length c11 x) EZ.out rfl rfl (cN_one _ _ _ _ _ _ _)
       simp only [b5, bG, bZ, cN] at hst
       have HL := lf5 (cN dir dn (wa.heap.size + 1) A11 ws.length c11 x) EZ.out EG.out HF.out HB.out (by omega) (by omega) (fun k hk => by have h1 := hk.1; have h2 := hk.2; omega)
       have EX := Lib.hid HL.1; have EG := Lib.hid HL.2.1; have HF := Lib.hid HL.2.2.1; have HB := Lib.hid HL.2.2.2; clear HL
       go_simp
       refine hK.out _ _ ?_ (fun hHeld => ?_)
       focus ((try dsimp only); exact kp5 ED.out EP.out HB.out)
       clear hK K
       refine wpAnyH_done (by kernel_rfl) ?_ _
       refine NoPanic.normal ?_
       exact HPO.out (wa.heap.size + 1 + 1) (wa.heap.size + 1) _ A11 c11 ws _ _ _ _ _ _ _ _ _ _ _ _ _ _ _ _ _ _ _ HWS.out HC.out HF.out EX.out EG.out (by omega) (by omega) (by omega) HB.out
      exact AllReadyH.nil
     exact AllReadyH.nil
    exact AllReadyH.nil
   refine AllReadyH.cons rfl (fun K hK => ?_) ?_
   ·have EB := Lib.hid (show ((wa.alloc (b5 x)).alloc (bZ)).heap[wa.heap.size]? = some (b5 x) from blk_alloc EB.out _)
    have EZ := Lib.hid (show ((wa.alloc (b5 x)).alloc (bZ)).heap[wa.heap.size + 1]? = some (bZ) from nwb (wa.alloc (b5 x)) (bZ) _ (by simp only [World.size_alloc]))
    have HB := Lib.hid (show Below W.heap.size W ((wa.alloc (b5 x)).alloc (bZ)) from blA HB.out HB.out.size)
    have HF := Lib.hid (Kd.F_alloc HF.out (bZ))
    have hSZ : ((wa.alloc (b5 x)).alloc (bZ)).heap.size = wa.heap.size + 1 + 1 := by simp only [hdr5, World.size_alloc]
    simp only [b5, bG, bZ]
    go_simp
    refine hK.out _ _ ?_ (fun hHeld => ?_)
    focus ((try dsimp only); exact kp5 ED.out EP.out HB.out)
    clear hK K
    refine wpAnyH_ready (rs := [6, 11]) (by kernel_rfl) (by simp) ?_
    refine AllReadyH.cons rfl (fun K hK => ?_) ?_
    ·have hcv := conv_blk EB.out
     (try simp only [b5, bG, bZ] at hcv)
     go_simp
     refine hK.out _ _ ?_ (fun hHeld => ?_)
     focus ((try dsimp only); exact kp5 ED.out EP.out HB.out)
     clear hK K
     refine tk 7 46 (v := ?_) rfl rfl (by kernel_rfl) rfl ?_ (by assumption) ?_; rotate_left; focus (intro w hSw; go_simp; try with_reducible rfl)
     try simp only [Act.put, List.setIfInBounds_toArray, List.set_cons_zero, List.set_cons_succ]
     refine wpAnyH_ready (rs := [11]) (by kernel_rfl) (by simp) ?_
     refine AllReadyH.cons rfl (fun K hK => ?_) ?_
     ·have EB := Lib.hid (show (((wa.alloc (b5 x)).alloc (bZ)).alloc (bG)).heap[wa.heap.size]? = some (b5 x) from blk_alloc EB.out _)
      have EZ := Lib.hid (show (((wa.alloc (b5 x)).alloc (bZ)).alloc (bG)).heap[wa.heap.size + 1]? = some (bZ) from blk_alloc EZ.out _)
      have EG := Lib.hid (show (((wa.alloc (b5 x)).alloc (bZ)).alloc (bG)).heap[wa.heap.size + 1 + 1]? = some (bG) from nwb ((wa.alloc (b5 x)).alloc (bZ)) (bG) _ (by simp only [World.size_alloc]))
      have HB := Lib.hid (show Below W.heap.size W (((wa.alloc (b5 x)).alloc (bZ)).alloc (bG)) from blA HB.out HB.out.size)
      have HF := Lib.hid (Kd.F_alloc HF.out (bG))
      have hSZ : (((wa.alloc (b5 x)).alloc (bZ)).alloc (bG)).heap.size = wa.heap.size + 1 + 1 + 1 := by simp only [hdr5, World.size_alloc]
      simp only [b5, bG, bZ]
      go_simp
      refine hK.out _ _ ?_ (fun hHeld => ?_)
      focus ((try dsimp only); exact kp5 ED.out EP.out HB.out)
      clear hK K
      refine tk 18 57 (v := ?_) rfl rfl (by kernel_rfl) rfl ?_ (by assumption) ?_; rotate_left; focus (intro w hSw; go_simp; try with_reducible rfl)
      try simp only [Act.put, List.setIfInBounds_toArray, List.set_cons_zero, List.set_cons_succ]
      refine wpAnyH_ready (rs := [20]) (by kernel_rfl) (by simp) ?_
      refine AllReadyH.cons rfl (fun K hK => ?_) ?_
      ·have hst := wr50_blk (cs := cN dir dn (wa.heap.size + 1 + 1) A11 ws.length c11 x) EZ.out rfl rfl (cN_one _ _ _ _ _ _ _)
       simp only [b5, bG, bZ, cN] at hst
       have HL := lf5 (cN dir dn (wa.heap.size + 1 + 1) A11 ws.length c11 x) EZ.out EG.out HF.out HB.out (by omega) (by omega) (fun k hk => by have h1 := hk.1; have h2 := hk.2; omega)
       have EX := Lib.hid HL.1; have EG := Lib.hid HL.2.1; have HF := Lib.hid HL.2.2.1; have HB := Lib.hid HL.2.2.2; clear HL
       go_simp
       refine hK.out _ _ ?_ (fun hHeld => ?_)
       focus ((try dsimp only); exact kp5 ED.out EP.out HB.out)
       clear hK K
       refine wpAnyH_done (by kernel_rfl) ?_ _
       refine NoPanic.normal ?_
       exact HPO.out (wa.heap.size + 1) (wa.heap.size + 1 + 1) _ A11 c11 ws _ _ _ _ _ _ _ _ _ _ _ _ _ _ _ _ _ _ _ HWS.out HC.out HF.out EX.out EG.out (by omega) (by omega) (by omega) HB.out
      exact AllReadyH.nil
     exact AllReadyH.nil
    refine AllReadyH.cons rfl (fun K hK => ?_) ?_
    ·have EB := Lib.hid (show (((wa.alloc (b5 x)).alloc (bZ)).alloc (bG)).heap[wa.heap.size]? = some (b5 x) from blk_alloc EB.out _)
     have EZ := Lib.hid (show (((wa.alloc (b5 x)).alloc (bZ)).alloc (bG)).heap[wa.heap.size + 1]? = some (bZ) from blk_alloc EZ.out _)
     have EG := Lib.hid (show (((wa.alloc (b5 x)).alloc (bZ)).alloc (bG)).heap[wa.heap.size + 1 + 1]? = some (bG) from nwb ((wa.alloc (b5 x)).alloc (bZ)) (bG) _ (by simp only [World.size_alloc]))
     have HB := Lib.hid (show Below W.heap.size W (((wa.alloc (b5 x)).alloc (bZ)).alloc (bG)) from blA HB.out HB.out.size)
     have HF := Lib.hid (Kd.F_alloc HF.out (bG))
     have hSZ : (((wa.alloc (b5 x)).alloc (bZ)).alloc (bG)).heap.size = wa.heap.size + 1 + 1 + 1 := by simp only [hdr5, World.size_alloc]
     simp only [b5, bG, bZ]
     go_simp
     refine hK.out _ _ ?_ (fun hHeld => ?_)
     focus ((try dsimp only); exact kp5 ED.out EP.out HB.out)
     clear hK K
     refine wpAnyH_ready (rs := [6]) (by kernel_rfl) (by simp) ?_
     refine AllReadyH.cons rfl (fun K hK => ?_) ?_
     ·have hcv := conv_blk EB.out
      (try simp only [b5, bG, bZ] at hcv)
      go_simp
      refine hK.out _ _ ?_ (fun hHeld => ?_)
      focus ((try dsimp only); exact kp5 ED.out EP.out HB.out)
      clear hK K
      refine tk 7 46 (v := ?_) rfl rfl (by kernel_rfl) rfl ?_ (by assumption) ?_; rotate_left; focus (intro w hSw; go_simp; try with_reducible rfl)
      try simp only [Act.put, List.setIfInBounds_toArray, List.set_cons_zero, List.set_cons_succ]
      refine tk 18 57 (v := ?_) rfl rfl (by kernel_rfl) rfl ?_ (by assumption) ?_; rotate_left; focus (intro w hSw; go_simp; try with_reducible rfl)
      try simp only [Act.put, List.setIfInBounds_toArray, List.set_cons_zero, List.set_cons_succ]
      refine wpAnyH_ready (rs := [20]) (by kernel_rfl) (by simp) ?_
      refine AllReadyH.cons rfl (fun K hK => ?_) ?_
      ·have hst := wr50_blk (cs := cN dir dn (wa.heap.size + 1 + 1) A11 ws.length c11 x) EZ.out rfl rfl (cN_one _ _ _ _ _ _ _)
       simp only [b5, bG, bZ, cN] at hst
       have HL := lf5 (cN dir dn (wa.heap.size + 1 + 1) A11 ws.length c11 x) EZ.out EG.out HF.out HB.out (by omega) (by omega) (fun k hk => by have h1 := hk.1; have h2 := hk.2; omega)
       have EX := Lib.hid HL.1; have EG := Lib.hid HL.2.1; have HF := Lib.hid HL.2.2.1; have HB := Lib.hid HL.2.2.2; clear HL
       go_simp
       refine hK.out _ _ ?_ (fun hHeld => ?_)
       focus ((try dsimp only); exact kp5 ED.out EP.out HB.out)
       clear hK K
       refine wpAnyH_done (by kernel_rfl) ?_ _
       refine NoPanic.normal ?_
       exact HPO.out (wa.heap.size + 1) (wa.heap.size + 1 + 1) _ A11 c11 ws _ _ _ _ _ _ _ _ _ _ _ _ _ _ _ _ _ _ _ HWS.out HC.out HF.out EX.out EG.out (by omega) (by omega) (by omega) HB.out
      exact AllReadyH.nil
     exact AllReadyH.nil
    exact AllReadyH.nil
   exact AllReadyH.nil
  refine AllReadyH.cons rfl (fun K hK => ?_) ?_
  ·have EG := Lib.hid (show (wa.alloc (bG)).heap[wa.heap.size]? = some (bG) from nwb wa (bG) _ (by simp only [World.size_alloc]))
   have HB := Lib.hid (show Below W.heap.size W (wa.alloc (bG)) from blA HB.out HB.out.size)
   have HF := Lib.hid (Kd.F_alloc HF.out (bG))
   have hSZ : (wa.alloc (bG)).heap.size = wa.heap.size + 1 := by simp only [hdr5, World.size_alloc]
   simp only [b5, bG, bZ]
   go_simp
   refine hK.out _ _ ?_ (fun hHeld => ?_)
   focus ((try dsimp only); exact kp5 ED.out EP.out HB.out)
   clear hK K
   refine wpAnyH_ready (rs := [5, 19]) (by kernel_rfl) (by simp) ?_
   refine AllReadyH.cons rfl (fun K hK => ?_) ?_
   ·have EG := Lib.hid (show ((wa.alloc (bG)).alloc (b5 x)).heap[wa.heap.size]? = some (bG) from blk_alloc EG.out _)
    have EB := Lib.hid (show ((wa.alloc (bG)).alloc (b5 x)).heap[wa.heap.size + 1]? = some (b5 x) from nwb (wa.alloc (bG)) (b5 x) _ (by simp only [World.size_alloc]))
    have HB := Lib.hid (show Below W.heap.size W ((wa.alloc (bG)).alloc (b5 x)) from blA HB.out HB.out.size)
    have HF := Lib.hid (Kd.F_alloc HF.out (b5 x))
    have hSZ : ((wa.alloc (bG)).alloc (b5 x)).heap.size = wa.heap.size + 1 + 1 := by simp only [hdr5, World.size_alloc]
    simp only [b5, bG, bZ]
    go_simp
    refine hK.out _ _ ?_ (fun hHeld => ?_)
    focus ((try dsimp only); exact kp5 ED.out EP.out HB.out)
    clear hK K
    refine wpAnyH_ready (rs := [6, 19]) (by kernel_rfl) (by simp) ?_
    refine AllReadyH.cons rfl (fun K hK => ?_) ?_
    ·have hcv := conv_blk EB.out
     (try simp only [b5, bG, bZ] at hcv)
     go_simp
     refine hK.out _ _ ?_ (fun hHeld => ?_)
     focus ((try dsimp only); exact kp5 ED.out EP.out HB.out)
     clear hK K
     refine tk 7 46 (v := ?_) rfl rfl (by kernel_rfl) rfl ?_ (by assumption) ?_; rotate_left; focus (intro w hSw; go_simp; try with_reducible rfl)
     try simp only [Act.put, List.setIfInBounds_toArray, List.set_cons_zero, List.set_cons_succ]
     refine tk 18 57 (v := ?_) rfl rfl (by kernel_rfl) rfl ?_ (by assumption) ?_; rotate_left; focus (intro w hSw; go_simp; try with_reducible rfl)
     try simp only [Act.put, List.setIfInBounds_toArray, List.set_cons_zero, List.set_cons_succ]
     refine wpAnyH_ready (rs := [19]) (by kernel_rfl) (by simp) ?_
     refine AllReadyH.cons rfl (fun K hK => ?_) ?_
     ·have EB := Lib.hid (show (((wa.alloc (bG)).alloc (b5 x)).alloc (bZ)).heap[wa.heap.size + 1]? = some (b5 x) from blk_alloc EB.out _)
      have EG := Lib.hid (show (((wa.alloc (bG)).alloc (b5 x)).alloc (bZ)).heap[wa.heap.size]? = some (bG) from blk_alloc EG.out _)
      have EZ := Lib.hid (show (((wa.alloc (bG)).alloc (b5 x)).alloc (bZ)).heap[wa.heap.size + 1 + 1]? = some (bZ) from nwb ((wa.alloc (bG)).alloc (b5 x)) (bZ) _ (by simp only [World.size_alloc]))
      have HB := Lib.hid (show Below W.heap.size W (((wa.alloc (bG)).alloc (b5 x)).alloc (bZ)) from blA HB.out HB.out.size)
      have HF := Lib.hid (Kd.F_alloc HF.out (bZ))
      have hSZ : (((wa.alloc (bG)).alloc (b5 x)).alloc (bZ)).heap.size = wa.heap.size + 1 + 1 + 1 := by simp only [hdr5, World.size_alloc]
      simp only [b5, bG, bZ]
      go_simp
      refine hK.out _ _ ?_ (fun hHeld => ?_)
      focus ((try dsimp only); exact kp5 ED.out EP.out HB.out)
      clear hK K
      refine wpAnyH_ready (rs := [20]) (by kernel_rfl) (by simp) ?_
      refine AllReadyH.cons rfl (fun K hK => ?_) ?_
      ·have hst := wr50_blk (cs := cN dir dn (wa.heap.size) A11 ws.length c11 x) EZ.out rfl rfl (cN_one _ _ _ _ _ _ _)
       simp only [b5, bG, bZ, cN] at hst
       have HL := lf5 (cN dir dn (wa.heap.size) A11 ws.length c11 x) EZ.out EG.out HF.out HB.out (by omega) (by omega) (fun k hk => by have h1 := hk.1; have h2 := hk.2; omega)
       have EX := Lib.hid HL.1; have EG := Lib.hid HL.2.1; have HF := Lib.hid HL.2.2.1; have HB := Lib.hid HL.2.2.2; clear HL
       go_simp
       refine hK.out _ _ ?_ (fun hHeld => ?_)
       focus ((try dsimp only); exact kp5 ED.out EP.out HB.out)
       clear hK K
       refine wpAnyH_done (by kernel_rfl) ?_ _
       refine NoPanic.normal ?_
       exact HPO.out (wa.heap.size + 1 + 1) (wa.heap.size) _ A11 c11 ws _ _ _ _ _ _ _ _ _ _ _ _ _ _ _ _ _ _ _ HWS.out HC.out HF.out EX.out EG.out (by omega) (by omega) (by omega) HB.out
      exact AllReadyH.nil
     exact AllReadyH.nil
    refine AllReadyH.cons rfl (fun K hK => ?_) ?_
    ·have EB := Lib.hid (show (((wa.alloc (bG)).alloc (b5 x)).alloc (bZ)).heap[wa.heap.size + 1]? = some (b5 x) from blk_alloc EB.out _)
     have EG := Lib.hid (show (((wa.alloc (bG)).alloc (b5 x)).alloc (bZ)).heap[wa.heap.size]? = some (bG) from blk_alloc EG.out _)
     have EZ := Lib.hid (show (((wa.alloc (bG)).alloc (b5 x)).alloc (bZ)).heap[wa.heap.size + 1 + 1]? = some (bZ) from nwb ((wa.alloc (bG)).alloc (b5 x)) (bZ) _ (by simp only [World.size_alloc]))
     have HB := Lib.hid (show Below W.heap.size W (((wa.alloc (bG)).alloc (b5 x)).alloc (bZ)) from blA HB.out HB.out.size)
     have HF := Lib.hid (Kd.F_alloc HF.out (bZ))
     have hSZ : (((wa.alloc (bG)).alloc (b5 x)).alloc (bZ)).heap.size = wa.heap.size + 1 + 1 + 1 := by simp only [hdr5, World.size_alloc]
     simp only [b5, bG, bZ]
     go_simp
     refine hK.out _ _ ?_ (fun hHeld => ?_)
     focus ((try dsimp only); exact kp5 ED.out EP.out HB.out)
     clear hK K
     refine wpAnyH_ready (rs := [6]) (by kernel_rfl) (by simp) ?_
     refine AllReadyH.cons rfl (fun K hK => ?_) ?_
     ·have hcv := conv_blk EB.out
      (try simp only [b5, bG, bZ] at hcv)
      go_simp
      refine hK.out _ _ ?_ (fun hHeld => ?_)
      focus ((try dsimp only); exact kp5 ED.out EP.out HB.out)
      clear hK K
      refine tk 7 46 (v := ?_) rfl rfl (by kernel_rfl) rfl ?_ (by assumption) ?_; rotate_left; focus (intro w hSw; go_simp; try with_reducible rfl)
      try simp only [Act.put, List.setIfInBounds_toArray, List.set_cons_zero, List.set_cons_succ]
      refine tk 18 57 (v := ?_) rfl rfl (by kernel_rfl) rfl ?_ (by assumption) ?_; rotate_left; focus (intro w hSw; go_simp; try with_reducible rfl)
      try simp only [Act.put, List.setIfInBounds_toArray, List.set_cons_zero, List.set_cons_succ]
      refine wpAnyH_ready (rs := [20]) (by kernel_rfl) (by simp) ?_
      refine AllReadyH.cons rfl (fun K hK => ?_) ?_
      ·have hst := wr50_blk (cs := cN dir dn (wa.heap.size) A11 ws.length c11 x) EZ.out rfl rfl (cN_one _ _ _ _ _ _ _)
       simp only [b5, bG, bZ, cN] at hst
       have HL := lf5 (cN dir dn (wa.heap.size) A11 ws.length c11 x) EZ.out EG.out HF.out HB.out (by omega) (by omega) (fun k hk => by have h1 := hk.1; have h2 := hk.2; omega)
       have EX := Lib.hid HL.1; have EG := Lib.hid HL.2.1; have HF := Lib.hid HL.2.2.1; have HB := Lib.hid HL.2.2.2; clear HL
       go_simp
       refine hK.out _ _ ?_ (fun hHeld => ?_)
       focus ((try dsimp only); exact kp5 ED.out EP.out HB.out)
       clear hK K
       refine wpAnyH_done (by kernel_rfl) ?_ _
       refine NoPanic.normal ?_
       exact HPO.out (wa.heap.size + 1 + 1) (wa.heap.size) _ A11 c11 ws _ _ _ _ _ _ _ _ _ _ _ _ _ _ _ _ _ _ _ HWS.out HC.out HF.out EX.out EG.out (by omega) (by omega) (by omega) HB.out
      exact AllReadyH.nil
     exact AllReadyH.nil
    exact AllReadyH.nil
   refine AllReadyH.cons rfl (fun K hK => ?_) ?_
   ·have EG := Lib.hid (show ((wa.alloc (bG)).alloc (bZ)).heap[wa.heap.size]? = some (bG) from blk_alloc EG.out _)
    have EZ := Lib.hid (show ((wa.alloc (bG)).alloc (bZ)).heap[wa.heap.size + 1]? = some (bZ) from nwb (wa.alloc (bG)) (bZ) _ (by simp only [World.size_alloc]))
    have HB := Lib.hid (show Below W.heap.size W ((wa.alloc (bG)).alloc (bZ)) from blA HB.out HB.out.size)
    have HF := Lib.hid (Kd.F_alloc HF.out (bZ))
    have hSZ : ((wa.alloc (bG)).alloc (bZ)).heap.size = wa.heap.size + 1 + 1 := by simp only [hdr5, World.size_alloc]
    simp only [b5, bG, bZ]
    go_simp
    refine hK.out _ _ ?_ (fun hHeld => ?_)
    focus ((try dsimp only); exact kp5 ED.out EP.out HB.out)
    clear hK K
    refine wpAnyH_ready (rs := [5]) (by kernel_rfl) (by simp) ?_
    refine AllReadyH.cons rfl (fun K hK => ?_) ?_
    ·have EG := Lib.hid (show (((wa.alloc (bG)).alloc (bZ)).alloc (b5 x)).heap[wa.heap.size]? = some (bG) from blk_alloc EG.out _)
     have EZ := Lib.hid (show (((wa.alloc (bG)).alloc (bZ)).alloc (b5 x)).heap[wa.heap.size + 1]? = some (bZ) from blk_alloc EZ.out _)
     have EB := Lib.hid (show (((wa.alloc (bG)).alloc (bZ)).alloc (b5 x)).heap[wa.heap.size + 1 + 1]? = some (b5 x) from nwb ((wa.alloc (bG)).alloc (bZ)) (b5 x) _ (by simp only [World.size_alloc]))
     have HB := Lib.hid (show Below W.heap.size W (((wa.alloc (bG)).alloc (bZ)).alloc (b5 x)) from blA HB.out HB.out.size)
     have HF := Lib.hid (Kd.F_alloc HF.out (b5 x))
     have hSZ : (((wa.alloc (bG)).alloc (bZ)).alloc (b5 x)).heap.size = wa.heap.size + 1 + 1 + 1 := by simp only [hdr5, World.size_alloc]
     simp only [b5, bG, bZ]
     go_simp
     refine hK.out _ _ ?_ (fun hHeld => ?_)
     focus ((try dsimp only); exact kp5 ED.out EP.out HB.out)
     clear hK K
     refine wpAnyH_ready (rs := [6]) (by kernel_rfl) (by simp) ?_
     refine AllReadyH.cons rfl (fun K hK => ?_) ?_
     ·have hcv := conv_blk EB.out
      (try simp only [b5, bG, bZ] at hcv)
      go_simp
      refine hK.out _ _ ?_ (fun hHeld => ?_)
      focus ((try dsimp only); exact kp5 ED.out EP.out HB.out)
      clear hK K
      refine tk 7 46 (v := ?_) rfl rfl (by kernel_rfl) rfl ?_ (by assumption) ?_; rotate_left; focus (intro w hSw; go_simp; try with_reducible rfl)
      try simp only [Act.put, List.setIfInBounds_toArray, List.set_cons_zero, List.set_cons_succ]
      refine tk 18 57 (v := ?_) rfl rfl (by kernel_rfl) rfl ?_ (by assumption) ?_; rotate_left; focus (intro w hSw; go_simp; try with_reducible rfl)
      try simp only [Act.put, List.setIfInBounds_toArray, List.set_cons_zero, List.set_cons_succ]
      refine wpAnyH_ready (rs := [20]) (by kernel_rfl) (by simp) ?_
      refine AllReadyH.cons rfl (fun K hK => ?_) ?_
      ·have hst := wr50_blk (cs := cN dir dn (wa.heap.size) A11 ws.length c11 x) EZ.out rfl rfl (cN_one _ _ _ _ _ _ _)
       simp only [b5, bG, bZ, cN] at hst
       have HL := lf5 (cN dir dn (wa.heap.size) A11 ws.length c11 x) EZ.out EG.out HF.out HB.out (by omega) (by omega) (fun k hk => by have h1 := hk.1; have h2 := hk.2; omega)
       have EX := Lib.hid HL.1; have EG := Lib.hid HL.2.1; have HF := Lib.hid HL.2.2.1; have HB := Lib.hid HL.2.2.2; clear HL
       go_simp
       refine hK.out _ _ ?_ (fun hHeld => ?_)
       focus ((try dsimp only); exact kp5 ED.out EP.out HB.out)
       clear hK K
       refine wpAnyH_done (by kernel_rfl) ?_ _
       refine NoPanic.normal ?_
       exact HPO.out (wa.heap.size + 1) (wa.heap.size) _ A11 c11 ws _ _ _ _ _ _ _ _ _ _ _ _ _ _ _ _ _ _ _ HWS.out HC.out HF.out EX.out EG.out (by omega) (by omega) (by omega) HB.out
      exact AllReadyH.nil
     exact AllReadyH.nil
    exact AllReadyH.nil
   exact AllReadyH.nil
  refine AllReadyH.cons rfl (fun K hK => ?_) ?_
  ·have EZ := Lib.hid (show (wa.alloc (bZ)).heap[wa.heap.size]? = some (bZ) from nwb wa (bZ) _ (by simp only [World.size_alloc]))
   have HB := Lib.hid (show Below W.heap.size W (wa.alloc (bZ)) from blA HB.out HB.out.size)
   have HF := Lib.hid (Kd.F_alloc HF.out (bZ))
   have hSZ : (wa.alloc (bZ)).heap.size = wa.heap.size + 1 := by simp only [hdr5, World.size_alloc]
   simp only [b5, bG, bZ]
   go_simp
   refine hK.out _ _ ?_ (fun hHeld => ?_)
   focus ((try dsimp only); exact kp5 ED.out EP.out HB.out)
   clear hK K
   refine wpAnyH_ready (rs := [5, 11]) (by kernel_rfl) (by simp) ?_
   refine AllReadyH.cons rfl (fun K hK => ?_) ?_
   ·have EZ := Lib.hid (show ((wa.alloc (bZ)).alloc (b5 x)).heap[wa.heap.size]? = some (bZ) from blk_alloc EZ.out _)
    have EB := Lib.hid (show ((wa.alloc (bZ)).alloc (b5 x)).heap[wa.heap.size + 1]? = some (b5 x) from nwb (wa.alloc (bZ)) (b5 x) _ (by simp only [World.size_alloc]))
    have HB := Lib.hid (show Below W.heap.size W ((wa.alloc (bZ)).alloc (b5 x)) from blA HB.out HB.out.size)
    have HF := Lib.hid (Kd.F_alloc HF.out (b5 x))
    have hSZ : ((wa.alloc (bZ)).alloc (b5 x)).heap.size = wa.heap.size + 1 + 1 := by simp only [hdr5, World.size_alloc]
    simp only [b5, bG, bZ]
    go_simp
    refine hK.out _ _ ?_ (fun hHeld => ?_)
    focus ((try dsimp only); exact kp5 ED.out EP.out HB.out)
    clear hK K
    refine wpAnyH_ready (rs := [6, 11]) (by kernel_rfl) (by simp) ?_
    refine AllReadyH.cons rfl (fun K hK => ?_) ?_
    ·have hcv := conv_blk EB.out
     (try simp only [b5, bG, bZ] at hcv)
     go_simp
     refine hK.out _ _ ?_ (fun hHeld => ?_)
     focus ((try dsimp only); exact kp5 ED.out EP.out HB.out)
     clear hK K
     refine tk 7 46 (v := ?_) rfl rfl (by kernel_rfl) rfl ?_ (by assumption) ?_; rotate_left; focus (intro w hSw; go_simp; try with_reducible rfl)
     try simp only [Act.put, List.setIfInBounds_toArray, List.set_cons_zero, List.set_cons_succ]
     refine wpAnyH_ready (rs := [11]) (by kernel_rfl) (by simp) ?_
     refine AllReadyH.cons rfl (fun K hK => ?_) ?_
     ·have EB := Lib.hid (show (((wa.alloc (bZ)).alloc (b5 x)).alloc (bG)).heap[wa.heap.size + 1]? = some (b5 x) from blk_alloc EB.out _)
      have EZ := Lib.hid (show (((wa.alloc (bZ)).alloc (b5 x)).alloc (bG)).heap[wa.heap.size]? = some (bZ) from blk_alloc EZ.out _)
      have EG := Lib.hid (show (((wa.alloc (bZ)).alloc (b5 x)).alloc (bG)).heap[wa.heap.size + 1 + 1]? = some (bG) from nwb ((wa.alloc (bZ)).alloc (b5 x)) (bG) _ (by simp only [World.size_alloc]))
      have HB := Lib.hid (show Below W.heap.size W (((wa.alloc (bZ)).alloc (b5 x)).alloc (bG)) from blA HB.out HB.out.size)
      have HF := Lib.hid (Kd.F_alloc HF.out (bG))
      have hSZ : (((wa.alloc (bZ)).alloc (b5 x)).alloc (bG)).heap.size = wa.heap.size + 1 + 1 + 1 := by simp only [hdr5, World.size_alloc]
      simp only [b5, bG, bZ]
      go_simp
      refine hK.out _ _ ?_ (fun hHeld => ?_)
      focus ((try dsimp only); exact kp5 ED.out EP.out HB.out)
      clear hK K
      refine tk 18 57 (v := ?_) rfl rfl (by kernel_rfl) rfl ?_ (by assumption) ?_; rotate_left; focus (intro w hSw; go_simp; try with_reducible rfl)
      try simp only [Act.put, List.setIfInBounds_toArray, List.set_cons_zero, List.set_cons_succ]
      refine wpAnyH_ready (rs := [20]) (by kernel_rfl) (by simp) ?_
      refine AllReadyH.cons rfl (fun K hK => ?_) ?_
      ·have hst := wr50_blk (cs := cN dir dn (wa.heap.size + 1 + 1) A11 ws.length c11 x) EZ.out rfl rfl (cN_one _ _ _ _ _ _ _)
       simp only [b5, bG, bZ, cN] at hst
       have HL := lf5 (cN dir dn (wa.heap.size + 1 + 1) A11 ws.length c11 x) EZ.out EG.out HF.out HB.out (by omega) (by omega) (fun k hk => by have h1 := hk.1; have h2 := hk.2; omega)
       have EX := Lib.hid HL.1; have EG := Lib.hid HL.2.1; have HF := Lib.hid HL.2.2.1; have HB := Lib.hid HL.2.2.2; clear HL
       go_simp
       refine hK.out _ _ ?_ (fun hHeld => ?_)
       focus ((try dsimp only); exact kp5 ED.out EP.out HB.out)
       clear hK K
       refine wpAnyH_done (by kernel_rfl) ?_ _
       refine NoPanic.normal ?_
       exact HPO.out (wa.heap.size) (wa.heap.size + 1 + 1) _ A11 c11 ws _ _ _ _ _ _ _ _ _ _ _ _ _ _ _ _ _ _ _ HWS.out HC.out HF.out EX.out EG.out (by omega) (by omega) (by omega) HB.out
      exact AllReadyH.nil
     exact AllReadyH.nil
    refine AllReadyH.cons rfl (fun K hK => ?_) ?_
    ·have EB := Lib.hid (show (((wa.alloc (bZ)).alloc (b5 x)).alloc (bG)).heap[wa.heap.size + 1]? = some (b5 x) from blk_alloc EB.out _)
     have EZ := Lib.hid (show (((wa.alloc (bZ)).alloc (b5 x)).alloc (bG)).heap[wa.heap.size]? = some (bZ) from blk_alloc EZ.out _)
     have EG := Lib.hid (show (((wa.alloc (bZ)).alloc (b5 x)).alloc (bG)).heap[wa.heap.size + 1 + 1]? = some (bG) from nwb ((wa.alloc (bZ)).alloc (b5 x)) (bG) _ (by simp only [World.size_alloc]))
     have HB := Lib.hid (show Below W.heap.size W (((wa.alloc (bZ)).alloc (b5 x)).alloc (bG)) from blA HB.out HB.out.size)
     have HF := Lib.hid (Kd.F_alloc HF.out (bG))
     have hSZ : (((wa.alloc (bZ)).alloc (b5 x)).alloc (bG)).heap.size = wa.heap.size + 1 + 1 + 1 := by simp only [hdr5, World.size_alloc]
     simp only [b5, bG, bZ]
     go_simp
     refine hK.out _ _ ?_ (fun hHeld => ?_)
     focus ((try dsimp only); exact kp5 ED.out EP.out HB.out)
     clear hK K
     refine wpAnyH_ready (rs := [6]) (by kernel_rfl) (by simp) ?_
     refine AllReadyH.cons rfl (fun K hK => ?_) ?_
     ·have hcv := conv_blk EB.out
      (try simp only [b5, bG, bZ] at hcv)
      go_simp
      refine hK.out _ _ ?_ (fun hHeld => ?_)
      focus ((try dsimp only); exact kp5 ED.out EP.out HB.out)
      clear hK K
      refine tk 7 46 (v := ?_) rfl rfl (by kernel_rfl) rfl ?_ (by assumption) ?_; rotate_left; focus (intro w hSw; go_simp; try with_reducible rfl)
      try simp only [Act.put, List.setIfInBounds_toArray, List.set_cons_zero, List.set_cons_succ]
      refine tk 18 57 (v := ?_) rfl rfl (by kernel_rfl) rfl ?_ (by assumption) ?_; rotate_left; focus (intro w hSw; go_simp; try with_reducible rfl)
      try simp only [Act.put, List.setIfInBounds_toArray, List.set_cons_zero, List.set_cons_succ]
      refine wpAnyH_ready (rs := [20]) (by kernel_rfl) (by simp) ?_
      refine AllReadyH.cons rfl (fun K hK => ?_) ?_
      ·have hst := wr50_blk (cs := cN dir dn (wa.heap.size + 1 + 1) A11 ws.length c11 x) EZ.out rfl rfl (cN_one _ _ _ _ _ _ _)
       simp only [b5, bG, bZ, cN] at hst
       have HL := lf5 (cN dir dn (wa.heap.size + 1 + 1) A11 ws.length c11 x) EZ.out EG.out HF.out HB.out (by omega) (by omega) (fun k hk => by have h1 := hk.1; have h2 := hk.2; omega)
       have EX := Lib.hid HL.1; have EG := Lib.hid HL.2.1; have HF := Lib.hid HL.2.2.1; have HB := Lib.hid HL.2.2.2; clear HL
       go_simp
       refine hK.out _ _ ?_ (fun hHeld => ?_)
       focus ((try dsimp only); exact kp5 ED.out EP.out HB.out)
       clear hK K
       refine wpAnyH_done (by kernel_rfl) ?_ _
       refine NoPanic.normal ?_
       exact HPO.out (wa.heap.size) (wa.heap.size + 1 + 1) _ A11 c11 ws _ _ _ _ _ _ _ _ _ _ _ _ _ _ _ _ _ _ _ HWS.out HC.out HF.out EX.out EG.out (by omega) (by omega) (by omega) HB.out
      exact AllReadyH.nil
     exact AllReadyH.nil
    exact AllReadyH.nil
   refine AllReadyH.cons rfl (fun K hK => ?_) ?_
   ·have EZ := Lib.hid (show ((wa.alloc (bZ)).alloc (bG)).heap[wa.heap.size]? = some (bZ) from blk_alloc EZ.out _)
    have EG := Lib.hid (show ((wa.alloc (bZ)).alloc (bG)).heap[wa.heap.size + 1]? = some (bG) from nwb (wa.alloc (bZ)) (bG) _ (by simp only [World.size_alloc]))
    have HB := Lib.hid (show Below W.heap.size W ((wa.alloc (bZ)).alloc (bG)) from blA HB.out HB.out.size)
    have HF := Lib.hid (Kd.F_alloc HF.out (bG))
    have hSZ : ((wa.alloc (bZ)).alloc (bG)).heap.size = wa.heap.size + 1 + 1 := by simp only [hdr5, World.size_alloc]
    simp only [b5, bG, bZ]
    go_simp
    refine hK.out _ _ ?_ (fun hHeld => ?_)
    focus ((try dsimp only); exact kp5 ED.out EP.out HB.out)
    clear hK K
    refine wpAnyH_ready (rs := [5]) (by kernel_rfl) (by simp) ?_
    refine AllReadyH.cons rfl (fun K hK => ?_) ?_
    ·have EG := Lib.hid (show (((wa.alloc (bZ)).alloc (bG)).alloc (b5 x)).heap[wa.heap.size + 1]? = some (bG) from blk_alloc EG.out _)
     have EZ := Lib.hid (show (((wa.alloc (bZ)).alloc (bG)).alloc (b5 x)).heap[wa.heap.size]? = some (bZ) from blk_alloc EZ.out _)
     have EB := Lib.hid (show (((wa.alloc (bZ)).alloc (bG)).alloc (b5 x)).heap[wa.heap.size + 1 + 1]? = some (b5 x) from nwb ((wa.alloc (bZ)).alloc (bG)) (b5 x) _ (by simp only [World.size_alloc]))
     have HB := Lib.hid (show Below W.heap.size W (((wa.alloc (bZ)).alloc (bG)).alloc (b5 x)) from blA HB.out HB.out.size)
     have HF := Lib.hid (Kd.F_alloc HF.out (b5 x))
     have hSZ : (((wa.alloc (bZ)).alloc (bG)).alloc (b5 x)).heap.size = wa.heap.size + 1 + 1 + 1 := by simp only [hdr5, World.size_alloc]
     simp only [b5, bG, bZ]
     go_simp
     refine hK.out _ _ ?_ (fun hHeld => ?_)
     focus ((try dsimp only); exact kp5 ED.out EP.out HB.out)
     clear hK K
     refine wpAnyH_ready (rs := [6]) (by kernel_rfl) (by simp) ?_
     refine AllReadyH.cons rfl (fun K hK => ?_) ?_
     ·have hcv := conv_blk EB.out
      (try simp only [b5, bG, bZ] at hcv)
      go_simp
      refine hK.out _ _ ?_ (fun hHeld => ?_)
      focus ((try dsimp only); exact kp5 ED.out EP.out HB.out)
      clear hK K
      refine tk 7 46 (v := ?_) rfl rfl (by kernel_rfl) rfl ?_ (by assumption) ?_; rotate_left; focus (intro w hSw; go_simp; try with_reducible rfl)
      try simp only [Act.put, List.setIfInBounds_toArray, List.set_cons_zero, List.set_cons_succ]
      refine tk 18 57 (v := ?_) rfl rfl (by kernel_rfl) rfl ?_ (by assumption) ?_; rotate_left; focus (intro w hSw; go_simp; try with_reducible rfl)
      try simp only [Act.put, List.setIfInBounds_toArray, List.set_cons_zero, List.set_cons_succ]
      refine wpAnyH_ready (rs := [20]) (by kernel_rfl) (by simp) ?_
      refine AllReadyH.cons rfl (fun K hK => ?_) ?_
      ·have hst := wr50_blk (cs := cN dir dn (wa.heap.size + 1) A11 ws.length c11 x) EZ.out rfl rfl (cN_one _ _ _ _ _ _ _)
       simp only [b5, bG, bZ, cN] at hst
       have HL := lf5 (cN dir dn (wa.heap.size + 1) A11 ws.length c11 x) EZ.out EG.out HF.out HB.out (by omega) (by omega) (fun k hk => by have h1 := hk.1; have h2 := hk.2; omega)
       have EX := Lib.hid HL.1; have EG := Lib.hid HL.2.1; have HF := Lib.hid HL.2.2.1; have HB := Lib.hid HL.2.2.2; clear HL
       go_simp
       refine hK.out _ _ ?_ (fun hHeld => ?_)
       focus ((try dsimp only); exact kp5 ED.out EP.out HB.out)
       clear hK K
       refine wpAnyH_done (by kernel_rfl) ?_ _
       refine NoPanic.normal ?_
       exact HPO.out (wa.heap.size) (wa.heap.size + 1) _ A11 c11 ws _ _ _ _ _ _ _ _ _ _ _ _ _ _ _ _ _ _ _ HWS.out HC.out HF.out EX.out EG.out (by omega) (by omega) (by omega) HB.out
      exact AllReadyH.nil
     exact AllReadyH.nil
    exact AllReadyH.nil
   exact AllReadyH.nil
  exact AllReadyH.nil
 refine AllReadyH.cons rfl (fun K hK => ?_) ?_
 ·have EZ := Lib.hid (show (W.alloc (bZ)).drew.heap[W.heap.size]? = some (bZ) from nwb W (bZ) _ (by simp only [World.size_alloc]))
  have HB := Lib.hid (show Below W.heap.size W (W.alloc (bZ)).drew from blA HB.out HB.out.size)
  have hSZ : (W.alloc (bZ)).drew.heap.size = W.heap.size + 1 := by simp only [hdr5, World.size_alloc]
  simp only [b5, bG, bZ]
  go_simp
  refine hK.out _ _ ?_ (fun hHeld => ?_)
  focus ((try dsimp only); exact kp5 ED.out EP.out HB.out)
  clear hK K
  refine wpAnyH_ready (rs := [5, 11, 17]) (by kernel_rfl) (by simp) ?_
  refine AllReadyH.cons rfl (fun K hK => ?_) ?_
  ·have EZ := Lib.hid (show ((W.alloc (bZ)).alloc (b5 x)).drew.heap[W.heap.size]? = some (bZ) from blk_alloc EZ.out _)
   have EB := Lib.hid (show ((W.alloc (bZ)).alloc (b5 x)).drew.heap[W.heap.size + 1]? = some (b5 x) from nwb (W.alloc (bZ)) (b5 x) _ (by simp only [World.size_alloc]))
   have HB := Lib.hid (show Below W.heap.size W ((W.alloc (bZ)).alloc (b5 x)).drew from blA HB.out HB.out.size)
   have hSZ : ((W.alloc (bZ)).alloc (b5 x)).drew.heap.size = W.heap.size + 1 + 1 := by simp only [hdr5, World.size_alloc]
   simp only [b5, bG, bZ]
   go_simp
   refine hK.out _ _ ?_ (fun hHeld => ?_)
   focus ((try dsimp only); exact kp5 ED.out EP.out HB.out)
   clear hK K
   refine wpAnyH_ready (rs := [6, 11, 17]) (by kernel_rfl) (by simp) ?_
   refine AllReadyH.cons rfl (fun K hK => ?_) ?_
   ·have hcv := conv_blk EB.out
    (try simp only [b5, bG, bZ] at hcv)
    go_simp
    refine hK.out _ _ ?_ (fun hHeld => ?_)
    focus ((try dsimp only); exact kp5 ED.out EP.out HB.out)
    clear hK K
    refine tk 7 46 (v := ?_) rfl rfl (by kernel_rfl) rfl ?_ (by assumption) ?_; rotate_left; focus (intro w hSw; go_simp; try with_reducible rfl)
    try simp only [Act.put, List.setIfInBounds_toArray, List.set_cons_zero, List.set_cons_succ]
    refine wpAnyH_ready (rs := [11, 17]) (by kernel_rfl) (by simp) ?_
    refine AllReadyH.cons rfl (fun K hK => ?_) ?_
    ·have EB := Lib.hid (show (((W.alloc (bZ)).alloc (b5 x)).alloc (bG)).drew.heap[W.heap.size + 1]? = some (b5 x) from blk_alloc EB.out _)
     have EZ := Lib.hid (show (((W.alloc (bZ)).alloc (b5 x)).alloc (bG)).drew.heap[W.heap.size]? = some (bZ) from blk_alloc EZ.out _)
     have EG := Lib.hid (show (((W.alloc (bZ)).alloc (b5 x)).alloc (bG)).drew.heap[W.heap.size + 1 + 1]? = some (bG) from nwb ((W.alloc (bZ)).alloc (b5 x)) (bG) _ (by simp only [World.size_alloc]))
     have HB := Lib.hid (show Below W.heap.size W (((W.alloc (bZ)).alloc (b5 x)).alloc (bG)).drew from blA HB.out HB.out.size)
     have hSZ : (((W.alloc (bZ)).alloc (b5 x)).alloc (bG)).drew.heap.size = W.heap.size + 1 + 1 + 1 := by simp only [hdr5, World.size_alloc]
     simp only [b5, bG, bZ]
     go_simp
     refine hK.out _ _ ?_ (fun hHeld => ?_)
     focus ((try dsimp only); exact kp5 ED.out EP.out HB.out)
     clear hK K
     refine wpAnyH_ready (rs := [17]) (by kernel_rfl) (by simp) ?_
     refine AllReadyH.cons rfl (fun K hK => ?_) ?_
     ·go_simp
      go_wp2_with (go_at_call 39; go_loud (refine (HW.out _ HB.out).mono ?_; rintro e wa ⟨A11, c11, ws, rfl, hws, hc, hF, hb⟩; have EB := Lib.hid (blk_below EB.out hb); have EG := Lib.hid (blk_below EG.out hb); have EZ := Lib.hid (blk_below EZ.out hb); have hz5 := hb.size; rw [hSZ] at hz5; have hF := Kd.F_mono hF (ok' := fun k => W.heap.size + 1 + 1 + 1 ≤ k) (fun k hk => by rw [hSZ] at hk; exact hk); have HF := Lib.hid (Kd.F_bound hF); have HB := Lib.hid (below_step HB.out hb); have HC := Lib.hid hc; have HWS := Lib.hid hws; clear hb hF hc hws))
      refine hK.out _ _ ?_ (fun hHeld => ?_)
      focus ((try dsimp only); exact kp5 ED.out EP.out HB.out)
      clear hK K
      refine tk 18 57 (v := ?_) rfl rfl (by kernel_rfl) rfl ?_ (by assumption) ?_; rotate_left; focus (intro w hSw; go_simp; try with_reducible rfl)
      try simp only [Act.put, List.setIfInBounds_toArray, List.set_cons_zero, List.set_cons_succ]
      refine wpAnyH_ready (rs := [20]) (by kernel_rfl) (by simp) ?_
      refine AllReadyH.cons rfl (fun K hK => ?_) ?_
      ·have hst := wr50_blk (cs := cN dir dn (W.heap.size + 1 + 1) A11 ws.length c11 x) EZ.out rfl rfl (cN_one _ _ _ _ _ _ _)
       simp only [b5, bG, bZ, cN] at hst
       have HL := lf5 (cN dir dn (W.heap.size + 1 + 1) A11 ws.length c11 x) EZ.out EG.out HF.out HB.out (by omega) (by omega) (fun k hk => by have h1 := hk.1; have h2 := hk.2; omega)
       have EX := Lib.hid HL.1; have EG := Lib.hid HL.2.1; have HF := Lib.hid HL.2.2.1; have HB := Lib.hid HL.2.2.2; clear HL
       go_simp
       refine hK.out _ _ ?_ (fun hHeld => ?_)
       focus ((try dsimp only); exact kp5 ED.out EP.out HB.out)
       clear hK K
       refine wpAnyH_done (by kernel_rfl) ?_ _
       refine NoPanic.normal ?_
       exact HPO.out (W.heap.size) (W.heap.size + 1 + 1) _ A11 c11 ws _ _ _ _ _ _ _ _ _ _ _ _ _ _ _ _ _ _ _ HWS.out HC.out HF.out EX.out EG.out (by omega) (by omega) (by omega) HB.out
      exact AllReadyH.nil
     exact AllReadyH.nil
    refine AllReadyH.cons rfl (fun K hK => ?_) ?_
    ·go_simp
     go_wp2_with (go_at_call 39; go_loud (refine (HW.out _ HB.out).mono ?_; rintro e wa ⟨A11, c11, ws, rfl, hws, hc, hF, hb⟩; have EB := Lib.hid (blk_below EB.out hb); have EZ := Lib.hid (blk_below EZ.out hb); have hz5 := hb.size; rw [hSZ] at hz5; have hF := Kd.F_mono hF (ok' := fun k => W.heap.size + 1 + 1 ≤ k) (fun k hk => by rw [hSZ] at hk; exact hk); have HF := Lib.hid (Kd.F_bound hF); have HB := Lib.hid (below_step HB.out hb); have HC := Lib.hid hc; have HWS := Lib.hid hws; clear hb hF hc hws))
     refine hK.out _ _ ?_ (fun hHeld => ?_)
     focus ((try dsimp only); exact kp5 ED.out EP.out HB.out)
     clear hK K
     refine wpAnyH_ready (rs := [11]) (by kernel_rfl) (by simp) ?_
     refine AllReadyH.cons rfl (fun K hK => ?_) ?_
     ·have EB := Lib.hid (show (wa.alloc (bG)).heap[W.heap.size + 1]? = some (b5 x) from blk_alloc EB.out _)
      have EZ := Lib.hid (show (wa.alloc (bG)).heap[W.heap.size]? = some (bZ) from blk_alloc EZ.out _)
      have EG := Lib.hid (show (wa.alloc (bG)).heap[wa.heap.size]? = some (bG) from nwb wa (bG) _ (by simp only [World.size_alloc]))
      have HB := Lib.hid (show Below W.heap.size W (wa.alloc (bG)) from blA HB.out HB.out.size)
      have HF := Lib.hid (Kd.F_alloc HF.out (bG))
      have hSZ : (wa.alloc (bG)).heap.size = wa.heap.size + 1 := by simp only [hdr5, World.size_alloc]
      simp only [b5, bG, bZ]
      go_simp
      refine hK.out _ _ ?_ (fun hHeld => ?_)
      focus ((try dsimp only); exact kp5 ED.out EP.out HB.out)
      clear hK K
      refine tk 18 57 (v := ?_) rfl rfl (by kernel_rfl) rfl ?_ (by assumption) ?_; rotate_left; focus (intro w hSw; go_simp; try with_reducible rfl)
      try simp only [Act.put, List.setIfInBounds_toArray, List.set_cons_zero, List.set_cons_succ]
      refine wpAnyH_ready (rs := [20]) (by kernel_rfl) (by simp) ?_
      refine AllReadyH.cons rfl (fun K hK => ?_) ?_
      ·have hst := wr50_blk (cs := cN dir dn (wa.heap.size) A11 ws.length c11 x) EZ.out rfl rfl (cN_one _ _ _ _ _ _ _)
       simp only [b5, bG, bZ, cN] at hst
       have HL := lf5 (cN dir dn (wa.heap.size) A11 ws.length c11 x) EZ.out EG.out HF.out HB.out (by omega) (by omega) (fun k hk => by have h1 := hk.1; have h2 := hk.2; omega)
       have EX := Lib.hid HL.1; have EG := Lib.hid HL.2.1; have HF := Lib.hid HL.2.2.1; have HB := Lib.hid HL.2.2.2; clear HL
       go_simp
       refine hK.out _ _ ?_ (fun hHeld => ?_)
       focus ((try dsimp only); exact kp5 ED.out EP.out HB.out)
       clear hK K
       refine wpAnyH_done (by kernel_rfl) ?_ _
       refine NoPanic.normal ?_
       exact HPO.out (W.heap.size) (wa.heap.size) _ A11 c11 ws _ _ _ _ _ _ _ _ _ _ _ _ _ _ _ _ _ _ _ HWS.out HC.out HF.out EX.out EG.out (by omega) (by omega) (by omega) HB.out
      exact AllReadyH.nil
     exact AllReadyH.nil
    exact AllReadyH.nil
   refine AllReadyH.cons rfl (fun K hK => ?_) ?_
   ·have EB := Lib.hid (show (((W.alloc (bZ)).alloc (b5 x)).alloc (bG)).drew.heap[W.heap.size + 1]? = some (b5 x) from blk_alloc EB.out _)
    have EZ := Lib.hid (show (((W.alloc (bZ)).alloc (b5 x)).alloc (bG)).drew.heap[W.heap.size]? = some (bZ) from blk_alloc EZ.out _)
    have EG := Lib.hid (show (((W.alloc (bZ)).alloc (b5 x)).alloc (bG)).drew.heap[W.heap.size + 1 + 1]? = some (bG) from nwb ((W.alloc (bZ)).alloc (b5 x)) (bG) _ (by simp only [World.size_alloc]))
    have HB := Lib.hid (show Below W.heap.size W (((W.alloc (bZ)).alloc (b5 x)).alloc (bG)).drew from blA HB.out HB.out.size)
    have hSZ : (((W.alloc (bZ)).alloc (b5 x)).alloc (bG)).drew.heap.size = W.heap.size + 1 + 1 + 1 := by simp only [hdr5, World.size_alloc]
    simp only [b5, bG, bZ]
    go_simp
    refine hK.out _ _ ?_ (fun hHeld => ?_)
    focus ((try dsimp only); exact kp5 ED.out EP.out HB.out)
    clear hK K
    refine wpAnyH_ready (rs := [6, 17]) (by kernel_rfl) (by simp) ?_
    refine AllReadyH.cons rfl (fun K hK => ?_) ?_
    ·have hcv := conv_blk EB.out
     (try simp only [b5, bG, bZ] at hcv)
     go_simp
     refine hK.out _ _ ?_ (fun hHeld => ?_)
     focus ((try dsimp only); exact kp5 ED.out EP.out HB.out)
     clear hK K
     refine tk 7 46 (v := ?_) rfl rfl (by kernel_rfl) rfl ?_ (by assumption) ?_; rotate_left; focus (intro w hSw; go_simp; try with_reducible rfl)
     try simp only [Act.put, List.setIfInBounds_toArray, List.set_cons_zero, List.set_cons_succ]
     refine wpAnyH_ready (rs := [17]) (by kernel_rfl) (by simp) ?_
     refine AllReadyH.cons rfl (fun K hK => ?_) ?_
     ·go_simp
      go_wp2_with (go_at_call 39; go_loud (refine (HW.out _ HB.out).mono ?_; rintro e wa ⟨A11, c11, ws, rfl, hws, hc, hF, hb⟩; have EB := Lib.hid (blk_below EB.out hb); have EG := Lib.hid (blk_below EG.out hb); have EZ := Lib.hid (blk_below EZ.out hb); have hz5 := hb.size; rw [hSZ] at hz5; have hF := Kd.F_mono hF (ok' := fun k => W.heap.size + 1 + 1 + 1 ≤ k) (fun k hk => by rw [hSZ] at hk; exact hk); have HF := Lib.hid (Kd.F_bound hF); have HB := Lib.hid (below_step HB.out hb); have HC := Lib.hid hc; have HWS := Lib.hid hws; clear hb hF hc hws))
      refine hK.out _ _ ?_ (fun hHeld => ?_)
      focus ((try dsimp only); exact kp5 ED.out EP.out HB.out)
      clear hK K
      refine tk 18 57 (v := ?_) rfl rfl (by kernel_rfl) rfl ?_ (by assumption) ?_; rotate_left; focus (intro w hSw; go_simp; try with_reducible rfl)
      try simp only [Act.put, List.setIfInBounds_toArray, List.set_cons_zero, List.set_cons_succ]
      refine wpAnyH_ready (rs := [20]) (by kernel_rfl) (by simp) ?_
      refine AllReadyH.cons rfl (fun K hK => ?_) ?_
      ·have hst := wr50_blk (cs := cN dir dn (W.heap.size + 1 + 1) A11 ws.length c11 x) EZ.out rfl rfl (cN_one _ _ _ _ _ _ _)
       simp only [b5, bG, bZ, cN] at hst
       have HL := lf5 (cN dir dn (W.heap.size + 1 + 1) A11 ws.length c11 x) EZ.out EG.out HF.out HB.out (by omega) (by omega) (fun k hk => by have h1 := hk.1; have h2 := hk.2; omega)
       have EX := Lib.hid HL.1; have EG := Lib.hid HL.2.1; have HF := Lib.hid HL.2.2.1; have HB := Lib.hid HL.2.2.2; clear HL
       go_simp
       refine hK.out _ _ ?_ (fun hHeld => ?_)
       focus ((try dsimp only); exact kp5 ED.out EP.out HB.out)
       clear hK K
       refine wpAnyH_done (by kernel_rfl) ?_ _
       refine NoPanic.normal ?_
       exact HPO.out (W.heap.size) (W.heap.size + 1 + 1) _ A11 c11 ws _ _ _ _ _ _ _ _ _ _ _ _ _ _ _ _ _ _ _ HWS.out HC.out HF.out EX.out EG.out (by omega) (by omega) (by omega) HB.out
      exact AllReadyH.nil
     exact AllReadyH.nil
    refine AllReadyH.cons rfl (fun K hK => ?_) ?_
    ·go_simp
     go_wp2_with (go_at_call 39; go_loud (refine (HW.out _ HB.out).mono ?_; rintro e wa ⟨A11, c11, ws, rfl, hws, hc, hF, hb⟩; have EB := Lib.hid (blk_below EB.out hb); have EG := Lib.hid (blk_below EG.out hb); have EZ := Lib.hid (blk_below EZ.out hb); have hz5 := hb.size; rw [hSZ] at hz5; have hF := Kd.F_mono hF (ok' := fun k => W.heap.size + 1 + 1 + 1 ≤ k) (fun k hk => by rw [hSZ] at hk; exact hk); have HF := Lib.hid (Kd.F_bound hF); have HB := Lib.hid (below_step HB.out hb); have HC := Lib.hid hc; have HWS := Lib.hid hws; clear hb hF hc hws))
     refine hK.out _ _ ?_ (fun hHeld => ?_)
     focus ((try dsimp only); exact kp5 ED.out EP.out HB.out)
     clear hK K
     refine wpAnyH_ready (rs := [6]) (by kernel_rfl) (by simp) ?_
     refine AllReadyH.cons rfl (fun K hK => ?_) ?_
     ·have hcv := conv_blk EB.out
      (try simp only [b5, bG, bZ] at hcv)
      go_simp
      refine hK.out _ _ ?_ (fun hHeld => ?_)
      focus ((try dsimp only); exact kp5 ED.out EP.out HB.out)
      clear hK K
      refine tk 7 46 (v := ?_) rfl rfl (by kernel_rfl) rfl ?_ (by assumption) ?_; rotate_left; focus (intro w hSw; go_simp; try with_reducible rfl)
      try simp only [Act.put, List.setIfInBounds_toArray, List.set_cons_zero, List.set_cons_succ]
      refine tk 18 57 (v := ?_) rfl rfl (by kernel_rfl) rfl ?_ (by assumption) ?_; rotate_left; focus (intro w hSw; go_simp; try with_reducible rfl)
      try simp only [Act.put, List.setIfInBounds_toArray, List.set_cons_zero, List.set_cons_succ]
      refine wpAnyH_ready (rs := [20]) (by kernel_rfl) (by simp) ?_
      refine AllReadyH.cons rfl (fun K hK => ?_) ?_
      ·have hst := wr50_blk (cs := cN dir dn (W.heap.size + 1 + 1) A11 ws.length c11 x) EZ.out rfl rfl (cN_one _ _ _ _ _ _ _)
       simp only [b5, bG, bZ, cN] at hst
       have HL := lf5 (cN dir dn (W.heap.size + 1 + 1) A11 ws.length c11 x) EZ.out EG.out HF.out HB.out (by omega) (by omega) (fun k hk => by have h1 := hk.1; have h2 := hk.2; omega)
       have EX := Lib.hid HL.1; have EG := Lib.hid HL.2.1; have HF := Lib.hid HL.2.2.1; have HB := Lib.hid HL.2.2.2; clear HL
       go_simp
       refine hK.out _ _ ?_ (fun hHeld => ?_)
       focus ((try dsimp only); exact kp5 ED.out EP.out HB.out)
       clear hK K
       refine wpAnyH_done (by kernel_rfl) ?_ _
       refine NoPanic.normal ?_
       exact HPO.out (W.heap.size) (W.heap.size + 1 + 1) _ A11 c11 ws _ _ _ _ _ _ _ _ _ _ _ _ _ _ _ _ _ _ _ HWS.out HC.out HF.out EX.out EG.out (by omega) (by omega) (by omega) HB.out
      exact AllReadyH.nil
     exact AllReadyH.nil
    exact AllReadyH.nil
   refine AllReadyH.cons rfl (fun K hK => ?_) ?_
   ·go_simp
    go_wp2_with (go_at_call 39; go_loud (refine (HW.out _ HB.out).mono ?_; rintro e wa ⟨A11, c11, ws, rfl, hws, hc, hF, hb⟩; have EB := Lib.hid (blk_below EB.out hb); have EZ := Lib.hid (blk_below EZ.out hb); have hz5 := hb.size; rw [hSZ] at hz5; have hF := Kd.F_mono hF (ok' := fun k => W.heap.size + 1 + 1 ≤ k) (fun k hk => by rw [hSZ] at hk; exact hk); have HF := Lib.hid (Kd.F_bound hF); have HB := Lib.hid (below_step HB.out hb); have HC := Lib.hid hc; have HWS := Lib.hid hws; clear hb hF hc hws))
    refine hK.out _ _ ?_ (fun hHeld => ?_)
    focus ((try dsimp only); exact kp5 ED.out EP.out HB.out)
    clear hK K
    refine wpAnyH_ready (rs := [6, 11]) (by kernel_rfl) (by simp) ?_
    refine AllReadyH.cons rfl (fun K hK => ?_) ?_
    ·have hcv := conv_blk EB.out
     (try simp only [b5, bG, bZ] at hcv)
     go_simp
     refine hK.out _ _ ?_ (fun hHeld => ?_)
     focus ((try dsimp only); exact kp5 ED.out EP.out HB.out)
     clear hK K
     refine tk 7 46 (v := ?_) rfl rfl (by kernel_rfl) rfl ?_ (by assumption) ?_; rotate_left; focus (intro w hSw; go_simp; try with_reducible rfl)
     try simp only [Act.put, List.setIfInBounds_toArray, List.set_cons_zero, List.set_cons_succ]
     refine wpAnyH_ready (rs := [11]) (by kernel_rfl) (by simp) ?_
     refine AllReadyH.cons rfl (fun K hK => ?_) ?_
     ·have EB := Lib.hid (show (wa.alloc (bG)).heap[W.heap.size + 1]? = some (b5 x) from blk_alloc EB.out _)
      have EZ := Lib.hid (show (wa.alloc (bG)).heap[W.heap.size]? = some (bZ) from blk_alloc EZ.out _)
      have EG := Lib.hid (show (wa.alloc (bG)).heap[wa.heap.size]? = some (bG) from nwb wa (bG) _ (by simp only [World.size_alloc]))
      have HB := Lib.hid (show Below W.heap.size W (wa.alloc (bG)) from blA HB.out HB.out.size)
      have HF := Lib.hid (Kd.F_alloc HF.out (bG))
      have hSZ : (wa.alloc (bG)).heap.size = wa.heap.size + 1 := by simp only [hdr5, World.size_alloc]
      simp only [b5, bG, bZ]
      go_simp
      refine hK.out _ _ ?_ (fun hHeld => ?_)
      focus ((try dsimp only); exact kp5 ED.out EP.out HB.out)
      clear hK K
      refine tk 18 57 (v := ?_) rfl rfl (by kernel_rfl) rfl ?_ (by assumption) ?_; rotate_left; focus (intro w hSw; go_simp; try with_reducible rfl)
      try simp only [Act.put, List.setIfInBounds_toArray, List.set_cons_zero, List.set_cons_succ]
      refine wpAnyH_ready (rs := [20]) (by kernel_rfl) (by simp) ?_
      refine AllReadyH.cons rfl (fun K hK => ?_) ?_
      ·have hst := wr50_blk (cs := cN dir dn (wa.heap.size) A11 ws.length c11 x) EZ.out rfl rfl (cN_one _ _ _ _ _ _ _)
       simp only [b5, bG, bZ, cN] at hst
       have HL := lf5 (cN dir dn (wa.heap.size) A11 ws.length c11 x) EZ.out EG.out HF.out HB.out (by omega) (by omega) (fun k hk => by have h1 := hk.1; have h2 := hk.2; omega)
       have EX := Lib.hid HL.1; have EG := Lib.hid HL.2.1; have HF := Lib.hid HL.2.2.1; have HB := Lib.hid HL.2.2.2; clear HL
       go_simp
       refine hK.out _ _ ?_ (fun hHeld => ?_)
       focus ((try dsimp only); exact kp5 ED.out EP.out HB.out)
       clear hK K
       refine wpAnyH_done (by kernel_rfl) ?_ _
       refine NoPanic.normal ?_
       exact HPO.out (W.heap.size) (wa.heap.size) _ A11 c11 ws _ _ _ _ _ _ _ _ _ _ _ _ _ _ _ _ _ _ _ HWS.out HC.out HF.out EX.out EG.out (by omega) (by omega) (by omega) HB.out
      exact AllReadyH.nil
     exact AllReadyH.nil
    refine AllReadyH.cons rfl (fun K hK => ?_) ?_
    ·have EB := Lib.hid (show (wa.alloc (bG)).heap[W.heap.size + 1]? = some (b5 x) from blk_alloc EB.out _)
     have EZ := Lib.hid (show (wa.alloc (bG)).heap[W.heap.size]? = some (bZ) from blk_alloc EZ.out _)
     have EG := Lib.hid (show (wa.alloc (bG)).heap[wa.heap.size]? = some (bG) from nwb wa (bG) _ (by simp only [World.size_alloc]))
     have HB := Lib.hid (show Below W.heap.size W (wa.alloc (bG)) from blA HB.out HB.out.size)
     have HF := Lib.hid (Kd.F_alloc HF.out (bG))
     have hSZ : (wa.alloc (bG)).heap.size = wa.heap.size + 1 := by simp only [hdr5, World.size_alloc]
     simp only [b5, bG, bZ]
     go_simp
     refine hK.out _ _ ?_ (fun hHeld => ?_)
     focus ((try dsimp only); exact kp5 ED.out EP.out HB.out)
     clear hK K
     refine wpAnyH_ready (rs := [6]) (by kernel_rfl) (by simp) ?_
     refine AllReadyH.cons rfl (fun K hK => ?_) ?_
     ·have hcv := conv_blk EB.out
      (try simp only [b5, bG, bZ] at hcv)
      go_simp
      refine hK.out _ _ ?_ (fun hHeld => ?_)
      focus ((try dsimp only); exact kp5 ED.out EP.out HB.out)
      clear hK K
      refine tk 7 46 (v := ?_) rfl rfl (by kernel_rfl) rfl ?_ (by assumption) ?_; rotate_left; focus (intro w hSw; go_simp; try with_reducible rfl)
      try simp only [Act.put, List.setIfInBounds_toArray, List.set_cons_zero, List.set_cons_succ]
      refine tk 18 57 (v := ?_) rfl rfl (by kernel_rfl) rfl ?_ (by assumption) ?_; rotate_left; focus (intro w hSw; go_simp; try with_reducible rfl)
      try simp only [Act.put, List.setIfInBounds_toArray, List.set_cons_zero, List.set_cons_succ]
      refine wpAnyH_ready (rs := [20]) (by kernel_rfl) (by simp) ?_
      refine AllReadyH.cons rfl (fun K hK => ?_) ?_
      ·have hst := wr50_blk (cs := cN dir dn (wa.heap.size) A11 ws.length c11 x) EZ.out rfl rfl (cN_one _ _ _ _ _ _ _)
       simp only [b5, bG, bZ, cN] at hst
       have HL := lf5 (cN dir dn (wa.heap.size) A11 ws.length c11 x) EZ.out EG.out HF.out HB.out (by omega) (by omega) (fun k hk => by have h1 := hk.1; have h2 := hk.2; omega)
       have EX := Lib.hid HL.1; have EG := Lib.hid HL.2.1; have HF := Lib.hid HL.2.2.1; have HB := Lib.hid HL.2.2.2; clear HL
       go_simp
       refine hK.out _ _ ?_ (fun hHeld => ?_)
       focus ((try dsimp only); exact kp5 ED.out EP.out HB.out)
       clear hK K
       refine wpAnyH_done (by kernel_rfl) ?_ _
       refine NoPanic.normal ?_
       exact HPO.out (W.heap.size) (wa.heap.size) _ A11 c11 ws _ _ _ _ _ _ _ _ _ _ _ _ _ _ _ _ _ _ _ HWS.out HC.out HF.out EX.out EG.out (by omega) (by omega) (by omega) HB.out
      exact AllReadyH.nil
     exact AllReadyH.nil
    exact AllReadyH.nil
   exact AllReadyH.nil
  refine AllReadyH.cons rfl (fun K hK => ?_) ?_
  ·have EZ := Lib.hid (show ((W.alloc (bZ)).alloc (bG)).drew.heap[W.heap.size]? = some (bZ) from blk_alloc EZ.out _)
   have EG := Lib.hid (show ((W.alloc (bZ)).alloc (bG)).drew.heap[W.heap.size + 1]? = some (bG) from nwb (W.alloc (bZ)) (bG) _ (by simp only [World.size_alloc]))
   have HB := Lib.hid (show Below W.heap.size W ((W.alloc (bZ)).alloc (bG)).drew from blA HB.out HB.out.size)
   have hSZ : ((W.alloc (bZ)).alloc (bG)).drew.heap.size = W.heap.size + 1 + 1 := by simp only [hdr5, World.size_alloc]
   simp only [b5, bG, bZ]
   go_simp
   refine hK.out _ _ ?_ (fun hHeld => ?_)
   focus ((try dsimp only); exact kp5 ED.out EP.out HB.out)
   clear hK K
   refine wpAnyH_ready (rs := [5, 17]) (by kernel_rfl) (by simp) ?_
   refine AllReadyH.cons rfl (fun K hK => ?_) ?_
   ·have EG := Lib.hid (show (((W.alloc (bZ)).alloc (bG)).alloc (b5 x)).drew.heap[W.heap.size + 1]? = some (bG) from blk_alloc EG.out _)
    have EZ := Lib.hid (show (((W.alloc (bZ)).alloc (bG)).alloc (b5 x)).drew.heap[W.heap.size]? = some (bZ) from blk_alloc EZ.out _)
    have EB := Lib.hid (show (((W.alloc (bZ)).alloc (bG)).alloc (b5 x)).drew.heap[W.heap.size + 1 + 1]? = some (b5 x) from nwb ((W.alloc (bZ)).alloc (bG)) (b5 x) _ (by simp only [World.size_alloc]))
    have HB := Lib.hid (show Below W.heap.size W (((W.alloc (bZ)).alloc (bG)).alloc (b5 x)).drew from blA HB.out HB.out.size)
    have hSZ : (((W.alloc (bZ)).alloc (bG)).alloc (b5 x)).drew.heap.size = W.heap.size + 1 + 1 + 1 := by simp only [hdr5, World.size_alloc]
    simp only [b5, bG, bZ]
    go_simp
    refine hK.out _ _ ?_ (fun hHeld => ?_)
    focus ((try dsimp only); exact kp5 ED.out EP.out HB.out)
    clear hK K
    refine wpAnyH_ready (rs := [6, 17]) (by kernel_rfl) (by simp) ?_
    refine AllReadyH.cons rfl (fun K hK => ?_) ?_
    ·have hcv := conv_blk EB.out
     (try simp only [b5, bG, bZ] at hcv)
     go_simp
     refine hK.out _ _ ?_ (fun hHeld => ?_)
     focus ((try dsimp only); exact kp5 ED.out EP.out HB.out)
     clear hK K
     refine tk 7 46 (v := ?_) rfl rfl (by kernel_rfl) rfl ?_ (by assumption) ?_; rotate_left; focus (intro w hSw; go_simp; try with_reducible rfl)
     try simp only [Act.put, List.setIfInBounds_toArray, List.set_cons_zero, List.set_cons_succ]
     refine wpAnyH_ready (rs := [17]) (by kernel_rfl) (by simp) ?_
     refine AllReadyH.cons rfl (fun K hK => ?_) ?_
     ·go_simp
      go_wp2_with (go_at_call 39; go_loud (refine (HW.out _ HB.out).mono ?_; rintro e wa ⟨A11, c11, ws, rfl, hws, hc, hF, hb⟩; have EB := Lib.hid (blk_below EB.out hb); have EG := Lib.hid (blk_below EG.out hb); have EZ := Lib.hid (blk_below EZ.out hb); have hz5 := hb.size; rw [hSZ] at hz5; have hF := Kd.F_mono hF (ok' := fun k => W.heap.size + 1 + 1 + 1 ≤ k) (fun k hk => by rw [hSZ] at hk; exact hk); have HF := Lib.hid (Kd.F_bound hF); have HB := Lib.hid (below_step HB.out hb); have HC := Lib.hid hc; have HWS := Lib.hid hws; clear hb hF hc hws))
      refine hK.out _ _ ?_ (fun hHeld => ?_)
      focus ((try dsimp only); exact kp5 ED.out EP.out HB.out)
      clear hK K
      refine tk 18 57 (v := ?_) rfl rfl (by kernel_rfl) rfl ?_ (by assumption) ?_; rotate_left; focus (intro w hSw; go_simp; try with_reducible rfl)
      try simp only [Act.put, List.setIfInBounds_toArray, List.set_cons_zero, List.set_cons_succ]
      refine wpAnyH_ready (rs := [20]) (by kernel_rfl) (by simp) ?_
      refine AllReadyH.cons rfl (fun K hK => ?_) ?_
      ·have hst := wr50_blk (cs := cN dir dn (W.heap.size + 1) A11 ws.length c11 x) EZ.out rfl rfl (cN_one _ _ _ _ _ _ _)
       simp only [b5, bG, bZ, cN] at hst
       have HL := lf5 (cN dir dn (W.heap.size + 1) A11 ws.length c11 x) EZ.out EG.out HF.out HB.out (by omega) (by omega) (fun k hk => by have h1 := hk.1; have h2 := hk.2; omega)
       have EX := Lib.hid HL.1; have EG := Lib.hid HL.2.1; have HF := Lib.hid HL.2.2.1; have HB := Lib.hid HL.2.2.2; clear HL
       go_simp
       refine hK.out _ _ ?_ (fun hHeld => ?_)
       focus ((try dsimp only); exact kp5 ED.out EP.out HB.out)
       clear hK K
       refine wpAnyH_done (by kernel_rfl) ?_ _
       refine NoPanic.normal ?_
       exact HPO.out (W.heap.size) (W.heap.size + 1) _ A11 c11 ws _ _ _ _ _ _ _ _ _ _ _ _ _ _ _ _ _ _ _ HWS.out HC.out HF.out EX.out EG.out (by omega) (by omega) (by omega) HB.out
      exact AllReadyH.nil
     exact AllReadyH.nil
    refine AllReadyH.cons rfl (fun K hK => ?_) ?_
    ·go_simp
     go_wp2_with (go_at_call 39; go_loud (refine (HW.out _ HB.out).mono ?_; rintro e wa ⟨A11, c11, ws, rfl, hws, hc, hF, hb⟩; have EB := Lib.hid (blk_below EB.out hb); have EG := Lib.hid (blk_below EG.out hb); have EZ := Lib.hid (blk_below EZ.out hb); have hz5 := hb.size; rw [hSZ] at hz5; have hF := Kd.F_mono hF (ok' := fun k => W.heap.size + 1 + 1 + 1 ≤ k) (fun k hk => by rw [hSZ] at hk; exact hk); have HF := Lib.hid (Kd.F_bound hF); have HB := Lib.hid (below_step HB.out hb); have HC := Lib.hid hc; have HWS := Lib.hid hws; clear hb hF hc hws))
     refine hK.out _ _ ?_ (fun hHeld => ?_)
     focus ((try dsimp only); exact kp5 ED.out EP.out HB.out)
     clear hK K
     refine wpAnyH_ready (rs := [6]) (by kernel_rfl) (by simp) ?_
     refine AllReadyH.cons rfl (fun K hK => ?_) ?_
     ·have hcv := conv_blk EB.out
      (try simp only [b5, bG, bZ] at hcv)
      go_simp
      refine hK.out _ _ ?_ (fun hHeld => ?_)
      focus ((try dsimp only); exact kp5 ED.out EP.out HB.out)
      clear hK K
      refine tk 7 46 (v := ?_) rfl rfl (by kernel_rfl) rfl ?_ (by assumption) ?_; rotate_left; focus (intro w hSw; go_simp; try with_reducible rfl)
      try simp only [Act.put, List.setIfInBounds_toArray, List.set_cons_zero, List.set_cons_succ]
      refine tk 18 57 (v := ?_) rfl rfl (by kernel_rfl) rfl ?_ (by assumption) ?_; rotate_left; focus (intro w hSw; go_simp; try with_reducible rfl)
      try simp only [Act.put, List.setIfInBounds_toArray, List.set_cons_zero, List.set_cons_succ]
      refine wpAnyH_ready (rs := [20]) (by kernel_rfl) (by simp) ?_
      refine AllReadyH.cons rfl (fun K hK => ?_) ?_
      ·have hst := wr50_blk (cs := cN dir dn (W.heap.size + 1) A11 ws.length c11 x) EZ.out rfl rfl (cN_one _ _ _ _ _ _ _)
       simp only [b5, bG, bZ, cN] at hst
       have HL := lf5 (cN dir dn (W.heap.size + 1) A11 ws.length c11 x) EZ.out EG.out HF.out HB.out (by omega) (by omega) (fun k hk => by have h1 := hk.1; have h2 := hk.2; omega)
       have EX := Lib.hid HL.1; have EG := Lib.hid HL.2.1; have HF := Lib.hid HL.2.2.1; have HB := Lib.hid HL.2.2.2; clear HL
       go_simp
       refine hK.out _ _ ?_ (fun hHeld => ?_)
       focus ((try dsimp only); exact kp5 ED.out EP.out HB.out)
       clear hK K
       refine wpAnyH_done (by kernel_rfl) ?_ _
       refine NoPanic.normal ?_
       exact HPO.out (W.heap.size) (W.heap.size + 1) _ A11 c11 ws _ _ _ _ _ _ _ _ _ _ _ _ _ _ _ _ _ _ _ HWS.out HC.out HF.out EX.out EG.out (by omega) (by omega) (by omega) HB.out
      exact AllReadyH.nil
     exact AllReadyH.nil
    exact AllReadyH.nil
   refine AllReadyH.cons rfl (fun K hK => ?_) ?_
   ·go_simp
    go_wp2_with (go_at_call 39; go_loud (refine (HW.out _ HB.out).mono ?_; rintro e wa ⟨A11, c11, ws, rfl, hws, hc, hF, hb⟩; have EG := Lib.hid (blk_below EG.out hb); have EZ := Lib.hid (blk_below EZ.out hb); have hz5 := hb.size; rw [hSZ] at hz5; have hF := Kd.F_mono hF (ok' := fun k => W.heap.size + 1 + 1 ≤ k) (fun k hk => by rw [hSZ] at hk; exact hk); have HF := Lib.hid (Kd.F_bound hF); have HB := Lib.hid (below_step HB.out hb); have HC := Lib.hid hc; have HWS := Lib.hid hws; clear hb hF hc hws))
    refine hK.out _ _ ?_ (fun hHeld => ?_)
    focus ((try dsimp only); exact kp5 ED.out EP.out HB.out)
    clear hK K
    refine wpAnyH_ready (rs := [5]) (by kernel_rfl) (by simp) ?_
    refine AllReadyH.cons rfl (fun K hK => ?_) ?_
    ·have EG := Lib.hid (show (wa.alloc (b5 x)).heap[W.heap.size + 1]? = some (bG) from blk_alloc EG.out _)
     have EZ := Lib.hid (show (wa.alloc (b5 x)).heap[W.heap.size]? = some (bZ) from blk_alloc EZ.out _)
     have EB := Lib.hid (show (wa.alloc (b5 x)).heap[wa.heap.size]? = some (b5 x) from nwb wa (b5 x) _ (by simp only [World.size_alloc]))
     have HB := Lib.hid (show Below W.heap.size W (wa.alloc (b5 x)) from blA HB.out HB.out.size)
     have HF := Lib.hid (Kd.F_alloc HF.out (b5 x))
     have hSZ : (wa.alloc (b5 x)).heap.size = wa.heap.size + 1 := by simp only [hdr5, World.size_alloc]
     simp only [b5, bG, bZ]
     go_simp
     refine hK.out _ _ ?_ (fun hHeld => ?_)
     focus ((try dsimp only); exact kp5 ED.out EP.out HB.out)
     clear hK K
     refine wpAnyH_ready (rs := [6]) (by kernel_rfl) (by simp) ?_
     refine AllReadyH.cons rfl (fun K hK => ?_) ?_
     ·have hcv := conv_blk EB.out
      (try simp only [b5, bG, bZ] at hcv)
      go_simp
      refine hK.out _ _ ?_ (fun hHeld => ?_)
      focus ((try dsimp only); exact kp5 ED.out EP.out HB.out)
      clear hK K
      refine tk 7 46 (v := ?_) rfl rfl (by kernel_rfl) rfl ?_ (by assumption) ?_; rotate_left; focus (intro w hSw; go_simp; try with_reducible rfl)
      try simp only [Act.put, List.setIfInBounds_toArray, List.set_cons_zero, List.set_cons_succ]
      refine tk 18 57 (v := ?_) rfl rfl (by kernel_rfl) rfl ?_ (by assumption) ?_; rotate_left; focus (intro w hSw; go_simp; try with_reducible rfl)
      try simp only [Act.put, List.setIfInBounds_toArray, List.set_cons_zero, List.set_cons_succ]
      refine wpAnyH_ready (rs := [20]) (by kernel_rfl) (by simp) ?_
      refine AllReadyH.cons rfl (fun K hK => ?_) ?_
      ·have hst := wr50_blk (cs := cN dir dn (W.heap.size + 1) A11 ws.length c11 x) EZ.out rfl rfl (cN_one _ _ _ _ _ _ _)
       simp only [b5, bG, bZ, cN] at hst
       have HL := lf5 (cN dir dn (W.heap.size + 1) A11 ws.length c11 x) EZ.out EG.out HF.out HB.out (by omega) (by omega) (fun k hk => by have h1 := hk.1; have h2 := hk.2; omega)
       have EX := Lib.hid HL.1; have EG := Lib.hid HL.2.1; have HF := Lib.hid HL.2.2.1; have HB := Lib.hid HL.2.2.2; clear HL
       go_simp
       refine hK.out _ _ ?_ (fun hHeld => ?_)
       focus ((try dsimp only); exact kp5 ED.out EP.out HB.out)
       clear hK K
       refine wpAnyH_done (by kernel_rfl) ?_ _
       refine NoPanic.normal ?_
       exact HPO.out (W.heap.size) (W.heap.size + 1) _ A11 c11 ws _ _ _ _ _ _ _ _ _ _ _ _ _ _ _ _ _ _ _ HWS.out HC.out HF.out EX.out EG.out (by omega) (by omega) (by omega) HB.out
      exact AllReadyH.nil
     exact AllReadyH.nil
    exact AllReadyH.nil
   exact AllReadyH.nil
  refine AllReadyH.cons rfl (fun K hK => ?_) ?_
  ·go_simp
   go_wp2_with (go_at_call 39; go_loud (refine (HW.out _ HB.out).mono ?_; rintro e wa ⟨A11, c11, ws, rfl, hws, hc, hF, hb⟩; have EZ := Lib.hid (blk_below EZ.out hb); have hz5 := hb.size; rw [hSZ] at hz5; have hF := Kd.F_mono hF (ok' := fun k => W.heap.size + 1 ≤ k) (fun k hk => by rw [hSZ] at hk; exact hk); have HF := Lib.hid (Kd.F_bound hF); have HB := Lib.hid (below_step HB.out hb); have HC := Lib.hid hc; have HWS := Lib.hid hws; clear hb hF hc hws))
   refine hK.out _ _ ?_ (fun hHeld => ?_)
   focus ((try dsimp only); exact kp5 ED.out EP.out HB.out)
   clear hK K
   refine wpAnyH_ready (rs := [5, 11]) (by kernel_rfl) (by simp) ?_
   refine AllReadyH.cons rfl (fun K hK => ?_) ?_
   ·have EZ := Lib.hid (show (wa.alloc (b5 x)).heap[W.heap.size]? = some (bZ) from blk_alloc EZ.out _)
    have EB := Lib.hid (show (wa.alloc (b5 x)).heap[wa.heap.size]? = some (b5 x) from nwb wa (b5 x) _ (by simp only [World.size_alloc]))
    have HB := Lib.hid (show Below W.heap.size W (wa.alloc (b5 x)) from blA HB.out HB.out.size)
    have HF := Lib.hid (Kd.F_alloc HF.out (b5 x))
    have hSZ : (wa.alloc (b5 x)).heap.size = wa.heap.size + 1 := by simp only [hdr5, World.size_alloc]
    simp only [b5, bG, bZ]
    go_simp
    refine hK.out _ _ ?_ (fun hHeld => ?_)
    focus ((try dsimp only); exact kp5 ED.out EP.out HB.out)
    clear hK K
    refine wpAnyH_ready (rs := [6, 11]) (by kernel_rfl) (by simp) ?_
    refine AllReadyH.cons rfl (fun K hK => ?_) ?_
    ·have hcv := conv_blk EB.out
     (try simp only [b5, bG, bZ] at hcv)
     go_simp
     refine hK.out _ _ ?_ (fun hHeld => ?_)
     focus ((try dsimp only); exact kp5 ED.out EP.out HB.out)
     clear hK K
     refine tk 7 46 (v := ?_) rfl rfl (by kernel_rfl) rfl ?_ (by assumption) ?_; rotate_left; focus (intro w hSw; go_simp; try with_reducible rfl)
     try simp only [Act.put, List.setIfInBounds_toArray, List.set_cons_zero, List.set_cons_succ]
     refine wpAnyH_ready (rs := [11]) (by kernel_rfl) (by simp) ?_
     refine AllReadyH.cons rfl (fun K hK => ?_) ?_
     ·have EB := Lib.hid (show ((wa.alloc (b5 x)).alloc (bG)).heap[wa.heap.size]? = some (b5 x) from blk_alloc EB.out _)
      have EZ := Lib.hid (show ((wa.alloc (b5 x)).alloc (bG)).heap[W.heap.size]? = some (bZ) from blk_alloc EZ.out _)
      have EG := Lib.hid (show ((wa.alloc (b5 x)).alloc (bG)).heap[wa.heap.size + 1]? = some (bG) from nwb (wa.alloc (b5 x)) (bG) _ (by simp only [World.size_alloc]))
      have HB := Lib.hid (show Below W.heap.size W ((wa.alloc (b5 x)).alloc (bG)) from blA HB.out HB.out.size)
      have HF := Lib.hid (Kd.F_alloc HF.out (bG))
      have hSZ : ((wa.alloc (b5 x)).alloc (bG)).heap.size = wa.heap.size + 1 + 1 := by simp only [hdr5, World.size_alloc]
      simp only [b5, bG, bZ]
      go_simp
      refine hK.out _ _ ?_ (fun hHeld => ?_)
      focus ((try dsimp only); exact kp5 ED.out EP.out HB.out)
      clear hK K
      refine tk 18 57 (v := ?_) rfl rfl (by kernel_rfl) rfl ?_ (by assumption) ?_; rotate_left; focus (intro w hSw; go_simp; try with_reducible rfl)
      try simp only [Act.put, List.setIfInBounds_toArray, List.set_cons_zero, List.set_cons_succ]
      refine wpAnyH_ready (rs := [20]) (by kernel_rfl) (by simp) ?_
      refine AllReadyH.cons rfl (fun K hK => ?_) ?_
      ·have hst := wr50_blk (cs := cN dir dn (wa.heap.size + 1) A11 ws.length c11 x) EZ.out rfl rfl (cN_one _ _ _ _ _ _ _)
       simp only [b5, bG, bZ, cN] at hst
       have HL := lf5 (cN dir dn (wa.heap.size + 1) A11 ws.length c11 x) EZ.out EG.out HF.out HB.out (by omega) (by omega) (fun k hk => by have h1 := hk.1; have h2 := hk.2; omega)
       have EX := Lib.hid HL.1; have EG := Lib.hid HL.2.1; have HF := Lib.hid HL.2.2.1; have HB := Lib.hid HL.2.2.2; clear HL
       go_simp
       refine hK.out _ _ ?_ (fun hHeld => ?_)
       focus ((try dsimp only); exact kp5 ED.out EP.out HB.out)
       clear hK K
       refine wpAnyH_done (by kernel_rfl) ?_ _
       refine NoPanic.normal ?_
       exact HPO.out (W.heap.size) (wa.heap.size + 1) _ A11 c11 ws _ _ _ _ _ _ _ _ _ _ _ _ _ _ _ _ _ _ _ HWS.out HC.out HF.out EX.out EG.out (by omega) (by omega) (by omega) HB.out
      exact AllReadyH.nil
     exact AllReadyH.nil
    refine AllReadyH.cons rfl (fun K hK => ?_) ?_
    ·have EB := Lib.hid (show ((wa.alloc (b5 x)).alloc (bG)).heap[wa.heap.size]? = some (b5 x) from blk_alloc EB.out _)
     have EZ := Lib.hid (show ((wa.alloc (b5 x)).alloc (bG)).heap[W.heap.size]? = some (bZ) from blk_alloc EZ.out _)
     have EG := Lib.hid (show ((wa.alloc (b5 x)).alloc (bG)).heap[wa.heap.size + 1]? = some (bG) from nwb (wa.alloc (b5 x)) (bG) _ (by simp only [World.size_alloc]))
     have HB := Lib.hid (show Below W.heap.size W ((wa.alloc (b5 x)).alloc (bG)) from blA HB.out HB.out.size)
     have HF := Lib.hid (Kd.F_alloc HF.out (bG))
     have hSZ : ((wa.alloc (b5 x)).alloc (bG)).heap.size = wa.heap.size + 1 + 1 := by simp only [hdr5, World.size_alloc]
     simp only [b5, bG, bZ]
     go_simp
     refine hK.out _ _ ?_ (fun hHeld => ?_)
     focus ((try dsimp only); exact kp5 ED.out EP.out HB.out)
     clear hK K
     refine wpAnyH_ready (rs := [6]) (by kernel_rfl) (by simp) ?_
     refine AllReadyH.cons rfl (fun K hK => ?_) ?_
     ·have hcv := conv_blk EB.out
      (try simp only [b5, bG, bZ] at hcv)
      go_simp
      refine hK.out _ _ ?_ (fun hHeld => ?_)
      focus ((try dsimp only); exact kp5 ED.out EP.out HB.out)
      clear hK K
      refine tk 7 46 (v := ?_) rfl rfl (by kernel_rfl) rfl ?_ (by assumption) ?_; rotate_left; focus (intro w hSw; go_simp; try with_reducible rfl)
      try simp only [Act.put, List.setIfInBounds_toArray, List.set_cons_zero, List.set_cons_succ]
      refine tk 18 57 (v := ?_) rfl rfl (by kernel_rfl) rfl ?_ (by assumption) ?_; rotate_left; focus (intro w hSw; go_simp; try with_reducible rfl)
      try simp only [Act.put, List.setIfInBounds_toArray, List.set_cons_zero, List.set_cons_succ]
      refine wpAnyH_ready (rs := [20]) (by kernel_rfl) (by simp) ?_
      refine AllReadyH.cons rfl (fun K hK => ?_) ?_
      ·have hst := wr50_blk (cs := cN dir dn (wa.heap.size + 1) A11 ws.length c11 x) EZ.out rfl rfl (cN_one _ _ _ _ _ _ _)
       simp only [b5, bG, bZ, cN] at hst
       have HL := lf5 (cN dir dn (wa.heap.size + 1) A11 ws.length c11 x) EZ.out EG.out HF.out HB.out (by omega) (by omega) (fun k hk => by have h1 := hk.1; have h2 := hk.2; omega)
       have EX := Lib.hid HL.1; have EG := Lib.hid HL.2.1; have HF := Lib.hid HL.2.2.1; have HB := Lib.hid HL.2.2.2; clear HL
       go_simp
       refine hK.out _ _ ?_ (fun hHeld => ?_)
       focus ((try dsimp only); exact kp5 ED.out EP.out HB.out)
       clear hK K
       refine wpAnyH_done (by kernel_rfl) ?_ _
       refine NoPanic.normal ?_
       exact HPO.out (W.heap.size) (wa.heap.size + 1) _ A11 c11 ws _ _ _ _ _ _ _ _ _ _ _ _ _ _ _ _ _ _ _ HWS.out HC.out HF.out EX.out EG.out (by omega) (by omega) (by omega) HB.out
      exact AllReadyH.nil
     exact AllReadyH.nil
    exact AllReadyH.nil
   refine AllReadyH.cons rfl (fun K hK => ?_) ?_
   ·have EZ := Lib.hid (show (wa.alloc (bG)).heap[W.heap.size]? = some (bZ) from blk_alloc EZ.out _)
    have EG := Lib.hid (show (wa.alloc (bG)).heap[wa.heap.size]? = some (bG) from nwb wa (bG) _ (by simp only [World.size_alloc]))
    have HB := Lib.hid (show Below W.heap.size W (wa.alloc (bG)) from blA HB.out HB.out.size)
    have HF := Lib.hid (Kd.F_alloc HF.out (bG))
    have hSZ : (wa.alloc (bG)).heap.size = wa.heap.size + 1 := by simp only [hdr5, World.size_alloc]
    simp only [b5, bG, bZ]
    go_simp
    refine hK.out _ _ ?_ (fun hHeld => ?_)
    focus ((try dsimp only); exact kp5 ED.out EP.out HB.out)
    clear hK K
    refine wpAnyH_ready (rs := [5]) (by kernel_rfl) (by simp) ?_
    refine AllReadyH.cons rfl (fun K hK => ?_) ?_
    ·have EG := Lib.hid (show ((wa.alloc (bG)).alloc (b5 x)).heap[wa.heap.size]? = some (bG) from blk_alloc EG.out _)
     have EZ := Lib.hid (show ((wa.alloc (bG)).alloc (b5 x)).heap[W.heap.size]? = some (bZ) from blk_alloc EZ.out _)
     have EB := Lib.hid (show ((wa.alloc (bG)).alloc (b5 x)).heap[wa.heap.size + 1]? = some (b5 x) from nwb (wa.alloc (bG)) (b5 x) _ (by simp only [World.size_alloc]))
     have HB := Lib.hid (show Below W.heap.size W ((wa.alloc (bG)).alloc (b5 x)) from blA HB.out HB.out.size)
     have HF := Lib.hid (Kd.F_alloc HF.out (b5 x))
     have hSZ : ((wa.alloc (bG)).alloc (b5 x)).heap.size = wa.heap.size + 1 + 1 := by simp only [hdr5, World.size_alloc]
     simp only [b5, bG, bZ]
     go_simp
     refine hK.out _ _ ?_ (fun hHeld => ?_)
     focus ((try dsimp only); exact kp5 ED.out EP.out HB.out)
     clear hK K
     refine wpAnyH_ready (rs := [6]) (by kernel_rfl) (by simp) ?_
     refine AllReadyH.cons rfl (fun K hK => ?_) ?_
     ·have hcv := conv_blk EB.out
      (try simp only [b5, bG, bZ] at hcv)
      go_simp
      refine hK.out _ _ ?_ (fun hHeld => ?_)
      focus ((try dsimp only); exact kp5 ED.out EP.out HB.out)
      clear hK K
      refine tk 7 46 (v := ?_) rfl rfl (by kernel_rfl) rfl ?_ (by assumption) ?_; rotate_left; focus (intro w hSw; go_simp; try with_reducible rfl)
      try simp only [Act.put, List.setIfInBounds_toArray, List.set_cons_zero, List.set_cons_succ]
      refine tk 18 57 (v := ?_) rfl rfl (by kernel_rfl) rfl ?_ (by assumption) ?_; rotate_left; focus (intro w hSw; go_simp; try with_reducible rfl)
      try simp only [Act.put, List.setIfInBounds_toArray, List.set_cons_zero, List.set_cons_succ]
      refine wpAnyH_ready (rs := [20]) (by kernel_rfl) (by simp) ?_
      refine AllReadyH.cons rfl (fun K hK => ?_) ?_
      ·have hst := wr50_blk (cs := cN dir dn (wa.heap.size) A11 ws.length c11 x) EZ.out rfl rfl (cN_one _ _ _ _ _ _ _)
       simp only [b5, bG, bZ, cN] at hst
       have HL := lf5 (cN dir dn (wa.heap.size) A11 ws.length c11 x) EZ.out EG.out HF.out HB.out (by omega) (by omega) (fun k hk => by have h1 := hk.1; have h2 := hk.2; omega)
       have EX := Lib.hid HL.1; have EG := Lib.hid HL.2.1; have HF := Lib.hid HL.2.2.1; have HB := Lib.hid HL.2.2.2; clear HL
       go_simp
       refine hK.out _ _ ?_ (fun hHeld => ?_)
       focus ((try dsimp only); exact kp5 ED.out EP.out HB.out)
       clear hK K
       refine wpAnyH_done (by kernel_rfl) ?_ _
       refine NoPanic.normal ?_
       exact HPO.out (W.heap.size) (wa.heap.size) _ A11 c11 ws _ _ _ _ _ _ _ _ _ _ _ _ _ _ _ _ _ _ _ HWS.out HC.out HF.out EX.out EG.out (by omega) (by omega) (by omega) HB.out
      exact AllReadyH.nil
     exact AllReadyH.nil
    exact AllReadyH.nil
   exact AllReadyH.nil
  exact AllReadyH.nil
 exact AllReadyH.nil
end Go.Proofs.YteilkbookcmndaaGreatDoor.C
end
