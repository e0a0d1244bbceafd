/- Texts that the claim's law stands on, cut down to what it reaches. -/
import Derived.Test.YteilkbookcmndaaGreatDoorHY1
import Derived.Deep.RegionHeldLaw
import Derived.Deep.RegionHeld3
import Derived.Deep.LoopGhost
set_option linter.unusedVariables false
set_option linter.unusedSimpArgs false
section
set_option linter.unusedVariables false
set_option linter.unusedSimpArgs false
namespace Go.Proofs.YteilkbookcmndaaGreatDoor.C
open Go.RowKit Go.Proofs.YteilkbookcmndaaGreatDoor.Q Go.Proofs.YteilkbookcmndaaGreatDoorW.PrintWords Go.Proofs.YteilkbookcmndaaGreatDoorW.PrintLast Go.Proofs.YteilkbookcmndaaGreatDoorW.PrintMore
attribute [local go_sem ↓] rd_at50 wr_at50 al_at50
attribute [local go_sem] rd50_new wr50_new al50
attribute [local go_sem ↓] rd_at45 wr_at45 rd_at150 wr_at150 rd_at47b wr_at47b rd_at77 wr_at77 rd_at41p wr_at41p
attribute [local go_sem] rd45_new wr45_new rd150_new wr150_new wr47b_new
attribute [local go_sem] max2_mx max_two
set_option maxHeartbeats 16000000 in
set_option maxRecDepth 1000000 in
theorem sm9 (gr tl c t2 wn wc : Nat) (A Aw : Option Addr) (ts : List S50) (u0 u1 u2 u3 u4 u5 u6 u9 u10 u11 u13 u14 u15 u16 u17 u18 u19 u20 u21 u22 u23 u24 u25 u26 u27 u28 u29 u30 u31 u32 u33 u34 u35 u36 u37 u38 u39 u40 u41 u42 u43 u44 u45 u46 u47 u48 u49 u50 u51 u52 u53 u54 u55 u56 u57 : Value) (W : World) (Q : Exit → Act → World → Prop)
  (hr : W.heap[gr]? = some (.cells #[.int .i64 4, .int .i64 4, .int .i64 4, .int .i64 0] 33 (0, 0)))
  (hP : ∀ (ga : Nat) (w1 : World), Below W.heap.size W w1 → w1.heap[ga]? = some (.cells #[.string (⟨#[42]⟩ : ByteArray), .int .i64 7] 85) → Calls Tryz.prog 24 #[.slice A tl c, .agg #[.string (⟨#[47, 112]⟩ : ByteArray), .bool false, .int .i64 0, .int .i64 0, .int .i64 3, .int .i64 255, .slice (some ⟨ga, 0, none⟩) 1 1, .int .i64 4, .int .i64 4, .int .i64 4, .int .i64 0, .slice Aw wn wc, .int .i64 0, .int .i64 0, .int .i64 0, .int .i64 0]] w1 fun e w' => ∃ A2 c2, e = .returned (.slice A2 t2 c2) ∧ t2 ≤ c2 ∧ Kd.C k50 w' A2 t2 ts ∧ Below w1.heap.size w1 w')
  (hpost : ∀ (w' : World) (A2 : Option Addr) (c2 : Nat) (t37 t38 t39 t40 t41 t42 t43 t44 : Value), t2 ≤ c2 → Kd.C k50 w' A2 t2 ts → Below W.heap.size W w' → Q .normal ⟨#[u0, u1, u2, u3, u4, u5, u6, .slice A2 t2 c2, .slice Aw wn wc, u9, u10, u11, .pointer (some ⟨gr, 0, none⟩), u13, u14, u15, u16, u17, u18, u19, u20, u21, u22, u23, u24, u25, u26, u27, u28, u29, u30, u31, u32, u33, u34, u35, u36, t37, t38, t39, t40, t41, t42, t43, t44, u45, u46, u47, u48, u49, u50, u51, u52, u53, u54, u55, u56, u57], []⟩ w') :
  Code.wp Tryz.prog (cReg Tryz.f21 9) Q ⟨#[u0, u1, u2, u3, u4, u5, u6, .slice A tl c, .slice Aw wn wc, u9, u10, u11, .pointer (some ⟨gr, 0, none⟩), u13, u14, u15, u16, u17, u18, u19, u20, u21, u22, u23, u24, u25, u26, u27, u28, u29, u30, u31, u32, u33, u34, u35, u36, u37, u38, u39, u40, u41, u42, u43, u44, u45, u46, u47, u48, u49, u50, u51, u52, u53, u54, u55, u56, u57], []⟩ W := by
 have HPO := Lib.hid hpost
 have ER := Lib.hid hr
 have HP := Lib.hid hP
 clear hr hP hpost
 have HB := Lib.hid (below_drew1 (Below.refl W.heap.size W))
 conv => arg 2; whnf
 refine wp_region_noPanic ?_
 refine wp_region_held_drew (S := fun W1 => W1.cell? ⟨gr, 0, none⟩ = some (.int .i64 4) ∧ W1.cell? ⟨gr, 1, none⟩ = some (.int .i64 4) ∧ W1.cell? ⟨gr, 2, none⟩ = some (.int .i64 4) ∧ W1.cell? ⟨gr, 3, none⟩ = some (.int .i64 0)) (by kernel_rfl) ?_ (fun hHeld => ?_)
 focus ((try dsimp only); exact ⟨(blk_cell (blk_below ER.out HB.out) 0).trans rfl, (blk_cell (blk_below ER.out HB.out) 1).trans rfl, (blk_cell (blk_below ER.out HB.out) 2).trans rfl, (blk_cell (blk_below ER.out HB.out) 3).trans rfl⟩)
 refine tk 0 37 (v := ?_) rfl rfl (by kernel_rfl) rfl ?_ (by assumption) ?_; rotate_left; focus (intro w hSw; go_simp; try with_reducible rfl)
 try simp only [Act.put, List.setIfInBounds_toArray, List.set_cons_zero, List.set_cons_succ]
 refine tk 2 39 (v := ?_) rfl rfl (by kernel_rfl) rfl ?_ (by assumption) ?_; rotate_left; focus (intro w hSw; go_simp; try with_reducible rfl)
 try simp only [Act.put, List.setIfInBounds_toArray, List.set_cons_zero, List.set_cons_succ]
 refine tk 4 41 (v := ?_) rfl rfl (by kernel_rfl) rfl ?_ (by assumption) ?_; rotate_left; focus (intro w hSw; go_simp; try with_reducible rfl)
 try simp only [Act.put, List.setIfInBounds_toArray, List.set_cons_zero, List.set_cons_succ]
 refine tk 5 42 (v := ?_) rfl rfl (by kernel_rfl) rfl ?_ (by assumption) ?_; rotate_left; focus (intro w hSw; go_simp; try with_reducible rfl)
 try simp only [Act.put, List.setIfInBounds_toArray, List.set_cons_zero, List.set_cons_succ]
 refine wpAnyH_ready (rs := [1, 3]) (by kernel_rfl) (by simp) ?_
 refine AllReadyH.cons rfl (fun K hK => ?_) ?_
 ·go_simp
  go_wp2_with (go_at_call 22; refine (donjonref4_Bottom.calls 0 0 3 255 _ rfl).mono ?_; rintro e wa ⟨rfl, hb⟩; have HB := Lib.hid (below_step HB.out hb); (try have EG := Lib.hid (blk_below EG.out hb)); clear hb)
  refine hK.out _ _ ?_ (fun hHeld => ?_)
  focus ((try dsimp only); exact ⟨(blk_cell (blk_below ER.out HB.out) 0).trans rfl, (blk_cell (blk_below ER.out HB.out) 1).trans rfl, (blk_cell (blk_below ER.out HB.out) 2).trans rfl, (blk_cell (blk_below ER.out HB.out) 3).trans rfl⟩)
  clear hK K
  refine wpAnyH_ready (rs := [3]) (by kernel_rfl) (by simp) ?_
  refine AllReadyH.cons rfl (fun K hK => ?_) ?_
  ·have EG := Lib.hid (show (World.alloc wa (.cells #[.string (⟨#[42]⟩ : ByteArray), .int .i64 7] 85)).heap[wa.heap.size]? = some (.cells #[.string (⟨#[42]⟩ : ByteArray), .int .i64 7] 85) from blk_new wa (.cells #[.string (⟨#[42]⟩ : ByteArray), .int .i64 7] 85))
   have HB := Lib.hid (below_alloc HB.out (.cells #[.string (⟨#[42]⟩ : ByteArray), .int .i64 7] 85))
   go_simp
   refine hK.out _ _ ?_ (fun hHeld => ?_)
   focus ((try dsimp only); exact ⟨(blk_cell (blk_below ER.out HB.out) 0).trans rfl, (blk_cell (blk_below ER.out HB.out) 1).trans rfl, (blk_cell (blk_below ER.out HB.out) 2).trans rfl, (blk_cell (blk_below ER.out HB.out) 3).trans rfl⟩)
   clear hK K
   refine tk 6 43 (v := ?_) rfl rfl (by kernel_rfl) rfl ?_ (by assumption) ?_; rotate_left; focus (intro w hSw; go_simp; try with_reducible rfl)
   try simp only [Act.put, List.setIfInBounds_toArray, List.set_cons_zero, List.set_cons_succ]
   refine wpAnyH_ready (rs := [7]) (by kernel_rfl) (by simp) ?_
   refine AllReadyH.cons rfl (fun K hK => ?_) ?_
   ·go_simp
    go_wp2_with (go_at_call 24; refine (HP.out _ _ HB.out EG.out).mono ?_; rintro e wb ⟨A2, c2, rfl, hc2, hC2, hb⟩; have HC2 := Lib.hid hC2; have HL2 := Lib.hid hc2; have HB := Lib.hid (below_step HB.out hb); clear hb hC2 hc2)
    refine hK.out _ _ ?_ (fun hHeld => ?_)
    focus ((try dsimp only); exact ⟨(blk_cell (blk_below ER.out HB.out) 0).trans rfl, (blk_cell (blk_below ER.out HB.out) 1).trans rfl, (blk_cell (blk_below ER.out HB.out) 2).trans rfl, (blk_cell (blk_below ER.out HB.out) 3).trans rfl⟩)
    clear hK K
    refine tk 8 7 (v := ?_) rfl rfl (by kernel_rfl) rfl ?_ (by assumption) ?_; rotate_left; focus (intro w hSw; go_simp; try with_reducible rfl)
    try simp only [Act.put, List.setIfInBounds_toArray, List.set_cons_zero, List.set_cons_succ]
    refine wpAnyH_done (by kernel_rfl) ?_ _
    refine NoPanic.normal ?_
    exact HPO.out _ A2 c2 _ _ _ _ _ _ _ _ HL2.out HC2.out HB.out
   exact AllReadyH.nil
  exact AllReadyH.nil
 refine AllReadyH.cons rfl (fun K hK => ?_) ?_
 ·have EG := Lib.hid (show (World.alloc W.drew (.cells #[.string (⟨#[42]⟩ : ByteArray), .int .i64 7] 85)).heap[W.heap.size]? = some (.cells #[.string (⟨#[42]⟩ : ByteArray), .int .i64 7] 85) from blk_new W.drew (.cells #[.string (⟨#[42]⟩ : ByteArray), .int .i64 7] 85))
  have HB := Lib.hid (below_alloc HB.out (.cells #[.string (⟨#[42]⟩ : ByteArray), .int .i64 7] 85))
  go_simp
  refine hK.out _ _ ?_ (fun hHeld => ?_)
  focus ((try dsimp only); exact ⟨(blk_cell (blk_below ER.out HB.out) 0).trans rfl, (blk_cell (blk_below ER.out HB.out) 1).trans rfl, (blk_cell (blk_below ER.out HB.out) 2).trans rfl, (blk_cell (blk_below ER.out HB.out) 3).trans rfl⟩)
  clear hK K
  refine wpAnyH_ready (rs := [1]) (by kernel_rfl) (by simp) ?_
  refine AllReadyH.cons rfl (fun K hK => ?_) ?_
  ·go_simp
   go_wp2_with (go_at_call 22; refine (donjonref4_Bottom.calls 0 0 3 255 _ rfl).mono ?_; rintro e wa ⟨rfl, hb⟩; have HB := Lib.hid (below_step HB.out hb); (try have EG := Lib.hid (blk_below EG.out hb)); clear hb)
   refine hK.out _ _ ?_ (fun hHeld => ?_)
   focus ((try dsimp only); exact ⟨(blk_cell (blk_below ER.out HB.out) 0).trans rfl, (blk_cell (blk_below ER.out HB.out) 1).trans rfl, (blk_cell (blk_below ER.out HB.out) 2).trans rfl, (blk_cell (blk_below ER.out HB.out) 3).trans rfl⟩)
   clear hK K
   refine tk 6 43 (v := ?_) rfl rfl (by kernel_rfl) rfl ?_ (by assumption) ?_; rotate_left; focus (intro w hSw; go_simp; try with_reducible rfl)
   try simp only [Act.put, List.setIfInBounds_toArray, List.set_cons_zero, List.set_cons_succ]
   refine wpAnyH_ready (rs := [7]) (by kernel_rfl) (by simp) ?_
   refine AllReadyH.cons rfl (fun K hK => ?_) ?_
   ·go_simp
    go_wp2_with (go_at_call 24; refine (HP.out _ _ HB.out EG.out).mono ?_; rintro e wb ⟨A2, c2, rfl, hc2, hC2, hb⟩; have HC2 := Lib.hid hC2; have HL2 := Lib.hid hc2; have HB := Lib.hid (below_step HB.out hb); clear hb hC2 hc2)
    refine hK.out _ _ ?_ (fun hHeld => ?_)
    focus ((try dsimp only); exact ⟨(blk_cell (blk_below ER.out HB.out) 0).trans rfl, (blk_cell (blk_below ER.out HB.out) 1).trans rfl, (blk_cell (blk_below ER.out HB.out) 2).trans rfl, (blk_cell (blk_below ER.out HB.out) 3).trans rfl⟩)
    clear hK K
    refine tk 8 7 (v := ?_) rfl rfl (by kernel_rfl) rfl ?_ (by assumption) ?_; rotate_left; focus (intro w hSw; go_simp; try with_reducible rfl)
    try simp only [Act.put, List.setIfInBounds_toArray, List.set_cons_zero, List.set_cons_succ]
    refine wpAnyH_done (by kernel_rfl) ?_ _
    refine NoPanic.normal ?_
    exact HPO.out _ A2 c2 _ _ _ _ _ _ _ _ HL2.out HC2.out HB.out
   exact AllReadyH.nil
  exact AllReadyH.nil
 exact AllReadyH.nil
set_option maxHeartbeats 16000000 in
set_option maxRecDepth 1000000 in
theorem sm10 (gr dn_ dc : Nat) (Ad : Option Addr) (u0 u2 u3 u4 u5 u6 u7 u8 u9 u10 u11 u13 u14 u15 u16 u17 u18 u19 u20 u21 u22 u23 u24 u25 u26 u27 u28 u29 u30 u31 u32 u33 u34 u35 u36 u37 u38 u39 u40 u41 u42 u43 u44 u45 u46 u47 u48 u49 u50 u51 u52 u53 u54 u55 u56 u57 : Value) (W : World) (Q : Exit → Act → World → Prop)
  (hr : W.heap[gr]? = some (.cells #[.int .i64 4, .int .i64 4, .int .i64 4, .int .i64 0] 33 (0, 0)))
  (hpost : ∀ (w' : World) (g : Nat) (t45 t46 t47 t48 : Value), w'.heap[g]? = some (.cells #[.string (⟨#[47, 100]⟩ : ByteArray), .bool false, .int .i64 0, .int .i64 0, .int .i64 3, .int .i64 255, .slice none 0 0, .int .i64 4, .int .i64 4, .int .i64 4, .int .i64 0, .slice Ad dn_ dc, .int .i64 0, .int .i64 0, .int .i64 0, .int .i64 0] 36 (0, 0)) → W.heap.size ≤ g → Below W.heap.size W w' → Q .normal ⟨#[u0, .slice Ad dn_ dc, u2, u3, u4, u5, u6, u7, u8, u9, u10, u11, .pointer (some ⟨gr, 0, none⟩), .pointer (some ⟨g, 0, none⟩), u14, u15, u16, u17, u18, u19, u20, u21, u22, u23, u24, u25, u26, u27, u28, u29, u30, u31, u32, u33, u34, u35, u36, u37, u38, u39, u40, u41, u42, u43, u44, t45, t46, t47, t48, u49, u50, u51, u52, u53, u54, u55, u56, u57], []⟩ w') :
  Code.wp Tryz.prog (cReg Tryz.f21 10) Q ⟨#[u0, .slice Ad dn_ dc, u2, u3, u4, u5, u6, u7, u8, u9, u10, u11, .pointer (some ⟨gr, 0, none⟩), u13, u14, u15, u16, u17, u18, u19, u20, u21, u22, u23, u24, u25, u26, u27, u28, u29, u30, u31, u32, u33, u34, u35, u36, u37, u38, u39, u40, u41, u42, u43, u44, u45, u46, u47, u48, u49, u50, u51, u52, u53, u54, u55, u56, u57], []⟩ W := by
 have HPO := Lib.hid hpost
 have ER := Lib.hid hr
 clear hr hpost
 have HB := Lib.hid (below_drew1 (Below.refl W.heap.size W))
 conv => arg 2; whnf
 refine wp_region_noPanic ?_
 refine wp_region_held_drew (S := fun W1 => W1.cell? ⟨gr, 0, none⟩ = some (.int .i64 4) ∧ W1.cell? ⟨gr, 1, none⟩ = some (.int .i64 4) ∧ W1.cell? ⟨gr, 2, none⟩ = some (.int .i64 4) ∧ W1.cell? ⟨gr, 3, none⟩ = some (.int .i64 0)) (by kernel_rfl) ?_ (fun hHeld => ?_)
 focus ((try dsimp only); exact ⟨(blk_cell (blk_below ER.out HB.out) 0).trans rfl, (blk_cell (blk_below ER.out HB.out) 1).trans rfl, (blk_cell (blk_below ER.out HB.out) 2).trans rfl, (blk_cell (blk_below ER.out HB.out) 3).trans rfl⟩)
 refine tk 1 46 (v := ?_) rfl rfl (by kernel_rfl) rfl ?_ (by assumption) ?_; rotate_left; focus (intro w hSw; go_simp; try with_reducible rfl)
 try simp only [Act.put, List.setIfInBounds_toArray, List.set_cons_zero, List.set_cons_succ]
 refine tk 2 47 (v := ?_) rfl rfl (by kernel_rfl) rfl ?_ (by assumption) ?_; rotate_left; focus (intro w hSw; go_simp; try with_reducible rfl)
 try simp only [Act.put, List.setIfInBounds_toArray, List.set_cons_zero, List.set_cons_succ]
 refine wpAnyH_ready (rs := [0, 4]) (by kernel_rfl) (by simp) ?_
 refine AllReadyH.cons rfl (fun K hK => ?_) ?_
 ·go_simp
  go_wp2_with (go_at_call 22; refine (donjonref4_Bottom.calls 0 0 3 255 _ rfl).mono ?_; rintro e wa ⟨rfl, hb⟩; have HB := Lib.hid (below_step HB.out hb); (try have EZ := Lib.hid (blk_below EZ.out hb)); clear hb)
  refine hK.out _ _ ?_ (fun hHeld => ?_)
  focus ((try dsimp only); exact ⟨(blk_cell (blk_below ER.out HB.out) 0).trans rfl, (blk_cell (blk_below ER.out HB.out) 1).trans rfl, (blk_cell (blk_below ER.out HB.out) 2).trans rfl, (blk_cell (blk_below ER.out HB.out) 3).trans rfl⟩)
  clear hK K
  refine tk 3 48 (v := ?_) rfl rfl (by kernel_rfl) rfl ?_ (by assumption) ?_; rotate_left; focus (intro w hSw; go_simp; try with_reducible rfl)
  try simp only [Act.put, List.setIfInBounds_toArray, List.set_cons_zero, List.set_cons_succ]
  refine wpAnyH_ready (rs := [4]) (by kernel_rfl) (by simp) ?_
  refine AllReadyH.cons rfl (fun K hK => ?_) ?_
  ·have EZ := Lib.hid (show (World.alloc wa (.cells #[.string (⟨#[]⟩ : ByteArray), .bool false, .int .i64 0, .int .i64 0, .int .i64 0, .int .i64 0, .slice none 0 0, .int .i64 0, .int .i64 0, .int .i64 0, .int .i64 0, .slice none 0 0, .int .i64 0, .int .i64 0, .int .i64 0, .int .i64 0] 36)).heap[wa.heap.size]? = some (.cells #[.string (⟨#[]⟩ : ByteArray), .bool false, .int .i64 0, .int .i64 0, .int .i64 0, .int .i64 0, .slice none 0 0, .int .i64 0, .int .i64 0, .int .i64 0, .int .i64 0, .slice none 0 0, .int .i64 0, .int .i64 0, .int .i64 0, .int .i64 0] 36) from blk_new wa (.cells #[.string (⟨#[]⟩ : ByteArray), .bool false, .int .i64 0, .int .i64 0, .int .i64 0, .int .i64 0, .slice none 0 0, .int .i64 0, .int .i64 0, .int .i64 0, .int .i64 0, .slice none 0 0, .int .i64 0, .int .i64 0, .int .i64 0, .int .i64 0] 36))
   have HZ := Lib.hid (show W.heap.size ≤ wa.heap.size from (by first | exact Nat.le_refl _ | exact below_size HB.out))
   have HB := Lib.hid (below_alloc HB.out (.cells #[.string (⟨#[]⟩ : ByteArray), .bool false, .int .i64 0, .int .i64 0, .int .i64 0, .int .i64 0, .slice none 0 0, .int .i64 0, .int .i64 0, .int .i64 0, .int .i64 0, .slice none 0 0, .int .i64 0, .int .i64 0, .int .i64 0, .int .i64 0] 36))
   go_simp
   refine hK.out _ _ ?_ (fun hHeld => ?_)
   focus ((try dsimp only); exact ⟨(blk_cell (blk_below ER.out HB.out) 0).trans rfl, (blk_cell (blk_below ER.out HB.out) 1).trans rfl, (blk_cell (blk_below ER.out HB.out) 2).trans rfl, (blk_cell (blk_below ER.out HB.out) 3).trans rfl⟩)
   clear hK K
   refine wpAnyH_ready (rs := [5]) (by kernel_rfl) (by simp) ?_
   refine AllReadyH.cons rfl (fun K hK => ?_) ?_
   ·have hst := wr50_blk (cs := #[.string (⟨#[47, 100]⟩ : ByteArray), .bool false, .int .i64 0, .int .i64 0, .int .i64 3, .int .i64 255, .slice none 0 0, .int .i64 4, .int .i64 4, .int .i64 4, .int .i64 0, .slice Ad dn_ dc, .int .i64 0, .int .i64 0, .int .i64 0, .int .i64 0]) EZ.out rfl rfl (by simp [Value.oneCell'])
    have EX := Lib.hid (setRow_heap _ _ _ (#[.string (⟨#[47, 100]⟩ : ByteArray), .bool false, .int .i64 0, .int .i64 0, .int .i64 3, .int .i64 255, .slice none 0 0, .int .i64 4, .int .i64 4, .int .i64 4, .int .i64 0, .slice Ad dn_ dc, .int .i64 0, .int .i64 0, .int .i64 0, .int .i64 0] : Array Value) _ _ EZ.out)
    have HB := Lib.hid (below_setRow HB.out HZ.out (#[.string (⟨#[47, 100]⟩ : ByteArray), .bool false, .int .i64 0, .int .i64 0, .int .i64 3, .int .i64 255, .slice none 0 0, .int .i64 4, .int .i64 4, .int .i64 4, .int .i64 0, .slice Ad dn_ dc, .int .i64 0, .int .i64 0, .int .i64 0, .int .i64 0] : Array Value))
    go_simp
    refine hK.out _ _ ?_ (fun hHeld => ?_)
    focus ((try dsimp only); exact ⟨(blk_cell (blk_below ER.out HB.out) 0).trans rfl, (blk_cell (blk_below ER.out HB.out) 1).trans rfl, (blk_cell (blk_below ER.out HB.out) 2).trans rfl, (blk_cell (blk_below ER.out HB.out) 3).trans rfl⟩)
    clear hK K
    refine wpAnyH_done (by kernel_rfl) ?_ _
    refine NoPanic.normal ?_
    exact HPO.out _ _ _ _ _ _ EX.out HZ.out HB.out
   exact AllReadyH.nil
  exact AllReadyH.nil
 refine AllReadyH.cons rfl (fun K hK => ?_) ?_
 ·have EZ := Lib.hid (show (World.alloc W.drew (.cells #[.string (⟨#[]⟩ : ByteArray), .bool false, .int .i64 0, .int .i64 0, .int .i64 0, .int .i64 0, .slice none 0 0, .int .i64 0, .int .i64 0, .int .i64 0, .int .i64 0, .slice none 0 0, .int .i64 0, .int .i64 0, .int .i64 0, .int .i64 0] 36)).heap[W.heap.size]? = some (.cells #[.string (⟨#[]⟩ : ByteArray), .bool false, .int .i64 0, .int .i64 0, .int .i64 0, .int .i64 0, .slice none 0 0, .int .i64 0, .int .i64 0, .int .i64 0, .int .i64 0, .slice none 0 0, .int .i64 0, .int .i64 0, .int .i64 0, .int .i64 0] 36) from blk_new W.drew (.cells #[.string (⟨#[]⟩ : ByteArray), .bool false, .int .i64 0, .int .i64 0, .int .i64 0, .int .i64 0, .slice none 0 0, .int .i64 0, .int .i64 0, .int .i64 0, .int .i64 0, .slice none 0 0, .int .i64 0, .int .i64 0, .int .i64 0, .int .i64 0] 36))
  have HZ := Lib.hid (show W.heap.size ≤ W.heap.size from (by first | exact Nat.le_refl _ | exact below_size HB.out))
  have HB := Lib.hid (below_alloc HB.out (.cells #[.string (⟨#[]⟩ : ByteArray), .bool false, .int .i64 0, .int .i64 0, .int .i64 0, .int .i64 0, .slice none 0 0, .int .i64 0, .int .i64 0, .int .i64 0, .int .i64 0, .slice none 0 0, .int .i64 0, .int .i64 0, .int .i64 0, .int .i64 0] 36))
  go_simp
  refine hK.out _ _ ?_ (fun hHeld => ?_)
  focus ((try dsimp only); exact ⟨(blk_cell (blk_below ER.out HB.out) 0).trans rfl, (blk_cell (blk_below ER.out HB.out) 1).trans rfl, (blk_cell (blk_below ER.out HB.out) 2).trans rfl, (blk_cell (blk_below ER.out HB.out) 3).trans rfl⟩)
  clear hK K
  refine wpAnyH_ready (rs := [0]) (by kernel_rfl) (by simp) ?_
  refine AllReadyH.cons rfl (fun K hK => ?_) ?_
  ·go_simp
   go_wp2_with (go_at_call 22; refine (donjonref4_Bottom.calls 0 0 3 255 _ rfl).mono ?_; rintro e wa ⟨rfl, hb⟩; have HB := Lib.hid (below_step HB.out hb); (try have EZ := Lib.hid (blk_below EZ.out hb)); clear hb)
   refine hK.out _ _ ?_ (fun hHeld => ?_)
   focus ((try dsimp only); exact ⟨(blk_cell (blk_below ER.out HB.out) 0).trans rfl, (blk_cell (blk_below ER.out HB.out) 1).trans rfl, (blk_cell (blk_below ER.out HB.out) 2).trans rfl, (blk_cell (blk_below ER.out HB.out) 3).trans rfl⟩)
   clear hK K
   refine tk 3 48 (v := ?_) rfl rfl (by kernel_rfl) rfl ?_ (by assumption) ?_; rotate_left; focus (intro w hSw; go_simp; try with_reducible rfl)
   try simp only [Act.put, List.setIfInBounds_toArray, List.set_cons_zero, List.set_cons_succ]
   refine wpAnyH_ready (rs := [5]) (by kernel_rfl) (by simp) ?_
   refine AllReadyH.cons rfl (fun K hK => ?_) ?_
   ·have hst := wr50_blk (cs := #[.string (⟨#[47, 100]⟩ : ByteArray), .bool false, .int .i64 0, .int .i64 0, .int .i64 3, .int .i64 255, .slice none 0 0, .int .i64 4, .int .i64 4, .int .i64 4, .int .i64 0, .slice Ad dn_ dc, .int .i64 0, .int .i64 0, .int .i64 0, .int .i64 0]) EZ.out rfl rfl (by simp [Value.oneCell'])
    have EX := Lib.hid (setRow_heap _ _ _ (#[.string (⟨#[47, 100]⟩ : ByteArray), .bool false, .int .i64 0, .int .i64 0, .int .i64 3, .int .i64 255, .slice none 0 0, .int .i64 4, .int .i64 4, .int .i64 4, .int .i64 0, .slice Ad dn_ dc, .int .i64 0, .int .i64 0, .int .i64 0, .int .i64 0] : Array Value) _ _ EZ.out)
    have HB := Lib.hid (below_setRow HB.out HZ.out (#[.string (⟨#[47, 100]⟩ : ByteArray), .bool false, .int .i64 0, .int .i64 0, .int .i64 3, .int .i64 255, .slice none 0 0, .int .i64 4, .int .i64 4, .int .i64 4, .int .i64 0, .slice Ad dn_ dc, .int .i64 0, .int .i64 0, .int .i64 0, .int .i64 0] : Array Value))
    go_simp
    refine hK.out _ _ ?_ (fun hHeld => ?_)
    focus ((try dsimp only); exact ⟨(blk_cell (blk_below ER.out HB.out) 0).trans rfl, (blk_cell (blk_below ER.out HB.out) 1).trans rfl, (blk_cell (blk_below ER.out HB.out) 2).trans rfl, (blk_cell (blk_below ER.out HB.out) 3).trans rfl⟩)
    clear hK K
    refine wpAnyH_done (by kernel_rfl) ?_ _
    refine NoPanic.normal ?_
    exact HPO.out _ _ _ _ _ _ EX.out HZ.out HB.out
   exact AllReadyH.nil
  exact AllReadyH.nil
 exact AllReadyH.nil
end Go.Proofs.YteilkbookcmndaaGreatDoor.C
end
section
set_option linter.unusedVariables false
set_option linter.unusedSimpArgs false
namespace Go.Proofs.YteilkbookcmndaaGreatDoor.C
open Go.RowKit Go.Proofs.YteilkbookcmndaaGreatDoor.Q Go.Proofs.YteilkbookcmndaaGreatDoorW.PrintWords Go.Proofs.YteilkbookcmndaaGreatDoorW.PrintLast Go.Proofs.YteilkbookcmndaaGreatDoorW.PrintMore
attribute [local go_sem ↓] rd_at50 wr_at50 al_at50
attribute [local go_sem] rd50_new wr50_new al50
attribute [local go_sem ↓] rd_at45 wr_at45 rd_at150 wr_at150 rd_at47b wr_at47b rd_at77 wr_at77 rd_at41p wr_at41p
attribute [local go_sem] rd45_new wr45_new rd150_new wr150_new wr47b_new
attribute [local go_sem] max2_mx max_two
theorem cellsC {α : Type} {d : Kd α} {w : World} {g : Nat} {ty : TypeId} {x : α} {cs : List Value} (hg : w.heap[g]? = some (.cells cs.toArray ty (0, 0))) (hK : d.K w x cs) (hs : cs.length = d.sz) : Kd.C d w (some ⟨g, 0, none⟩) [x].length [x] := by
 refine ⟨rfl, by show 1 ≤ 9223372036854775807; decide, fun _ => ⟨_, rfl, fun j q hj => ?_⟩⟩
 have hj0 : j = 0 := by
  have := (List.getElem?_eq_some_iff.1 hj).1
  simp at this
  exact this
 subst hj0
 have hq : q = x := by simpa using hj.symm
 subst hq
 refine ⟨cs, hs, hK, fun i u hu => ?_⟩
 have h2 := blk_cell hg i
 have hadd : ((⟨g, 0, none⟩ : Addr).add (0 * d.sz + i)) = ⟨g, i, none⟩ := by rw [Nat.zero_mul, Nat.zero_add]; unfold Addr.add; split <;> simp_all
 rw [hadd, h2]
 simpa using hu
theorem grantC {w : World} {g : Nat} {s : ByteArray} {m : Int} (hg : w.heap[g]? = some (.cells #[.string s, .int .i64 m] 85 (0, 0))) : Kd.C k96 w (some ⟨g, 0, none⟩) 1 [⟨s, m⟩] :=
 cellsC (cs := [.string s, .int .i64 m]) hg (k96_mk w ⟨s, m⟩) rfl
theorem labC {w : World} {g : Nat} {a : S41} (hg : w.heap[g]? = some (.cells #[.int .i64 a.f0, .int .i64 a.f1, .int .i64 a.f2, .int .i64 a.f3] 30 (0, 0))) : Kd.C k41 w (some ⟨g, 0, none⟩) 1 [a] :=
 cellsC (cs := [.int .i64 a.f0, .int .i64 a.f1, .int .i64 a.f2, .int .i64 a.f3]) hg (k41_mk w a) rfl
theorem strC {w : World} {g : Nat} {s : ByteArray} (hg : w.heap[g]? = some (.cells #[.string s] 9 (0, 0))) : Kd.C Kd.string w (some ⟨g, 0, none⟩) [s].length [s] :=
 cellsC (cs := [.string s]) hg rfl rfl
theorem putC (l : List S50) (n : S50) (cs : List Value) (A : Option Addr) (c : Nat) (w : World) (hC : Kd.C k50 w A l.length l) (hc : l.length ≤ c) (hn : l.length ≤ 1000) (hK : k50.K w n cs) :
  Calls Tryz.prog 24 #[.slice A l.length c, .agg cs.toArray] w fun e w' => ∃ A' c', e = .returned (.slice A' (putN l n).length c') ∧ (putN l n).length ≤ c' ∧ Kd.C k50 w' A' (putN l n).length (putN l n) ∧ Below w.heap.size w w' := by
 refine (put_c l n cs A c w w hC (Below.refl _ _) hc hn hK).mono ?_
 rintro e w' ⟨v, rfl, hO, hb⟩
 obtain ⟨A', c', rfl, hc', hr⟩ := OwnRow.reads hO
 exact ⟨A', c', rfl, hc', C50_of' hr hb, hb⟩
theorem first_bot (g : Nat) (w : World) (hg : w.heap[g]? = some (.cells #[.int .i64 0, .int .i64 0, .int .i64 3, .int .i64 255] 30 (0, 0))) :
  Calls Tryz.prog 26 #[.agg #[.slice (some ⟨g, 0, none⟩) 1 1, .slice none 0 0, .slice none 0 0]] w fun e w' => ∃ A' c', e = .returned (.slice A' (firstT [botS]).length c') ∧ (firstT [botS]).length ≤ c' ∧ Kd.C k50 w' A' (firstT [botS]).length (firstT [botS]) ∧ Below w.heap.size w w' := by
 refine (first_c [botS] (some ⟨g, 0, none⟩) 1 (.slice none 0 0) (.slice none 0 0) w (labC (a := botS) hg) (by decide) (by decide)).mono ?_
 rintro e w' ⟨v, rfl, ls, hls, _, w1, hb1, hb2, hO⟩
 have hl := hls.2 rfl
 subst hl
 obtain ⟨A', c', rfl, hc', hr⟩ := OwnRow.reads hO
 exact ⟨A', c', rfl, hc', C50_of' hr hb2, below_step hb1 hb2⟩
set_option maxHeartbeats 16000000 in
set_option maxRecDepth 1000000 in
theorem simple_p (ni : Nat) (ad : Addr) (ic : Nat) (op p n_ en er : Nat → Int) (ds : List Int) (Ad : Option Addr) (dc : Nat) (modes : Int) (w : World) (hpos : 0 < modes) (hni : ni ≤ 16) (hnc : ni ≤ ic) (hdl : ds.length ≤ 16) (hdc : ds.length ≤ dc)
  (hI : ∀ i, i < ni → ∀ w1 : World, Below w.heap.size w w1 → (rdS 77 (.pointer (some (ad.add (i * 3))))).run Tryz.prog w1 = .ok (.agg #[.int .i64 (op i), .int .i64 (p i), .int .i64 (n_ i)]) w1)
  (hE : ∀ i, i < ni → PProcLimits.donjonref15_Encode.f 100 (op i) (p i) (n_ i) = some (en i, er i))
  (hD : Kd.C (Kd.int .i64) w Ad ds.length ds) :
  Calls Tryz.prog 21 #[.slice (some ad) ni ic, .slice Ad ds.length dc, .int .i64 modes] w fun e w' => ∃ A' c' t, e = .returned (.slice A' (List.length t) c') ∧ t = (putN (putN (firstT [botS]) (⟨(⟨#[47, 112]⟩ : ByteArray), false, botS, allG, ⟨4, 4, 4, 0⟩, ((List.range ni).map en), ⟨0, 0, 0, 0⟩⟩ : S50)) (⟨(⟨#[47, 100]⟩ : ByteArray), false, botS, [⟨⟨#[42]⟩, modes⟩], ⟨4, 4, 4, 0⟩, ds, ⟨0, 0, 0, 0⟩⟩ : S50)) ∧ t.length ≤ c' ∧ Kd.C k50 w' A' t.length t ∧ Below w.heap.size w w' := by
 have HI := Lib.hid hI
 have HEN := Lib.hid hE
 have HD := Lib.hid hD
 clear hI hE hD
 go_enter Tryz.func21, Tryz.ntmps21
 go_wp2_with (first
  | (go_at_call 26; refine (first_bot w1.heap.size _ (blk_new w1 (.cells #[.int .i64 0, .int .i64 0, .int .i64 3, .int .i64 255] 30))).mono ?_; rintro e w2 ⟨A1, c1, rfl, hc1, hC, hb⟩; have HC1 := Lib.hid hC; have HB1 := Lib.hid (below_step (below_alloc HB0.out (.cells #[.int .i64 0, .int .i64 0, .int .i64 3, .int .i64 255] 30)) hb); clear hb hC)
  | (go_at_call 22; refine (donjonref4_Bottom.calls 0 0 3 255 _ rfl).mono ?_; rintro e w1 ⟨rfl, hb⟩; have HB0 := Lib.hid hb; clear hb))
 have HBV := HB1
 have HCV := HC1
 obtain ⟨V, hV⟩ : ∃ V, V = w2 := ⟨_, rfl⟩
 subst hV
 go_loopg [8, 9] ni (fun kk s8 s9 wr => ∃ i : Nat, i ≤ ni ∧ ni - i ≤ kk ∧ s9 = .int .i64 (i : Int) ∧ Hid (OwnRow (fun (x : Int) l => l = [.int .i64 x]) 2 1 wr V.heap.size s8 ((List.range i).map en)) ∧ Hid (Below V.heap.size V wr))
 case atStart => exact ⟨0, Nat.zero_le _, Nat.le_refl _, rfl, Lib.hid (OwnRow.none_ _ _ _ _ _), Lib.hid (Below.refl _ _)⟩
 case round =>
  obtain ⟨i, hi, hik, rfl, HO, HB⟩ := hrel
  obtain ⟨Aw, wc, rfl, hwc, _⟩ := OwnRow.reads HO.out
  by_cases hlt : i < ni
  ·have hlt2 : (i : Int) < (ni : Int) := by omega
   have hi0 : (0 : Int) ≤ (i : Int) := by omega
   have hrd := HI.out i hlt wr (below_step HBV.out HB.out)
   have hen := HEN.out i hlt
   generalize hxs : (List.range i).map en = xs at HO hwc ⊢
   have hxl : xs.length ≤ 16 := by rw [← hxs]; simp; omega
   have HXS := Lib.hid hxs
   clear hxs
   generalize op i = oi at hrd hen
   generalize p i = pi at hrd hen
   generalize n_ i = ni_ at hrd hen
   have HE2 := Lib.hid hen
   clear hen
   go_wp2_with (first
    | (at_builtin; have hgate := HO1.out; clear hgate; refine OwnRow.append V.heap.size rfl _ _ 34 2 (.int .i64 0) 1 8 rfl Tryz.underlying34 inf2 rfl (by decide) (by decide) (.slice Aw xs.length wc) xs (en i) [.int .i64 (en i)] rfl (by first | rfl | (rw [World.size_alloc]; rfl)) rfl rfl (by simp [Value.oneCell']) HO1.out HB1.out (below_size HB1.out) (by omega) ?_; intro v1 w3 hO hB hg hat; have HO2 := Lib.hid hO; have HB2 := Lib.hid hB; clear hO hB hg hat)
    | (go_at_call 38; refine (PProcLimits.donjonref15_Encode.calls 100 oi pi ni_ (en i) (er i) _ HE2.out).mono ?_; rintro e w2 ⟨rfl, hb⟩; have HO1 := Lib.hid (OwnRow.below HO.out hb); have HB1 := Lib.hid (below_step HB.out hb); clear hb))
   go_roundg (ni - (i + 1))
   case measure => omega
   case rel => exact ⟨i + 1, hlt, Nat.le_refl _, by go_num, Lib.hid (by rw [List.range_succ, List.map_append, HXS.out]; exact HO2.out), HB2⟩
  ·have hii : i = ni := by omega
   subst hii
   obtain ⟨Ax, cx, hvx, hcx, hoC⟩ := ownI_C rfl HO.out
   injection hvx with hA _ hcc
   subst hA hcc
   have HOC := Lib.hid hoC
   generalize hws : (List.range i).map en = ws at HOC hwc hcx
   have hwl : ws.length ≤ 16 := by rw [← hws]; simp; omega
   have HWS := Lib.hid hws
   have HCW := Lib.hid (Kd.C_below HCV.out HB.out)
   clear hws
   go_wp2
   have HB3 := Lib.hid (below_step (below_step HBV.out HB.out) (below_alloc (Below.refl _ _) (.cells #[.int .i64 4, .int .i64 4, .int .i64 4, .int .i64 0] 33)))
   have E3 := Lib.hid (blk_new wr (.cells #[.int .i64 4, .int .i64 4, .int .i64 4, .int .i64 0] 33))
   have HCW := Lib.hid (Kd.C_below HCW.out (below_alloc (Below.refl _ _) (.cells #[.int .i64 4, .int .i64 4, .int .i64 4, .int .i64 0] 33)))
   have HOC := Lib.hid (Kd.C_below HOC.out (below_alloc (Below.refl _ _) (.cells #[.int .i64 4, .int .i64 4, .int .i64 4, .int .i64 0] 33)))
   obtain ⟨V2, hV2⟩ : ∃ V2, V2 = wr.alloc (.cells #[.int .i64 4, .int .i64 4, .int .i64 4, .int .i64 0] 33) := ⟨_, rfl⟩
   rw [← hV2] at HB3 E3 HCW HOC ⊢
   clear hV2
   refine sm9 wr.heap.size (firstT [botS]).length c1 (putN (firstT [botS]) (⟨(⟨#[47, 112]⟩ : ByteArray), false, botS, allG, ⟨4, 4, 4, 0⟩, ws, ⟨0, 0, 0, 0⟩⟩ : S50)).length ws.length wc A1 Aw (putN (firstT [botS]) (⟨(⟨#[47, 112]⟩ : ByteArray), false, botS, allG, ⟨4, 4, 4, 0⟩, ws, ⟨0, 0, 0, 0⟩⟩ : S50)) _ _ _ _ _ _ _ _ _ _ _ _ _ _ _ _ _ _ _ _ _ _ _ _ _ _ _ _ _ _ _ _ _ _ _ _ _ _ _ _ _ _ _ _ _ _ _ _ _ _ _ _ _ _ _ V2 _ E3.out (fun ga w1 hb hga => putC (firstT [botS]) (⟨(⟨#[47, 112]⟩ : ByteArray), false, botS, allG, ⟨4, 4, 4, 0⟩, ws, ⟨0, 0, 0, 0⟩⟩ : S50) _ A1 c1 w1 (Kd.C_below HCW.out hb) hc1 (by decide) (k50_mk w1 (⟨(⟨#[47, 112]⟩ : ByteArray), false, botS, allG, ⟨4, 4, 4, 0⟩, ws, ⟨0, 0, 0, 0⟩⟩ : S50) (A6 := some ⟨ga, 0, none⟩) (c6 := 1) (Nat.le_refl _) (grantC hga) (A11 := Aw) (c11 := wc) hwc (Kd.C_below HOC.out hb))) ?_
   intro W2 A2 c2 a37 a38 a39 a40 a41 a42 a43 a44 hc2 hC2 hb2
   have HC2 := Lib.hid hC2
   have HB4 := Lib.hid (below_step HB3.out hb2)
   have E4 := Lib.hid (blk_below E3.out hb2)
   clear hC2 hb2
   go_wp2
   refine sm10 wr.heap.size ds.length dc Ad _ _ _ _ _ _ _ _ _ _ _ _ _ _ _ _ _ _ _ _ _ _ _ _ _ _ _ _ _ _ _ _ _ _ _ _ _ _ _ _ _ _ _ _ _ _ _ _ _ _ _ _ _ _ _ _ W2 _ E4.out ?_
   intro W3 gd b45 b46 b47 b48 hX hg3 hb3
   have EX := Lib.hid hX
   have HB5 := Lib.hid (below_step HB4.out hb3)
   have HC3 := Lib.hid (Kd.C_below HC2.out hb3)
   have hlX := blk_lt hX
   have hb3' := hb3
   clear hX hb3
   have f6 := blk_frozen EX.out 6
   have e6 : W3.cell? ⟨gd, 6, none⟩ = some (.slice none 0 0) := (blk_cell EX.out 6).trans rfl
   have EY := Lib.hid (blk_alloc (blk_put EX.out 6 (.slice (some ⟨W3.heap.size, 0, none⟩) 1 1) rfl) (.cells #[.string (⟨#[42]⟩ : ByteArray), .int .i64 modes] 85))
   have EG := Lib.hid (show ((W3.setCell ⟨gd, 6, none⟩ (.slice (some ⟨W3.heap.size, 0, none⟩) 1 1)).alloc (.cells #[.string (⟨#[42]⟩ : ByteArray), .int .i64 modes] 85)).heap[W3.heap.size]? = some (.cells #[.string (⟨#[42]⟩ : ByteArray), .int .i64 modes] 85) from by have h := blk_new (W3.setCell ⟨gd, 6, none⟩ (.slice (some ⟨W3.heap.size, 0, none⟩) 1 1)) (.cells #[.string (⟨#[42]⟩ : ByteArray), .int .i64 modes] 85); rw [World.size_setCell] at h; exact h)
   have hrd := rd50_blk EY.out rfl
   have HB6 := Lib.hid (below_alloc (below_put HB5.out (v := .slice (some ⟨W3.heap.size, 0, none⟩) 1 1) (j := 6) (g := gd) (by have h1 := HB4.out.size; omega)) (.cells #[.string (⟨#[42]⟩ : ByteArray), .int .i64 modes] 85))
   have HC4 := Lib.hid (Kd.C_below HC2.out (below_alloc (below_put hb3' (v := .slice (some ⟨W3.heap.size, 0, none⟩) 1 1) (j := 6) (g := gd) hg3) (.cells #[.string (⟨#[42]⟩ : ByteArray), .int .i64 modes] 85)))
   have HDW := Lib.hid (Kd.C_below HD.out HB6.out)
   go_wp2_with (go_at_call 24; refine (putC (putN (firstT [botS]) (⟨(⟨#[47, 112]⟩ : ByteArray), false, botS, allG, ⟨4, 4, 4, 0⟩, ws, ⟨0, 0, 0, 0⟩⟩ : S50)) (⟨(⟨#[47, 100]⟩ : ByteArray), false, botS, [⟨⟨#[42]⟩, modes⟩], ⟨4, 4, 4, 0⟩, ds, ⟨0, 0, 0, 0⟩⟩ : S50) _ A2 c2 _ HC4.out hc2 (Nat.le_trans (put_len _ _) (by decide)) (k50_mk _ (⟨(⟨#[47, 100]⟩ : ByteArray), false, botS, [⟨⟨#[42]⟩, modes⟩], ⟨4, 4, 4, 0⟩, ds, ⟨0, 0, 0, 0⟩⟩ : S50) (A6 := some ⟨W3.heap.size, 0, none⟩) (c6 := 1) (Nat.le_refl _) (grantC EG.out) (A11 := Ad) (c11 := dc) hdc HDW.out)).mono ?_; rintro e W5 ⟨A5, c5, rfl, hc5, hC5, hb⟩; have HB7 := Lib.hid (below_step HB6.out hb); clear hb)
   go_ret
   exact ⟨A5, c5, _, rfl, by rw [HWS.out], hc5, hC5, HB7.out⟩
set_option maxHeartbeats 16000000 in
set_option maxRecDepth 1000000 in
theorem simple_z (ni : Nat) (ad : Addr) (ic : Nat) (op p n_ en er : Nat → Int) (ds : List Int) (Ad : Option Addr) (dc : Nat) (modes : Int) (w : World) (hz : modes = 0) (hni : ni ≤ 16) (hnc : ni ≤ ic) (hdl : ds.length ≤ 16) (hdc : ds.length ≤ dc)
  (hI : ∀ i, i < ni → ∀ w1 : World, Below w.heap.size w w1 → (rdS 77 (.pointer (some (ad.add (i * 3))))).run Tryz.prog w1 = .ok (.agg #[.int .i64 (op i), .int .i64 (p i), .int .i64 (n_ i)]) w1)
  (hE : ∀ i, i < ni → PProcLimits.donjonref15_Encode.f 100 (op i) (p i) (n_ i) = some (en i, er i))
  (hD : Kd.C (Kd.int .i64) w Ad ds.length ds) :
  Calls Tryz.prog 21 #[.slice (some ad) ni ic, .slice Ad ds.length dc, .int .i64 modes] w fun e w' => ∃ A' c' t, e = .returned (.slice A' (List.length t) c') ∧ t = (putN (putN (firstT [botS]) (⟨(⟨#[47, 112]⟩ : ByteArray), false, botS, allG, ⟨4, 4, 4, 0⟩, ((List.range ni).map en), ⟨0, 0, 0, 0⟩⟩ : S50)) (⟨(⟨#[47, 100]⟩ : ByteArray), false, botS, [], ⟨4, 4, 4, 0⟩, ds, ⟨0, 0, 0, 0⟩⟩ : S50)) ∧ t.length ≤ c' ∧ Kd.C k50 w' A' t.length t ∧ Below w.heap.size w w' := by
 have HI := Lib.hid hI
 have HEN := Lib.hid hE
 have HD := Lib.hid hD
 clear hI hE hD
 go_enter Tryz.func21, Tryz.ntmps21
 go_wp2_with (first
  | (go_at_call 26; refine (first_bot w1.heap.size _ (blk_new w1 (.cells #[.int .i64 0, .int .i64 0, .int .i64 3, .int .i64 255] 30))).mono ?_; rintro e w2 ⟨A1, c1, rfl, hc1, hC, hb⟩; have HC1 := Lib.hid hC; have HB1 := Lib.hid (below_step (below_alloc HB0.out (.cells #[.int .i64 0, .int .i64 0, .int .i64 3, .int .i64 255] 30)) hb); clear hb hC)
  | (go_at_call 22; refine (donjonref4_Bottom.calls 0 0 3 255 _ rfl).mono ?_; rintro e w1 ⟨rfl, hb⟩; have HB0 := Lib.hid hb; clear hb))
 have HBV := HB1
 have HCV := HC1
 obtain ⟨V, hV⟩ : ∃ V, V = w2 := ⟨_, rfl⟩
 subst hV
 go_loopg [8, 9] ni (fun kk s8 s9 wr => ∃ i : Nat, i ≤ ni ∧ ni - i ≤ kk ∧ s9 = .int .i64 (i : Int) ∧ Hid (OwnRow (fun (x : Int) l => l = [.int .i64 x]) 2 1 wr V.heap.size s8 ((List.range i).map en)) ∧ Hid (Below V.heap.size V wr))
 case atStart => exact ⟨0, Nat.zero_le _, Nat.le_refl _, rfl, Lib.hid (OwnRow.none_ _ _ _ _ _), Lib.hid (Below.refl _ _)⟩
 case round =>
  obtain ⟨i, hi, hik, rfl, HO, HB⟩ := hrel
  obtain ⟨Aw, wc, rfl, hwc, _⟩ := OwnRow.reads HO.out
  by_cases hlt : i < ni
  ·have hlt2 : (i : Int) < (ni : Int) := by omega
   have hi0 : (0 : Int) ≤ (i : Int) := by omega
   have hrd := HI.out i hlt wr (below_step HBV.out HB.out)
   have hen := HEN.out i hlt
   generalize hxs : (List.range i).map en = xs at HO hwc ⊢
   have hxl : xs.length ≤ 16 := by rw [← hxs]; simp; omega
   have HXS := Lib.hid hxs
   clear hxs
   generalize op i = oi at hrd hen
   generalize p i = pi at hrd hen
   generalize n_ i = ni_ at hrd hen
   have HE2 := Lib.hid hen
   clear hen
   go_wp2_with (first
    | (at_builtin; have hgate := HO1.out; clear hgate; refine OwnRow.append V.heap.size rfl _ _ 34 2 (.int .i64 0) 1 8 rfl Tryz.underlying34 inf2 rfl (by decide) (by decide) (.slice Aw xs.length wc) xs (en i) [.int .i64 (en i)] rfl (by first | rfl | (rw [World.size_alloc]; rfl)) rfl rfl (by simp [Value.oneCell']) HO1.out HB1.out (below_size HB1.out) (by omega) ?_; intro v1 w3 hO hB hg hat; have HO2 := Lib.hid hO; have HB2 := Lib.hid hB; clear hO hB hg hat)
    | (go_at_call 38; refine (PProcLimits.donjonref15_Encode.calls 100 oi pi ni_ (en i) (er i) _ HE2.out).mono ?_; rintro e w2 ⟨rfl, hb⟩; have HO1 := Lib.hid (OwnRow.below HO.out hb); have HB1 := Lib.hid (below_step HB.out hb); clear hb))
   go_roundg (ni - (i + 1))
   case measure => omega
   case rel => exact ⟨i + 1, hlt, Nat.le_refl _, by go_num, Lib.hid (by rw [List.range_succ, List.map_append, HXS.out]; exact HO2.out), HB2⟩
  ·have hii : i = ni := by omega
   subst hii
   obtain ⟨Ax, cx, hvx, hcx, hoC⟩ := ownI_C rfl HO.out
   injection hvx with hA _ hcc
   subst hA hcc
   have HOC := Lib.hid hoC
   generalize hws : (List.range i).map en = ws at HOC hwc hcx
   have hwl : ws.length ≤ 16 := by rw [← hws]; simp; omega
   have HWS := Lib.hid hws
   have HCW := Lib.hid (Kd.C_below HCV.out HB.out)
   clear hws
   go_wp2
   have HB3 := Lib.hid (below_step (below_step HBV.out HB.out) (below_alloc (Below.refl _ _) (.cells #[.int .i64 4, .int .i64 4, .int .i64 4, .int .i64 0] 33)))
   have E3 := Lib.hid (blk_new wr (.cells #[.int .i64 4, .int .i64 4, .int .i64 4, .int .i64 0] 33))
   have HCW := Lib.hid (Kd.C_below HCW.out (below_alloc (Below.refl _ _) (.cells #[.int .i64 4, .int .i64 4, .int .i64 4, .int .i64 0] 33)))
   have HOC := Lib.hid (Kd.C_below HOC.out (below_alloc (Below.refl _ _) (.cells #[.int .i64 4, .int .i64 4, .int .i64 4, .int .i64 0] 33)))
   obtain ⟨V2, hV2⟩ : ∃ V2, V2 = wr.alloc (.cells #[.int .i64 4, .int .i64 4, .int .i64 4, .int .i64 0] 33) := ⟨_, rfl⟩
   rw [← hV2] at HB3 E3 HCW HOC ⊢
   clear hV2
   refine sm9 wr.heap.size (firstT [botS]).length c1 (putN (firstT [botS]) (⟨(⟨#[47, 112]⟩ : ByteArray), false, botS, allG, ⟨4, 4, 4, 0⟩, ws, ⟨0, 0, 0, 0⟩⟩ : S50)).length ws.length wc A1 Aw (putN (firstT [botS]) (⟨(⟨#[47, 112]⟩ : ByteArray), false, botS, allG, ⟨4, 4, 4, 0⟩, ws, ⟨0, 0, 0, 0⟩⟩ : S50)) _ _ _ _ _ _ _ _ _ _ _ _ _ _ _ _ _ _ _ _ _ _ _ _ _ _ _ _ _ _ _ _ _ _ _ _ _ _ _ _ _ _ _ _ _ _ _ _ _ _ _ _ _ _ _ V2 _ E3.out (fun ga w1 hb hga => putC (firstT [botS]) (⟨(⟨#[47, 112]⟩ : ByteArray), false, botS, allG, ⟨4, 4, 4, 0⟩, ws, ⟨0, 0, 0, 0⟩⟩ : S50) _ A1 c1 w1 (Kd.C_below HCW.out hb) hc1 (by decide) (k50_mk w1 (⟨(⟨#[47, 112]⟩ : ByteArray), false, botS, allG, ⟨4, 4, 4, 0⟩, ws, ⟨0, 0, 0, 0⟩⟩ : S50) (A6 := some ⟨ga, 0, none⟩) (c6 := 1) (Nat.le_refl _) (grantC hga) (A11 := Aw) (c11 := wc) hwc (Kd.C_below HOC.out hb))) ?_
   intro W2 A2 c2 a37 a38 a39 a40 a41 a42 a43 a44 hc2 hC2 hb2
   have HC2 := Lib.hid hC2
   have HB4 := Lib.hid (below_step HB3.out hb2)
   have E4 := Lib.hid (blk_below E3.out hb2)
   clear hC2 hb2
   go_wp2
   refine sm10 wr.heap.size ds.length dc Ad _ _ _ _ _ _ _ _ _ _ _ _ _ _ _ _ _ _ _ _ _ _ _ _ _ _ _ _ _ _ _ _ _ _ _ _ _ _ _ _ _ _ _ _ _ _ _ _ _ _ _ _ _ _ _ _ W2 _ E4.out ?_
   intro W3 gd b45 b46 b47 b48 hX hg3 hb3
   have EX := Lib.hid hX
   have HB5 := Lib.hid (below_step HB4.out hb3)
   have HC3 := Lib.hid (Kd.C_below HC2.out hb3)
   have hlX := blk_lt hX
   have hb3' := hb3
   clear hX hb3
   have hrd := rd50_blk EX.out rfl
   have HDW := Lib.hid (Kd.C_below HD.out HB5.out)
   subst hz
   go_wp2_with (go_at_call 24; refine (putC (putN (firstT [botS]) (⟨(⟨#[47, 112]⟩ : ByteArray), false, botS, allG, ⟨4, 4, 4, 0⟩, ws, ⟨0, 0, 0, 0⟩⟩ : S50)) (⟨(⟨#[47, 100]⟩ : ByteArray), false, botS, [], ⟨4, 4, 4, 0⟩, ds, ⟨0, 0, 0, 0⟩⟩ : S50) _ A2 c2 _ HC3.out hc2 (Nat.le_trans (put_len _ _) (by decide)) (k50_mk _ (⟨(⟨#[47, 100]⟩ : ByteArray), false, botS, [], ⟨4, 4, 4, 0⟩, ds, ⟨0, 0, 0, 0⟩⟩ : S50) (A6 := none) (c6 := 0) (Nat.le_refl _) (C_nil _ _ _) (A11 := Ad) (c11 := dc) hdc HDW.out)).mono ?_; rintro e W5 ⟨A5, c5, rfl, hc5, hC5, hb⟩; have HB7 := Lib.hid (below_step HB5.out hb); clear hb)
   go_ret
   exact ⟨A5, c5, _, rfl, by rw [HWS.out], hc5, hC5, HB7.out⟩
end Go.Proofs.YteilkbookcmndaaGreatDoor.C
end
