/- Texts that the claim's law stands on, cut down to what it reaches. -/
import Derived.Test.YtmndeoncbocplaaDoorJT2
import Derived.Deep.RegionHeldLaw
import Derived.Deep.RegionHeld3
import Derived.Deep.LoopGhost
import Derived.Test.YtmndeoncbocplaaDoorJP
import Derived.Test.YtmndeoncbocplaaDoorJX
import Derived.Test.YtmndeoncbocplaaDoorJK
import Derived.Test.YtmndeoncbocplaaDoorJS
set_option linter.unusedVariables false
set_option linter.unusedSimpArgs false
section
set_option linter.unusedVariables false
set_option linter.unusedSimpArgs false
namespace Go.Proofs.YtmndeoncbocplaaDoor.C
open Go.RowKit Go.Proofs.YtmndeoncbocplaaDoor.Q Go.Proofs.YtmndeoncbocplaaDoorW.PrintWords Go.Proofs.YtmndeoncbocplaaDoorW.PrintLast Go.Proofs.YtmndeoncbocplaaDoorW.PrintMore
attribute [local go_sem ↓] rd_at50 wr_at50 al_at50
attribute [local go_sem] rd50_new wr50_new al50
attribute [local go_sem high] eqA41
set_option maxHeartbeats 8000000 in
set_option maxRecDepth 1000000 in
theorem rh79 (y0 y6 y7 y8 y9 y10 y11 y12 y13 y14 y15 : Value) (ad : Addr) (n c i g : Nat) (dir : Bool) (a d : S41) (ov rb : Bool) (u1 u2 u4 u6 u7 u8 u9 u10 u11 u12 u13 u14 u15 u16 u17 u18 u19 u20 u21 u22 u23 u24 u25 u26 u27 u28 u29 u30 u31 u32 u33 u34 u35 u36 u37 u38 u39 u40 u41 u42 u43 u44 u45 u46 u47 u48 u49 : Value) (W : World) (Q : Exit → Act → World → Prop)
    (hi : i < n) (h1 : W.heap[g]? = some (.cells #[y0, .bool dir, .int .i64 a.f0, .int .i64 a.f1, .int .i64 a.f2, .int .i64 a.f3, y6, y7, y8, y9, y10, y11, y12, y13, y14, y15] 50 (0, 0)))
    (he0 : W.cell? ⟨(ad.add (i * 16)).block, (ad.add (i * 16)).off + 2, none⟩ = some (.int .i64 d.f0)) (he1 : W.cell? ⟨(ad.add (i * 16)).block, (ad.add (i * 16)).off + 3, none⟩ = some (.int .i64 d.f1)) (he2 : W.cell? ⟨(ad.add (i * 16)).block, (ad.add (i * 16)).off + 4, none⟩ = some (.int .i64 d.f2)) (he3 : W.cell? ⟨(ad.add (i * 16)).block, (ad.add (i * 16)).off + 5, none⟩ = some (.int .i64 d.f3))
    (hov : lover a d = ov) (hrb : (!ov || (!dir && !(a.f0 == d.f0 && (a.f1 == d.f1 && (a.f2 == d.f2 && (a.f3 == d.f3)))))) = rb)
    (hpost : ∀ (w' : World) (t26 t27 t28 t29 t30 t31 t32 t33 t34 t35 t36 t37 t38 t39 t40 t41 t42 t43 t44 t45 t46 t47 t48 t49 : Value), Below W.heap.size W w' → Q .normal ⟨#[.slice (some ad) n c, u1, u2, .pointer (some ⟨g, 0, none⟩), u4, .int .i64 (i : Int), u6, u7, u8, u9, u10, u11, u12, u13, u14, u15, u16, u17, u18, u19, u20, u21, u22, u23, u24, .bool rb, t26, t27, t28, t29, t30, t31, t32, t33, t34, t35, t36, t37, t38, t39, t40, t41, t42, t43, t44, t45, t46, t47, t48, t49], []⟩ w') :
    Code.wp Tryd.prog (cReg Tryd.f79 6) Q ⟨#[.slice (some ad) n c, u1, u2, .pointer (some ⟨g, 0, none⟩), u4, .int .i64 (i : Int), u6, u7, u8, u9, u10, u11, u12, u13, u14, u15, u16, u17, u18, u19, u20, u21, u22, u23, u24, u25, u26, u27, u28, u29, u30, u31, u32, u33, u34, u35, u36, u37, u38, u39, u40, u41, u42, u43, u44, u45, u46, u47, u48, u49], []⟩ W := by
  have EG := Lib.hid h1
  have E0 := Lib.hid he0
  have E1 := Lib.hid he1
  have E2 := Lib.hid he2
  have E3 := Lib.hid he3
  have HPO := Lib.hid hpost
  clear h1 he0 he1 he2 he3 hpost
  cases ov with
  | false =>
    obtain rfl : rb = true := by rw [← hrb]; rfl
    clear hrb
    have HB := Lib.hid (below_drew1 (Below.refl W.heap.size W))
    have k1 := (blk_cell (blk_below EG.out (Below.refl W.heap.size W)) 1).trans rfl
    have k2 := (blk_cell (blk_below EG.out (Below.refl W.heap.size W)) 2).trans rfl
    have k3 := (blk_cell (blk_below EG.out (Below.refl W.heap.size W)) 3).trans rfl
    have k4 := (blk_cell (blk_below EG.out (Below.refl W.heap.size W)) 4).trans rfl
    have k5 := (blk_cell (blk_below EG.out (Below.refl W.heap.size W)) 5).trans rfl
    have e0 := pw_cell_below (Below.refl W.heap.size W) E0.out
    have e1 := pw_cell_below (Below.refl W.heap.size W) E1.out
    have e2 := pw_cell_below (Below.refl W.heap.size W) E2.out
    have e3 := pw_cell_below (Below.refl W.heap.size W) E3.out
    conv => arg 2; whnf
    refine wp_region_noPanic ?_
    refine wp_region_held_drew (S := fun W1 => W1.cell? ⟨g, 1, none⟩ = some (.bool dir) ∧ W1.cell? ⟨g, 2, none⟩ = some (.int .i64 a.f0) ∧ W1.cell? ⟨g, 3, none⟩ = some (.int .i64 a.f1) ∧ W1.cell? ⟨g, 4, none⟩ = some (.int .i64 a.f2) ∧ W1.cell? ⟨g, 5, none⟩ = some (.int .i64 a.f3) ∧ W1.cell? ⟨(ad.add (i * 16)).block, (ad.add (i * 16)).off + 2, none⟩ = some (.int .i64 d.f0) ∧ W1.cell? ⟨(ad.add (i * 16)).block, (ad.add (i * 16)).off + 3, none⟩ = some (.int .i64 d.f1) ∧ W1.cell? ⟨(ad.add (i * 16)).block, (ad.add (i * 16)).off + 4, none⟩ = some (.int .i64 d.f2) ∧ W1.cell? ⟨(ad.add (i * 16)).block, (ad.add (i * 16)).off + 5, none⟩ = some (.int .i64 d.f3)) (by kernel_rfl) ?_ (fun hHeld => ?_)
    focus ((try dsimp only); go_keep)
    first
      | (refine take_at 0 26 (v := ?_) rfl rfl (by kernel_rfl) (by kernel_rfl) (by kernel_rfl) (fun _ _ _ h => h) (Or.inl ⟨by rfl, ?_⟩) (by assumption) ?_; rotate_left; focus (intro w hSw; (try dsimp only at hSw); go_simp; try with_reducible rfl))
      | (refine take_at 0 26 (v := undef) rfl rfl (by kernel_rfl) (by kernel_rfl) (by kernel_rfl) (fun _ _ _ h => h) (Or.inr ⟨by rfl, rfl⟩) (by assumption) ?_)
    try simp only [Act.put, List.setIfInBounds_toArray, List.set_cons_zero, List.set_cons_succ]
    first
      | (refine take_at 1 27 (v := ?_) rfl rfl (by kernel_rfl) (by kernel_rfl) (by kernel_rfl) (fun _ _ _ h => h) (Or.inl ⟨by rfl, ?_⟩) (by assumption) ?_; rotate_left; focus (intro w hSw; (try dsimp only at hSw); go_simp; try with_reducible rfl))
      | (refine take_at 1 27 (v := undef) rfl rfl (by kernel_rfl) (by kernel_rfl) (by kernel_rfl) (fun _ _ _ h => h) (Or.inr ⟨by rfl, rfl⟩) (by assumption) ?_)
    try simp only [Act.put, List.setIfInBounds_toArray, List.set_cons_zero, List.set_cons_succ]
    first
      | (refine take_at 2 28 (v := ?_) rfl rfl (by kernel_rfl) (by kernel_rfl) (by kernel_rfl) (fun _ _ _ h => h) (Or.inl ⟨by rfl, ?_⟩) (by assumption) ?_; rotate_left; focus (intro w hSw; (try dsimp only at hSw); go_simp; try with_reducible rfl))
      | (refine take_at 2 28 (v := undef) rfl rfl (by kernel_rfl) (by kernel_rfl) (by kernel_rfl) (fun _ _ _ h => h) (Or.inr ⟨by rfl, rfl⟩) (by assumption) ?_)
    try simp only [Act.put, List.setIfInBounds_toArray, List.set_cons_zero, List.set_cons_succ]
    first
      | (refine take_at 3 29 (v := ?_) rfl rfl (by kernel_rfl) (by kernel_rfl) (by kernel_rfl) (fun _ _ _ h => h) (Or.inl ⟨by rfl, ?_⟩) (by assumption) ?_; rotate_left; focus (intro w hSw; (try dsimp only at hSw); go_simp; try with_reducible rfl))
      | (refine take_at 3 29 (v := undef) rfl rfl (by kernel_rfl) (by kernel_rfl) (by kernel_rfl) (fun _ _ _ h => h) (Or.inr ⟨by rfl, rfl⟩) (by assumption) ?_)
    try simp only [Act.put, List.setIfInBounds_toArray, List.set_cons_zero, List.set_cons_succ]
    first
      | (refine take_at 4 30 (v := ?_) rfl rfl (by kernel_rfl) (by kernel_rfl) (by kernel_rfl) (fun _ _ _ h => h) (Or.inl ⟨by rfl, ?_⟩) (by assumption) ?_; rotate_left; focus (intro w hSw; (try dsimp only at hSw); go_simp; try with_reducible rfl))
      | (refine take_at 4 30 (v := undef) rfl rfl (by kernel_rfl) (by kernel_rfl) (by kernel_rfl) (fun _ _ _ h => h) (Or.inr ⟨by rfl, rfl⟩) (by assumption) ?_)
    try simp only [Act.put, List.setIfInBounds_toArray, List.set_cons_zero, List.set_cons_succ]
    first
      | (refine take_at 5 31 (v := ?_) rfl rfl (by kernel_rfl) (by kernel_rfl) (by kernel_rfl) (fun _ _ _ h => h) (Or.inl ⟨by rfl, ?_⟩) (by assumption) ?_; rotate_left; focus (intro w hSw; (try dsimp only at hSw); go_simp; try with_reducible rfl))
      | (refine take_at 5 31 (v := undef) rfl rfl (by kernel_rfl) (by kernel_rfl) (by kernel_rfl) (fun _ _ _ h => h) (Or.inr ⟨by rfl, rfl⟩) (by assumption) ?_)
    try simp only [Act.put, List.setIfInBounds_toArray, List.set_cons_zero, List.set_cons_succ]
    first
      | (refine take_at 6 32 (v := ?_) rfl rfl (by kernel_rfl) (by kernel_rfl) (by kernel_rfl) (fun _ _ _ h => h) (Or.inl ⟨by rfl, ?_⟩) (by assumption) ?_; rotate_left; focus (intro w hSw; (try dsimp only at hSw); go_simp; try with_reducible rfl))
      | (refine take_at 6 32 (v := undef) rfl rfl (by kernel_rfl) (by kernel_rfl) (by kernel_rfl) (fun _ _ _ h => h) (Or.inr ⟨by rfl, rfl⟩) (by assumption) ?_)
    try simp only [Act.put, List.setIfInBounds_toArray, List.set_cons_zero, List.set_cons_succ]
    refine wpAnyH_ready (rs := [7]) (by kernel_rfl) (by simp) ?_
    refine AllReadyH.cons rfl (fun K hK => ?_) AllReadyH.nil
    go_simp
    go_wp2_with ((go_at_call 72; (refine (lover_calls a d _).mono ?_; rintro e w5 ⟨rfl, hb⟩; rw [hov]; have HB := Lib.hid (below_step HB.out hb); have k1 := (blk_cell (blk_below EG.out HB.out) 1).trans rfl; have k2 := (blk_cell (blk_below EG.out HB.out) 2).trans rfl; have k3 := (blk_cell (blk_below EG.out HB.out) 3).trans rfl; have k4 := (blk_cell (blk_below EG.out HB.out) 4).trans rfl; have k5 := (blk_cell (blk_below EG.out HB.out) 5).trans rfl; have e0 := pw_cell_below HB.out E0.out; have e1 := pw_cell_below HB.out E1.out; have e2 := pw_cell_below HB.out E2.out; have e3 := pw_cell_below HB.out E3.out; clear hb)))
    refine hK.out _ _ ?_ (fun hHeld => ?_)
    focus ((try dsimp only); go_keep)
    clear hK K
    first
      | (refine take_at 8 34 (v := ?_) rfl rfl (by kernel_rfl) (by kernel_rfl) (by kernel_rfl) (fun _ _ _ h => h) (Or.inl ⟨by rfl, ?_⟩) (by assumption) ?_; rotate_left; focus (intro w hSw; (try dsimp only at hSw); go_simp; try with_reducible rfl))
      | (refine take_at 8 34 (v := undef) rfl rfl (by kernel_rfl) (by kernel_rfl) (by kernel_rfl) (fun _ _ _ h => h) (Or.inr ⟨by rfl, rfl⟩) (by assumption) ?_)
    try simp only [Act.put, List.setIfInBounds_toArray, List.set_cons_zero, List.set_cons_succ]
    first
      | (refine take_at 9 35 (v := ?_) rfl rfl (by kernel_rfl) (by kernel_rfl) (by kernel_rfl) (fun _ _ _ h => h) (Or.inl ⟨by rfl, ?_⟩) (by assumption) ?_; rotate_left; focus (intro w hSw; (try dsimp only at hSw); go_simp; try with_reducible rfl))
      | (refine take_at 9 35 (v := undef) rfl rfl (by kernel_rfl) (by kernel_rfl) (by kernel_rfl) (fun _ _ _ h => h) (Or.inr ⟨by rfl, rfl⟩) (by assumption) ?_)
    try simp only [Act.put, List.setIfInBounds_toArray, List.set_cons_zero, List.set_cons_succ]
    first
      | (refine take_at 10 36 (v := ?_) rfl rfl (by kernel_rfl) (by kernel_rfl) (by kernel_rfl) (fun _ _ _ h => h) (Or.inl ⟨by rfl, ?_⟩) (by assumption) ?_; rotate_left; focus (intro w hSw; (try dsimp only at hSw); go_simp; try with_reducible rfl))
      | (refine take_at 10 36 (v := undef) rfl rfl (by kernel_rfl) (by kernel_rfl) (by kernel_rfl) (fun _ _ _ h => h) (Or.inr ⟨by rfl, rfl⟩) (by assumption) ?_)
    try simp only [Act.put, List.setIfInBounds_toArray, List.set_cons_zero, List.set_cons_succ]
    first
      | (refine take_at 11 37 (v := ?_) rfl rfl (by kernel_rfl) (by kernel_rfl) (by kernel_rfl) (fun _ _ _ h => h) (Or.inl ⟨by rfl, ?_⟩) (by assumption) ?_; rotate_left; focus (intro w hSw; (try dsimp only at hSw); go_simp; try with_reducible rfl))
      | (refine take_at 11 37 (v := undef) rfl rfl (by kernel_rfl) (by kernel_rfl) (by kernel_rfl) (fun _ _ _ h => h) (Or.inr ⟨by rfl, rfl⟩) (by assumption) ?_)
    try simp only [Act.put, List.setIfInBounds_toArray, List.set_cons_zero, List.set_cons_succ]
    first
      | (refine take_at 12 38 (v := ?_) rfl rfl (by kernel_rfl) (by kernel_rfl) (by kernel_rfl) (fun _ _ _ h => h) (Or.inl ⟨by rfl, ?_⟩) (by assumption) ?_; rotate_left; focus (intro w hSw; (try dsimp only at hSw); go_simp; try with_reducible rfl))
      | (refine take_at 12 38 (v := undef) rfl rfl (by kernel_rfl) (by kernel_rfl) (by kernel_rfl) (fun _ _ _ h => h) (Or.inr ⟨by rfl, rfl⟩) (by assumption) ?_)
    try simp only [Act.put, List.setIfInBounds_toArray, List.set_cons_zero, List.set_cons_succ]
    first
      | (refine take_at 13 39 (v := ?_) rfl rfl (by kernel_rfl) (by kernel_rfl) (by kernel_rfl) (fun _ _ _ h => h) (Or.inl ⟨by rfl, ?_⟩) (by assumption) ?_; rotate_left; focus (intro w hSw; (try dsimp only at hSw); go_simp; try with_reducible rfl))
      | (refine take_at 13 39 (v := undef) rfl rfl (by kernel_rfl) (by kernel_rfl) (by kernel_rfl) (fun _ _ _ h => h) (Or.inr ⟨by rfl, rfl⟩) (by assumption) ?_)
    try simp only [Act.put, List.setIfInBounds_toArray, List.set_cons_zero, List.set_cons_succ]
    first
      | (refine take_at 14 40 (v := ?_) rfl rfl (by kernel_rfl) (by kernel_rfl) (by kernel_rfl) (fun _ _ _ h => h) (Or.inl ⟨by rfl, ?_⟩) (by assumption) ?_; rotate_left; focus (intro w hSw; (try dsimp only at hSw); go_simp; try with_reducible rfl))
      | (refine take_at 14 40 (v := undef) rfl rfl (by kernel_rfl) (by kernel_rfl) (by kernel_rfl) (fun _ _ _ h => h) (Or.inr ⟨by rfl, rfl⟩) (by assumption) ?_)
    try simp only [Act.put, List.setIfInBounds_toArray, List.set_cons_zero, List.set_cons_succ]
    first
      | (refine take_at 15 41 (v := ?_) rfl rfl (by kernel_rfl) (by kernel_rfl) (by kernel_rfl) (fun _ _ _ h => h) (Or.inl ⟨by rfl, ?_⟩) (by assumption) ?_; rotate_left; focus (intro w hSw; (try dsimp only at hSw); go_simp; try with_reducible rfl))
      | (refine take_at 15 41 (v := undef) rfl rfl (by kernel_rfl) (by kernel_rfl) (by kernel_rfl) (fun _ _ _ h => h) (Or.inr ⟨by rfl, rfl⟩) (by assumption) ?_)
    try simp only [Act.put, List.setIfInBounds_toArray, List.set_cons_zero, List.set_cons_succ]
    first
      | (refine take_at 16 42 (v := ?_) rfl rfl (by kernel_rfl) (by kernel_rfl) (by kernel_rfl) (fun _ _ _ h => h) (Or.inl ⟨by rfl, ?_⟩) (by assumption) ?_; rotate_left; focus (intro w hSw; (try dsimp only at hSw); go_simp; try with_reducible rfl))
      | (refine take_at 16 42 (v := undef) rfl rfl (by kernel_rfl) (by kernel_rfl) (by kernel_rfl) (fun _ _ _ h => h) (Or.inr ⟨by rfl, rfl⟩) (by assumption) ?_)
    try simp only [Act.put, List.setIfInBounds_toArray, List.set_cons_zero, List.set_cons_succ]
    first
      | (refine take_at 17 43 (v := ?_) rfl rfl (by kernel_rfl) (by kernel_rfl) (by kernel_rfl) (fun _ _ _ h => h) (Or.inl ⟨by rfl, ?_⟩) (by assumption) ?_; rotate_left; focus (intro w hSw; (try dsimp only at hSw); go_simp; try with_reducible rfl))
      | (refine take_at 17 43 (v := undef) rfl rfl (by kernel_rfl) (by kernel_rfl) (by kernel_rfl) (fun _ _ _ h => h) (Or.inr ⟨by rfl, rfl⟩) (by assumption) ?_)
    try simp only [Act.put, List.setIfInBounds_toArray, List.set_cons_zero, List.set_cons_succ]
    first
      | (refine take_at 18 44 (v := ?_) rfl rfl (by kernel_rfl) (by kernel_rfl) (by kernel_rfl) (fun _ _ _ h => h) (Or.inl ⟨by rfl, ?_⟩) (by assumption) ?_; rotate_left; focus (intro w hSw; (try dsimp only at hSw); go_simp; try with_reducible rfl))
      | (refine take_at 18 44 (v := undef) rfl rfl (by kernel_rfl) (by kernel_rfl) (by kernel_rfl) (fun _ _ _ h => h) (Or.inr ⟨by rfl, rfl⟩) (by assumption) ?_)
    try simp only [Act.put, List.setIfInBounds_toArray, List.set_cons_zero, List.set_cons_succ]
    first
      | (refine take_at 19 45 (v := ?_) rfl rfl (by kernel_rfl) (by kernel_rfl) (by kernel_rfl) (fun _ _ _ h => h) (Or.inl ⟨by rfl, ?_⟩) (by assumption) ?_; rotate_left; focus (intro w hSw; (try dsimp only at hSw); go_simp; try with_reducible rfl))
      | (refine take_at 19 45 (v := undef) rfl rfl (by kernel_rfl) (by kernel_rfl) (by kernel_rfl) (fun _ _ _ h => h) (Or.inr ⟨by rfl, rfl⟩) (by assumption) ?_)
    try simp only [Act.put, List.setIfInBounds_toArray, List.set_cons_zero, List.set_cons_succ]
    first
      | (refine take_at 20 46 (v := ?_) rfl rfl (by kernel_rfl) (by kernel_rfl) (by kernel_rfl) (fun _ _ _ h => h) (Or.inl ⟨by rfl, ?_⟩) (by assumption) ?_; rotate_left; focus (intro w hSw; (try dsimp only at hSw); go_simp; try with_reducible rfl))
      | (refine take_at 20 46 (v := undef) rfl rfl (by kernel_rfl) (by kernel_rfl) (by kernel_rfl) (fun _ _ _ h => h) (Or.inr ⟨by rfl, rfl⟩) (by assumption) ?_)
    try simp only [Act.put, List.setIfInBounds_toArray, List.set_cons_zero, List.set_cons_succ]
    first
      | (refine take_at 21 47 (v := ?_) rfl rfl (by kernel_rfl) (by kernel_rfl) (by kernel_rfl) (fun _ _ _ h => h) (Or.inl ⟨by rfl, ?_⟩) (by assumption) ?_; rotate_left; focus (intro w hSw; (try dsimp only at hSw); go_simp; try with_reducible rfl))
      | (refine take_at 21 47 (v := undef) rfl rfl (by kernel_rfl) (by kernel_rfl) (by kernel_rfl) (fun _ _ _ h => h) (Or.inr ⟨by rfl, rfl⟩) (by assumption) ?_)
    try simp only [Act.put, List.setIfInBounds_toArray, List.set_cons_zero, List.set_cons_succ]
    first
      | (refine take_at 22 48 (v := ?_) rfl rfl (by kernel_rfl) (by kernel_rfl) (by kernel_rfl) (fun _ _ _ h => h) (Or.inl ⟨by rfl, ?_⟩) (by assumption) ?_; rotate_left; focus (intro w hSw; (try dsimp only at hSw); go_simp; try with_reducible rfl))
      | (refine take_at 22 48 (v := undef) rfl rfl (by kernel_rfl) (by kernel_rfl) (by kernel_rfl) (fun _ _ _ h => h) (Or.inr ⟨by rfl, rfl⟩) (by assumption) ?_)
    try simp only [Act.put, List.setIfInBounds_toArray, List.set_cons_zero, List.set_cons_succ]
    first
      | (refine take_at 23 49 (v := ?_) rfl rfl (by kernel_rfl) (by kernel_rfl) (by kernel_rfl) (fun _ _ _ h => h) (Or.inl ⟨by rfl, ?_⟩) (by assumption) ?_; rotate_left; focus (intro w hSw; (try dsimp only at hSw); go_simp; try with_reducible rfl))
      | (refine take_at 23 49 (v := undef) rfl rfl (by kernel_rfl) (by kernel_rfl) (by kernel_rfl) (fun _ _ _ h => h) (Or.inr ⟨by rfl, rfl⟩) (by assumption) ?_)
    try simp only [Act.put, List.setIfInBounds_toArray, List.set_cons_zero, List.set_cons_succ]
    first
      | (refine take_at 24 25 (v := ?_) rfl rfl (by kernel_rfl) (by kernel_rfl) (by kernel_rfl) (fun _ _ _ h => h) (Or.inl ⟨by rfl, ?_⟩) (by assumption) ?_; rotate_left; focus (intro w hSw; (try dsimp only at hSw); go_simp; try with_reducible rfl))
      | (refine take_at 24 25 (v := undef) rfl rfl (by kernel_rfl) (by kernel_rfl) (by kernel_rfl) (fun _ _ _ h => h) (Or.inr ⟨by rfl, rfl⟩) (by assumption) ?_)
    try simp only [Act.put, List.setIfInBounds_toArray, List.set_cons_zero, List.set_cons_succ]
    refine wpAnyH_done (by kernel_rfl) ?_ _
    refine NoPanic.normal ?_
    exact HPO.out _ _ _ _ _ _ _ _ _ _ _ _ _ _ _ _ _ _ _ _ _ _ _ _ _ HB.out
  | true =>
    cases dir with
    | true =>
      obtain rfl : rb = false := by rw [← hrb]; rfl
      clear hrb
      have HB := Lib.hid (below_drew1 (Below.refl W.heap.size W))
      have k1 := (blk_cell (blk_below EG.out (Below.refl W.heap.size W)) 1).trans rfl
      have k2 := (blk_cell (blk_below EG.out (Below.refl W.heap.size W)) 2).trans rfl
      have k3 := (blk_cell (blk_below EG.out (Below.refl W.heap.size W)) 3).trans rfl
      have k4 := (blk_cell (blk_below EG.out (Below.refl W.heap.size W)) 4).trans rfl
      have k5 := (blk_cell (blk_below EG.out (Below.refl W.heap.size W)) 5).trans rfl
      have e0 := pw_cell_below (Below.refl W.heap.size W) E0.out
      have e1 := pw_cell_below (Below.refl W.heap.size W) E1.out
      have e2 := pw_cell_below (Below.refl W.heap.size W) E2.out
      have e3 := pw_cell_below (Below.refl W.heap.size W) E3.out
      conv => arg 2; whnf
      refine wp_region_noPanic ?_
      refine wp_region_held_drew (S := fun W1 => W1.cell? ⟨g, 1, none⟩ = some (.bool true) ∧ W1.cell? ⟨g, 2, none⟩ = some (.int .i64 a.f0) ∧ W1.cell? ⟨g, 3, none⟩ = some (.int .i64 a.f1) ∧ W1.cell? ⟨g, 4, none⟩ = some (.int .i64 a.f2) ∧ W1.cell? ⟨g, 5, none⟩ = some (.int .i64 a.f3) ∧ W1.cell? ⟨(ad.add (i * 16)).block, (ad.add (i * 16)).off + 2, none⟩ = some (.int .i64 d.f0) ∧ W1.cell? ⟨(ad.add (i * 16)).block, (ad.add (i * 16)).off + 3, none⟩ = some (.int .i64 d.f1) ∧ W1.cell? ⟨(ad.add (i * 16)).block, (ad.add (i * 16)).off + 4, none⟩ = some (.int .i64 d.f2) ∧ W1.cell? ⟨(ad.add (i * 16)).block, (ad.add (i * 16)).off + 5, none⟩ = some (.int .i64 d.f3)) (by kernel_rfl) ?_ (fun hHeld => ?_)
      focus ((try dsimp only); go_keep)
      first
        | (refine take_at 0 26 (v := ?_) rfl rfl (by kernel_rfl) (by kernel_rfl) (by kernel_rfl) (fun _ _ _ h => h) (Or.inl ⟨by rfl, ?_⟩) (by assumption) ?_; rotate_left; focus (intro w hSw; (try dsimp only at hSw); go_simp; try with_reducible rfl))
        | (refine take_at 0 26 (v := undef) rfl rfl (by kernel_rfl) (by kernel_rfl) (by kernel_rfl) (fun _ _ _ h => h) (Or.inr ⟨by rfl, rfl⟩) (by assumption) ?_)
      try simp only [Act.put, List.setIfInBounds_toArray, List.set_cons_zero, List.set_cons_succ]
      first
        | (refine take_at 1 27 (v := ?_) rfl rfl (by kernel_rfl) (by kernel_rfl) (by kernel_rfl) (fun _ _ _ h => h) (Or.inl ⟨by rfl, ?_⟩) (by assumption) ?_; rotate_left; focus (intro w hSw; (try dsimp only at hSw); go_simp; try with_reducible rfl))
        | (refine take_at 1 27 (v := undef) rfl rfl (by kernel_rfl) (by kernel_rfl) (by kernel_rfl) (fun _ _ _ h => h) (Or.inr ⟨by rfl, rfl⟩) (by assumption) ?_)
      try simp only [Act.put, List.setIfInBounds_toArray, List.set_cons_zero, List.set_cons_succ]
      first
        | (refine take_at 2 28 (v := ?_) rfl rfl (by kernel_rfl) (by kernel_rfl) (by kernel_rfl) (fun _ _ _ h => h) (Or.inl ⟨by rfl, ?_⟩) (by assumption) ?_; rotate_left; focus (intro w hSw; (try dsimp only at hSw); go_simp; try with_reducible rfl))
        | (refine take_at 2 28 (v := undef) rfl rfl (by kernel_rfl) (by kernel_rfl) (by kernel_rfl) (fun _ _ _ h => h) (Or.inr ⟨by rfl, rfl⟩) (by assumption) ?_)
      try simp only [Act.put, List.setIfInBounds_toArray, List.set_cons_zero, List.set_cons_succ]
      first
        | (refine take_at 3 29 (v := ?_) rfl rfl (by kernel_rfl) (by kernel_rfl) (by kernel_rfl) (fun _ _ _ h => h) (Or.inl ⟨by rfl, ?_⟩) (by assumption) ?_; rotate_left; focus (intro w hSw; (try dsimp only at hSw); go_simp; try with_reducible rfl))
        | (refine take_at 3 29 (v := undef) rfl rfl (by kernel_rfl) (by kernel_rfl) (by kernel_rfl) (fun _ _ _ h => h) (Or.inr ⟨by rfl, rfl⟩) (by assumption) ?_)
      try simp only [Act.put, List.setIfInBounds_toArray, List.set_cons_zero, List.set_cons_succ]
      first
        | (refine take_at 4 30 (v := ?_) rfl rfl (by kernel_rfl) (by kernel_rfl) (by kernel_rfl) (fun _ _ _ h => h) (Or.inl ⟨by rfl, ?_⟩) (by assumption) ?_; rotate_left; focus (intro w hSw; (try dsimp only at hSw); go_simp; try with_reducible rfl))
        | (refine take_at 4 30 (v := undef) rfl rfl (by kernel_rfl) (by kernel_rfl) (by kernel_rfl) (fun _ _ _ h => h) (Or.inr ⟨by rfl, rfl⟩) (by assumption) ?_)
      try simp only [Act.put, List.setIfInBounds_toArray, List.set_cons_zero, List.set_cons_succ]
      first
        | (refine take_at 5 31 (v := ?_) rfl rfl (by kernel_rfl) (by kernel_rfl) (by kernel_rfl) (fun _ _ _ h => h) (Or.inl ⟨by rfl, ?_⟩) (by assumption) ?_; rotate_left; focus (intro w hSw; (try dsimp only at hSw); go_simp; try with_reducible rfl))
        | (refine take_at 5 31 (v := undef) rfl rfl (by kernel_rfl) (by kernel_rfl) (by kernel_rfl) (fun _ _ _ h => h) (Or.inr ⟨by rfl, rfl⟩) (by assumption) ?_)
      try simp only [Act.put, List.setIfInBounds_toArray, List.set_cons_zero, List.set_cons_succ]
      first
        | (refine take_at 6 32 (v := ?_) rfl rfl (by kernel_rfl) (by kernel_rfl) (by kernel_rfl) (fun _ _ _ h => h) (Or.inl ⟨by rfl, ?_⟩) (by assumption) ?_; rotate_left; focus (intro w hSw; (try dsimp only at hSw); go_simp; try with_reducible rfl))
        | (refine take_at 6 32 (v := undef) rfl rfl (by kernel_rfl) (by kernel_rfl) (by kernel_rfl) (fun _ _ _ h => h) (Or.inr ⟨by rfl, rfl⟩) (by assumption) ?_)
      try simp only [Act.put, List.setIfInBounds_toArray, List.set_cons_zero, List.set_cons_succ]
      refine wpAnyH_ready (rs := [7]) (by kernel_rfl) (by simp) ?_
      refine AllReadyH.cons rfl (fun K hK => ?_) AllReadyH.nil
      go_simp
      go_wp2_with ((go_at_call 72; (refine (lover_calls a d _).mono ?_; rintro e w5 ⟨rfl, hb⟩; rw [hov]; have HB := Lib.hid (below_step HB.out hb); have k1 := (blk_cell (blk_below EG.out HB.out) 1).trans rfl; have k2 := (blk_cell (blk_below EG.out HB.out) 2).trans rfl; have k3 := (blk_cell (blk_below EG.out HB.out) 3).trans rfl; have k4 := (blk_cell (blk_below EG.out HB.out) 4).trans rfl; have k5 := (blk_cell (blk_below EG.out HB.out) 5).trans rfl; have e0 := pw_cell_below HB.out E0.out; have e1 := pw_cell_below HB.out E1.out; have e2 := pw_cell_below HB.out E2.out; have e3 := pw_cell_below HB.out E3.out; clear hb)))
      refine hK.out _ _ ?_ (fun hHeld => ?_)
      focus ((try dsimp only); go_keep)
      clear hK K
      first
        | (refine take_at 8 34 (v := ?_) rfl rfl (by kernel_rfl) (by kernel_rfl) (by kernel_rfl) (fun _ _ _ h => h) (Or.inl ⟨by rfl, ?_⟩) (by assumption) ?_; rotate_left; focus (intro w hSw; (try dsimp only at hSw); go_simp; try with_reducible rfl))
        | (refine take_at 8 34 (v := undef) rfl rfl (by kernel_rfl) (by kernel_rfl) (by kernel_rfl) (fun _ _ _ h => h) (Or.inr ⟨by rfl, rfl⟩) (by assumption) ?_)
      try simp only [Act.put, List.setIfInBounds_toArray, List.set_cons_zero, List.set_cons_succ]
      first
        | (refine take_at 9 35 (v := ?_) rfl rfl (by kernel_rfl) (by kernel_rfl) (by kernel_rfl) (fun _ _ _ h => h) (Or.inl ⟨by rfl, ?_⟩) (by assumption) ?_; rotate_left; focus (intro w hSw; (try dsimp only at hSw); go_simp; try with_reducible rfl))
        | (refine take_at 9 35 (v := undef) rfl rfl (by kernel_rfl) (by kernel_rfl) (by kernel_rfl) (fun _ _ _ h => h) (Or.inr ⟨by rfl, rfl⟩) (by assumption) ?_)
      try simp only [Act.put, List.setIfInBounds_toArray, List.set_cons_zero, List.set_cons_succ]
      first
        | (refine take_at 10 36 (v := ?_) rfl rfl (by kernel_rfl) (by kernel_rfl) (by kernel_rfl) (fun _ _ _ h => h) (Or.inl ⟨by rfl, ?_⟩) (by assumption) ?_; rotate_left; focus (intro w hSw; (try dsimp only at hSw); go_simp; try with_reducible rfl))
        | (refine take_at 10 36 (v := undef) rfl rfl (by kernel_rfl) (by kernel_rfl) (by kernel_rfl) (fun _ _ _ h => h) (Or.inr ⟨by rfl, rfl⟩) (by assumption) ?_)
      try simp only [Act.put, List.setIfInBounds_toArray, List.set_cons_zero, List.set_cons_succ]
      first
        | (refine take_at 11 37 (v := ?_) rfl rfl (by kernel_rfl) (by kernel_rfl) (by kernel_rfl) (fun _ _ _ h => h) (Or.inl ⟨by rfl, ?_⟩) (by assumption) ?_; rotate_left; focus (intro w hSw; (try dsimp only at hSw); go_simp; try with_reducible rfl))
        | (refine take_at 11 37 (v := undef) rfl rfl (by kernel_rfl) (by kernel_rfl) (by kernel_rfl) (fun _ _ _ h => h) (Or.inr ⟨by rfl, rfl⟩) (by assumption) ?_)
      try simp only [Act.put, List.setIfInBounds_toArray, List.set_cons_zero, List.set_cons_succ]
      first
        | (refine take_at 12 38 (v := ?_) rfl rfl (by kernel_rfl) (by kernel_rfl) (by kernel_rfl) (fun _ _ _ h => h) (Or.inl ⟨by rfl, ?_⟩) (by assumption) ?_; rotate_left; focus (intro w hSw; (try dsimp only at hSw); go_simp; try with_reducible rfl))
        | (refine take_at 12 38 (v := undef) rfl rfl (by kernel_rfl) (by kernel_rfl) (by kernel_rfl) (fun _ _ _ h => h) (Or.inr ⟨by rfl, rfl⟩) (by assumption) ?_)
      try simp only [Act.put, List.setIfInBounds_toArray, List.set_cons_zero, List.set_cons_succ]
      first
        | (refine take_at 13 39 (v := ?_) rfl rfl (by kernel_rfl) (by kernel_rfl) (by kernel_rfl) (fun _ _ _ h => h) (Or.inl ⟨by rfl, ?_⟩) (by assumption) ?_; rotate_left; focus (intro w hSw; (try dsimp only at hSw); go_simp; try with_reducible rfl))
        | (refine take_at 13 39 (v := undef) rfl rfl (by kernel_rfl) (by kernel_rfl) (by kernel_rfl) (fun _ _ _ h => h) (Or.inr ⟨by rfl, rfl⟩) (by assumption) ?_)
      try simp only [Act.put, List.setIfInBounds_toArray, List.set_cons_zero, List.set_cons_succ]
      first
        | (refine take_at 14 40 (v := ?_) rfl rfl (by kernel_rfl) (by kernel_rfl) (by kernel_rfl) (fun _ _ _ h => h) (Or.inl ⟨by rfl, ?_⟩) (by assumption) ?_; rotate_left; focus (intro w hSw; (try dsimp only at hSw); go_simp; try with_reducible rfl))
        | (refine take_at 14 40 (v := undef) rfl rfl (by kernel_rfl) (by kernel_rfl) (by kernel_rfl) (fun _ _ _ h => h) (Or.inr ⟨by rfl, rfl⟩) (by assumption) ?_)
      try simp only [Act.put, List.setIfInBounds_toArray, List.set_cons_zero, List.set_cons_succ]
      first
        | (refine take_at 15 41 (v := ?_) rfl rfl (by kernel_rfl) (by kernel_rfl) (by kernel_rfl) (fun _ _ _ h => h) (Or.inl ⟨by rfl, ?_⟩) (by assumption) ?_; rotate_left; focus (intro w hSw; (try dsimp only at hSw); go_simp; try with_reducible rfl))
        | (refine take_at 15 41 (v := undef) rfl rfl (by kernel_rfl) (by kernel_rfl) (by kernel_rfl) (fun _ _ _ h => h) (Or.inr ⟨by rfl, rfl⟩) (by assumption) ?_)
      try simp only [Act.put, List.setIfInBounds_toArray, List.set_cons_zero, List.set_cons_succ]
      first
        | (refine take_at 16 42 (v := ?_) rfl rfl (by kernel_rfl) (by kernel_rfl) (by kernel_rfl) (fun _ _ _ h => h) (Or.inl ⟨by rfl, ?_⟩) (by assumption) ?_; rotate_left; focus (intro w hSw; (try dsimp only at hSw); go_simp; try with_reducible rfl))
        | (refine take_at 16 42 (v := undef) rfl rfl (by kernel_rfl) (by kernel_rfl) (by kernel_rfl) (fun _ _ _ h => h) (Or.inr ⟨by rfl, rfl⟩) (by assumption) ?_)
      try simp only [Act.put, List.setIfInBounds_toArray, List.set_cons_zero, List.set_cons_succ]
      first
        | (refine take_at 17 43 (v := ?_) rfl rfl (by kernel_rfl) (by kernel_rfl) (by kernel_rfl) (fun _ _ _ h => h) (Or.inl ⟨by rfl, ?_⟩) (by assumption) ?_; rotate_left; focus (intro w hSw; (try dsimp only at hSw); go_simp; try with_reducible rfl))
        | (refine take_at 17 43 (v := undef) rfl rfl (by kernel_rfl) (by kernel_rfl) (by kernel_rfl) (fun _ _ _ h => h) (Or.inr ⟨by rfl, rfl⟩) (by assumption) ?_)
      try simp only [Act.put, List.setIfInBounds_toArray, List.set_cons_zero, List.set_cons_succ]
      first
        | (refine take_at 18 44 (v := ?_) rfl rfl (by kernel_rfl) (by kernel_rfl) (by kernel_rfl) (fun _ _ _ h => h) (Or.inl ⟨by rfl, ?_⟩) (by assumption) ?_; rotate_left; focus (intro w hSw; (try dsimp only at hSw); go_simp; try with_reducible rfl))
        | (refine take_at 18 44 (v := undef) rfl rfl (by kernel_rfl) (by kernel_rfl) (by kernel_rfl) (fun _ _ _ h => h) (Or.inr ⟨by rfl, rfl⟩) (by assumption) ?_)
      try simp only [Act.put, List.setIfInBounds_toArray, List.set_cons_zero, List.set_cons_succ]
      first
        | (refine take_at 19 45 (v := ?_) rfl rfl (by kernel_rfl) (by kernel_rfl) (by kernel_rfl) (fun _ _ _ h => h) (Or.inl ⟨by rfl, ?_⟩) (by assumption) ?_; rotate_left; focus (intro w hSw; (try dsimp only at hSw); go_simp; try with_reducible rfl))
        | (refine take_at 19 45 (v := undef) rfl rfl (by kernel_rfl) (by kernel_rfl) (by kernel_rfl) (fun _ _ _ h => h) (Or.inr ⟨by rfl, rfl⟩) (by assumption) ?_)
      try simp only [Act.put, List.setIfInBounds_toArray, List.set_cons_zero, List.set_cons_succ]
      first
        | (refine take_at 20 46 (v := ?_) rfl rfl (by kernel_rfl) (by kernel_rfl) (by kernel_rfl) (fun _ _ _ h => h) (Or.inl ⟨by rfl, ?_⟩) (by assumption) ?_; rotate_left; focus (intro w hSw; (try dsimp only at hSw); go_simp; try with_reducible rfl))
        | (refine take_at 20 46 (v := undef) rfl rfl (by kernel_rfl) (by kernel_rfl) (by kernel_rfl) (fun _ _ _ h => h) (Or.inr ⟨by rfl, rfl⟩) (by assumption) ?_)
      try simp only [Act.put, List.setIfInBounds_toArray, List.set_cons_zero, List.set_cons_succ]
      first
        | (refine take_at 21 47 (v := ?_) rfl rfl (by kernel_rfl) (by kernel_rfl) (by kernel_rfl) (fun _ _ _ h => h) (Or.inl ⟨by rfl, ?_⟩) (by assumption) ?_; rotate_left; focus (intro w hSw; (try dsimp only at hSw); go_simp; try with_reducible rfl))
        | (refine take_at 21 47 (v := undef) rfl rfl (by kernel_rfl) (by kernel_rfl) (by kernel_rfl) (fun _ _ _ h => h) (Or.inr ⟨by rfl, rfl⟩) (by assumption) ?_)
      try simp only [Act.put, List.setIfInBounds_toArray, List.set_cons_zero, List.set_cons_succ]
      first
        | (refine take_at 22 48 (v := ?_) rfl rfl (by kernel_rfl) (by kernel_rfl) (by kernel_rfl) (fun _ _ _ h => h) (Or.inl ⟨by rfl, ?_⟩) (by assumption) ?_; rotate_left; focus (intro w hSw; (try dsimp only at hSw); go_simp; try with_reducible rfl))
        | (refine take_at 22 48 (v := undef) rfl rfl (by kernel_rfl) (by kernel_rfl) (by kernel_rfl) (fun _ _ _ h => h) (Or.inr ⟨by rfl, rfl⟩) (by assumption) ?_)
      try simp only [Act.put, List.setIfInBounds_toArray, List.set_cons_zero, List.set_cons_succ]
      first
        | (refine take_at 23 49 (v := ?_) rfl rfl (by kernel_rfl) (by kernel_rfl) (by kernel_rfl) (fun _ _ _ h => h) (Or.inl ⟨by rfl, ?_⟩) (by assumption) ?_; rotate_left; focus (intro w hSw; (try dsimp only at hSw); go_simp; try with_reducible rfl))
        | (refine take_at 23 49 (v := undef) rfl rfl (by kernel_rfl) (by kernel_rfl) (by kernel_rfl) (fun _ _ _ h => h) (Or.inr ⟨by rfl, rfl⟩) (by assumption) ?_)
      try simp only [Act.put, List.setIfInBounds_toArray, List.set_cons_zero, List.set_cons_succ]
      first
        | (refine take_at 24 25 (v := ?_) rfl rfl (by kernel_rfl) (by kernel_rfl) (by kernel_rfl) (fun _ _ _ h => h) (Or.inl ⟨by rfl, ?_⟩) (by assumption) ?_; rotate_left; focus (intro w hSw; (try dsimp only at hSw); go_simp; try with_reducible rfl))
        | (refine take_at 24 25 (v := undef) rfl rfl (by kernel_rfl) (by kernel_rfl) (by kernel_rfl) (fun _ _ _ h => h) (Or.inr ⟨by rfl, rfl⟩) (by assumption) ?_)
      try simp only [Act.put, List.setIfInBounds_toArray, List.set_cons_zero, List.set_cons_succ]
      refine wpAnyH_done (by kernel_rfl) ?_ _
      refine NoPanic.normal ?_
      exact HPO.out _ _ _ _ _ _ _ _ _ _ _ _ _ _ _ _ _ _ _ _ _ _ _ _ _ HB.out
    | false =>
      obtain rfl : rb = (!(a.f0 == d.f0) || (!(a.f1 == d.f1) || (!(a.f2 == d.f2) || !(a.f3 == d.f3)))) := by rw [← hrb, Bool.not_and, Bool.not_and, Bool.not_and]; rfl
      clear hrb
      have HB := Lib.hid (below_drew1 (Below.refl W.heap.size W))
      have k1 := (blk_cell (blk_below EG.out (Below.refl W.heap.size W)) 1).trans rfl
      have k2 := (blk_cell (blk_below EG.out (Below.refl W.heap.size W)) 2).trans rfl
      have k3 := (blk_cell (blk_below EG.out (Below.refl W.heap.size W)) 3).trans rfl
      have k4 := (blk_cell (blk_below EG.out (Below.refl W.heap.size W)) 4).trans rfl
      have k5 := (blk_cell (blk_below EG.out (Below.refl W.heap.size W)) 5).trans rfl
      have e0 := pw_cell_below (Below.refl W.heap.size W) E0.out
      have e1 := pw_cell_below (Below.refl W.heap.size W) E1.out
      have e2 := pw_cell_below (Below.refl W.heap.size W) E2.out
      have e3 := pw_cell_below (Below.refl W.heap.size W) E3.out
      conv => arg 2; whnf
      refine wp_region_noPanic ?_
      refine wp_region_held_drew (S := fun W1 => W1.cell? ⟨g, 1, none⟩ = some (.bool false) ∧ W1.cell? ⟨g, 2, none⟩ = some (.int .i64 a.f0) ∧ W1.cell? ⟨g, 3, none⟩ = some (.int .i64 a.f1) ∧ W1.cell? ⟨g, 4, none⟩ = some (.int .i64 a.f2) ∧ W1.cell? ⟨g, 5, none⟩ = some (.int .i64 a.f3) ∧ W1.cell? ⟨(ad.add (i * 16)).block, (ad.add (i * 16)).off + 2, none⟩ = some (.int .i64 d.f0) ∧ W1.cell? ⟨(ad.add (i * 16)).block, (ad.add (i * 16)).off + 3, none⟩ = some (.int .i64 d.f1) ∧ W1.cell? ⟨(ad.add (i * 16)).block, (ad.add (i * 16)).off + 4, none⟩ = some (.int .i64 d.f2) ∧ W1.cell? ⟨(ad.add (i * 16)).block, (ad.add (i * 16)).off + 5, none⟩ = some (.int .i64 d.f3)) (by kernel_rfl) ?_ (fun hHeld => ?_)
      focus ((try dsimp only); go_keep)
      first
        | (refine take_at 0 26 (v := ?_) rfl rfl (by kernel_rfl) (by kernel_rfl) (by kernel_rfl) (fun _ _ _ h => h) (Or.inl ⟨by rfl, ?_⟩) (by assumption) ?_; rotate_left; focus (intro w hSw; (try dsimp only at hSw); go_simp; try with_reducible rfl))
        | (refine take_at 0 26 (v := undef) rfl rfl (by kernel_rfl) (by kernel_rfl) (by kernel_rfl) (fun _ _ _ h => h) (Or.inr ⟨by rfl, rfl⟩) (by assumption) ?_)
      try simp only [Act.put, List.setIfInBounds_toArray, List.set_cons_zero, List.set_cons_succ]
      first
        | (refine take_at 1 27 (v := ?_) rfl rfl (by kernel_rfl) (by kernel_rfl) (by kernel_rfl) (fun _ _ _ h => h) (Or.inl ⟨by rfl, ?_⟩) (by assumption) ?_; rotate_left; focus (intro w hSw; (try dsimp only at hSw); go_simp; try with_reducible rfl))
        | (refine take_at 1 27 (v := undef) rfl rfl (by kernel_rfl) (by kernel_rfl) (by kernel_rfl) (fun _ _ _ h => h) (Or.inr ⟨by rfl, rfl⟩) (by assumption) ?_)
      try simp only [Act.put, List.setIfInBounds_toArray, List.set_cons_zero, List.set_cons_succ]
      first
        | (refine take_at 2 28 (v := ?_) rfl rfl (by kernel_rfl) (by kernel_rfl) (by kernel_rfl) (fun _ _ _ h => h) (Or.inl ⟨by rfl, ?_⟩) (by assumption) ?_; rotate_left; focus (intro w hSw; (try dsimp only at hSw); go_simp; try with_reducible rfl))
        | (refine take_at 2 28 (v := undef) rfl rfl (by kernel_rfl) (by kernel_rfl) (by kernel_rfl) (fun _ _ _ h => h) (Or.inr ⟨by rfl, rfl⟩) (by assumption) ?_)
      try simp only [Act.put, List.setIfInBounds_toArray, List.set_cons_zero, List.set_cons_succ]
      first
        | (refine take_at 3 29 (v := ?_) rfl rfl (by kernel_rfl) (by kernel_rfl) (by kernel_rfl) (fun _ _ _ h => h) (Or.inl ⟨by rfl, ?_⟩) (by assumption) ?_; rotate_left; focus (intro w hSw; (try dsimp only at hSw); go_simp; try with_reducible rfl))
        | (refine take_at 3 29 (v := undef) rfl rfl (by kernel_rfl) (by kernel_rfl) (by kernel_rfl) (fun _ _ _ h => h) (Or.inr ⟨by rfl, rfl⟩) (by assumption) ?_)
      try simp only [Act.put, List.setIfInBounds_toArray, List.set_cons_zero, List.set_cons_succ]
      first
        | (refine take_at 4 30 (v := ?_) rfl rfl (by kernel_rfl) (by kernel_rfl) (by kernel_rfl) (fun _ _ _ h => h) (Or.inl ⟨by rfl, ?_⟩) (by assumption) ?_; rotate_left; focus (intro w hSw; (try dsimp only at hSw); go_simp; try with_reducible rfl))
        | (refine take_at 4 30 (v := undef) rfl rfl (by kernel_rfl) (by kernel_rfl) (by kernel_rfl) (fun _ _ _ h => h) (Or.inr ⟨by rfl, rfl⟩) (by assumption) ?_)
      try simp only [Act.put, List.setIfInBounds_toArray, List.set_cons_zero, List.set_cons_succ]
      first
        | (refine take_at 5 31 (v := ?_) rfl rfl (by kernel_rfl) (by kernel_rfl) (by kernel_rfl) (fun _ _ _ h => h) (Or.inl ⟨by rfl, ?_⟩) (by assumption) ?_; rotate_left; focus (intro w hSw; (try dsimp only at hSw); go_simp; try with_reducible rfl))
        | (refine take_at 5 31 (v := undef) rfl rfl (by kernel_rfl) (by kernel_rfl) (by kernel_rfl) (fun _ _ _ h => h) (Or.inr ⟨by rfl, rfl⟩) (by assumption) ?_)
      try simp only [Act.put, List.setIfInBounds_toArray, List.set_cons_zero, List.set_cons_succ]
      first
        | (refine take_at 6 32 (v := ?_) rfl rfl (by kernel_rfl) (by kernel_rfl) (by kernel_rfl) (fun _ _ _ h => h) (Or.inl ⟨by rfl, ?_⟩) (by assumption) ?_; rotate_left; focus (intro w hSw; (try dsimp only at hSw); go_simp; try with_reducible rfl))
        | (refine take_at 6 32 (v := undef) rfl rfl (by kernel_rfl) (by kernel_rfl) (by kernel_rfl) (fun _ _ _ h => h) (Or.inr ⟨by rfl, rfl⟩) (by assumption) ?_)
      try simp only [Act.put, List.setIfInBounds_toArray, List.set_cons_zero, List.set_cons_succ]
      refine wpAnyH_ready (rs := [7]) (by kernel_rfl) (by simp) ?_
      refine AllReadyH.cons rfl (fun K hK => ?_) AllReadyH.nil
      go_simp
      go_wp2_with ((go_at_call 72; (refine (lover_calls a d _).mono ?_; rintro e w5 ⟨rfl, hb⟩; rw [hov]; have HB := Lib.hid (below_step HB.out hb); have k1 := (blk_cell (blk_below EG.out HB.out) 1).trans rfl; have k2 := (blk_cell (blk_below EG.out HB.out) 2).trans rfl; have k3 := (blk_cell (blk_below EG.out HB.out) 3).trans rfl; have k4 := (blk_cell (blk_below EG.out HB.out) 4).trans rfl; have k5 := (blk_cell (blk_below EG.out HB.out) 5).trans rfl; have e0 := pw_cell_below HB.out E0.out; have e1 := pw_cell_below HB.out E1.out; have e2 := pw_cell_below HB.out E2.out; have e3 := pw_cell_below HB.out E3.out; clear hb)))
      refine hK.out _ _ ?_ (fun hHeld => ?_)
      focus ((try dsimp only); go_keep)
      clear hK K
      first
        | (refine take_at 8 34 (v := ?_) rfl rfl (by kernel_rfl) (by kernel_rfl) (by kernel_rfl) (fun _ _ _ h => h) (Or.inl ⟨by rfl, ?_⟩) (by assumption) ?_; rotate_left; focus (intro w hSw; (try dsimp only at hSw); go_simp; try with_reducible rfl))
        | (refine take_at 8 34 (v := undef) rfl rfl (by kernel_rfl) (by kernel_rfl) (by kernel_rfl) (fun _ _ _ h => h) (Or.inr ⟨by rfl, rfl⟩) (by assumption) ?_)
      try simp only [Act.put, List.setIfInBounds_toArray, List.set_cons_zero, List.set_cons_succ]
      first
        | (refine take_at 9 35 (v := ?_) rfl rfl (by kernel_rfl) (by kernel_rfl) (by kernel_rfl) (fun _ _ _ h => h) (Or.inl ⟨by rfl, ?_⟩) (by assumption) ?_; rotate_left; focus (intro w hSw; (try dsimp only at hSw); go_simp; try with_reducible rfl))
        | (refine take_at 9 35 (v := undef) rfl rfl (by kernel_rfl) (by kernel_rfl) (by kernel_rfl) (fun _ _ _ h => h) (Or.inr ⟨by rfl, rfl⟩) (by assumption) ?_)
      try simp only [Act.put, List.setIfInBounds_toArray, List.set_cons_zero, List.set_cons_succ]
      first
        | (refine take_at 10 36 (v := ?_) rfl rfl (by kernel_rfl) (by kernel_rfl) (by kernel_rfl) (fun _ _ _ h => h) (Or.inl ⟨by rfl, ?_⟩) (by assumption) ?_; rotate_left; focus (intro w hSw; (try dsimp only at hSw); go_simp; try with_reducible rfl))
        | (refine take_at 10 36 (v := undef) rfl rfl (by kernel_rfl) (by kernel_rfl) (by kernel_rfl) (fun _ _ _ h => h) (Or.inr ⟨by rfl, rfl⟩) (by assumption) ?_)
      try simp only [Act.put, List.setIfInBounds_toArray, List.set_cons_zero, List.set_cons_succ]
      first
        | (refine take_at 11 37 (v := ?_) rfl rfl (by kernel_rfl) (by kernel_rfl) (by kernel_rfl) (fun _ _ _ h => h) (Or.inl ⟨by rfl, ?_⟩) (by assumption) ?_; rotate_left; focus (intro w hSw; (try dsimp only at hSw); go_simp; try with_reducible rfl))
        | (refine take_at 11 37 (v := undef) rfl rfl (by kernel_rfl) (by kernel_rfl) (by kernel_rfl) (fun _ _ _ h => h) (Or.inr ⟨by rfl, rfl⟩) (by assumption) ?_)
      try simp only [Act.put, List.setIfInBounds_toArray, List.set_cons_zero, List.set_cons_succ]
      first
        | (refine take_at 12 38 (v := ?_) rfl rfl (by kernel_rfl) (by kernel_rfl) (by kernel_rfl) (fun _ _ _ h => h) (Or.inl ⟨by rfl, ?_⟩) (by assumption) ?_; rotate_left; focus (intro w hSw; (try dsimp only at hSw); go_simp; try with_reducible rfl))
        | (refine take_at 12 38 (v := undef) rfl rfl (by kernel_rfl) (by kernel_rfl) (by kernel_rfl) (fun _ _ _ h => h) (Or.inr ⟨by rfl, rfl⟩) (by assumption) ?_)
      try simp only [Act.put, List.setIfInBounds_toArray, List.set_cons_zero, List.set_cons_succ]
      first
        | (refine take_at 13 39 (v := ?_) rfl rfl (by kernel_rfl) (by kernel_rfl) (by kernel_rfl) (fun _ _ _ h => h) (Or.inl ⟨by rfl, ?_⟩) (by assumption) ?_; rotate_left; focus (intro w hSw; (try dsimp only at hSw); go_simp; try with_reducible rfl))
        | (refine take_at 13 39 (v := undef) rfl rfl (by kernel_rfl) (by kernel_rfl) (by kernel_rfl) (fun _ _ _ h => h) (Or.inr ⟨by rfl, rfl⟩) (by assumption) ?_)
      try simp only [Act.put, List.setIfInBounds_toArray, List.set_cons_zero, List.set_cons_succ]
      first
        | (refine take_at 14 40 (v := ?_) rfl rfl (by kernel_rfl) (by kernel_rfl) (by kernel_rfl) (fun _ _ _ h => h) (Or.inl ⟨by rfl, ?_⟩) (by assumption) ?_; rotate_left; focus (intro w hSw; (try dsimp only at hSw); go_simp; try with_reducible rfl))
        | (refine take_at 14 40 (v := undef) rfl rfl (by kernel_rfl) (by kernel_rfl) (by kernel_rfl) (fun _ _ _ h => h) (Or.inr ⟨by rfl, rfl⟩) (by assumption) ?_)
      try simp only [Act.put, List.setIfInBounds_toArray, List.set_cons_zero, List.set_cons_succ]
      first
        | (refine take_at 15 41 (v := ?_) rfl rfl (by kernel_rfl) (by kernel_rfl) (by kernel_rfl) (fun _ _ _ h => h) (Or.inl ⟨by rfl, ?_⟩) (by assumption) ?_; rotate_left; focus (intro w hSw; (try dsimp only at hSw); go_simp; try with_reducible rfl))
        | (refine take_at 15 41 (v := undef) rfl rfl (by kernel_rfl) (by kernel_rfl) (by kernel_rfl) (fun _ _ _ h => h) (Or.inr ⟨by rfl, rfl⟩) (by assumption) ?_)
      try simp only [Act.put, List.setIfInBounds_toArray, List.set_cons_zero, List.set_cons_succ]
      first
        | (refine take_at 16 42 (v := ?_) rfl rfl (by kernel_rfl) (by kernel_rfl) (by kernel_rfl) (fun _ _ _ h => h) (Or.inl ⟨by rfl, ?_⟩) (by assumption) ?_; rotate_left; focus (intro w hSw; (try dsimp only at hSw); go_simp; try with_reducible rfl))
        | (refine take_at 16 42 (v := undef) rfl rfl (by kernel_rfl) (by kernel_rfl) (by kernel_rfl) (fun _ _ _ h => h) (Or.inr ⟨by rfl, rfl⟩) (by assumption) ?_)
      try simp only [Act.put, List.setIfInBounds_toArray, List.set_cons_zero, List.set_cons_succ]
      first
        | (refine take_at 17 43 (v := ?_) rfl rfl (by kernel_rfl) (by kernel_rfl) (by kernel_rfl) (fun _ _ _ h => h) (Or.inl ⟨by rfl, ?_⟩) (by assumption) ?_; rotate_left; focus (intro w hSw; (try dsimp only at hSw); go_simp; try with_reducible rfl))
        | (refine take_at 17 43 (v := undef) rfl rfl (by kernel_rfl) (by kernel_rfl) (by kernel_rfl) (fun _ _ _ h => h) (Or.inr ⟨by rfl, rfl⟩) (by assumption) ?_)
      try simp only [Act.put, List.setIfInBounds_toArray, List.set_cons_zero, List.set_cons_succ]
      first
        | (refine take_at 18 44 (v := ?_) rfl rfl (by kernel_rfl) (by kernel_rfl) (by kernel_rfl) (fun _ _ _ h => h) (Or.inl ⟨by rfl, ?_⟩) (by assumption) ?_; rotate_left; focus (intro w hSw; (try dsimp only at hSw); go_simp; try with_reducible rfl))
        | (refine take_at 18 44 (v := undef) rfl rfl (by kernel_rfl) (by kernel_rfl) (by kernel_rfl) (fun _ _ _ h => h) (Or.inr ⟨by rfl, rfl⟩) (by assumption) ?_)
      try simp only [Act.put, List.setIfInBounds_toArray, List.set_cons_zero, List.set_cons_succ]
      first
        | (refine take_at 19 45 (v := ?_) rfl rfl (by kernel_rfl) (by kernel_rfl) (by kernel_rfl) (fun _ _ _ h => h) (Or.inl ⟨by rfl, ?_⟩) (by assumption) ?_; rotate_left; focus (intro w hSw; (try dsimp only at hSw); go_simp; try with_reducible rfl))
        | (refine take_at 19 45 (v := undef) rfl rfl (by kernel_rfl) (by kernel_rfl) (by kernel_rfl) (fun _ _ _ h => h) (Or.inr ⟨by rfl, rfl⟩) (by assumption) ?_)
      try simp only [Act.put, List.setIfInBounds_toArray, List.set_cons_zero, List.set_cons_succ]
      first
        | (refine take_at 20 46 (v := ?_) rfl rfl (by kernel_rfl) (by kernel_rfl) (by kernel_rfl) (fun _ _ _ h => h) (Or.inl ⟨by rfl, ?_⟩) (by assumption) ?_; rotate_left; focus (intro w hSw; (try dsimp only at hSw); go_simp; try with_reducible rfl))
        | (refine take_at 20 46 (v := undef) rfl rfl (by kernel_rfl) (by kernel_rfl) (by kernel_rfl) (fun _ _ _ h => h) (Or.inr ⟨by rfl, rfl⟩) (by assumption) ?_)
      try simp only [Act.put, List.setIfInBounds_toArray, List.set_cons_zero, List.set_cons_succ]
      first
        | (refine take_at 21 47 (v := ?_) rfl rfl (by kernel_rfl) (by kernel_rfl) (by kernel_rfl) (fun _ _ _ h => h) (Or.inl ⟨by rfl, ?_⟩) (by assumption) ?_; rotate_left; focus (intro w hSw; (try dsimp only at hSw); go_simp; try with_reducible rfl))
        | (refine take_at 21 47 (v := undef) rfl rfl (by kernel_rfl) (by kernel_rfl) (by kernel_rfl) (fun _ _ _ h => h) (Or.inr ⟨by rfl, rfl⟩) (by assumption) ?_)
      try simp only [Act.put, List.setIfInBounds_toArray, List.set_cons_zero, List.set_cons_succ]
      first
        | (refine take_at 22 48 (v := ?_) rfl rfl (by kernel_rfl) (by kernel_rfl) (by kernel_rfl) (fun _ _ _ h => h) (Or.inl ⟨by rfl, ?_⟩) (by assumption) ?_; rotate_left; focus (intro w hSw; (try dsimp only at hSw); go_simp; try with_reducible rfl))
        | (refine take_at 22 48 (v := undef) rfl rfl (by kernel_rfl) (by kernel_rfl) (by kernel_rfl) (fun _ _ _ h => h) (Or.inr ⟨by rfl, rfl⟩) (by assumption) ?_)
      try simp only [Act.put, List.setIfInBounds_toArray, List.set_cons_zero, List.set_cons_succ]
      first
        | (refine take_at 23 49 (v := ?_) rfl rfl (by kernel_rfl) (by kernel_rfl) (by kernel_rfl) (fun _ _ _ h => h) (Or.inl ⟨by rfl, ?_⟩) (by assumption) ?_; rotate_left; focus (intro w hSw; (try dsimp only at hSw); go_simp; try with_reducible rfl))
        | (refine take_at 23 49 (v := undef) rfl rfl (by kernel_rfl) (by kernel_rfl) (by kernel_rfl) (fun _ _ _ h => h) (Or.inr ⟨by rfl, rfl⟩) (by assumption) ?_)
      try simp only [Act.put, List.setIfInBounds_toArray, List.set_cons_zero, List.set_cons_succ]
      first
        | (refine take_at 24 25 (v := ?_) rfl rfl (by kernel_rfl) (by kernel_rfl) (by kernel_rfl) (fun _ _ _ h => h) (Or.inl ⟨by rfl, ?_⟩) (by assumption) ?_; rotate_left; focus (intro w hSw; (try dsimp only at hSw); go_simp; try with_reducible rfl))
        | (refine take_at 24 25 (v := undef) rfl rfl (by kernel_rfl) (by kernel_rfl) (by kernel_rfl) (fun _ _ _ h => h) (Or.inr ⟨by rfl, rfl⟩) (by assumption) ?_)
      try simp only [Act.put, List.setIfInBounds_toArray, List.set_cons_zero, List.set_cons_succ]
      refine wpAnyH_done (by kernel_rfl) ?_ _
      refine NoPanic.normal ?_
      exact HPO.out _ _ _ _ _ _ _ _ _ _ _ _ _ _ _ _ _ _ _ _ _ _ _ _ _ HB.out
end Go.Proofs.YtmndeoncbocplaaDoor.C
end
section
set_option linter.unusedVariables false
set_option linter.unusedSimpArgs false
namespace Go.Proofs.YtmndeoncbocplaaDoor.C
open Go.RowKit Go.Proofs.YtmndeoncbocplaaDoor.Q Go.Proofs.YtmndeoncbocplaaDoorW.PrintWords Go.Proofs.YtmndeoncbocplaaDoorW.PrintLast Go.Proofs.YtmndeoncbocplaaDoorW.PrintMore
attribute [local go_sem ↓] rd_at50 wr_at50 al_at50
attribute [local go_sem] rd50_new wr50_new al50
def hangN (l : List S50) (q : ByteArray) (x : S50) : Int := if isN l q = true then (if (nodeN l q).f1 = true then (if (!lover x.f2 (nodeN l q).f2 || (!x.f1 && !eqL x.f2 (nodeN l q))) = true then 15 else 0) else 3) else 2
set_option maxHeartbeats 2000000 in
set_option maxRecDepth 100000 in
theorem hangs_c (l : List S50) (x : S50) (q : ByteArray) (A : Option Addr) (c : Nat) (A6 A11 : Option Addr) (c6 c11 : Nat) (w : World) (hC : Kd.C k50 w A l.length l) (hc : l.length ≤ c) (hn : l.length < 1000000) (hR : RisingN l q)
    (hP : ∀ w1 : World, Calls Tryd.prog 26 #[.string x.f0] w1 fun e w' => e = .returned (.string q) ∧ Below w1.heap.size w1 w') :
    Calls Tryd.prog 79 #[.slice A l.length c, .agg #[.string x.f0, .bool x.f1, .int .i64 x.f2.f0, .int .i64 x.f2.f1, .int .i64 x.f2.f2, .int .i64 x.f2.f3, .slice A6 x.f3.length c6, .int .i64 x.f4.f0, .int .i64 x.f4.f1, .int .i64 x.f4.f2, .int .i64 x.f4.f3, .slice A11 x.f5.length c11, .int .i64 x.f6.f0, .int .i64 x.f6.f1, .int .i64 x.f6.f2, .int .i64 x.f6.f3]] w fun e w' => e = .returned (.int .i64 (hangN l q x)) ∧ Below w.heap.size w w' := by
  have HC := Lib.hid hC
  have HQ := Lib.hid hP
  have HP := Lib.hid fun w1 (hb : Below w.heap.size w w1) => placeN l q A c w1 (Kd.C_below hC hb) hc hn hR
  have HN := Lib.hid (fun h => isN_lt h : isN l q = true → atN l q < l.length)
  have HZ0 : nodeN l q = if isN l q then l.getD (atN l q) z50 else z50 := rfl
  obtain ⟨r, hr⟩ : ∃ r, hangN l q x = r := ⟨_, rfl⟩
  rw [hr]
  unfold hangN at hr
  have HZ := Lib.hid HZ0
  have HX := Lib.hid hr
  clear hC hP HZ0 hR hr
  generalize nodeN l q = d at HZ HX
  generalize atN l q = i at HP HN HZ
  generalize isN l q = b at HP HN HZ HX
  have HB0 := Lib.hid (below_alloc (Below.refl w.heap.size w) (.cells #[.string x.f0, .bool x.f1, .int .i64 x.f2.f0, .int .i64 x.f2.f1, .int .i64 x.f2.f2, .int .i64 x.f2.f3, .slice A6 x.f3.length c6, .int .i64 x.f4.f0, .int .i64 x.f4.f1, .int .i64 x.f4.f2, .int .i64 x.f4.f3, .slice A11 x.f5.length c11, .int .i64 x.f6.f0, .int .i64 x.f6.f1, .int .i64 x.f6.f2, .int .i64 x.f6.f3] 50))
  cases b with
  | false =>
    have hr := HX.out
    rw [if_neg (by simp)] at hr
    subst hr
    go_enter Tryd.func79, Tryd.ntmps79
    go_wp2_with (first | (go_at_call 26; refine (HQ.out _).mono ?_; rintro e w1 ⟨rfl, hb⟩; have HB1 := Lib.hid (below_step HB0.out hb); have EG1 := Lib.hid (blk_below (blk_new w (.cells #[.string x.f0, .bool x.f1, .int .i64 x.f2.f0, .int .i64 x.f2.f1, .int .i64 x.f2.f2, .int .i64 x.f2.f3, .slice A6 x.f3.length c6, .int .i64 x.f4.f0, .int .i64 x.f4.f1, .int .i64 x.f4.f2, .int .i64 x.f4.f3, .slice A11 x.f5.length c11, .int .i64 x.f6.f0, .int .i64 x.f6.f1, .int .i64 x.f6.f2, .int .i64 x.f6.f3] 50)) hb); clear hb) | (go_at_call 83; refine (HP.out _ HB1.out).mono ?_; rintro e w2 ⟨rfl, hb⟩; have HB2 := Lib.hid (below_step HB1.out hb); have EG := Lib.hid (blk_below EG1.out hb); clear hb))
    go_ret
    exact ⟨rfl, HB2.out⟩
  | true =>
    have hi := HN.out rfl
    have hd : d = l[i] := by rw [HZ.out]; simp [List.getD_eq_getElem?_getD, List.getElem?_eq_getElem hi]
    have hr := HX.out
    rw [if_pos rfl] at hr
    have HR := Lib.hid hr
    clear HN HZ HX hr
    obtain ⟨ad, B6, e6, B11, e11, hA, hcs, _⟩ := at50 HC.out (Below.refl w.heap.size w) i hi
    subst hA
    rw [← hd] at hcs
    have HCS := Lib.hid hcs
    clear hcs hd HC
    cases hdir : d.f1 with
    | false =>
      have hr := HR.out
      rw [if_neg (by rw [hdir]; simp)] at hr
      subst hr
      go_enter Tryd.func79, Tryd.ntmps79
      go_wp2_with (first | (go_at_call 26; refine (HQ.out _).mono ?_; rintro e w1 ⟨rfl, hb⟩; have HB1 := Lib.hid (below_step HB0.out hb); have EG1 := Lib.hid (blk_below (blk_new w (.cells #[.string x.f0, .bool x.f1, .int .i64 x.f2.f0, .int .i64 x.f2.f1, .int .i64 x.f2.f2, .int .i64 x.f2.f3, .slice A6 x.f3.length c6, .int .i64 x.f4.f0, .int .i64 x.f4.f1, .int .i64 x.f4.f2, .int .i64 x.f4.f3, .slice A11 x.f5.length c11, .int .i64 x.f6.f0, .int .i64 x.f6.f1, .int .i64 x.f6.f2, .int .i64 x.f6.f3] 50)) hb); clear hb) | (go_at_call 83; refine (HP.out _ HB1.out).mono ?_; rintro e w2 ⟨rfl, hb⟩; have HB2 := Lib.hid (below_step HB1.out hb); have EG := Lib.hid (blk_below EG1.out hb); have k1 := pw_cell_below HB2.out HCS.out.2.1; rw [hdir] at k1; clear hb))
      go_ret
      exact ⟨rfl, HB2.out⟩
    | true =>
      have hr := HR.out
      rw [if_pos hdir] at hr
      have HR2 := Lib.hid hr
      clear hr HR
      go_enter Tryd.func79, Tryd.ntmps79
      go_wp2_with (first | (go_at_call 26; refine (HQ.out _).mono ?_; rintro e w1 ⟨rfl, hb⟩; have HB1 := Lib.hid (below_step HB0.out hb); have EG1 := Lib.hid (blk_below (blk_new w (.cells #[.string x.f0, .bool x.f1, .int .i64 x.f2.f0, .int .i64 x.f2.f1, .int .i64 x.f2.f2, .int .i64 x.f2.f3, .slice A6 x.f3.length c6, .int .i64 x.f4.f0, .int .i64 x.f4.f1, .int .i64 x.f4.f2, .int .i64 x.f4.f3, .slice A11 x.f5.length c11, .int .i64 x.f6.f0, .int .i64 x.f6.f1, .int .i64 x.f6.f2, .int .i64 x.f6.f3] 50)) hb); clear hb) | (go_at_call 83; refine (HP.out _ HB1.out).mono ?_; rintro e w2 ⟨rfl, hb⟩; have HB2 := Lib.hid (below_step HB1.out hb); have EG := Lib.hid (blk_below EG1.out hb); have k1 := pw_cell_below HB2.out HCS.out.2.1; rw [hdir] at k1; clear hb))
      refine rh79 _ _ _ _ _ _ _ _ _ _ _ ad l.length c i w.heap.size x.f1 x.f2 d.f2 (lover x.f2 d.f2) (!lover x.f2 d.f2 || (!x.f1 && !eqL x.f2 d)) _ _ _ _ _ _ _ _ _ _ _ _ _ _ _ _ _ _ _ _ _ _ _ _ _ _ _ _ _ _ _ _ _ _ _ _ _ _ _ _ _ _ _ _ _ _ _ _ _ hi EG.out (pw_cell_below HB2.out HCS.out.2.2.1) (pw_cell_below HB2.out HCS.out.2.2.2.1) (pw_cell_below HB2.out HCS.out.2.2.2.2.1) (pw_cell_below HB2.out HCS.out.2.2.2.2.2.1) rfl rfl ?_
      intro w6 t26 t27 t28 t29 t30 t31 t32 t33 t34 t35 t36 t37 t38 t39 t40 t41 t42 t43 t44 t45 t46 t47 t48 t49 hb
      have HB6 := Lib.hid (below_step HB2.out hb)
      clear hb
      generalize (!lover x.f2 d.f2 || (!x.f1 && !eqL x.f2 d)) = rb at HR2
      cases rb with
      | true =>
        have hr := HR2.out
        rw [if_pos rfl] at hr
        subst hr
        go_wp2
        go_ret
        exact ⟨rfl, HB6.out⟩
      | false =>
        have hr := HR2.out
        rw [if_neg (by simp)] at hr
        subst hr
        go_wp2
        go_ret
        exact ⟨rfl, HB6.out⟩
end Go.Proofs.YtmndeoncbocplaaDoor.C
end
section
set_option linter.unusedVariables false
set_option linter.unusedSimpArgs false
namespace Go.Proofs.YtmndeoncbocplaaDoor.C
open Go.RowKit Go.Proofs.YtmndeoncbocplaaDoor.Q Go.Proofs.YtmndeoncbocplaaDoorW.PrintWords Go.Proofs.YtmndeoncbocplaaDoorW.PrintLast Go.Proofs.YtmndeoncbocplaaDoorW.PrintMore
attribute [local go_sem ↓] rd_at50 wr_at50 al_at50
attribute [local go_sem] rd50_new wr50_new al50
set_option maxHeartbeats 4000000 in
set_option maxRecDepth 1000000 in
theorem rt7a (ad : Option Addr) (n c i g : Nat) (u : ByteArray) (u1 u2 u5 u6 u7 u8 u9 u10 u11 u12 u13 u14 u15 u16 u17 u18 u19 u20 u21 u22 u23 u24 u25 u26 u27 u28 u29 u30 u31 u32 u33 u34 u35 u36 u37 u38 u39 u40 u41 u42 u43 u44 u45 u46 u47 u48 u49 u50 u51 u52 u53 u54 u55 u56 u57 u58 u59 u60 u61 u62 u63 u64 : Value) (W : World) (Q : Exit → Act → World → Prop)
    (hi : ¬ 0 < i) (hg : W.cell? ⟨g, 0, none⟩ = some (.string u))
    (hpost : ∀ (w' : World) (t21 t22 t23 t24 t25 t26 t27 t28 t29 t30 t31 t32 : Value), Below W.heap.size W w' → Q .normal ⟨#[.slice ad n c, u1, u2, .int .i64 (i : Int), .pointer (some ⟨g, 0, none⟩), u5, u6, u7, u8, u9, u10, u11, u12, u13, u14, u15, u16, u17, u18, u19, u20, t21, t22, t23, t24, t25, t26, t27, t28, t29, t30, t31, t32, .bool false, u34, u35, u36, u37, u38, u39, u40, u41, u42, u43, u44, u45, u46, u47, u48, u49, u50, u51, u52, u53, u54, u55, u56, u57, u58, u59, u60, u61, u62, u63, u64], []⟩ w') :
    Code.wp Tryd.prog (cReg Tryd.f49 7) Q ⟨#[.slice ad n c, u1, u2, .int .i64 (i : Int), .pointer (some ⟨g, 0, none⟩), u5, u6, u7, u8, u9, u10, u11, u12, u13, u14, u15, u16, u17, u18, u19, u20, u21, u22, u23, u24, u25, u26, u27, u28, u29, u30, u31, u32, u33, u34, u35, u36, u37, u38, u39, u40, u41, u42, u43, u44, u45, u46, u47, u48, u49, u50, u51, u52, u53, u54, u55, u56, u57, u58, u59, u60, u61, u62, u63, u64], []⟩ W := by
  have EG := Lib.hid hg
  have HPO := Lib.hid hpost
  clear hg hpost
  have HB := Lib.hid (below_drew1 (Below.refl W.heap.size W))
  have k0 := pw_cell_below HB.out EG.out
  conv => arg 2; whnf
  refine wp_region_noPanic ?_
  refine wp_region_held_drew (S := fun W1 => W1.cell? ⟨g, 0, none⟩ = some (.string u)) (by kernel_rfl) ?_ (fun hHeld => ?_)
  focus ((try dsimp only); go_keep)
  first
    | (refine take_at 0 21 (v := ?_) rfl rfl (by kernel_rfl) (by kernel_rfl) (by kernel_rfl) (fun _ _ _ h => h) (Or.inl ⟨by rfl, ?_⟩) (by assumption) ?_; rotate_left; focus (intro w hSw; (try dsimp only at hSw); go_simp; try with_reducible rfl))
    | (refine take_at 0 21 (v := undef) rfl rfl (by kernel_rfl) (by kernel_rfl) (by kernel_rfl) (fun _ _ _ h => h) (Or.inr ⟨by rfl, rfl⟩) (by assumption) ?_)
  try simp only [Act.put, List.setIfInBounds_toArray, List.set_cons_zero, List.set_cons_succ]
  first
    | (refine take_at 1 22 (v := ?_) rfl rfl (by kernel_rfl) (by kernel_rfl) (by kernel_rfl) (fun _ _ _ h => h) (Or.inl ⟨by rfl, ?_⟩) (by assumption) ?_; rotate_left; focus (intro w hSw; (try dsimp only at hSw); go_simp; try with_reducible rfl))
    | (refine take_at 1 22 (v := undef) rfl rfl (by kernel_rfl) (by kernel_rfl) (by kernel_rfl) (fun _ _ _ h => h) (Or.inr ⟨by rfl, rfl⟩) (by assumption) ?_)
  try simp only [Act.put, List.setIfInBounds_toArray, List.set_cons_zero, List.set_cons_succ]
  first
    | (refine take_at 2 23 (v := ?_) rfl rfl (by kernel_rfl) (by kernel_rfl) (by kernel_rfl) (fun _ _ _ h => h) (Or.inl ⟨by rfl, ?_⟩) (by assumption) ?_; rotate_left; focus (intro w hSw; (try dsimp only at hSw); go_simp; try with_reducible rfl))
    | (refine take_at 2 23 (v := undef) rfl rfl (by kernel_rfl) (by kernel_rfl) (by kernel_rfl) (fun _ _ _ h => h) (Or.inr ⟨by rfl, rfl⟩) (by assumption) ?_)
  try simp only [Act.put, List.setIfInBounds_toArray, List.set_cons_zero, List.set_cons_succ]
  first
    | (refine take_at 3 24 (v := ?_) rfl rfl (by kernel_rfl) (by kernel_rfl) (by kernel_rfl) (fun _ _ _ h => h) (Or.inl ⟨by rfl, ?_⟩) (by assumption) ?_; rotate_left; focus (intro w hSw; (try dsimp only at hSw); go_simp; try with_reducible rfl))
    | (refine take_at 3 24 (v := undef) rfl rfl (by kernel_rfl) (by kernel_rfl) (by kernel_rfl) (fun _ _ _ h => h) (Or.inr ⟨by rfl, rfl⟩) (by assumption) ?_)
  try simp only [Act.put, List.setIfInBounds_toArray, List.set_cons_zero, List.set_cons_succ]
  first
    | (refine take_at 4 25 (v := ?_) rfl rfl (by kernel_rfl) (by kernel_rfl) (by kernel_rfl) (fun _ _ _ h => h) (Or.inl ⟨by rfl, ?_⟩) (by assumption) ?_; rotate_left; focus (intro w hSw; (try dsimp only at hSw); go_simp; try with_reducible rfl))
    | (refine take_at 4 25 (v := undef) rfl rfl (by kernel_rfl) (by kernel_rfl) (by kernel_rfl) (fun _ _ _ h => h) (Or.inr ⟨by rfl, rfl⟩) (by assumption) ?_)
  try simp only [Act.put, List.setIfInBounds_toArray, List.set_cons_zero, List.set_cons_succ]
  first
    | (refine take_at 5 26 (v := ?_) rfl rfl (by kernel_rfl) (by kernel_rfl) (by kernel_rfl) (fun _ _ _ h => h) (Or.inl ⟨by rfl, ?_⟩) (by assumption) ?_; rotate_left; focus (intro w hSw; (try dsimp only at hSw); go_simp; try with_reducible rfl))
    | (refine take_at 5 26 (v := undef) rfl rfl (by kernel_rfl) (by kernel_rfl) (by kernel_rfl) (fun _ _ _ h => h) (Or.inr ⟨by rfl, rfl⟩) (by assumption) ?_)
  try simp only [Act.put, List.setIfInBounds_toArray, List.set_cons_zero, List.set_cons_succ]
  first
    | (refine take_at 6 27 (v := ?_) rfl rfl (by kernel_rfl) (by kernel_rfl) (by kernel_rfl) (fun _ _ _ h => h) (Or.inl ⟨by rfl, ?_⟩) (by assumption) ?_; rotate_left; focus (intro w hSw; (try dsimp only at hSw); go_simp; try with_reducible rfl))
    | (refine take_at 6 27 (v := undef) rfl rfl (by kernel_rfl) (by kernel_rfl) (by kernel_rfl) (fun _ _ _ h => h) (Or.inr ⟨by rfl, rfl⟩) (by assumption) ?_)
  try simp only [Act.put, List.setIfInBounds_toArray, List.set_cons_zero, List.set_cons_succ]
  first
    | (refine take_at 7 28 (v := ?_) rfl rfl (by kernel_rfl) (by kernel_rfl) (by kernel_rfl) (fun _ _ _ h => h) (Or.inl ⟨by rfl, ?_⟩) (by assumption) ?_; rotate_left; focus (intro w hSw; (try dsimp only at hSw); go_simp; try with_reducible rfl))
    | (refine take_at 7 28 (v := undef) rfl rfl (by kernel_rfl) (by kernel_rfl) (by kernel_rfl) (fun _ _ _ h => h) (Or.inr ⟨by rfl, rfl⟩) (by assumption) ?_)
  try simp only [Act.put, List.setIfInBounds_toArray, List.set_cons_zero, List.set_cons_succ]
  first
    | (refine take_at 8 29 (v := ?_) rfl rfl (by kernel_rfl) (by kernel_rfl) (by kernel_rfl) (fun _ _ _ h => h) (Or.inl ⟨by rfl, ?_⟩) (by assumption) ?_; rotate_left; focus (intro w hSw; (try dsimp only at hSw); go_simp; try with_reducible rfl))
    | (refine take_at 8 29 (v := undef) rfl rfl (by kernel_rfl) (by kernel_rfl) (by kernel_rfl) (fun _ _ _ h => h) (Or.inr ⟨by rfl, rfl⟩) (by assumption) ?_)
  try simp only [Act.put, List.setIfInBounds_toArray, List.set_cons_zero, List.set_cons_succ]
  first
    | (refine take_at 9 30 (v := ?_) rfl rfl (by kernel_rfl) (by kernel_rfl) (by kernel_rfl) (fun _ _ _ h => h) (Or.inl ⟨by rfl, ?_⟩) (by assumption) ?_; rotate_left; focus (intro w hSw; (try dsimp only at hSw); go_simp; try with_reducible rfl))
    | (refine take_at 9 30 (v := undef) rfl rfl (by kernel_rfl) (by kernel_rfl) (by kernel_rfl) (fun _ _ _ h => h) (Or.inr ⟨by rfl, rfl⟩) (by assumption) ?_)
  try simp only [Act.put, List.setIfInBounds_toArray, List.set_cons_zero, List.set_cons_succ]
  first
    | (refine take_at 10 31 (v := ?_) rfl rfl (by kernel_rfl) (by kernel_rfl) (by kernel_rfl) (fun _ _ _ h => h) (Or.inl ⟨by rfl, ?_⟩) (by assumption) ?_; rotate_left; focus (intro w hSw; (try dsimp only at hSw); go_simp; try with_reducible rfl))
    | (refine take_at 10 31 (v := undef) rfl rfl (by kernel_rfl) (by kernel_rfl) (by kernel_rfl) (fun _ _ _ h => h) (Or.inr ⟨by rfl, rfl⟩) (by assumption) ?_)
  try simp only [Act.put, List.setIfInBounds_toArray, List.set_cons_zero, List.set_cons_succ]
  first
    | (refine take_at 11 32 (v := ?_) rfl rfl (by kernel_rfl) (by kernel_rfl) (by kernel_rfl) (fun _ _ _ h => h) (Or.inl ⟨by rfl, ?_⟩) (by assumption) ?_; rotate_left; focus (intro w hSw; (try dsimp only at hSw); go_simp; try with_reducible rfl))
    | (refine take_at 11 32 (v := undef) rfl rfl (by kernel_rfl) (by kernel_rfl) (by kernel_rfl) (fun _ _ _ h => h) (Or.inr ⟨by rfl, rfl⟩) (by assumption) ?_)
  try simp only [Act.put, List.setIfInBounds_toArray, List.set_cons_zero, List.set_cons_succ]
  first
    | (refine take_at 12 33 (v := ?_) rfl rfl (by kernel_rfl) (by kernel_rfl) (by kernel_rfl) (fun _ _ _ h => h) (Or.inl ⟨by rfl, ?_⟩) (by assumption) ?_; rotate_left; focus (intro w hSw; (try dsimp only at hSw); go_simp; try with_reducible rfl))
    | (refine take_at 12 33 (v := undef) rfl rfl (by kernel_rfl) (by kernel_rfl) (by kernel_rfl) (fun _ _ _ h => h) (Or.inr ⟨by rfl, rfl⟩) (by assumption) ?_)
  try simp only [Act.put, List.setIfInBounds_toArray, List.set_cons_zero, List.set_cons_succ]
  refine wpAnyH_done (by kernel_rfl) ?_ _
  refine NoPanic.normal ?_
  exact HPO.out _ _ _ _ _ _ _ _ _ _ _ _ _ HB.out
set_option maxHeartbeats 4000000 in
set_option maxRecDepth 1000000 in
theorem rt7b (ad : Addr) (n c i g j : Nat) (u p : ByteArray) (u1 u2 u5 u6 u7 u8 u9 u10 u11 u12 u13 u14 u15 u16 u17 u18 u19 u20 u21 u22 u23 u24 u25 u26 u27 u28 u29 u30 u31 u32 u33 u34 u35 u36 u37 u38 u39 u40 u41 u42 u43 u44 u45 u46 u47 u48 u49 u50 u51 u52 u53 u54 u55 u56 u57 u58 u59 u60 u61 u62 u63 u64 : Value) (W : World) (Q : Exit → Act → World → Prop)
    (hi : 0 < i) (hj : j < n) (hwr : IntKind.i64.wrap ((i : Int) - 1) = (j : Int)) (hg : W.cell? ⟨g, 0, none⟩ = some (.string u)) (hp : W.cell? (ad.add (j * 16)) = some (.string p))
    (hpost : ∀ (w' : World) (t21 t22 t23 t24 t25 t26 t27 t28 t29 t30 t31 t32 : Value), Below W.heap.size W w' → Q .normal ⟨#[.slice (some ad) n c, u1, u2, .int .i64 (i : Int), .pointer (some ⟨g, 0, none⟩), u5, u6, u7, u8, u9, u10, u11, u12, u13, u14, u15, u16, u17, u18, u19, u20, t21, t22, t23, t24, t25, t26, t27, t28, t29, t30, t31, t32, .bool (!Op.bytesLess p.toList u.toList), u34, u35, u36, u37, u38, u39, u40, u41, u42, u43, u44, u45, u46, u47, u48, u49, u50, u51, u52, u53, u54, u55, u56, u57, u58, u59, u60, u61, u62, u63, u64], []⟩ w') :
    Code.wp Tryd.prog (cReg Tryd.f49 7) Q ⟨#[.slice (some ad) n c, u1, u2, .int .i64 (i : Int), .pointer (some ⟨g, 0, none⟩), u5, u6, u7, u8, u9, u10, u11, u12, u13, u14, u15, u16, u17, u18, u19, u20, u21, u22, u23, u24, u25, u26, u27, u28, u29, u30, u31, u32, u33, u34, u35, u36, u37, u38, u39, u40, u41, u42, u43, u44, u45, u46, u47, u48, u49, u50, u51, u52, u53, u54, u55, u56, u57, u58, u59, u60, u61, u62, u63, u64], []⟩ W := by
  have EG := Lib.hid hg
  have EP := Lib.hid hp
  have HPO := Lib.hid hpost
  clear hg hp hpost
  have HB := Lib.hid (below_drew1 (Below.refl W.heap.size W))
  have k0 := pw_cell_below HB.out EG.out
  have k1 := pw_cell_below HB.out EP.out
  conv => arg 2; whnf
  refine wp_region_noPanic ?_
  refine wp_region_held_drew (S := fun W1 => W1.cell? ⟨g, 0, none⟩ = some (.string u) ∧ W1.cell? (ad.add (j * 16)) = some (.string p)) (by kernel_rfl) ?_ (fun hHeld => ?_)
  focus ((try dsimp only); go_keep)
  first
    | (refine take_at 0 21 (v := ?_) rfl rfl (by kernel_rfl) (by kernel_rfl) (by kernel_rfl) (fun _ _ _ h => h) (Or.inl ⟨by rfl, ?_⟩) (by assumption) ?_; rotate_left; focus (intro w hSw; (try dsimp only at hSw); go_simp; try with_reducible rfl))
    | (refine take_at 0 21 (v := undef) rfl rfl (by kernel_rfl) (by kernel_rfl) (by kernel_rfl) (fun _ _ _ h => h) (Or.inr ⟨by rfl, rfl⟩) (by assumption) ?_)
  try simp only [Act.put, List.setIfInBounds_toArray, List.set_cons_zero, List.set_cons_succ]
  first
    | (refine take_at 1 22 (v := ?_) rfl rfl (by kernel_rfl) (by kernel_rfl) (by kernel_rfl) (fun _ _ _ h => h) (Or.inl ⟨by rfl, ?_⟩) (by assumption) ?_; rotate_left; focus (intro w hSw; (try dsimp only at hSw); go_simp; try with_reducible rfl))
    | (refine take_at 1 22 (v := undef) rfl rfl (by kernel_rfl) (by kernel_rfl) (by kernel_rfl) (fun _ _ _ h => h) (Or.inr ⟨by rfl, rfl⟩) (by assumption) ?_)
  try simp only [Act.put, List.setIfInBounds_toArray, List.set_cons_zero, List.set_cons_succ]
  first
    | (refine take_at 2 23 (v := ?_) rfl rfl (by kernel_rfl) (by kernel_rfl) (by kernel_rfl) (fun _ _ _ h => h) (Or.inl ⟨by rfl, ?_⟩) (by assumption) ?_; rotate_left; focus (intro w hSw; (try dsimp only at hSw); go_simp; try with_reducible rfl))
    | (refine take_at 2 23 (v := undef) rfl rfl (by kernel_rfl) (by kernel_rfl) (by kernel_rfl) (fun _ _ _ h => h) (Or.inr ⟨by rfl, rfl⟩) (by assumption) ?_)
  try simp only [Act.put, List.setIfInBounds_toArray, List.set_cons_zero, List.set_cons_succ]
  first
    | (refine take_at 3 24 (v := ?_) rfl rfl (by kernel_rfl) (by kernel_rfl) (by kernel_rfl) (fun _ _ _ h => h) (Or.inl ⟨by rfl, ?_⟩) (by assumption) ?_; rotate_left; focus (intro w hSw; (try dsimp only at hSw); go_simp; try with_reducible rfl))
    | (refine take_at 3 24 (v := undef) rfl rfl (by kernel_rfl) (by kernel_rfl) (by kernel_rfl) (fun _ _ _ h => h) (Or.inr ⟨by rfl, rfl⟩) (by assumption) ?_)
  try simp only [Act.put, List.setIfInBounds_toArray, List.set_cons_zero, List.set_cons_succ]
  first
    | (refine take_at 4 25 (v := ?_) rfl rfl (by kernel_rfl) (by kernel_rfl) (by kernel_rfl) (fun _ _ _ h => h) (Or.inl ⟨by rfl, ?_⟩) (by assumption) ?_; rotate_left; focus (intro w hSw; (try dsimp only at hSw); go_simp; try with_reducible rfl))
    | (refine take_at 4 25 (v := undef) rfl rfl (by kernel_rfl) (by kernel_rfl) (by kernel_rfl) (fun _ _ _ h => h) (Or.inr ⟨by rfl, rfl⟩) (by assumption) ?_)
  try simp only [Act.put, List.setIfInBounds_toArray, List.set_cons_zero, List.set_cons_succ]
  first
    | (refine take_at 5 26 (v := ?_) rfl rfl (by kernel_rfl) (by kernel_rfl) (by kernel_rfl) (fun _ _ _ h => h) (Or.inl ⟨by rfl, ?_⟩) (by assumption) ?_; rotate_left; focus (intro w hSw; (try dsimp only at hSw); go_simp; try with_reducible rfl))
    | (refine take_at 5 26 (v := undef) rfl rfl (by kernel_rfl) (by kernel_rfl) (by kernel_rfl) (fun _ _ _ h => h) (Or.inr ⟨by rfl, rfl⟩) (by assumption) ?_)
  try simp only [Act.put, List.setIfInBounds_toArray, List.set_cons_zero, List.set_cons_succ]
  first
    | (refine take_at 6 27 (v := ?_) rfl rfl (by kernel_rfl) (by kernel_rfl) (by kernel_rfl) (fun _ _ _ h => h) (Or.inl ⟨by rfl, ?_⟩) (by assumption) ?_; rotate_left; focus (intro w hSw; (try dsimp only at hSw); go_simp; try with_reducible rfl))
    | (refine take_at 6 27 (v := undef) rfl rfl (by kernel_rfl) (by kernel_rfl) (by kernel_rfl) (fun _ _ _ h => h) (Or.inr ⟨by rfl, rfl⟩) (by assumption) ?_)
  try simp only [Act.put, List.setIfInBounds_toArray, List.set_cons_zero, List.set_cons_succ]
  first
    | (refine take_at 7 28 (v := ?_) rfl rfl (by kernel_rfl) (by kernel_rfl) (by kernel_rfl) (fun _ _ _ h => h) (Or.inl ⟨by rfl, ?_⟩) (by assumption) ?_; rotate_left; focus (intro w hSw; (try dsimp only at hSw); go_simp; try with_reducible rfl))
    | (refine take_at 7 28 (v := undef) rfl rfl (by kernel_rfl) (by kernel_rfl) (by kernel_rfl) (fun _ _ _ h => h) (Or.inr ⟨by rfl, rfl⟩) (by assumption) ?_)
  try simp only [Act.put, List.setIfInBounds_toArray, List.set_cons_zero, List.set_cons_succ]
  first
    | (refine take_at 8 29 (v := ?_) rfl rfl (by kernel_rfl) (by kernel_rfl) (by kernel_rfl) (fun _ _ _ h => h) (Or.inl ⟨by rfl, ?_⟩) (by assumption) ?_; rotate_left; focus (intro w hSw; (try dsimp only at hSw); go_simp; try with_reducible rfl))
    | (refine take_at 8 29 (v := undef) rfl rfl (by kernel_rfl) (by kernel_rfl) (by kernel_rfl) (fun _ _ _ h => h) (Or.inr ⟨by rfl, rfl⟩) (by assumption) ?_)
  try simp only [Act.put, List.setIfInBounds_toArray, List.set_cons_zero, List.set_cons_succ]
  first
    | (refine take_at 9 30 (v := ?_) rfl rfl (by kernel_rfl) (by kernel_rfl) (by kernel_rfl) (fun _ _ _ h => h) (Or.inl ⟨by rfl, ?_⟩) (by assumption) ?_; rotate_left; focus (intro w hSw; (try dsimp only at hSw); go_simp; try with_reducible rfl))
    | (refine take_at 9 30 (v := undef) rfl rfl (by kernel_rfl) (by kernel_rfl) (by kernel_rfl) (fun _ _ _ h => h) (Or.inr ⟨by rfl, rfl⟩) (by assumption) ?_)
  try simp only [Act.put, List.setIfInBounds_toArray, List.set_cons_zero, List.set_cons_succ]
  first
    | (refine take_at 10 31 (v := ?_) rfl rfl (by kernel_rfl) (by kernel_rfl) (by kernel_rfl) (fun _ _ _ h => h) (Or.inl ⟨by rfl, ?_⟩) (by assumption) ?_; rotate_left; focus (intro w hSw; (try dsimp only at hSw); go_simp; try with_reducible rfl))
    | (refine take_at 10 31 (v := undef) rfl rfl (by kernel_rfl) (by kernel_rfl) (by kernel_rfl) (fun _ _ _ h => h) (Or.inr ⟨by rfl, rfl⟩) (by assumption) ?_)
  try simp only [Act.put, List.setIfInBounds_toArray, List.set_cons_zero, List.set_cons_succ]
  first
    | (refine take_at 11 32 (v := ?_) rfl rfl (by kernel_rfl) (by kernel_rfl) (by kernel_rfl) (fun _ _ _ h => h) (Or.inl ⟨by rfl, ?_⟩) (by assumption) ?_; rotate_left; focus (intro w hSw; (try dsimp only at hSw); go_simp; try with_reducible rfl))
    | (refine take_at 11 32 (v := undef) rfl rfl (by kernel_rfl) (by kernel_rfl) (by kernel_rfl) (fun _ _ _ h => h) (Or.inr ⟨by rfl, rfl⟩) (by assumption) ?_)
  try simp only [Act.put, List.setIfInBounds_toArray, List.set_cons_zero, List.set_cons_succ]
  first
    | (refine take_at 12 33 (v := ?_) rfl rfl (by kernel_rfl) (by kernel_rfl) (by kernel_rfl) (fun _ _ _ h => h) (Or.inl ⟨by rfl, ?_⟩) (by assumption) ?_; rotate_left; focus (intro w hSw; (try dsimp only at hSw); go_simp; try with_reducible rfl))
    | (refine take_at 12 33 (v := undef) rfl rfl (by kernel_rfl) (by kernel_rfl) (by kernel_rfl) (fun _ _ _ h => h) (Or.inr ⟨by rfl, rfl⟩) (by assumption) ?_)
  try simp only [Act.put, List.setIfInBounds_toArray, List.set_cons_zero, List.set_cons_succ]
  refine wpAnyH_done (by kernel_rfl) ?_ _
  refine NoPanic.normal ?_
  exact HPO.out _ _ _ _ _ _ _ _ _ _ _ _ _ HB.out
attribute [local go_sem high] eqA41
set_option maxHeartbeats 4000000 in
set_option maxRecDepth 1000000 in
theorem rt19 (ad : Addr) (n c : Nat) (d : S41) (u1 u2 u3 u4 u5 u6 u7 u8 u9 u10 u11 u12 u13 u14 u15 u16 u17 u18 u19 u20 u21 u22 u23 u24 u25 u26 u27 u28 u29 u30 u31 u32 u33 u34 u35 u36 u37 u38 u39 u40 u41 u42 u43 u44 u45 u46 u47 u48 u49 u50 u51 u52 u53 u54 u55 u56 u57 u58 u59 u60 u61 u62 u63 u64 : Value) (W : World) (Q : Exit → Act → World → Prop)
    (hn : 0 < n) (he0 : W.cell? ⟨ad.block, ad.off + 2, none⟩ = some (.int .i64 d.f0)) (he1 : W.cell? ⟨ad.block, ad.off + 3, none⟩ = some (.int .i64 d.f1)) (he2 : W.cell? ⟨ad.block, ad.off + 4, none⟩ = some (.int .i64 d.f2)) (he3 : W.cell? ⟨ad.block, ad.off + 5, none⟩ = some (.int .i64 d.f3))
    (hpost : ∀ (w' : World) (t59 t60 t61 t62 t63 : Value), Below W.heap.size W w' → Q .normal ⟨#[.slice (some ad) n c, u1, u2, u3, u4, u5, u6, u7, u8, u9, u10, u11, u12, u13, u14, u15, u16, u17, u18, u19, u20, u21, u22, u23, u24, u25, u26, u27, u28, u29, u30, u31, u32, u33, u34, u35, u36, u37, u38, u39, u40, u41, u42, u43, u44, u45, u46, u47, u48, u49, u50, u51, u52, u53, u54, u55, u56, u57, u58, t59, t60, t61, t62, t63, .bool (!(d.f0 == 0) || (!(d.f1 == 0) || (!(d.f2 == 3) || !(d.f3 == 255))))], []⟩ w') :
    Code.wp Tryd.prog (cReg Tryd.f49 19) Q ⟨#[.slice (some ad) n c, u1, u2, u3, u4, u5, u6, u7, u8, u9, u10, u11, u12, u13, u14, u15, u16, u17, u18, u19, u20, u21, u22, u23, u24, u25, u26, u27, u28, u29, u30, u31, u32, u33, u34, u35, u36, u37, u38, u39, u40, u41, u42, u43, u44, u45, u46, u47, u48, u49, u50, u51, u52, u53, u54, u55, u56, u57, u58, u59, u60, u61, u62, u63, u64], []⟩ W := by
  have E0 := Lib.hid he0
  have E1 := Lib.hid he1
  have E2 := Lib.hid he2
  have E3 := Lib.hid he3
  have HPO := Lib.hid hpost
  clear he0 he1 he2 he3 hpost
  have HB := Lib.hid (below_drew1 (Below.refl W.heap.size W))
  have e0 := pw_cell_below HB.out E0.out
  have e1 := pw_cell_below HB.out E1.out
  have e2 := pw_cell_below HB.out E2.out
  have e3 := pw_cell_below HB.out E3.out
  conv => arg 2; whnf
  refine wp_region_noPanic ?_
  refine wp_region_held_drew (S := fun W1 => W1.cell? ⟨ad.block, ad.off + 2, none⟩ = some (.int .i64 d.f0) ∧ W1.cell? ⟨ad.block, ad.off + 3, none⟩ = some (.int .i64 d.f1) ∧ W1.cell? ⟨ad.block, ad.off + 4, none⟩ = some (.int .i64 d.f2) ∧ W1.cell? ⟨ad.block, ad.off + 5, none⟩ = some (.int .i64 d.f3)) (by kernel_rfl) ?_ (fun hHeld => ?_)
  focus ((try dsimp only); go_keep)
  first
    | (refine take_at 0 59 (v := ?_) rfl rfl (by kernel_rfl) (by kernel_rfl) (by kernel_rfl) (fun _ _ _ h => h) (Or.inl ⟨by rfl, ?_⟩) (by assumption) ?_; rotate_left; focus (intro w hSw; (try dsimp only at hSw); go_simp; try with_reducible rfl))
    | (refine take_at 0 59 (v := undef) rfl rfl (by kernel_rfl) (by kernel_rfl) (by kernel_rfl) (fun _ _ _ h => h) (Or.inr ⟨by rfl, rfl⟩) (by assumption) ?_)
  try simp only [Act.put, List.setIfInBounds_toArray, List.set_cons_zero, List.set_cons_succ]
  first
    | (refine take_at 1 60 (v := ?_) rfl rfl (by kernel_rfl) (by kernel_rfl) (by kernel_rfl) (fun _ _ _ h => h) (Or.inl ⟨by rfl, ?_⟩) (by assumption) ?_; rotate_left; focus (intro w hSw; (try dsimp only at hSw); go_simp; try with_reducible rfl))
    | (refine take_at 1 60 (v := undef) rfl rfl (by kernel_rfl) (by kernel_rfl) (by kernel_rfl) (fun _ _ _ h => h) (Or.inr ⟨by rfl, rfl⟩) (by assumption) ?_)
  try simp only [Act.put, List.setIfInBounds_toArray, List.set_cons_zero, List.set_cons_succ]
  first
    | (refine take_at 2 61 (v := ?_) rfl rfl (by kernel_rfl) (by kernel_rfl) (by kernel_rfl) (fun _ _ _ h => h) (Or.inl ⟨by rfl, ?_⟩) (by assumption) ?_; rotate_left; focus (intro w hSw; (try dsimp only at hSw); go_simp; try with_reducible rfl))
    | (refine take_at 2 61 (v := undef) rfl rfl (by kernel_rfl) (by kernel_rfl) (by kernel_rfl) (fun _ _ _ h => h) (Or.inr ⟨by rfl, rfl⟩) (by assumption) ?_)
  try simp only [Act.put, List.setIfInBounds_toArray, List.set_cons_zero, List.set_cons_succ]
  first
    | (refine take_at 3 62 (v := ?_) rfl rfl (by kernel_rfl) (by kernel_rfl) (by kernel_rfl) (fun _ _ _ h => h) (Or.inl ⟨by rfl, ?_⟩) (by assumption) ?_; rotate_left; focus (intro w hSw; (try dsimp only at hSw); go_simp; try with_reducible rfl))
    | (refine take_at 3 62 (v := undef) rfl rfl (by kernel_rfl) (by kernel_rfl) (by kernel_rfl) (fun _ _ _ h => h) (Or.inr ⟨by rfl, rfl⟩) (by assumption) ?_)
  try simp only [Act.put, List.setIfInBounds_toArray, List.set_cons_zero, List.set_cons_succ]
  refine wpAnyH_ready (rs := [4]) (by kernel_rfl) (by simp) ?_
  refine AllReadyH.cons rfl (fun K hK => ?_) AllReadyH.nil
  go_simp
  go_wp2_with ((go_at_call 80; (refine (label_Bottom.calls 0 0 3 255 _ rfl).mono ?_; rintro e w5 ⟨rfl, hb⟩; have HB := Lib.hid (below_step HB.out hb); have e0 := pw_cell_below HB.out E0.out; have e1 := pw_cell_below HB.out E1.out; have e2 := pw_cell_below HB.out E2.out; have e3 := pw_cell_below HB.out E3.out; clear hb)))
  refine hK.out _ _ ?_ (fun hHeld => ?_)
  focus ((try dsimp only); go_keep)
  clear hK K
  first
    | (refine take_at 5 64 (v := ?_) rfl rfl (by kernel_rfl) (by kernel_rfl) (by kernel_rfl) (fun _ _ _ h => h) (Or.inl ⟨by rfl, ?_⟩) (by assumption) ?_; rotate_left; focus (intro w hSw; (try dsimp only at hSw); go_simp; try with_reducible rfl))
    | (refine take_at 5 64 (v := undef) rfl rfl (by kernel_rfl) (by kernel_rfl) (by kernel_rfl) (fun _ _ _ h => h) (Or.inr ⟨by rfl, rfl⟩) (by assumption) ?_)
  try simp only [Act.put, List.setIfInBounds_toArray, List.set_cons_zero, List.set_cons_succ]
  refine wpAnyH_done (by kernel_rfl) ?_ _
  refine NoPanic.normal ?_
  exact HPO.out _ _ _ _ _ _ HB.out
end Go.Proofs.YtmndeoncbocplaaDoor.C
end
section
set_option linter.unusedVariables false
set_option linter.unusedSimpArgs false
namespace Go.Proofs.YtmndeoncbocplaaDoor.C
open Go.RowKit Go.Proofs.YtmndeoncbocplaaDoor.Q Go.Proofs.YtmndeoncbocplaaDoorW.PrintWords Go.Proofs.YtmndeoncbocplaaDoorW.PrintLast Go.Proofs.YtmndeoncbocplaaDoorW.PrintMore
attribute [local go_sem ↓] rd_at50 wr_at50 al_at50
attribute [local go_sem] rd50_new wr50_new al50
theorem add_none (b o n : Nat) : (⟨b, o, none⟩ : Addr).add n = ⟨b, o + n, none⟩ := by unfold Addr.add; split <;> simp_all
def nAt (l : List S50) (i : Nat) : S50 := l.getD i z50
theorem nAt_get {l : List S50} {i : Nat} (h : i < l.length) : nAt l i = l[i] := by simp [nAt, List.getD_eq_getElem?_getD, List.getElem?_eq_getElem h]
def peN (s : ByteArray) : Int := L.checkL s.data.toList
theorem pe_calls (s : ByteArray) (w1 : World) : Calls Tryd.prog 23 #[.string s] w1 fun e w' => e = .returned (.int .i64 (peN s)) ∧ Below w1.heap.size w1 w' :=
  (P.path_Check.calls 100 s _ w1 (P.path_check s 100 (by omega))).mono fun _ _ ⟨he, hd⟩ => ⟨he, hd⟩
def firstE (f : Nat → Int) : Nat → Int
  | 0 => 0
  | n + 1 => if firstE f n ≠ 0 then firstE f n else f n
theorem firstE_zero {f : Nat → Int} : ∀ n, (∀ j, j < n → f j = 0) → firstE f n = 0
  | 0, _ => rfl
  | n + 1, h => by
    rw [firstE, firstE_zero n (fun j hj => h j (by omega)), if_neg (by simp)]
    exact h n (by omega)
theorem firstE_hit {f : Nat → Int} {i : Nat} (h0 : ∀ j, j < i → f j = 0) (h1 : f i ≠ 0) : ∀ n, i < n → firstE f n = f i
  | 0, h => absurd h (Nat.not_lt_zero i)
  | n + 1, h => by
    rw [firstE]
    by_cases hin : i = n
    · subst hin
      rw [firstE_zero i h0, if_neg (by simp)]
    · rw [firstE_hit h0 h1 n (by omega), if_pos h1]
noncomputable def ck1 (l : List S50) (i : Nat) : Int := if ndN (peN (nAt l i).f0) (nAt l i) ≠ 0 then ndN (peN (nAt l i).f0) (nAt l i) else if 0 < i ∧ Op.bytesLess (nAt l (i - 1)).f0.toList (nAt l i).f0.toList = false then 1 else 0
def parP (s : ByteArray) : ByteArray := (P.path_Parent.f s).getD ⟨#[]⟩
def ck2 (l : List S50) (i : Nat) : Int := hangN l (parP (nAt l (i + 1)).f0) (nAt l (i + 1))
def botB (d : S41) : Bool := !(d.f0 == 0) || (!(d.f1 == 0) || (!(d.f2 == 3) || !(d.f3 == 255)))
/-- What the program's check of a tree tells. -/
noncomputable def checkT (l : List S50) : Int :=
  if firstE (ck1 l) l.length ≠ 0 then firstE (ck1 l) l.length
  else if l.length = 0 ∨ (nAt l 0).f0.toList ≠ [47] then 2
  else if firstE (ck2 l) (l.length - 1) ≠ 0 then firstE (ck2 l) (l.length - 1)
  else if botB (nAt l 0).f2 = true then 15 else 0
theorem asc_of {l : List S50} (h : ∀ i, 0 < i → i < l.length → Op.bytesLess (nAt l (i - 1)).f0.toList (nAt l i).f0.toList = true) : Asc l := by
  have key : ∀ d a, a + d + 1 < l.length → Op.bytesLess (nAt l a).f0.toList (nAt l (a + d + 1)).f0.toList = true := by
    intro d
    induction d with
    | zero => intro a ha; exact h (a + 1) (by omega) (by omega)
    | succ d ih => intro a ha; exact bl_trans _ _ _ (ih a (by omega)) (by have := h (a + d + 1 + 1) (by omega) (by omega); rw [show a + (d + 1) + 1 = a + d + 1 + 1 by omega]; simpa using this)
  refine List.pairwise_iff_getElem.2 fun a b ha hb hab => ?_
  have := key (b - a - 1) a (by omega)
  rw [show a + (b - a - 1) + 1 = b by omega, nAt_get ha, nAt_get hb] at this
  exact this
theorem ck1_asc {l : List S50} (h : ∀ j, j < l.length → ck1 l j = 0) : Asc l := by
  refine asc_of fun i h0 h1 => ?_
  have := h i h1
  unfold ck1 at this
  by_cases hn : ndN (peN (nAt l i).f0) (nAt l i) ≠ 0
  · rw [if_pos hn] at this; exact absurd this hn
  · rw [if_neg hn] at this
    by_cases hb : Op.bytesLess (nAt l (i - 1)).f0.toList (nAt l i).f0.toList = false
    · rw [if_pos ⟨h0, hb⟩] at this; exact absurd this (by decide)
    · simpa using hb
set_option maxHeartbeats 4000000 in
set_option maxRecDepth 100000 in
theorem treecheck_c (l : List S50) (A : Option Addr) (c : Nat) (w : World) (hC : Kd.C k50 w A l.length l) (hc : l.length ≤ c) (hn : l.length < 1000000) (hPar : ∀ n ∈ l, ∃ q, P.path_Parent.f n.f0 = some q) :
    Calls Tryd.prog 49 #[.slice A l.length c] w fun e w' => e = .returned (.int .i64 (checkT l)) ∧ Below w.heap.size w w' := by
  have HC := Lib.hid hC
  obtain ⟨r, hr⟩ : ∃ r, checkT l = r := ⟨_, rfl⟩
  rw [hr]
  have HR := Lib.hid hr
  have HPAR := Lib.hid hPar
  clear hC hr hPar
  go_enter Tryd.func49, Tryd.ntmps49
  go_wp2
  go_loopg [11] l.length (fun k s11 wr => ∃ i : Nat, i ≤ l.length ∧ l.length - i ≤ k ∧ s11 = .int .i64 i ∧ Hid (∀ j, j < i → ck1 l j = 0) ∧ Hid (Below w.heap.size w wr))
  case atStart => exact ⟨0, Nat.zero_le _, Nat.le_refl _, rfl, Lib.hid (fun j hj => absurd hj (Nat.not_lt_zero j)), Lib.hid (Below.refl _ _)⟩
  case round =>
    obtain ⟨i, hi, hik, rfl, HG, HB⟩ := hrel
    obtain ⟨W0, hW⟩ : ∃ W, W = wr := ⟨_, rfl⟩
    subst hW
    by_cases hlt : i < l.length
    · obtain ⟨ad, B6, e6, B11, e11, hA, hcs, hK⟩ := at50 HC.out HB.out i hlt
      subst hA
      obtain ⟨x, hx⟩ : ∃ x, ck1 l i = x := ⟨_, rfl⟩
      have HCK := Lib.hid hx
      unfold ck1 at hx
      have HX := Lib.hid hx
      clear hx
      have hnn := nAt_get hlt
      rw [← hnn] at hcs hK
      generalize nAt l i = n at HX hcs hK
      have hld := rd50_of (loadC50 (P := Tryd.prog) hcs)
      obtain ⟨Y6, y6, Y11, y11, hyc, l6, g6, _⟩ := k50_open hK.out
      have hY : B6 = Y6 ∧ e6 = y6 := by have h := congrArg (fun l : List Value => l[6]?) hyc; simpa using h
      obtain ⟨rfl, rfl⟩ := hY
      have HND := Lib.hid fun w1 (hb : Below w.heap.size w w1) => ndcheck_f n.f0 n.f1 n.f2 n.f3 n.f4 n.f5 n.f6 B6 B11 e6 e11 (peN n.f0) w1 (pe_calls n.f0) (Kd.C_below g6 hb) l6
      clear hcs hK hyc l6 g6 hnn
      obtain ⟨y, hy⟩ : ∃ y, ndN (peN n.f0) n = y := ⟨_, rfl⟩
      change Hid (∀ w1, _ → Calls Tryd.prog 78 _ w1 fun e w' => e = .returned (.int .i64 (ndN (peN n.f0) n)) ∧ _) at HND
      rw [hy] at HND HX
      clear hy
      by_cases hy0 : y = 0
      · subst hy0
        have hx := HX.out
        rw [if_neg (by simp)] at hx
        have HX1 := Lib.hid hx
        clear hx HX
        by_cases hi0 : 0 < i
        · obtain ⟨ad1, _, _, _, _, hA1, hcs1, _⟩ := at50 HC.out HB.out (i - 1) (by omega)
          obtain rfl := Option.some.inj hA1
          rw [← nAt_get (show i - 1 < l.length by omega)] at hcs1
          have HP0 := Lib.hid hcs1.1
          have HWR := Lib.hid (show IntKind.i64.wrap ((i : Int) - 1) = ((i - 1 : Nat) : Int) by rw [i64_w]; unfold wrap64; omega)
          clear hcs1 hA1
          generalize nAt l (i - 1) = m at HP0 HX1
          go_wp2_with (go_at_call 78; refine (HND.out _ (below_step HB.out (below_alloc (Below.refl W0.heap.size W0) (.cells #[.string n.f0, .bool n.f1, .int .i64 n.f2.f0, .int .i64 n.f2.f1, .int .i64 n.f2.f2, .int .i64 n.f2.f3, .slice B6 n.f3.length e6, .int .i64 n.f4.f0, .int .i64 n.f4.f1, .int .i64 n.f4.f2, .int .i64 n.f4.f3, .slice B11 n.f5.length e11, .int .i64 n.f6.f0, .int .i64 n.f6.f1, .int .i64 n.f6.f2, .int .i64 n.f6.f3] 50)))).mono ?_; rintro e w2 ⟨rfl, hb⟩; have HB2 := Lib.hid (below_step (below_step HB.out (below_alloc (Below.refl W0.heap.size W0) (.cells #[.string n.f0, .bool n.f1, .int .i64 n.f2.f0, .int .i64 n.f2.f1, .int .i64 n.f2.f2, .int .i64 n.f2.f3, .slice B6 n.f3.length e6, .int .i64 n.f4.f0, .int .i64 n.f4.f1, .int .i64 n.f4.f2, .int .i64 n.f4.f3, .slice B11 n.f5.length e11, .int .i64 n.f6.f0, .int .i64 n.f6.f1, .int .i64 n.f6.f2, .int .i64 n.f6.f3] 50))) hb); have HBB := Lib.hid hb; have EG := Lib.hid (blk_below (blk_new W0 (.cells #[.string n.f0, .bool n.f1, .int .i64 n.f2.f0, .int .i64 n.f2.f1, .int .i64 n.f2.f2, .int .i64 n.f2.f3, .slice B6 n.f3.length e6, .int .i64 n.f4.f0, .int .i64 n.f4.f1, .int .i64 n.f4.f2, .int .i64 n.f4.f3, .slice B11 n.f5.length e11, .int .i64 n.f6.f0, .int .i64 n.f6.f1, .int .i64 n.f6.f2, .int .i64 n.f6.f3] 50)) hb); clear hb)
          refine rt7b ad l.length c i W0.heap.size (i - 1) n.f0 m.f0 _ _ _ _ _ _ _ _ _ _ _ _ _ _ _ _ _ _ _ _ _ _ _ _ _ _ _ _ _ _ _ _ _ _ _ _ _ _ _ _ _ _ _ _ _ _ _ _ _ _ _ _ _ _ _ _ _ _ _ _ _ _ _ _ hi0 (by omega) HWR.out ((blk_cell EG.out 0).trans rfl) (pw_cell_below (below_step (below_alloc (Below.refl W0.heap.size W0) _) HBB.out) HP0.out) ?_
          intro w6 t21 t22 t23 t24 t25 t26 t27 t28 t29 t30 t31 t32 hb
          have HB6 := Lib.hid (below_step HB2.out hb)
          clear hb EG HP0 HND
          cases hbl : Op.bytesLess m.f0.toList n.f0.toList with
          | true =>
            have hx0 := HX1.out
            rw [if_neg (fun h => by rw [hbl] at h; exact Bool.noConfusion h.2)] at hx0
            subst hx0
            have HG6 := Lib.hid (show ∀ j, j < i + 1 → ck1 l j = 0 from fun j hj => by
              by_cases h : j = i
              · rw [h]; exact HCK.out
              · exact HG.out j (by omega))
            go_wp2
            go_roundg (l.length - (i + 1))
            case measure => omega
            case rel => exact ⟨i + 1, hlt, Nat.le_refl _, by go_num, HG6, HB6⟩
          | false =>
            have hx0 := HX1.out
            rw [if_pos ⟨hi0, hbl⟩] at hx0
            subst hx0
            have hck := HCK.out
            have hne : ck1 l i ≠ 0 := by rw [hck]; decide
            have hrr := firstE_hit HG.out hne l.length hlt
            have hr := HR.out
            unfold checkT at hr
            rw [hrr, if_pos hne, hck] at hr
            subst hr
            go_wp2
            go_ret
            exact ⟨rfl, HB6.out⟩
        · go_wp2_with (go_at_call 78; refine (HND.out _ (below_step HB.out (below_alloc (Below.refl W0.heap.size W0) (.cells #[.string n.f0, .bool n.f1, .int .i64 n.f2.f0, .int .i64 n.f2.f1, .int .i64 n.f2.f2, .int .i64 n.f2.f3, .slice B6 n.f3.length e6, .int .i64 n.f4.f0, .int .i64 n.f4.f1, .int .i64 n.f4.f2, .int .i64 n.f4.f3, .slice B11 n.f5.length e11, .int .i64 n.f6.f0, .int .i64 n.f6.f1, .int .i64 n.f6.f2, .int .i64 n.f6.f3] 50)))).mono ?_; rintro e w2 ⟨rfl, hb⟩; have HB2 := Lib.hid (below_step (below_step HB.out (below_alloc (Below.refl W0.heap.size W0) (.cells #[.string n.f0, .bool n.f1, .int .i64 n.f2.f0, .int .i64 n.f2.f1, .int .i64 n.f2.f2, .int .i64 n.f2.f3, .slice B6 n.f3.length e6, .int .i64 n.f4.f0, .int .i64 n.f4.f1, .int .i64 n.f4.f2, .int .i64 n.f4.f3, .slice B11 n.f5.length e11, .int .i64 n.f6.f0, .int .i64 n.f6.f1, .int .i64 n.f6.f2, .int .i64 n.f6.f3] 50))) hb); have HBB := Lib.hid hb; have EG := Lib.hid (blk_below (blk_new W0 (.cells #[.string n.f0, .bool n.f1, .int .i64 n.f2.f0, .int .i64 n.f2.f1, .int .i64 n.f2.f2, .int .i64 n.f2.f3, .slice B6 n.f3.length e6, .int .i64 n.f4.f0, .int .i64 n.f4.f1, .int .i64 n.f4.f2, .int .i64 n.f4.f3, .slice B11 n.f5.length e11, .int .i64 n.f6.f0, .int .i64 n.f6.f1, .int .i64 n.f6.f2, .int .i64 n.f6.f3] 50)) hb); clear hb)
          refine rt7a (some ad) l.length c i W0.heap.size n.f0 _ _ _ _ _ _ _ _ _ _ _ _ _ _ _ _ _ _ _ _ _ _ _ _ _ _ _ _ _ _ _ _ _ _ _ _ _ _ _ _ _ _ _ _ _ _ _ _ _ _ _ _ _ _ _ _ _ _ _ _ _ _ _ _ hi0 ((blk_cell EG.out 0).trans rfl) ?_
          intro w6 t21 t22 t23 t24 t25 t26 t27 t28 t29 t30 t31 t32 hb
          have HB6 := Lib.hid (below_step HB2.out hb)
          clear hb EG HND
          have hx0 := HX1.out
          rw [if_neg (fun h => hi0 h.1)] at hx0
          subst hx0
          have HG6 := Lib.hid (show ∀ j, j < i + 1 → ck1 l j = 0 from fun j hj => by
            by_cases h : j = i
            · rw [h]; exact HCK.out
            · exact HG.out j (by omega))
          go_wp2
          go_roundg (l.length - (i + 1))
          case measure => omega
          case rel => exact ⟨i + 1, hlt, Nat.le_refl _, by go_num, HG6, HB6⟩
      · have hy1 : (y != 0) = true := bne_iff_ne.2 hy0
        have hx := HX.out
        rw [if_pos hy0] at hx
        subst hx
        have hck := HCK.out
        have hne : ck1 l i ≠ 0 := by rw [hck]; exact hy0
        have hrr := firstE_hit HG.out hne l.length hlt
        have hr := HR.out
        unfold checkT at hr
        rw [hrr, if_pos hne, hck] at hr
        subst hr
        go_wp2_with (go_at_call 78; refine (HND.out _ (below_step HB.out (below_alloc (Below.refl W0.heap.size W0) (.cells #[.string n.f0, .bool n.f1, .int .i64 n.f2.f0, .int .i64 n.f2.f1, .int .i64 n.f2.f2, .int .i64 n.f2.f3, .slice B6 n.f3.length e6, .int .i64 n.f4.f0, .int .i64 n.f4.f1, .int .i64 n.f4.f2, .int .i64 n.f4.f3, .slice B11 n.f5.length e11, .int .i64 n.f6.f0, .int .i64 n.f6.f1, .int .i64 n.f6.f2, .int .i64 n.f6.f3] 50)))).mono ?_; rintro e w2 ⟨rfl, hb⟩; have HB2 := Lib.hid (below_step (below_step HB.out (below_alloc (Below.refl W0.heap.size W0) (.cells #[.string n.f0, .bool n.f1, .int .i64 n.f2.f0, .int .i64 n.f2.f1, .int .i64 n.f2.f2, .int .i64 n.f2.f3, .slice B6 n.f3.length e6, .int .i64 n.f4.f0, .int .i64 n.f4.f1, .int .i64 n.f4.f2, .int .i64 n.f4.f3, .slice B11 n.f5.length e11, .int .i64 n.f6.f0, .int .i64 n.f6.f1, .int .i64 n.f6.f2, .int .i64 n.f6.f3] 50))) hb); have HBB := Lib.hid hb; have EG := Lib.hid (blk_below (blk_new W0 (.cells #[.string n.f0, .bool n.f1, .int .i64 n.f2.f0, .int .i64 n.f2.f1, .int .i64 n.f2.f2, .int .i64 n.f2.f3, .slice B6 n.f3.length e6, .int .i64 n.f4.f0, .int .i64 n.f4.f1, .int .i64 n.f4.f2, .int .i64 n.f4.f3, .slice B11 n.f5.length e11, .int .i64 n.f6.f0, .int .i64 n.f6.f1, .int .i64 n.f6.f2, .int .i64 n.f6.f3] 50)) hb); clear hb)
        go_ret
        exact ⟨rfl, HB2.out⟩
    · have HGA := Lib.hid (show ∀ j, j < l.length → ck1 l j = 0 from fun j hj => HG.out j (by omega))
      have hr := HR.out
      unfold checkT at hr
      rw [firstE_zero l.length HGA.out, if_neg (by simp)] at hr
      have HR2 := Lib.hid hr
      clear hr HG
      by_cases hl0 : l.length = 0
      · have hr := HR2.out
        rw [if_pos (Or.inl hl0)] at hr
        subst hr
        go_wp2
        go_ret
        exact ⟨rfl, HB.out⟩
      · obtain ⟨ad, B6, e6, B11, e11, hA, hcs, _⟩ := at50 HC.out HB.out 0 (by omega)
        subst hA
        rw [← nAt_get (show 0 < l.length by omega)] at hcs
        have HCS := Lib.hid hcs
        clear hcs
        have hc0 : W0.cell? ad = some (.string (nAt l 0).f0) := HCS.out.1
        by_cases hroot : (nAt l 0).f0.toList = [47]
        · have hr := HR2.out
          rw [if_neg (fun h => h.elim (fun h => hl0 h) (fun h => h hroot))] at hr
          have HR3 := Lib.hid hr
          clear hr HR2
          have hr1 : ((nAt l 0).f0.toList == ([47] : List UInt8)) = true := by rw [hroot]; rfl
          have hl1 : 1 ≤ l.length := by omega
          clear hroot
          have hl2 : ((l.length : Int) == 0) = false := beq_eq_false_iff_ne.2 (by omega)
          have HD0 := Kd.C_drop (k := k50) (m := 1) (c := c) HC.out hl1 hc
          by_cases hc1 : c = 1
          · subst hc1
            have HD := Lib.hid (show Kd.C k50 w (some ad) (l.drop 1).length (l.drop 1) from by rw [if_pos rfl] at HD0; exact HD0)
            clear HD0
            go_wp2
            go_loopg [48] (l.length - 1) (fun k s48 wr => ∃ j : Nat, j ≤ l.length - 1 ∧ l.length - 1 - j ≤ k ∧ s48 = .int .i64 j ∧ Hid (∀ m, m < j → ck2 l m = 0) ∧ Hid (Below w.heap.size w wr))
            case atStart => exact ⟨0, Nat.zero_le _, Nat.le_refl _, rfl, Lib.hid (fun j hj => absurd hj (Nat.not_lt_zero j)), HB⟩
            case round =>
              obtain ⟨j, hj, hjk, rfl, HGJ, HBJ⟩ := hrel
              obtain ⟨W1, hW⟩ : ∃ W, W = wr := ⟨_, rfl⟩
              subst hW
              by_cases hjt : j < l.length - 1
              · omega
              · have hr := HR3.out
                rw [firstE_zero (l.length - 1) (fun m hm => HGJ.out m (by omega)), if_neg (by simp)] at hr
                have HR4 := Lib.hid hr
                clear hr HR3
                obtain ⟨ad3, D6, d6, D11, d11, hA3, hcs3, _⟩ := at50 HC.out HBJ.out 0 (by omega)
                obtain rfl := Option.some.inj hA3
                rw [← nAt_get (show 0 < l.length by omega)] at hcs3
                have HC3 := Lib.hid hcs3
                clear hcs3 hA3
                go_wp2
                refine rt19 ad l.length 1 (nAt l 0).f2 _ _ _ _ _ _ _ _ _ _ _ _ _ _ _ _ _ _ _ _ _ _ _ _ _ _ _ _ _ _ _ _ _ _ _ _ _ _ _ _ _ _ _ _ _ _ _ _ _ _ _ _ _ _ _ _ _ _ _ _ _ _ _ _ _ _ (by omega) HC3.out.2.2.1 HC3.out.2.2.2.1 HC3.out.2.2.2.2.1 HC3.out.2.2.2.2.2.1 ?_
                intro w6 t59 t60 t61 t62 t63 hb
                have HB6 := Lib.hid (below_step HBJ.out hb)
                clear hb
                unfold botB at HR4
                generalize (!((nAt l 0).f2.f0 == 0) || (!((nAt l 0).f2.f1 == 0) || (!((nAt l 0).f2.f2 == 3) || !((nAt l 0).f2.f3 == 255)))) = rb at HR4 ⊢
                cases rb with
                | true =>
                  have hr := HR4.out
                  rw [if_pos rfl] at hr
                  subst hr
                  go_wp2
                  go_ret
                  exact ⟨rfl, HB6.out⟩
                | false =>
                  have hr := HR4.out
                  rw [if_neg (by simp)] at hr
                  subst hr
                  go_wp2
                  go_ret
                  exact ⟨rfl, HB6.out⟩
          · have HD := Lib.hid (show Kd.C k50 w (some ⟨ad.block, ad.off + 16, none⟩) (l.drop 1).length (l.drop 1) from by rw [if_neg hc1] at HD0; exact HD0)
            clear HD0
            go_wp2
            go_loopg [48] (l.length - 1) (fun k s48 wr => ∃ j : Nat, j ≤ l.length - 1 ∧ l.length - 1 - j ≤ k ∧ s48 = .int .i64 j ∧ Hid (∀ m, m < j → ck2 l m = 0) ∧ Hid (Below w.heap.size w wr))
            case atStart => exact ⟨0, Nat.zero_le _, Nat.le_refl _, rfl, Lib.hid (fun j hj => absurd hj (Nat.not_lt_zero j)), HB⟩
            case round =>
              obtain ⟨j, hj, hjk, rfl, HGJ, HBJ⟩ := hrel
              obtain ⟨W1, hW⟩ : ∃ W, W = wr := ⟨_, rfl⟩
              subst hW
              by_cases hjt : j < l.length - 1
              · have hjd : j < (l.drop 1).length := by rw [List.length_drop]; exact hjt
                obtain ⟨ad2, B6, e6, B11, e11, hA2, hcs, _⟩ := at50 HD.out HBJ.out j hjd
                obtain rfl := Option.some.inj hA2
                have hnn : (l.drop 1)[j] = nAt l (j + 1) := by rw [nAt_get (show j + 1 < l.length by omega), List.getElem_drop]; congr 1; omega
                have hmem : nAt l (j + 1) ∈ l := by rw [nAt_get (show j + 1 < l.length by omega)]; exact List.getElem_mem _
                rw [hnn] at hcs
                obtain ⟨q, hq⟩ := HPAR.out _ hmem
                have HHG := Lib.hid fun w1 (hb : Below w.heap.size w w1) => hangs_c l (nAt l (j + 1)) (parP (nAt l (j + 1)).f0) (some ad) c B6 B11 e6 e11 w1 (Kd.C_below HC.out hb) hc hn (asc_rising (ck1_asc HGA.out) _) (fun w2 => P.path_Parent.calls (nAt l (j + 1)).f0 _ w2 (by unfold parP; rw [hq]; rfl))
                obtain ⟨y, hy⟩ : ∃ y, ck2 l j = y := ⟨_, rfl⟩
                have HY := Lib.hid hy
                unfold ck2 at hy
                rw [hy] at HHG
                clear hnn hmem hq hy hA2
                generalize nAt l (j + 1) = n at hcs HHG
                have hld0 := rd50_of (loadC50 (P := Tryd.prog) hcs)
                rw [add_none] at hld0
                have hld : (rdS 50 (.pointer (some ⟨ad.block, ad.off + 16 + j * 16, none⟩))).run Tryd.prog W1 = .ok (.agg #[.string n.f0, .bool n.f1, .int .i64 n.f2.f0, .int .i64 n.f2.f1, .int .i64 n.f2.f2, .int .i64 n.f2.f3, .slice B6 n.f3.length e6, .int .i64 n.f4.f0, .int .i64 n.f4.f1, .int .i64 n.f4.f2, .int .i64 n.f4.f3, .slice B11 n.f5.length e11, .int .i64 n.f6.f0, .int .i64 n.f6.f1, .int .i64 n.f6.f2, .int .i64 n.f6.f3]) W1 := hld0
                clear hld0 hcs
                by_cases hy0 : y = 0
                · subst hy0
                  have HG6 := Lib.hid (show ∀ m, m < j + 1 → ck2 l m = 0 from fun m hm => by
                    by_cases h : m = j
                    · rw [h]; exact HY.out
                    · exact HGJ.out m (by omega))
                  go_wp2_with (go_at_call 79; refine (HHG.out _ (below_step HBJ.out (below_alloc (Below.refl W1.heap.size W1) (.cells #[.string n.f0, .bool n.f1, .int .i64 n.f2.f0, .int .i64 n.f2.f1, .int .i64 n.f2.f2, .int .i64 n.f2.f3, .slice B6 n.f3.length e6, .int .i64 n.f4.f0, .int .i64 n.f4.f1, .int .i64 n.f4.f2, .int .i64 n.f4.f3, .slice B11 n.f5.length e11, .int .i64 n.f6.f0, .int .i64 n.f6.f1, .int .i64 n.f6.f2, .int .i64 n.f6.f3] 50)))).mono ?_; rintro e w2 ⟨rfl, hb⟩; have HB2 := Lib.hid (below_step (below_step HBJ.out (below_alloc (Below.refl W1.heap.size W1) (.cells #[.string n.f0, .bool n.f1, .int .i64 n.f2.f0, .int .i64 n.f2.f1, .int .i64 n.f2.f2, .int .i64 n.f2.f3, .slice B6 n.f3.length e6, .int .i64 n.f4.f0, .int .i64 n.f4.f1, .int .i64 n.f4.f2, .int .i64 n.f4.f3, .slice B11 n.f5.length e11, .int .i64 n.f6.f0, .int .i64 n.f6.f1, .int .i64 n.f6.f2, .int .i64 n.f6.f3] 50))) hb); clear hb)
                  go_roundg (l.length - 1 - (j + 1))
                  case measure => omega
                  case rel => exact ⟨j + 1, hjt, Nat.le_refl _, by go_num, HG6, HB2⟩
                · have hy1 : (y != 0) = true := bne_iff_ne.2 hy0
                  have hne : ck2 l j ≠ 0 := by rw [HY.out]; exact hy0
                  have hrr := firstE_hit HGJ.out hne (l.length - 1) hjt
                  have hr := HR3.out
                  rw [hrr, if_pos hne, HY.out] at hr
                  subst hr
                  go_wp2_with (go_at_call 79; refine (HHG.out _ (below_step HBJ.out (below_alloc (Below.refl W1.heap.size W1) (.cells #[.string n.f0, .bool n.f1, .int .i64 n.f2.f0, .int .i64 n.f2.f1, .int .i64 n.f2.f2, .int .i64 n.f2.f3, .slice B6 n.f3.length e6, .int .i64 n.f4.f0, .int .i64 n.f4.f1, .int .i64 n.f4.f2, .int .i64 n.f4.f3, .slice B11 n.f5.length e11, .int .i64 n.f6.f0, .int .i64 n.f6.f1, .int .i64 n.f6.f2, .int .i64 n.f6.f3] 50)))).mono ?_; rintro e w2 ⟨rfl, hb⟩; have HB2 := Lib.hid (below_step (below_step HBJ.out (below_alloc (Below.refl W1.heap.size W1) (.cells #[.string n.f0, .bool n.f1, .int .i64 n.f2.f0, .int .i64 n.f2.f1, .int .i64 n.f2.f2, .int .i64 n.f2.f3, .slice B6 n.f3.length e6, .int .i64 n.f4.f0, .int .i64 n.f4.f1, .int .i64 n.f4.f2, .int .i64 n.f4.f3, .slice B11 n.f5.length e11, .int .i64 n.f6.f0, .int .i64 n.f6.f1, .int .i64 n.f6.f2, .int .i64 n.f6.f3] 50))) hb); clear hb)
                  go_ret
                  exact ⟨rfl, HB2.out⟩
              · have hr := HR3.out
                rw [firstE_zero (l.length - 1) (fun m hm => HGJ.out m (by omega)), if_neg (by simp)] at hr
                have HR4 := Lib.hid hr
                clear hr HR3
                obtain ⟨ad3, D6, d6, D11, d11, hA3, hcs3, _⟩ := at50 HC.out HBJ.out 0 (by omega)
                obtain rfl := Option.some.inj hA3
                rw [← nAt_get (show 0 < l.length by omega)] at hcs3
                have HC3 := Lib.hid hcs3
                clear hcs3 hA3
                go_wp2
                refine rt19 ad l.length c (nAt l 0).f2 _ _ _ _ _ _ _ _ _ _ _ _ _ _ _ _ _ _ _ _ _ _ _ _ _ _ _ _ _ _ _ _ _ _ _ _ _ _ _ _ _ _ _ _ _ _ _ _ _ _ _ _ _ _ _ _ _ _ _ _ _ _ _ _ _ _ (by omega) HC3.out.2.2.1 HC3.out.2.2.2.1 HC3.out.2.2.2.2.1 HC3.out.2.2.2.2.2.1 ?_
                intro w6 t59 t60 t61 t62 t63 hb
                have HB6 := Lib.hid (below_step HBJ.out hb)
                clear hb
                unfold botB at HR4
                generalize (!((nAt l 0).f2.f0 == 0) || (!((nAt l 0).f2.f1 == 0) || (!((nAt l 0).f2.f2 == 3) || !((nAt l 0).f2.f3 == 255)))) = rb at HR4 ⊢
                cases rb with
                | true =>
                  have hr := HR4.out
                  rw [if_pos rfl] at hr
                  subst hr
                  go_wp2
                  go_ret
                  exact ⟨rfl, HB6.out⟩
                | false =>
                  have hr := HR4.out
                  rw [if_neg (by simp)] at hr
                  subst hr
                  go_wp2
                  go_ret
                  exact ⟨rfl, HB6.out⟩
        · have hr := HR2.out
          rw [if_pos (Or.inr hroot)] at hr
          subst hr
          have hl2 : ((l.length : Int) == 0) = false := beq_eq_false_iff_ne.2 (by omega)
          have hr1 : ((nAt l 0).f0.toList == ([47] : List UInt8)) = false := beq_eq_false_iff_ne.2 hroot
          go_wp2
          go_ret
          exact ⟨rfl, HB.out⟩
end Go.Proofs.YtmndeoncbocplaaDoor.C
end
section
set_option linter.unusedVariables false
set_option linter.unusedSimpArgs false
namespace Go.Proofs.YtmndeoncbocplaaDoor.C
open Go.RowKit Go.Proofs.YtmndeoncbocplaaDoor.Q Go.Proofs.YtmndeoncbocplaaDoorW.PrintWords Go.Proofs.YtmndeoncbocplaaDoorW.PrintLast Go.Proofs.YtmndeoncbocplaaDoorW.PrintMore
attribute [local go_sem ↓] rd_at50 wr_at50 al_at50
attribute [local go_sem] rd50_new wr50_new al50
theorem who_nm (k : Nat) (h : k < 5) : whoB (nmA k) = true := by
  have : k = 0 ∨ k = 1 ∨ k = 2 ∨ k = 3 ∨ k = 4 := by omega
  rcases this with rfl | rfl | rfl | rfl | rfl <;> rfl
theorem gAt_get {l : List S96} {i : Nat} (h : i < l.length) : gAt l i = l[i] := by
  unfold gAt rd_T96
  simp [List.getD_eq_getElem?_getD, List.getElem?_eq_getElem h]
theorem acl_zero {xs : List S96} (h : AclOk xs) : aclN xs = 0 := by
  have hl := acl_len h
  have ha := acl_asc h
  unfold aclN
  rw [if_neg (by omega), if_neg]
  rintro ⟨i, hi, hb⟩
  have hm : xs[i] ∈ xs := List.getElem_mem hi
  obtain ⟨ks, _, h2, h3, h4, _⟩ := h
  obtain ⟨m1, m7⟩ := h4 _ hm
  have hw : whoB (xs[i]).f0 = true := by
    have hx : (xs[i]).f0 ∈ ks.map nmA := by rw [← h3]; exact List.mem_map_of_mem hm
    obtain ⟨k, hk, he⟩ := List.mem_map.1 hx
    rw [← he]
    exact who_nm k (h2 k hk)
  unfold badAt badM at hb
  rw [gAt_get hi] at hb
  have d1 : decide ((xs[i]).f1 < 1) = false := decide_eq_false (by omega)
  have d7 : decide (7 < (xs[i]).f1) = false := decide_eq_false (by omega)
  rw [hw, d1, d7] at hb
  by_cases h0 : 0 < i
  · rw [if_pos h0, gAt_get (show i - 1 < xs.length by omega)] at hb
    have hlt : Op.bytesLess (xs[i - 1]).f0.toList (xs[i]).f0.toList = true := List.pairwise_iff_getElem.1 ha (i - 1) i (by omega) hi (by omega)
    rw [hlt] at hb
    simp at hb
  · rw [if_neg h0] at hb
    simp at hb
theorem lab_zero {a : S41} (h : Lab a) : labN a = 0 := by
  obtain ⟨⟨h1, h2⟩, ⟨h3, h4⟩, ⟨h5, h6⟩, h7, h8⟩ := h
  unfold labN
  rw [if_pos ⟨h1, h2, h5, h6, h3, h4, h7, h8⟩]
theorem pe_zero {ns : List (List UInt8)} (h : Okp ns) : peN (pth ns) = 0 := by
  unfold peN
  rw [pth_data]
  exact h.2
theorem okp_head {ns : List (List UInt8)} (h : Okp ns) : ∃ r, L.render ns = 47 :: r := by
  have hc := h.2
  generalize L.render ns = l at hc
  unfold L.checkL at hc
  split at hc
  · exact absurd hc (by decide)
  · split at hc
    · rename_i h1; exact ⟨[], h1⟩
    · split at hc
      · exact absurd hc (by decide)
      · split at hc
        · exact absurd hc (by decide)
        · rename_i c t _ _ hne
          have : c = 47 := Decidable.not_not.1 hne
          exact ⟨t, by rw [this]⟩
theorem pth_nil : (pth []).toList = [47] := by rw [Lib.toList_data, pth_data]; rfl
theorem tree_mem {t : List S50} {i : Nat} (h : i < t.length) : nAt t i ∈ t := by rw [nAt_get h]; exact List.getElem_mem h
theorem tree_lt {t : List S50} (T : Tree t) {i j : Nat} (hij : i < j) (hj : j < t.length) : less (nAt t i).f0 (nAt t j).f0 = true := by
  rw [nAt_get hj, nAt_get (show i < t.length by omega)]
  exact List.pairwise_iff_getElem.1 T.asc i j (by omega) hj hij
theorem tree_head {t : List S50} (T : Tree t) : (nAt t 0).f0 = pth [] ∧ (nAt t 0).f2 = botS := by
  obtain ⟨n, hn, h0, _, h2⟩ := T.root
  obtain ⟨k, hk, rfl⟩ := List.getElem_of_mem hn
  by_cases hk0 : k = 0
  · subst hk0
    rw [nAt_get hk]
    exact ⟨h0, h2⟩
  · have hlt := tree_lt T (show 0 < k by omega) hk
    rw [nAt_get hk, h0] at hlt
    obtain ⟨ns, hok, hp⟩ := tree_path T (tree_mem (show 0 < t.length by omega))
    obtain ⟨r, hr⟩ := okp_head hok
    unfold less at hlt
    rw [hp, pth_nil, Lib.toList_data, pth_data, hr] at hlt
    have hz : Op.bytesLess (47 :: r) [47] = false := by cases r <;> simp [Op.bytesLess]
    rw [hz] at hlt
    exact Bool.noConfusion hlt
theorem node_zero {t : List S50} (T : Tree t) {n : S50} (hn : n ∈ t) : ndN (peN n.f0) n = 0 := by
  obtain ⟨ns, hok, hp⟩ := tree_path T hn
  obtain ⟨h1, h2, h3, h4, h5, h6⟩ := T.ok n hn
  unfold ndN
  rw [hp, pe_zero hok, lab_zero h1, lab_zero h2, acl_zero h3]
  rw [if_neg (by simp [first4])]
  by_cases hd : n.f1 = true
  · obtain ⟨hw, hr⟩ := h5 hd
    rw [if_neg (fun h => by rw [hd] at h; exact Bool.noConfusion h.2), if_pos hd, hw, hr]
    rfl
  · rw [if_neg, if_neg hd, if_neg, if_neg (by omega)]
    · have : ringN n.f4 = 0 := by unfold ringN; rw [if_pos (by omega)]
      simpa using this
    · rintro ⟨hroot, _⟩
      obtain ⟨k, hk, rfl⟩ := List.getElem_of_mem hn
      have hh := tree_head T
      obtain ⟨m, hm, m0, m1, _⟩ := T.root
      have e1 : pth ns = pth [] := bytes_of_toList (hroot.trans pth_nil.symm)
      have i1 := (is_at T.asc hn).2
      have i2 := (is_at T.asc hm).2
      rw [hp, e1, ← m0, i2] at i1
      rw [← i1] at hd
      exact hd m1
theorem tree_check {t : List S50} (T : Tree t) : checkT t = 0 := by
  have hne := tree_ne T
  obtain ⟨hh0, hh2⟩ := tree_head T
  unfold checkT
  have h1 : firstE (ck1 t) t.length = 0 := firstE_zero _ fun j hj => by
    unfold ck1
    rw [node_zero T (tree_mem hj), if_neg (by simp), if_neg]
    rintro ⟨h0, hb⟩
    have := tree_lt T (show j - 1 < j by omega) hj
    unfold less at this
    rw [this] at hb
    exact Bool.noConfusion hb
  have h2 : firstE (ck2 t) (t.length - 1) = 0 := firstE_zero _ fun j hj => by
    have hj1 : j + 1 < t.length := by omega
    have hm := tree_mem hj1
    obtain ⟨ns, hok, hp, hup⟩ := T.up _ hm
    have hlt := tree_lt T (show 0 < j + 1 by omega) hj1
    have hns : ns ≠ [] := by
      intro h
      rw [h] at hp
      rw [hh0, hp, less_irr] at hlt
      exact Bool.noConfusion hlt
    obtain ⟨d, hd, d0, d1, dl, ds⟩ := hup hns
    obtain ⟨i1, i2⟩ := is_at T.asc hd
    have hpar : parP (nAt t (j + 1)).f0 = d.f0 := by unfold parP; rw [hp, pparent_f hok hns, d0]; rfl
    unfold ck2 hangN
    rw [hpar, if_pos i1, i2, if_pos d1, dl]
    cases hf : (nAt t (j + 1)).f1 with
    | true => simp
    | false =>
      have he := ds hf
      have : eqL (nAt t (j + 1)).f2 d = true := by unfold eqL; rw [he]; simp
      rw [this]
      simp
  rw [h1, if_neg (by simp), if_neg, h2, if_neg (by simp), hh2]
  · rfl
  · intro h
    rcases h with h | h
    · omega
    · exact h (by rw [hh0]; exact pth_nil)
theorem tree_par {t : List S50} (T : Tree t) : ∀ n ∈ t, ∃ q, P.path_Parent.f n.f0 = some q := by
  intro n hn
  obtain ⟨ns, hok, hp⟩ := tree_path T hn
  have hz := check_len hok.2
  exact ⟨_, by rw [hp]; exact P.parent_f (pth ns) (by rw [pth_size]; omega) ns (pth_data ns) hok.1⟩
theorem treecheck_t {t : List S50} (T : Tree t) (A : Option Addr) (c : Nat) (w : World) (hC : Kd.C k50 w A t.length t) (hc : t.length ≤ c) :
    Calls Tryd.prog 49 #[.slice A t.length c] w fun e w' => e = .returned (.int .i64 0) ∧ Below w.heap.size w w' := by
  have h := treecheck_c t A c w hC hc (by have := T.len; omega) (tree_par T)
  rw [tree_check T] at h
  exact h
end Go.Proofs.YtmndeoncbocplaaDoor.C
end
