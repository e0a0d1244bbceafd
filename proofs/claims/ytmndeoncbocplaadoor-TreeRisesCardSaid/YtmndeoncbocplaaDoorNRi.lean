/- TreeRises: along each path of a tree labels rise: the walk. -/
import Derived.Test.YtmndeoncbocplaaDoorNT3
import Derived.Test.YtmndeoncbocplaaDoorNK
import Derived.Test.YtmndeoncbocplaaDoorNS
import Derived.Deep.RegionHeldLaw
import Derived.Deep.RegionHeld3
import Derived.Deep.LoopGhost
set_option linter.unusedVariables false
set_option linter.unusedSimpArgs false
section
set_option linter.unusedVariables false
set_option linter.unusedSimpArgs false
namespace Go.Proofs.YtmndeoncbocplaaDoor.C
open Go.RowKit Go.Proofs.YtmndeoncbocplaaDoor.Q Go.Proofs.YtmndeoncbocplaaDoorW.PrintWords Go.Proofs.YtmndeoncbocplaaDoorW.PrintLast Go.Proofs.YtmndeoncbocplaaDoorW.PrintMore
attribute [local go_sem ↓] rd_at50 wr_at50 al_at50
attribute [local go_sem] rd50_new wr50_new al50
set_option maxHeartbeats 4000000 in
set_option maxRecDepth 1000000 in
theorem rr13 (y0 y6 y7 y8 y9 y10 y11 y12 y13 y14 y15 : Value) (ad : Addr) (n c i g : Nat) (a d : S41) (u0 u1 u2 u3 u4 u7 u10 u11 u12 u13 u14 u15 u16 u17 u18 u19 u20 u21 u22 u23 u24 u25 u26 u27 u28 u29 u30 u31 u32 u33 u34 u35 u36 u37 u38 u39 u40 u41 u42 u43 u44 u45 u46 u47 u48 u49 u50 u51 u52 u53 u54 u55 u56 u57 : Value) (W : World) (Q : Exit → Act → World → Prop)
    (hi : i < n) (h1 : W.heap[g]? = some (.cells #[y0, .bool true, .int .i64 d.f0, .int .i64 d.f1, .int .i64 d.f2, .int .i64 d.f3, y6, y7, y8, y9, y10, y11, y12, y13, y14, y15] 50 (0, 0)))
    (he0 : W.cell? ⟨(ad.add (i * 16)).block, (ad.add (i * 16)).off + 2, none⟩ = some (.int .i64 a.f0)) (he1 : W.cell? ⟨(ad.add (i * 16)).block, (ad.add (i * 16)).off + 3, none⟩ = some (.int .i64 a.f1)) (he2 : W.cell? ⟨(ad.add (i * 16)).block, (ad.add (i * 16)).off + 4, none⟩ = some (.int .i64 a.f2)) (he3 : W.cell? ⟨(ad.add (i * 16)).block, (ad.add (i * 16)).off + 5, none⟩ = some (.int .i64 a.f3))
    (hov : ∀ w1 : World, Calls Tryd.prog 37 #[.agg #[.int .i64 a.f0, .int .i64 a.f1, .int .i64 a.f2, .int .i64 a.f3], .agg #[.int .i64 d.f0, .int .i64 d.f1, .int .i64 d.f2, .int .i64 d.f3]] w1 fun e w' => e = .returned (.bool true) ∧ Below w1.heap.size w1 w')
    (hpost : ∀ (w' : World) (t40 t41 t42 t43 t44 t45 t46 t47 t48 t49 t50 t51 t52 t53 t54 t55 t56 : Value), Below W.heap.size W w' → Q .normal ⟨#[u0, u1, u2, u3, u4, .slice (some ad) n c, .int .i64 (i : Int), u7, .pointer (some ⟨g, 0, none⟩), .bool true, u10, u11, u12, u13, u14, u15, u16, u17, u18, u19, u20, u21, u22, u23, u24, u25, u26, u27, u28, u29, u30, u31, u32, u33, u34, u35, u36, u37, u38, u39, t40, t41, t42, t43, t44, t45, t46, t47, t48, t49, t50, t51, t52, t53, t54, t55, t56, .bool false], []⟩ w') :
    Code.wp Tryd.prog (cReg Tryd.f17 13) Q ⟨#[u0, u1, u2, u3, u4, .slice (some ad) n c, .int .i64 (i : Int), u7, .pointer (some ⟨g, 0, none⟩), .bool true, u10, u11, u12, u13, u14, u15, u16, u17, u18, u19, u20, u21, u22, u23, u24, u25, u26, u27, u28, u29, u30, u31, u32, u33, u34, u35, u36, u37, u38, u39, u40, u41, u42, u43, u44, u45, u46, u47, u48, u49, u50, u51, u52, u53, u54, u55, u56, u57], []⟩ W := by
  have EG := Lib.hid h1
  have E0 := Lib.hid he0
  have E1 := Lib.hid he1
  have E2 := Lib.hid he2
  have E3 := Lib.hid he3
  have HOV := Lib.hid hov
  have HPO := Lib.hid hpost
  clear h1 he0 he1 he2 he3 hov hpost
  have HB := Lib.hid (below_drew1 (Below.refl W.heap.size W))
  have k1 := (blk_cell (blk_below EG.out (Below.refl W.heap.size W)) 1).trans rfl
  have k2 := (blk_cell (blk_below EG.out (Below.refl W.heap.size W)) 2).trans rfl
  have k3 := (blk_cell (blk_below EG.out (Below.refl W.heap.size W)) 3).trans rfl
  have k4 := (blk_cell (blk_below EG.out (Below.refl W.heap.size W)) 4).trans rfl
  have k5 := (blk_cell (blk_below EG.out (Below.refl W.heap.size W)) 5).trans rfl
  have e0 := pw_cell_below (Below.refl W.heap.size W) E0.out
  have e1 := pw_cell_below (Below.refl W.heap.size W) E1.out
  have e2 := pw_cell_below (Below.refl W.heap.size W) E2.out
  have e3 := pw_cell_below (Below.refl W.heap.size W) E3.out
  conv => arg 2; whnf
  refine wp_region_noPanic ?_
  refine wp_region_held_drew (S := fun W1 => W1.cell? ⟨g, 1, none⟩ = some (.bool true) ∧ W1.cell? ⟨g, 2, none⟩ = some (.int .i64 d.f0) ∧ W1.cell? ⟨g, 3, none⟩ = some (.int .i64 d.f1) ∧ W1.cell? ⟨g, 4, none⟩ = some (.int .i64 d.f2) ∧ W1.cell? ⟨g, 5, none⟩ = some (.int .i64 d.f3) ∧ W1.cell? ⟨(ad.add (i * 16)).block, (ad.add (i * 16)).off + 2, none⟩ = some (.int .i64 a.f0) ∧ W1.cell? ⟨(ad.add (i * 16)).block, (ad.add (i * 16)).off + 3, none⟩ = some (.int .i64 a.f1) ∧ W1.cell? ⟨(ad.add (i * 16)).block, (ad.add (i * 16)).off + 4, none⟩ = some (.int .i64 a.f2) ∧ W1.cell? ⟨(ad.add (i * 16)).block, (ad.add (i * 16)).off + 5, none⟩ = some (.int .i64 a.f3)) (by kernel_rfl) ?_ (fun hHeld => ?_)
  focus ((try dsimp only); go_keep)
  first
    | (refine take_at 0 40 (v := ?_) rfl rfl (by kernel_rfl) (by kernel_rfl) (by kernel_rfl) (fun _ _ _ h => h) (Or.inl ⟨by rfl, ?_⟩) (by assumption) ?_; rotate_left; focus (intro w hSw; (try dsimp only at hSw); go_simp; try with_reducible rfl))
    | (refine take_at 0 40 (v := undef) rfl rfl (by kernel_rfl) (by kernel_rfl) (by kernel_rfl) (fun _ _ _ h => h) (Or.inr ⟨by rfl, rfl⟩) (by assumption) ?_)
  try simp only [Act.put, List.setIfInBounds_toArray, List.set_cons_zero, List.set_cons_succ]
  first
    | (refine take_at 1 41 (v := ?_) rfl rfl (by kernel_rfl) (by kernel_rfl) (by kernel_rfl) (fun _ _ _ h => h) (Or.inl ⟨by rfl, ?_⟩) (by assumption) ?_; rotate_left; focus (intro w hSw; (try dsimp only at hSw); go_simp; try with_reducible rfl))
    | (refine take_at 1 41 (v := undef) rfl rfl (by kernel_rfl) (by kernel_rfl) (by kernel_rfl) (fun _ _ _ h => h) (Or.inr ⟨by rfl, rfl⟩) (by assumption) ?_)
  try simp only [Act.put, List.setIfInBounds_toArray, List.set_cons_zero, List.set_cons_succ]
  first
    | (refine take_at 2 42 (v := ?_) rfl rfl (by kernel_rfl) (by kernel_rfl) (by kernel_rfl) (fun _ _ _ h => h) (Or.inl ⟨by rfl, ?_⟩) (by assumption) ?_; rotate_left; focus (intro w hSw; (try dsimp only at hSw); go_simp; try with_reducible rfl))
    | (refine take_at 2 42 (v := undef) rfl rfl (by kernel_rfl) (by kernel_rfl) (by kernel_rfl) (fun _ _ _ h => h) (Or.inr ⟨by rfl, rfl⟩) (by assumption) ?_)
  try simp only [Act.put, List.setIfInBounds_toArray, List.set_cons_zero, List.set_cons_succ]
  first
    | (refine take_at 3 43 (v := ?_) rfl rfl (by kernel_rfl) (by kernel_rfl) (by kernel_rfl) (fun _ _ _ h => h) (Or.inl ⟨by rfl, ?_⟩) (by assumption) ?_; rotate_left; focus (intro w hSw; (try dsimp only at hSw); go_simp; try with_reducible rfl))
    | (refine take_at 3 43 (v := undef) rfl rfl (by kernel_rfl) (by kernel_rfl) (by kernel_rfl) (fun _ _ _ h => h) (Or.inr ⟨by rfl, rfl⟩) (by assumption) ?_)
  try simp only [Act.put, List.setIfInBounds_toArray, List.set_cons_zero, List.set_cons_succ]
  first
    | (refine take_at 4 44 (v := ?_) rfl rfl (by kernel_rfl) (by kernel_rfl) (by kernel_rfl) (fun _ _ _ h => h) (Or.inl ⟨by rfl, ?_⟩) (by assumption) ?_; rotate_left; focus (intro w hSw; (try dsimp only at hSw); go_simp; try with_reducible rfl))
    | (refine take_at 4 44 (v := undef) rfl rfl (by kernel_rfl) (by kernel_rfl) (by kernel_rfl) (fun _ _ _ h => h) (Or.inr ⟨by rfl, rfl⟩) (by assumption) ?_)
  try simp only [Act.put, List.setIfInBounds_toArray, List.set_cons_zero, List.set_cons_succ]
  first
    | (refine take_at 5 45 (v := ?_) rfl rfl (by kernel_rfl) (by kernel_rfl) (by kernel_rfl) (fun _ _ _ h => h) (Or.inl ⟨by rfl, ?_⟩) (by assumption) ?_; rotate_left; focus (intro w hSw; (try dsimp only at hSw); go_simp; try with_reducible rfl))
    | (refine take_at 5 45 (v := undef) rfl rfl (by kernel_rfl) (by kernel_rfl) (by kernel_rfl) (fun _ _ _ h => h) (Or.inr ⟨by rfl, rfl⟩) (by assumption) ?_)
  try simp only [Act.put, List.setIfInBounds_toArray, List.set_cons_zero, List.set_cons_succ]
  first
    | (refine take_at 6 46 (v := ?_) rfl rfl (by kernel_rfl) (by kernel_rfl) (by kernel_rfl) (fun _ _ _ h => h) (Or.inl ⟨by rfl, ?_⟩) (by assumption) ?_; rotate_left; focus (intro w hSw; (try dsimp only at hSw); go_simp; try with_reducible rfl))
    | (refine take_at 6 46 (v := undef) rfl rfl (by kernel_rfl) (by kernel_rfl) (by kernel_rfl) (fun _ _ _ h => h) (Or.inr ⟨by rfl, rfl⟩) (by assumption) ?_)
  try simp only [Act.put, List.setIfInBounds_toArray, List.set_cons_zero, List.set_cons_succ]
  first
    | (refine take_at 7 47 (v := ?_) rfl rfl (by kernel_rfl) (by kernel_rfl) (by kernel_rfl) (fun _ _ _ h => h) (Or.inl ⟨by rfl, ?_⟩) (by assumption) ?_; rotate_left; focus (intro w hSw; (try dsimp only at hSw); go_simp; try with_reducible rfl))
    | (refine take_at 7 47 (v := undef) rfl rfl (by kernel_rfl) (by kernel_rfl) (by kernel_rfl) (fun _ _ _ h => h) (Or.inr ⟨by rfl, rfl⟩) (by assumption) ?_)
  try simp only [Act.put, List.setIfInBounds_toArray, List.set_cons_zero, List.set_cons_succ]
  first
    | (refine take_at 8 48 (v := ?_) rfl rfl (by kernel_rfl) (by kernel_rfl) (by kernel_rfl) (fun _ _ _ h => h) (Or.inl ⟨by rfl, ?_⟩) (by assumption) ?_; rotate_left; focus (intro w hSw; (try dsimp only at hSw); go_simp; try with_reducible rfl))
    | (refine take_at 8 48 (v := undef) rfl rfl (by kernel_rfl) (by kernel_rfl) (by kernel_rfl) (fun _ _ _ h => h) (Or.inr ⟨by rfl, rfl⟩) (by assumption) ?_)
  try simp only [Act.put, List.setIfInBounds_toArray, List.set_cons_zero, List.set_cons_succ]
  first
    | (refine take_at 9 49 (v := ?_) rfl rfl (by kernel_rfl) (by kernel_rfl) (by kernel_rfl) (fun _ _ _ h => h) (Or.inl ⟨by rfl, ?_⟩) (by assumption) ?_; rotate_left; focus (intro w hSw; (try dsimp only at hSw); go_simp; try with_reducible rfl))
    | (refine take_at 9 49 (v := undef) rfl rfl (by kernel_rfl) (by kernel_rfl) (by kernel_rfl) (fun _ _ _ h => h) (Or.inr ⟨by rfl, rfl⟩) (by assumption) ?_)
  try simp only [Act.put, List.setIfInBounds_toArray, List.set_cons_zero, List.set_cons_succ]
  first
    | (refine take_at 10 50 (v := ?_) rfl rfl (by kernel_rfl) (by kernel_rfl) (by kernel_rfl) (fun _ _ _ h => h) (Or.inl ⟨by rfl, ?_⟩) (by assumption) ?_; rotate_left; focus (intro w hSw; (try dsimp only at hSw); go_simp; try with_reducible rfl))
    | (refine take_at 10 50 (v := undef) rfl rfl (by kernel_rfl) (by kernel_rfl) (by kernel_rfl) (fun _ _ _ h => h) (Or.inr ⟨by rfl, rfl⟩) (by assumption) ?_)
  try simp only [Act.put, List.setIfInBounds_toArray, List.set_cons_zero, List.set_cons_succ]
  first
    | (refine take_at 11 51 (v := ?_) rfl rfl (by kernel_rfl) (by kernel_rfl) (by kernel_rfl) (fun _ _ _ h => h) (Or.inl ⟨by rfl, ?_⟩) (by assumption) ?_; rotate_left; focus (intro w hSw; (try dsimp only at hSw); go_simp; try with_reducible rfl))
    | (refine take_at 11 51 (v := undef) rfl rfl (by kernel_rfl) (by kernel_rfl) (by kernel_rfl) (fun _ _ _ h => h) (Or.inr ⟨by rfl, rfl⟩) (by assumption) ?_)
  try simp only [Act.put, List.setIfInBounds_toArray, List.set_cons_zero, List.set_cons_succ]
  first
    | (refine take_at 12 52 (v := ?_) rfl rfl (by kernel_rfl) (by kernel_rfl) (by kernel_rfl) (fun _ _ _ h => h) (Or.inl ⟨by rfl, ?_⟩) (by assumption) ?_; rotate_left; focus (intro w hSw; (try dsimp only at hSw); go_simp; try with_reducible rfl))
    | (refine take_at 12 52 (v := undef) rfl rfl (by kernel_rfl) (by kernel_rfl) (by kernel_rfl) (fun _ _ _ h => h) (Or.inr ⟨by rfl, rfl⟩) (by assumption) ?_)
  try simp only [Act.put, List.setIfInBounds_toArray, List.set_cons_zero, List.set_cons_succ]
  first
    | (refine take_at 13 53 (v := ?_) rfl rfl (by kernel_rfl) (by kernel_rfl) (by kernel_rfl) (fun _ _ _ h => h) (Or.inl ⟨by rfl, ?_⟩) (by assumption) ?_; rotate_left; focus (intro w hSw; (try dsimp only at hSw); go_simp; try with_reducible rfl))
    | (refine take_at 13 53 (v := undef) rfl rfl (by kernel_rfl) (by kernel_rfl) (by kernel_rfl) (fun _ _ _ h => h) (Or.inr ⟨by rfl, rfl⟩) (by assumption) ?_)
  try simp only [Act.put, List.setIfInBounds_toArray, List.set_cons_zero, List.set_cons_succ]
  first
    | (refine take_at 14 54 (v := ?_) rfl rfl (by kernel_rfl) (by kernel_rfl) (by kernel_rfl) (fun _ _ _ h => h) (Or.inl ⟨by rfl, ?_⟩) (by assumption) ?_; rotate_left; focus (intro w hSw; (try dsimp only at hSw); go_simp; try with_reducible rfl))
    | (refine take_at 14 54 (v := undef) rfl rfl (by kernel_rfl) (by kernel_rfl) (by kernel_rfl) (fun _ _ _ h => h) (Or.inr ⟨by rfl, rfl⟩) (by assumption) ?_)
  try simp only [Act.put, List.setIfInBounds_toArray, List.set_cons_zero, List.set_cons_succ]
  refine wpAnyH_ready (rs := [15]) (by kernel_rfl) (by simp) ?_
  refine AllReadyH.cons rfl (fun K hK => ?_) AllReadyH.nil
  go_simp
  go_wp2_with ((go_at_call 37; (refine (HOV.out _).mono ?_; rintro e w5 ⟨rfl, hb⟩; have HB := Lib.hid (below_step HB.out hb); have k1 := (blk_cell (blk_below EG.out HB.out) 1).trans rfl; have k2 := (blk_cell (blk_below EG.out HB.out) 2).trans rfl; have k3 := (blk_cell (blk_below EG.out HB.out) 3).trans rfl; have k4 := (blk_cell (blk_below EG.out HB.out) 4).trans rfl; have k5 := (blk_cell (blk_below EG.out HB.out) 5).trans rfl; have e0 := pw_cell_below HB.out E0.out; have e1 := pw_cell_below HB.out E1.out; have e2 := pw_cell_below HB.out E2.out; have e3 := pw_cell_below HB.out E3.out; clear hb)))
  refine hK.out _ _ ?_ (fun hHeld => ?_)
  focus ((try dsimp only); go_keep)
  clear hK K
  first
    | (refine take_at 16 56 (v := ?_) rfl rfl (by kernel_rfl) (by kernel_rfl) (by kernel_rfl) (fun _ _ _ h => h) (Or.inl ⟨by rfl, ?_⟩) (by assumption) ?_; rotate_left; focus (intro w hSw; (try dsimp only at hSw); go_simp; try with_reducible rfl))
    | (refine take_at 16 56 (v := undef) rfl rfl (by kernel_rfl) (by kernel_rfl) (by kernel_rfl) (fun _ _ _ h => h) (Or.inr ⟨by rfl, rfl⟩) (by assumption) ?_)
  try simp only [Act.put, List.setIfInBounds_toArray, List.set_cons_zero, List.set_cons_succ]
  first
    | (refine take_at 17 57 (v := ?_) rfl rfl (by kernel_rfl) (by kernel_rfl) (by kernel_rfl) (fun _ _ _ h => h) (Or.inl ⟨by rfl, ?_⟩) (by assumption) ?_; rotate_left; focus (intro w hSw; (try dsimp only at hSw); go_simp; try with_reducible rfl))
    | (refine take_at 17 57 (v := undef) rfl rfl (by kernel_rfl) (by kernel_rfl) (by kernel_rfl) (fun _ _ _ h => h) (Or.inr ⟨by rfl, rfl⟩) (by assumption) ?_)
  try simp only [Act.put, List.setIfInBounds_toArray, List.set_cons_zero, List.set_cons_succ]
  refine wpAnyH_done (by kernel_rfl) ?_ _
  refine NoPanic.normal ?_
  exact HPO.out _ _ _ _ _ _ _ _ _ _ _ _ _ _ _ _ _ _ HB.out
theorem tfind_d {t : List S50} (T : Tree t) {dn : S50} (hd : dn ∈ t) (A : Option Addr) (c : Nat) (w : World) (hC : Kd.C k50 w A t.length t) (hc : t.length ≤ c) :
    Calls Tryd.prog 53 #[.slice A t.length c, .string dn.f0] w fun e w' => ∃ D6 d6 D11 d11, e = .returned (.tuple #[.agg #[.string dn.f0, .bool dn.f1, .int .i64 dn.f2.f0, .int .i64 dn.f2.f1, .int .i64 dn.f2.f2, .int .i64 dn.f2.f3, .slice D6 dn.f3.length d6, .int .i64 dn.f4.f0, .int .i64 dn.f4.f1, .int .i64 dn.f4.f2, .int .i64 dn.f4.f3, .slice D11 dn.f5.length d11, .int .i64 dn.f6.f0, .int .i64 dn.f6.f1, .int .i64 dn.f6.f2, .int .i64 dn.f6.f3], .bool true]) ∧ Below w.heap.size w w' := by
  obtain ⟨i1, i2⟩ := is_at T.asc hd
  obtain ⟨s1, s2, s3⟩ := tree_srch T
  refine (tfind t dn.f0 A c w hC hc (by have := T.len; omega) (s2 _) s3).mono ?_
  rintro e w' ⟨cs, rfl, hK, hb⟩
  rw [i2] at hK
  rw [i1]
  obtain ⟨D6, d6, D11, d11, rfl, _⟩ := k50_open (Kd.FK_now hK)
  exact ⟨D6, d6, D11, d11, rfl, hb⟩
set_option maxHeartbeats 4000000 in
set_option maxRecDepth 100000 in
theorem rises_c (terms : List S41) (makes : List S80) (A B : Option Addr) (c d : Nat) (w : World) (hC : Kd.C k41 w A terms.length terms) (hc : terms.length ≤ c) (hD : Kd.C k80 w B makes.length makes) (hd : makes.length ≤ d) :
    Calls Tryd.prog 17 #[.slice A terms.length c, .slice B makes.length d] w fun e w' => e = .returned (.bool true) ∧ Below w.heap.size w w' := by
  have HG := Lib.hid fun w1 (hb : Below w.heap.size w w1) => grow_c terms makes A B c d w1 (Kd.C_below hC hb) hc (Kd.C_below hD hb) hd
  clear hC hD
  go_enter Tryd.func17, Tryd.ntmps17
  go_wp2_with (first | (go_at_call 49; have hg := HB2.out; clear hg; refine (treecheck_t HT.out _ _ _ HC.out hl).mono ?_; rintro e w3 ⟨rfl, hb⟩; have HCV := Lib.hid (Kd.C_below HC.out hb); have HBV := Lib.hid (below_step HB2.out hb); clear hb) | (go_at_call 32; have hg := HB1.out; clear hg; refine (HG.out _ HB1.out).mono ?_; rintro e w2 ⟨Ag, tt, cg, rfl, hT, hl, hCt, hb⟩; have HT := Lib.hid hT; have HC := Lib.hid hCt; have HB2 := Lib.hid (below_step HB1.out hb); clear hb hT hCt) | (go_at_call 48; refine (known11_c _).mono ?_; rintro e w1 ⟨rfl, hb⟩; have HB1 := Lib.hid hb; clear hb))
  obtain ⟨V, hV⟩ : ∃ V, V = w3 := ⟨_, rfl⟩
  subst hV
  clear HC HB2 HB1 HG
  go_loopg [6] tt.length (fun k s6 wr => ∃ i : Nat, i ≤ tt.length ∧ tt.length - i ≤ k ∧ s6 = .int .i64 i ∧ Hid (Below V.heap.size V wr))
  case atStart => exact ⟨0, Nat.zero_le _, Nat.le_refl _, rfl, Lib.hid (Below.refl _ _)⟩
  case round =>
    obtain ⟨i, hi, hik, rfl, HV⟩ := hrel
    have htl := HT.out.len
    by_cases hlt : i < tt.length
    · obtain ⟨W0, hW⟩ : ∃ W, W = wr := ⟨_, rfl⟩
      subst hW
      obtain ⟨ad, B6, e6, B11, e11, hA, hcs, _⟩ := at50 HCV.out HV.out i hlt
      subst hA
      have hp0 := hcs.1
      have HCS := Lib.hid hcs
      have HM := Lib.hid (List.getElem_mem (l := tt) (n := i) hlt)
      clear hcs
      generalize (tt[i]'hlt) = n at hp0 HCS HM
      obtain ⟨ns, hok, hp⟩ := tree_path HT.out HM.out
      have HOK := Lib.hid hok
      have HPP := Lib.hid hp
      clear hok hp
      have HTOP := Lib.hid fun w1 => donjonref7_Parent.calls 2000 n.f0 (upP ns ns.length) w1 (by rw [HPP.out]; exact up_top HT.out HM.out HOK.out HPP.out 2000 (by omega))
      go_wp2_with (go_at_call 39; refine (HTOP.out _).mono ?_; rintro e w8 ⟨rfl, hb⟩; have HI8 := Lib.hid hb.below; clear hb)
      go_loopg [7] ns.length (fun k s7 wr => ∃ m : Nat, m ≤ ns.length ∧ m ≤ k ∧ s7 = .string (upP ns m) ∧ Hid (Below W0.heap.size W0 wr))
      case atStart => exact ⟨ns.length, Nat.le_refl _, Nat.le_refl _, rfl, HI8⟩
      case round =>
        obtain ⟨m, hm, hmk, rfl, HI⟩ := hrel
        by_cases hm0 : m = 0
        · subst hm0
          have hs0 : (upP ns 0).toList = [] := upP_zero ns
          have hs0' : ((upP ns 0).toList != ([] : List UInt8)) = false := by rw [hs0]; rfl
          go_wp2
          go_roundg (tt.length - (i + 1))
          case measure => omega
          case rel => exact ⟨i + 1, hlt, Nat.le_refl _, by go_num, Lib.hid (below_step HV.out HI.out)⟩
        · obtain ⟨dn, hdm, hd0, hlo, hdir⟩ := tree_anc HT.out _ ns n (m - 1) HM.out HOK.out.1 HPP.out (by omega) rfl
          have hd1 := hdir (show m - 1 < ns.length by clear hdir hlo; omega)
          have hq : upP ns m = dn.f0 := by unfold upP; rw [if_neg hm0, hd0]
          have hne : (upP ns m).toList ≠ [] := fun h => up_some ns m hm0 h
          have HPR := Lib.hid fun w1 => donjonref7_Parent.calls 2000 (upP ns m) (upP ns (m - 1)) w1 (by rw [hq, hd0]; exact up_parent (fun j hj => okp_take HT.out HM.out HOK.out HPP.out j hj) m (by omega) (by omega) 2000 (by omega))
          have HOV := Lib.hid fun w1 : World => (donjonref4_Over.calls n.f2.f0 n.f2.f1 n.f2.f2 n.f2.f3 dn.f2.f0 dn.f2.f1 dn.f2.f2 dn.f2.f3 true w1 (by rw [rover_iff (HT.out.ok n HM.out).1 (HT.out.ok dn hdm).1, hlo]))
          have HFD := Lib.hid fun w1 (hb : Below W0.heap.size W0 w1) => tfind_d HT.out hdm (some ad) cg w1 (Kd.C_below HCV.out (below_step HV.out hb)) hl
          rw [← hq] at HFD
          have hs1 : ((upP ns m).toList != ([] : List UInt8)) = true := by simpa using hne
          have hs2 : ((upP ns m).toList == ([] : List UInt8)) = false := by simpa using hne
          have hs3 : (upP ns m).toList.isEmpty = false := by simpa using hne
          have hs4 : (!(upP ns m).toList.isEmpty) = true := by simpa using hne
          clear hne hlo hdir hd0 hq
          generalize hpp : upP ns m = p at HPR HFD hs1 hs2 hs3 hs4 ⊢
          clear hpp
          go_wp2_with (go_at_call 53; refine (HFD.out _ HI.out).mono ?_; rintro e w9 ⟨D6, d6, D11, d11, rfl, hb⟩; have HI9 := Lib.hid (below_alloc (below_step HI.out hb) (.cells #[.string p, .bool true, .int .i64 dn.f2.f0, .int .i64 dn.f2.f1, .int .i64 dn.f2.f2, .int .i64 dn.f2.f3, .slice D6 dn.f3.length d6, .int .i64 dn.f4.f0, .int .i64 dn.f4.f1, .int .i64 dn.f4.f2, .int .i64 dn.f4.f3, .slice D11 dn.f5.length d11, .int .i64 dn.f6.f0, .int .i64 dn.f6.f1, .int .i64 dn.f6.f2, .int .i64 dn.f6.f3] 50)); have ED9 := Lib.hid (blk_new w9 (.cells #[.string p, .bool true, .int .i64 dn.f2.f0, .int .i64 dn.f2.f1, .int .i64 dn.f2.f2, .int .i64 dn.f2.f3, .slice D6 dn.f3.length d6, .int .i64 dn.f4.f0, .int .i64 dn.f4.f1, .int .i64 dn.f4.f2, .int .i64 dn.f4.f3, .slice D11 dn.f5.length d11, .int .i64 dn.f6.f0, .int .i64 dn.f6.f1, .int .i64 dn.f6.f2, .int .i64 dn.f6.f3] 50)); clear hb)
          refine rr13 (.string p) (.slice D6 dn.f3.length d6) (.int .i64 dn.f4.f0) (.int .i64 dn.f4.f1) (.int .i64 dn.f4.f2) (.int .i64 dn.f4.f3) (.slice D11 dn.f5.length d11) (.int .i64 dn.f6.f0) (.int .i64 dn.f6.f1) (.int .i64 dn.f6.f2) (.int .i64 dn.f6.f3) ad tt.length cg i w9.heap.size n.f2 dn.f2 _ _ _ _ _ _ _ _ _ _ _ _ _ _ _ _ _ _ _ _ _ _ _ _ _ _ _ _ _ _ _ _ _ _ _ _ _ _ _ _ _ _ _ _ _ _ _ _ _ _ _ _ _ _ _ _ hlt ED9.out (pw_cell_below HI9.out HCS.out.2.2.1) (pw_cell_below HI9.out HCS.out.2.2.2.1) (pw_cell_below HI9.out HCS.out.2.2.2.2.1) (pw_cell_below HI9.out HCS.out.2.2.2.2.2.1) HOV.out ?_
          intro w10 t40 t41 t42 t43 t44 t45 t46 t47 t48 t49 t50 t51 t52 t53 t54 t55 t56 hb
          have HI10 := Lib.hid (below_step HI9.out hb)
          clear hb
          go_wp2_with (go_at_call 39; refine (HPR.out _).mono ?_; rintro e w11 ⟨rfl, hb⟩; have HI11 := Lib.hid (below_step HI10.out hb.below); clear hb)
          go_roundg (m - 1)
          case measure => omega
          case rel => exact ⟨m - 1, by omega, Nat.le_refl _, rfl, HI11⟩
    · obtain rfl : i = tt.length := by omega
      go_wp2
      go_ret
      exact ⟨rfl, below_step HBV.out HV.out⟩
end Go.Proofs.YtmndeoncbocplaaDoor.C
end
