/- Texts that the claim's law stands on, cut down to what it reaches. -/
import Derived.Test.YtmndeoncbocplaaDoorJT1
import Derived.Deep.LoopGhost
import Derived.Deep.RegionHeldLaw
import Derived.Deep.RegionHeld3
set_option linter.unusedVariables false
set_option linter.unusedSimpArgs false
section
set_option linter.unusedVariables false
set_option linter.unusedSimpArgs false
namespace Go.Proofs.YtmndeoncbocplaaDoor.C
open Go.RowKit Go.Proofs.YtmndeoncbocplaaDoor.Q Go.Proofs.YtmndeoncbocplaaDoorW.PrintWords Go.Proofs.YtmndeoncbocplaaDoorW.PrintLast Go.Proofs.YtmndeoncbocplaaDoorW.PrintMore
attribute [local go_sem ↓] rd_at50 wr_at50 al_at50
attribute [local go_sem] rd50_new wr50_new al50
def gAt (l : List S96) (i : Nat) : S96 := rd_T96 l (i : Int)
def badM (m : Int) : Bool := decide (m < 1) || decide (7 < m)
def badAt (l : List S96) (i : Nat) : Bool := if 0 < i then (!whoB (gAt l i).f0 || ((!Op.bytesLess (gAt l (i - 1)).f0.toList (gAt l i).f0.toList) || badM (gAt l i).f1)) else (!whoB (gAt l i).f0 || badM (gAt l i).f1)
open Classical in
noncomputable def aclN (l : List S96) : Int := if 4 < l.length then 4 else if ∃ i, i < l.length ∧ badAt l i = true then 1 else 0
set_option maxHeartbeats 4000000 in
set_option maxRecDepth 100000 in
theorem aclcheck_c (l : List S96) (A : Option Addr) (c : Nat) (w : World) (hC : Kd.C k96 w A l.length l) (hc : l.length ≤ c) :
    Calls Tryd.prog 101 #[.slice A l.length c] w fun e w' => e = .returned (.int .i64 (aclN l)) ∧ Below w.heap.size w w' := by
  have HC := Lib.hid hC
  clear hC
  by_cases h4 : 4 < l.length
  · have hv : aclN l = 4 := by unfold aclN; rw [if_pos h4]
    rw [hv]
    clear hv
    go_enter Tryd.func101, Tryd.ntmps101
    go_wp2
    go_ret
    exact ⟨rfl, Below.refl _ _⟩
  · obtain ⟨r, hr⟩ : ∃ r, aclN l = r := ⟨_, rfl⟩
    have HR := Lib.hid hr
    rw [hr]
    clear hr
    go_enter Tryd.func101, Tryd.ntmps101
    go_wp2
    go_loopg [10] l.length (fun k s10 wr => ∃ i : Nat, i ≤ l.length ∧ l.length - i ≤ k ∧ s10 = .int .i64 i ∧ Hid (∀ j, j < i → badAt l j = false) ∧ Hid (Below w.heap.size w wr))
    case atStart => exact ⟨0, Nat.zero_le _, Nat.le_refl _, rfl, Lib.hid (fun j hj => absurd hj (Nat.not_lt_zero j)), Lib.hid (Below.refl _ _)⟩
    case round =>
      obtain ⟨i, hi, hik, rfl, HG, HB⟩ := hrel
      by_cases hlt : i < l.length
      · obtain ⟨W0, hW⟩ : ∃ W, W = wr := ⟨_, rfl⟩
        subst hW
        obtain ⟨ad, hA, h0, h1⟩ := at_T96 (Kd.C_below HC.out HB.out) (i : Int) (by omega) (by omega)
        subst hA
        simp only [Int.toNat_natCast] at h0 h1
        have HWH := Lib.hid (who_c (gAt l i).f0)
        obtain ⟨rb, hrb⟩ : ∃ rb, badAt l i = rb := ⟨_, rfl⟩
        have HRB := Lib.hid hrb
        clear hrb
        change _ = some (Value.string (gAt l i).f0) at h0
        change _ = some (Value.int .i64 (gAt l i).f1) at h1
        by_cases hi0 : 0 < i
        · obtain ⟨ad1, hA1, hp0, _⟩ := at_T96 (Kd.C_below HC.out HB.out) ((i - 1 : Nat) : Int) (by omega) (by omega)
          obtain rfl := Option.some.inj hA1
          simp only [Int.toNat_natCast] at hp0
          change _ = some (Value.string (gAt l (i - 1)).f0) at hp0
          have hwr : IntKind.i64.wrap ((i : Int) - 1) = ((i - 1 : Nat) : Int) := by rw [i64_w]; unfold wrap64; omega
          have HRB2 := Lib.hid (show (!whoB (gAt l i).f0 || ((!Op.bytesLess (gAt l (i - 1)).f0.toList (gAt l i).f0.toList) || (decide ((gAt l i).f1 < 1) || decide (7 < (gAt l i).f1)))) = rb from by rw [← HRB.out]; unfold badAt badM; rw [if_pos hi0])
          have HP := Lib.hid hp0
          have HWR := Lib.hid hwr
          clear hp0 hwr hA1
          generalize gAt l (i - 1) = p at HP HRB2
          generalize gAt l i = g at h0 h1 HWH HRB2
          go_wp2
          refine ra101b ad l.length c i W0.heap.size (i - 1) p.f0 _ g.f0 g.f1 (whoB g.f0) rb _ _ _ _ _ _ _ _ _ _ _ _ _ _ _ _ _ _ _ _ _ _ _ _ _ _ _ _ _ _ _ _ _ _ _ _ _ _ _ _ _ _ _ _ (blk_new W0 _) (pw_cell_below (below_alloc (Below.refl W0.heap.size W0) _) HP.out) (by omega) hi0 HWR.out rfl HWH.out HRB2.out ?_
          intro w6 t15 t16 t17 t18 t19 t20 t21 t22 t23 t24 t25 t26 t27 t28 t29 t30 t31 t32 t33 t34 t35 t36 t37 t38 t39 t40 t41 t42 hb
          have HB6 := Lib.hid (below_step (below_step HB.out (below_alloc (Below.refl W0.heap.size W0) _)) hb)
          clear hb
          cases rb with
          | true =>
            have hrr : r = 1 := by
              rw [← HR.out]; unfold aclN
              rw [if_neg h4, if_pos ⟨i, hlt, HRB.out⟩]
            subst hrr
            go_wp2
            go_ret
            exact ⟨rfl, HB6.out⟩
          | false =>
            have HG6 := Lib.hid (show ∀ j, j < i + 1 → badAt l j = false from fun j hj => by
              by_cases h : j = i
              · rw [h]; exact HRB.out
              · exact HG.out j (by omega))
            go_wp2
            go_roundg (l.length - (i + 1))
            case measure => omega
            case rel => exact ⟨i + 1, hlt, Nat.le_refl _, by go_num, HG6, HB6⟩
        · have HRB2 := Lib.hid (show (!whoB (gAt l i).f0 || (decide ((gAt l i).f1 < 1) || decide (7 < (gAt l i).f1))) = rb from by rw [← HRB.out]; unfold badAt badM; rw [if_neg hi0])
          generalize gAt l i = g at h0 h1 HWH HRB2
          go_wp2
          refine ra101a ad l.length c i W0.heap.size g.f0 g.f1 (whoB g.f0) rb _ _ _ _ _ _ _ _ _ _ _ _ _ _ _ _ _ _ _ _ _ _ _ _ _ _ _ _ _ _ _ _ _ _ _ _ _ _ _ _ _ _ _ _ (blk_new W0 _) hi0 HWH.out HRB2.out ?_
          intro w6 t15 t16 t17 t18 t19 t20 t21 t22 t23 t24 t25 t26 t27 t28 t29 t30 t31 t32 t33 t34 t35 t36 t37 t38 t39 t40 t41 t42 hb
          have HB6 := Lib.hid (below_step (below_step HB.out (below_alloc (Below.refl W0.heap.size W0) _)) hb)
          clear hb
          cases rb with
          | true =>
            have hrr : r = 1 := by
              rw [← HR.out]; unfold aclN
              rw [if_neg h4, if_pos ⟨i, hlt, HRB.out⟩]
            subst hrr
            go_wp2
            go_ret
            exact ⟨rfl, HB6.out⟩
          | false =>
            have HG6 := Lib.hid (show ∀ j, j < i + 1 → badAt l j = false from fun j hj => by
              by_cases h : j = i
              · rw [h]; exact HRB.out
              · exact HG.out j (by omega))
            go_wp2
            go_roundg (l.length - (i + 1))
            case measure => omega
            case rel => exact ⟨i + 1, hlt, Nat.le_refl _, by go_num, HG6, HB6⟩
      · have hrr : r = 0 := by
          rw [← HR.out]; unfold aclN
          rw [if_neg h4, if_neg]
          rintro ⟨j, hj, hb⟩
          rw [HG.out j (by omega)] at hb
          exact Bool.noConfusion hb
        subst hrr
        go_wp2
        go_ret
        exact ⟨rfl, HB.out⟩
end Go.Proofs.YtmndeoncbocplaaDoor.C
end
section
set_option linter.unusedVariables false
set_option linter.unusedSimpArgs false
namespace Go.Proofs.YtmndeoncbocplaaDoor.C
open Go.RowKit Go.Proofs.YtmndeoncbocplaaDoor.Q Go.Proofs.YtmndeoncbocplaaDoorW.PrintWords Go.Proofs.YtmndeoncbocplaaDoorW.PrintLast Go.Proofs.YtmndeoncbocplaaDoorW.PrintMore
attribute [local go_sem ↓] rd_at50 wr_at50 al_at50
attribute [local go_sem] rd50_new wr50_new al50
def first4 : List Int → Int
  | [] => 0
  | e :: l => if e ≠ 0 then e else first4 l
theorem first_f (a b c d : Int) : Q.node_first.f 9 [a, b, c, d] = some (first4 [a, b, c, d]) := by
  by_cases ha : a = 0 <;> by_cases hb : b = 0 <;> by_cases hc : c = 0 <;> by_cases hd : d = 0 <;> simp [Q.node_first.f, Q.node_first.l0, rd, wrap64, first4, *]
theorem ints_new (W : World) (a b c d : Int) (ty : TypeId) : Kd.C (Kd.int .i64) (W.alloc (.cells #[.int .i64 a, .int .i64 b, .int .i64 c, .int .i64 d] ty)) (some ⟨W.heap.size, 0, none⟩) 4 [a, b, c, d] := by
  have hB := blk_new W (.cells #[.int .i64 a, .int .i64 b, .int .i64 c, .int .i64 d] ty)
  refine ⟨rfl, by decide, fun _ => ⟨_, rfl, fun j p hj => ⟨[.int .i64 p], rfl, rfl, fun i u hu => ?_⟩⟩⟩
  obtain ⟨hl, hp⟩ := List.getElem?_eq_some_iff.1 hj
  obtain ⟨hi, hv⟩ := List.getElem?_eq_some_iff.1 hu
  have hi0 : i = 0 := by simpa using hi
  subst hi0
  have hj4 : j = 0 ∨ j = 1 ∨ j = 2 ∨ j = 3 := by have : j < 4 := hl; omega
  rcases hj4 with rfl | rfl | rfl | rfl
  · subst hp; subst hv; exact (blk_cell hB 0).trans rfl
  · subst hp; subst hv; exact (blk_cell hB 1).trans rfl
  · subst hp; subst hv; exact (blk_cell hB 2).trans rfl
  · subst hp; subst hv; exact (blk_cell hB 3).trans rfl
set_option maxHeartbeats 8000000 in
set_option maxRecDepth 1000000 in
theorem rn78 (g : Nat) (p : ByteArray) (a b : S41) (A6 : Option Addr) (n6 c6 : Nat) (pe r1 r2 ra : Int) (y1 y7 y8 y9 y10 y11 : Value) (u0 u2 u3 u4 u5 u6 u7 u8 u9 u10 u11 u12 u13 u14 u15 u16 u17 u18 u19 u20 u21 u22 u23 u24 u25 u26 u27 u28 u29 u30 u31 u32 u33 u34 u35 u36 u37 u38 u39 u40 u41 u42 u43 u44 u45 u46 u47 u48 u49 u50 u51 u52 u53 u54 u55 u56 u57 u58 : Value) (W : World) (Q : Exit → Act → World → Prop)
    (h4 : W.heap[g]? = some (.cells #[.string p, y1, .int .i64 a.f0, .int .i64 a.f1, .int .i64 a.f2, .int .i64 a.f3, .slice A6 n6 c6, y7, y8, y9, y10, y11, .int .i64 b.f0, .int .i64 b.f1, .int .i64 b.f2, .int .i64 b.f3] 50 (0, 0)))
    (hP : ∀ w1 : World, Calls Tryd.prog 23 #[.string p] w1 fun e w' => e = .returned (.int .i64 pe) ∧ Below w1.heap.size w1 w')
    (hL1 : ∀ w1 : World, Calls Tryd.prog 100 #[.agg #[.int .i64 a.f0, .int .i64 a.f1, .int .i64 a.f2, .int .i64 a.f3]] w1 fun e w' => e = .returned (.int .i64 r1) ∧ Below w1.heap.size w1 w')
    (hL2 : ∀ w1 : World, Calls Tryd.prog 100 #[.agg #[.int .i64 b.f0, .int .i64 b.f1, .int .i64 b.f2, .int .i64 b.f3]] w1 fun e w' => e = .returned (.int .i64 r2) ∧ Below w1.heap.size w1 w')
    (hA : ∀ w1 : World, Below W.heap.size W w1 → Calls Tryd.prog 101 #[.slice A6 n6 c6] w1 fun e w' => e = .returned (.int .i64 ra) ∧ Below w1.heap.size w1 w')
    (hpost : ∀ (w' : World) (t5 t6 t7 t8 t9 t10 t11 t12 t13 t14 t15 t16 t17 t18 : Value), Below W.heap.size W w' → Q .normal ⟨#[u0, .pointer (some ⟨g, 0, none⟩), u2, .int .i64 (first4 [pe, r1, r2, ra]), u4, t5, t6, t7, t8, t9, t10, t11, t12, t13, t14, t15, t16, t17, t18, u19, u20, u21, u22, u23, u24, u25, u26, u27, u28, u29, u30, u31, u32, u33, u34, u35, u36, u37, u38, u39, u40, u41, u42, u43, u44, u45, u46, u47, u48, u49, u50, u51, u52, u53, u54, u55, u56, u57, u58], []⟩ w') :
    Code.wp Tryd.prog (cReg Tryd.f78 1) Q ⟨#[u0, .pointer (some ⟨g, 0, none⟩), u2, u3, u4, u5, u6, u7, u8, u9, u10, u11, u12, u13, u14, u15, u16, u17, u18, u19, u20, u21, u22, u23, u24, u25, u26, u27, u28, u29, u30, u31, u32, u33, u34, u35, u36, u37, u38, u39, u40, u41, u42, u43, u44, u45, u46, u47, u48, u49, u50, u51, u52, u53, u54, u55, u56, u57, u58], []⟩ W := by
  have E4 := Lib.hid h4
  have HP := Lib.hid hP
  have HL1 := Lib.hid hL1
  have HL2 := Lib.hid hL2
  have HA := Lib.hid hA
  have HPO := Lib.hid hpost
  clear h4 hP hL1 hL2 hA hpost
  have HB := Lib.hid (below_drew1 (Below.refl W.heap.size W))
  have k0 := (blk_cell (blk_below E4.out (Below.refl W.heap.size W)) 0).trans rfl; have k2 := (blk_cell (blk_below E4.out (Below.refl W.heap.size W)) 2).trans rfl; have k3 := (blk_cell (blk_below E4.out (Below.refl W.heap.size W)) 3).trans rfl; have k4 := (blk_cell (blk_below E4.out (Below.refl W.heap.size W)) 4).trans rfl; have k5 := (blk_cell (blk_below E4.out (Below.refl W.heap.size W)) 5).trans rfl; have k6 := (blk_cell (blk_below E4.out (Below.refl W.heap.size W)) 6).trans rfl; have k12 := (blk_cell (blk_below E4.out (Below.refl W.heap.size W)) 12).trans rfl; have k13 := (blk_cell (blk_below E4.out (Below.refl W.heap.size W)) 13).trans rfl; have k14 := (blk_cell (blk_below E4.out (Below.refl W.heap.size W)) 14).trans rfl; have k15 := (blk_cell (blk_below E4.out (Below.refl W.heap.size W)) 15).trans rfl
  conv => arg 2; whnf
  refine wp_region_noPanic ?_
  refine wp_region_held_drew (S := fun W1 => W1.cell? ⟨g, 0, none⟩ = some (.string p) ∧ W1.cell? ⟨g, 2, none⟩ = some (.int .i64 a.f0) ∧ W1.cell? ⟨g, 3, none⟩ = some (.int .i64 a.f1) ∧ W1.cell? ⟨g, 4, none⟩ = some (.int .i64 a.f2) ∧ W1.cell? ⟨g, 5, none⟩ = some (.int .i64 a.f3) ∧ W1.cell? ⟨g, 6, none⟩ = some (.slice A6 n6 c6) ∧ W1.cell? ⟨g, 12, none⟩ = some (.int .i64 b.f0) ∧ W1.cell? ⟨g, 13, none⟩ = some (.int .i64 b.f1) ∧ W1.cell? ⟨g, 14, none⟩ = some (.int .i64 b.f2) ∧ W1.cell? ⟨g, 15, none⟩ = some (.int .i64 b.f3)) (by kernel_rfl) ?_ (fun hHeld => ?_)
  focus ((try dsimp only); go_keep)
  first
    | (refine take_at 0 5 (v := ?_) rfl rfl (by kernel_rfl) (by kernel_rfl) (by kernel_rfl) (fun _ _ _ h => h) (Or.inl ⟨by rfl, ?_⟩) (by assumption) ?_; rotate_left; focus (intro w hSw; (try dsimp only at hSw); go_simp; try with_reducible rfl))
    | (refine take_at 0 5 (v := undef) rfl rfl (by kernel_rfl) (by kernel_rfl) (by kernel_rfl) (fun _ _ _ h => h) (Or.inr ⟨by rfl, rfl⟩) (by assumption) ?_)
  try simp only [Act.put, List.setIfInBounds_toArray, List.set_cons_zero, List.set_cons_succ]
  first
    | (refine take_at 3 8 (v := ?_) rfl rfl (by kernel_rfl) (by kernel_rfl) (by kernel_rfl) (fun _ _ _ h => h) (Or.inl ⟨by rfl, ?_⟩) (by assumption) ?_; rotate_left; focus (intro w hSw; (try dsimp only at hSw); go_simp; try with_reducible rfl))
    | (refine take_at 3 8 (v := undef) rfl rfl (by kernel_rfl) (by kernel_rfl) (by kernel_rfl) (fun _ _ _ h => h) (Or.inr ⟨by rfl, rfl⟩) (by assumption) ?_)
  try simp only [Act.put, List.setIfInBounds_toArray, List.set_cons_zero, List.set_cons_succ]
  first
    | (refine take_at 4 9 (v := ?_) rfl rfl (by kernel_rfl) (by kernel_rfl) (by kernel_rfl) (fun _ _ _ h => h) (Or.inl ⟨by rfl, ?_⟩) (by assumption) ?_; rotate_left; focus (intro w hSw; (try dsimp only at hSw); go_simp; try with_reducible rfl))
    | (refine take_at 4 9 (v := undef) rfl rfl (by kernel_rfl) (by kernel_rfl) (by kernel_rfl) (fun _ _ _ h => h) (Or.inr ⟨by rfl, rfl⟩) (by assumption) ?_)
  try simp only [Act.put, List.setIfInBounds_toArray, List.set_cons_zero, List.set_cons_succ]
  first
    | (refine take_at 6 11 (v := ?_) rfl rfl (by kernel_rfl) (by kernel_rfl) (by kernel_rfl) (fun _ _ _ h => h) (Or.inl ⟨by rfl, ?_⟩) (by assumption) ?_; rotate_left; focus (intro w hSw; (try dsimp only at hSw); go_simp; try with_reducible rfl))
    | (refine take_at 6 11 (v := undef) rfl rfl (by kernel_rfl) (by kernel_rfl) (by kernel_rfl) (fun _ _ _ h => h) (Or.inr ⟨by rfl, rfl⟩) (by assumption) ?_)
  try simp only [Act.put, List.setIfInBounds_toArray, List.set_cons_zero, List.set_cons_succ]
  first
    | (refine take_at 7 12 (v := ?_) rfl rfl (by kernel_rfl) (by kernel_rfl) (by kernel_rfl) (fun _ _ _ h => h) (Or.inl ⟨by rfl, ?_⟩) (by assumption) ?_; rotate_left; focus (intro w hSw; (try dsimp only at hSw); go_simp; try with_reducible rfl))
    | (refine take_at 7 12 (v := undef) rfl rfl (by kernel_rfl) (by kernel_rfl) (by kernel_rfl) (fun _ _ _ h => h) (Or.inr ⟨by rfl, rfl⟩) (by assumption) ?_)
  try simp only [Act.put, List.setIfInBounds_toArray, List.set_cons_zero, List.set_cons_succ]
  first
    | (refine take_at 9 14 (v := ?_) rfl rfl (by kernel_rfl) (by kernel_rfl) (by kernel_rfl) (fun _ _ _ h => h) (Or.inl ⟨by rfl, ?_⟩) (by assumption) ?_; rotate_left; focus (intro w hSw; (try dsimp only at hSw); go_simp; try with_reducible rfl))
    | (refine take_at 9 14 (v := undef) rfl rfl (by kernel_rfl) (by kernel_rfl) (by kernel_rfl) (fun _ _ _ h => h) (Or.inr ⟨by rfl, rfl⟩) (by assumption) ?_)
  try simp only [Act.put, List.setIfInBounds_toArray, List.set_cons_zero, List.set_cons_succ]
  first
    | (refine take_at 10 15 (v := ?_) rfl rfl (by kernel_rfl) (by kernel_rfl) (by kernel_rfl) (fun _ _ _ h => h) (Or.inl ⟨by rfl, ?_⟩) (by assumption) ?_; rotate_left; focus (intro w hSw; (try dsimp only at hSw); go_simp; try with_reducible rfl))
    | (refine take_at 10 15 (v := undef) rfl rfl (by kernel_rfl) (by kernel_rfl) (by kernel_rfl) (fun _ _ _ h => h) (Or.inr ⟨by rfl, rfl⟩) (by assumption) ?_)
  try simp only [Act.put, List.setIfInBounds_toArray, List.set_cons_zero, List.set_cons_succ]
  first
    | (refine take_at 1 6 (v := ?_) rfl rfl (by kernel_rfl) (by kernel_rfl) (by kernel_rfl) (fun _ _ _ h => h) (Or.inl ⟨by rfl, ?_⟩) (by assumption) ?_; rotate_left; focus (intro w hSw; (try dsimp only at hSw); go_simp; try with_reducible rfl))
    | (refine take_at 1 6 (v := undef) rfl rfl (by kernel_rfl) (by kernel_rfl) (by kernel_rfl) (fun _ _ _ h => h) (Or.inr ⟨by rfl, rfl⟩) (by assumption) ?_)
  try simp only [Act.put, List.setIfInBounds_toArray, List.set_cons_zero, List.set_cons_succ]
  refine wpAnyH_ready (rs := [2]) (by kernel_rfl) (by simp) ?_
  refine AllReadyH.cons rfl (fun K hK => ?_) AllReadyH.nil
  go_simp
  go_wp2_with ((go_at_call 23; (refine (HP.out _).mono ?_; rintro e w5 ⟨rfl, hb⟩; have HB := Lib.hid (below_step HB.out hb); have k0 := (blk_cell (blk_below E4.out HB.out) 0).trans rfl; have k2 := (blk_cell (blk_below E4.out HB.out) 2).trans rfl; have k3 := (blk_cell (blk_below E4.out HB.out) 3).trans rfl; have k4 := (blk_cell (blk_below E4.out HB.out) 4).trans rfl; have k5 := (blk_cell (blk_below E4.out HB.out) 5).trans rfl; have k6 := (blk_cell (blk_below E4.out HB.out) 6).trans rfl; have k12 := (blk_cell (blk_below E4.out HB.out) 12).trans rfl; have k13 := (blk_cell (blk_below E4.out HB.out) 13).trans rfl; have k14 := (blk_cell (blk_below E4.out HB.out) 14).trans rfl; have k15 := (blk_cell (blk_below E4.out HB.out) 15).trans rfl; clear hb)))
  refine hK.out _ _ ?_ (fun hHeld => ?_)
  focus ((try dsimp only); go_keep)
  clear hK K
  refine wpAnyH_ready (rs := [5]) (by kernel_rfl) (by simp) ?_
  refine AllReadyH.cons rfl (fun K hK => ?_) AllReadyH.nil
  go_simp
  go_wp2_with ((go_at_call 100; (refine (HL1.out _).mono ?_; rintro e w5 ⟨rfl, hb⟩; have HB := Lib.hid (below_step HB.out hb); have k0 := (blk_cell (blk_below E4.out HB.out) 0).trans rfl; have k2 := (blk_cell (blk_below E4.out HB.out) 2).trans rfl; have k3 := (blk_cell (blk_below E4.out HB.out) 3).trans rfl; have k4 := (blk_cell (blk_below E4.out HB.out) 4).trans rfl; have k5 := (blk_cell (blk_below E4.out HB.out) 5).trans rfl; have k6 := (blk_cell (blk_below E4.out HB.out) 6).trans rfl; have k12 := (blk_cell (blk_below E4.out HB.out) 12).trans rfl; have k13 := (blk_cell (blk_below E4.out HB.out) 13).trans rfl; have k14 := (blk_cell (blk_below E4.out HB.out) 14).trans rfl; have k15 := (blk_cell (blk_below E4.out HB.out) 15).trans rfl; clear hb)))
  refine hK.out _ _ ?_ (fun hHeld => ?_)
  focus ((try dsimp only); go_keep)
  clear hK K
  refine wpAnyH_ready (rs := [8]) (by kernel_rfl) (by simp) ?_
  refine AllReadyH.cons rfl (fun K hK => ?_) AllReadyH.nil
  go_simp
  go_wp2_with ((go_at_call 100; (refine (HL2.out _).mono ?_; rintro e w5 ⟨rfl, hb⟩; have HB := Lib.hid (below_step HB.out hb); have k0 := (blk_cell (blk_below E4.out HB.out) 0).trans rfl; have k2 := (blk_cell (blk_below E4.out HB.out) 2).trans rfl; have k3 := (blk_cell (blk_below E4.out HB.out) 3).trans rfl; have k4 := (blk_cell (blk_below E4.out HB.out) 4).trans rfl; have k5 := (blk_cell (blk_below E4.out HB.out) 5).trans rfl; have k6 := (blk_cell (blk_below E4.out HB.out) 6).trans rfl; have k12 := (blk_cell (blk_below E4.out HB.out) 12).trans rfl; have k13 := (blk_cell (blk_below E4.out HB.out) 13).trans rfl; have k14 := (blk_cell (blk_below E4.out HB.out) 14).trans rfl; have k15 := (blk_cell (blk_below E4.out HB.out) 15).trans rfl; clear hb)))
  refine hK.out _ _ ?_ (fun hHeld => ?_)
  focus ((try dsimp only); go_keep)
  clear hK K
  refine wpAnyH_ready (rs := [11]) (by kernel_rfl) (by simp) ?_
  refine AllReadyH.cons rfl (fun K hK => ?_) AllReadyH.nil
  go_simp
  go_wp2_with ((go_at_call 101; (refine (HA.out _ HB.out).mono ?_; rintro e w5 ⟨rfl, hb⟩; have HB := Lib.hid (below_step HB.out hb); have k0 := (blk_cell (blk_below E4.out HB.out) 0).trans rfl; have k2 := (blk_cell (blk_below E4.out HB.out) 2).trans rfl; have k3 := (blk_cell (blk_below E4.out HB.out) 3).trans rfl; have k4 := (blk_cell (blk_below E4.out HB.out) 4).trans rfl; have k5 := (blk_cell (blk_below E4.out HB.out) 5).trans rfl; have k6 := (blk_cell (blk_below E4.out HB.out) 6).trans rfl; have k12 := (blk_cell (blk_below E4.out HB.out) 12).trans rfl; have k13 := (blk_cell (blk_below E4.out HB.out) 13).trans rfl; have k14 := (blk_cell (blk_below E4.out HB.out) 14).trans rfl; have k15 := (blk_cell (blk_below E4.out HB.out) 15).trans rfl; clear hb)))
  refine hK.out _ _ ?_ (fun hHeld => ?_)
  focus ((try dsimp only); go_keep)
  clear hK K
  refine wpAnyH_ready (rs := [12]) (by kernel_rfl) (by simp) ?_
  refine AllReadyH.cons rfl (fun K hK => ?_) AllReadyH.nil
  go_simp
  go_wp2
  have HINT := Lib.hid (ints_new w5 pe r1 r2 ra 24)
  have HB := Lib.hid (below_alloc HB.out (.cells #[.int .i64 pe, .int .i64 r1, .int .i64 r2, .int .i64 ra] 24))
  have k0 := (blk_cell (blk_below E4.out HB.out) 0).trans rfl
  have k2 := (blk_cell (blk_below E4.out HB.out) 2).trans rfl
  have k3 := (blk_cell (blk_below E4.out HB.out) 3).trans rfl
  have k4 := (blk_cell (blk_below E4.out HB.out) 4).trans rfl
  have k5 := (blk_cell (blk_below E4.out HB.out) 5).trans rfl
  have k6 := (blk_cell (blk_below E4.out HB.out) 6).trans rfl
  have k12 := (blk_cell (blk_below E4.out HB.out) 12).trans rfl
  have k13 := (blk_cell (blk_below E4.out HB.out) 13).trans rfl
  have k14 := (blk_cell (blk_below E4.out HB.out) 14).trans rfl
  have k15 := (blk_cell (blk_below E4.out HB.out) 15).trans rfl
  refine hK.out _ _ ?_ (fun hHeld => ?_)
  focus ((try dsimp only); go_keep)
  clear hK K
  refine wpAnyH_ready (rs := [13]) (by kernel_rfl) (by simp) ?_
  refine AllReadyH.cons rfl (fun K hK => ?_) AllReadyH.nil
  go_simp
  refine (node_first.calls 9 (some ⟨_, 0, none⟩) 4 [pe, r1, r2, ra] (first4 [pe, r1, r2, ra]) _ HINT.out (Nat.le_refl 4) (first_f _ _ _ _)).mono ?_
  rintro e w5 ⟨rfl, hb⟩
  have HB := Lib.hid (below_step HB.out hb.below)
  have k0 := (blk_cell (blk_below E4.out HB.out) 0).trans rfl; have k2 := (blk_cell (blk_below E4.out HB.out) 2).trans rfl; have k3 := (blk_cell (blk_below E4.out HB.out) 3).trans rfl; have k4 := (blk_cell (blk_below E4.out HB.out) 4).trans rfl; have k5 := (blk_cell (blk_below E4.out HB.out) 5).trans rfl; have k6 := (blk_cell (blk_below E4.out HB.out) 6).trans rfl; have k12 := (blk_cell (blk_below E4.out HB.out) 12).trans rfl; have k13 := (blk_cell (blk_below E4.out HB.out) 13).trans rfl; have k14 := (blk_cell (blk_below E4.out HB.out) 14).trans rfl; have k15 := (blk_cell (blk_below E4.out HB.out) 15).trans rfl
  clear hb
  refine hK.out _ _ ?_ (fun hHeld => ?_)
  focus ((try dsimp only); go_keep)
  clear hK K
  first
    | (refine take_at 14 3 (v := ?_) rfl rfl (by kernel_rfl) (by kernel_rfl) (by kernel_rfl) (fun _ _ _ h => h) (Or.inl ⟨by rfl, ?_⟩) (by assumption) ?_; rotate_left; focus (intro w hSw; (try dsimp only at hSw); go_simp; try with_reducible rfl))
    | (refine take_at 14 3 (v := undef) rfl rfl (by kernel_rfl) (by kernel_rfl) (by kernel_rfl) (fun _ _ _ h => h) (Or.inr ⟨by rfl, rfl⟩) (by assumption) ?_)
  try simp only [Act.put, List.setIfInBounds_toArray, List.set_cons_zero, List.set_cons_succ]
  refine wpAnyH_done (by kernel_rfl) ?_ _
  refine NoPanic.normal ?_
  exact HPO.out _ _ _ _ _ _ _ _ _ _ _ _ _ _ _ HB.out
end Go.Proofs.YtmndeoncbocplaaDoor.C
end
section
set_option linter.unusedVariables false
set_option linter.unusedSimpArgs false
namespace Go.Proofs.YtmndeoncbocplaaDoor.C
open Go.RowKit Go.Proofs.YtmndeoncbocplaaDoor.Q Go.Proofs.YtmndeoncbocplaaDoorW.PrintWords Go.Proofs.YtmndeoncbocplaaDoorW.PrintLast Go.Proofs.YtmndeoncbocplaaDoorW.PrintMore
attribute [local go_sem ↓] rd_at50 wr_at50 al_at50
attribute [local go_sem] rd50_new wr50_new al50
def labN (a : S41) : Int := if 0 ≤ a.f0 ∧ a.f0 ≤ 3 ∧ 0 ≤ a.f2 ∧ a.f2 ≤ 3 ∧ 0 ≤ a.f1 ∧ a.f1 ≤ 255 ∧ 0 ≤ a.f3 ∧ a.f3 ≤ 255 then 0 else 1
theorem lab_f (a : S41) : label_Check.f a.f0 a.f1 a.f2 a.f3 = some (labN a) := by
  have h1 : ∀ x, label_level.f x = some (decide (0 ≤ x ∧ x ≤ 3)) := fun x => by by_cases h0 : 0 ≤ x <;> by_cases h3 : x ≤ 3 <;> simp [label_level.f, h0, h3]
  have h2 : ∀ x, label_cats.f x = some (decide (0 ≤ x ∧ x ≤ 255)) := fun x => by by_cases h0 : 0 ≤ x <;> by_cases h3 : x ≤ 255 <;> simp [label_cats.f, h0, h3]
  unfold label_Check.f labN
  simp only [h1, h2, Option.bind_some, decide_eq_true_eq]
  split
  · split
    · split
      · split <;> (congr 1; split <;> omega)
      · congr 1; split <;> omega
    · congr 1; split <;> omega
  · congr 1; split <;> omega
theorem lab_calls (a : S41) (w1 : World) : Calls Tryd.prog 100 #[.agg #[.int .i64 a.f0, .int .i64 a.f1, .int .i64 a.f2, .int .i64 a.f3]] w1 fun e w' => e = .returned (.int .i64 (labN a)) ∧ Below w1.heap.size w1 w' :=
  (label_Check.calls a.f0 a.f1 a.f2 a.f3 _ w1 (lab_f a)).mono fun _ _ ⟨he, hd⟩ => ⟨he, hd⟩
def ringN (r : S47) : Int := if 0 ≤ r.f0 ∧ r.f0 ≤ r.f1 ∧ r.f1 ≤ r.f2 ∧ r.f2 ≤ 7 ∧ 0 ≤ r.f3 ∧ r.f3 ≤ 16 then 0 else 1
theorem ring_fN (r : S47) : ring_Check.f r.f0 r.f1 r.f2 r.f3 = some (ringN r) := by
  unfold ring_Check.f ringN
  repeat' split
  all_goals first | rfl | (exfalso; omega)
theorem ring_calls (r : S47) (w1 : World) : Calls Tryd.prog 102 #[.agg #[.int .i64 r.f0, .int .i64 r.f1, .int .i64 r.f2, .int .i64 r.f3]] w1 fun e w' => e = .returned (.int .i64 (ringN r)) ∧ Below w1.heap.size w1 w' :=
  (ring_Check.calls r.f0 r.f1 r.f2 r.f3 _ w1 (ring_fN r)).mono fun _ _ ⟨he, hd⟩ => ⟨he, hd⟩
def zR (r : S47) : Bool := r.f0 == 0 && (r.f1 == 0 && (r.f2 == 0 && (r.f3 == 0)))
/-- What the program's check of a node tells; pe: what is wrong with its path. -/
noncomputable def ndN (pe : Int) (n : S50) : Int :=
  if first4 [pe, labN n.f2, labN n.f6, aclN n.f3] ≠ 0 then first4 [pe, labN n.f2, labN n.f6, aclN n.f3]
  else if n.f0.toList = [47] ∧ n.f1 = false then 3
  else if n.f1 = true then (if zR n.f4 = true ∧ n.f5.length = 0 then 0 else 11)
  else if ringN n.f4 ≠ 0 then ringN n.f4
  else if 16 < n.f5.length then 4 else 0
set_option maxHeartbeats 4000000 in
set_option maxRecDepth 100000 in
theorem ndcheck_f (p : ByteArray) (dir : Bool) (la : S41) (gs : List S96) (ri : S47) (ws : List Int) (lb : S41) (A6 A11 : Option Addr) (c6 c11 : Nat) (pe : Int) (w : World)
    (hP : ∀ w1 : World, Calls Tryd.prog 23 #[.string p] w1 fun e w' => e = .returned (.int .i64 pe) ∧ Below w1.heap.size w1 w')
    (hC : Kd.C k96 w A6 gs.length gs) (h6 : gs.length ≤ c6) :
    Calls Tryd.prog 78 #[.agg #[Value.string p, Value.bool dir, Value.int .i64 la.f0, Value.int .i64 la.f1, Value.int .i64 la.f2, Value.int .i64 la.f3, Value.slice A6 gs.length c6, Value.int .i64 ri.f0, Value.int .i64 ri.f1, Value.int .i64 ri.f2, Value.int .i64 ri.f3, Value.slice A11 ws.length c11, Value.int .i64 lb.f0, Value.int .i64 lb.f1, Value.int .i64 lb.f2, Value.int .i64 lb.f3]] w fun e w' => e = .returned (.int .i64 (ndN pe ⟨p, dir, la, gs, ri, ws, lb⟩)) ∧ Below w.heap.size w w' := by
  obtain ⟨x, hx⟩ : ∃ x, ndN pe ⟨p, dir, la, gs, ri, ws, lb⟩ = x := ⟨_, rfl⟩
  rw [hx]
  unfold ndN at hx
  dsimp only at hx
  have HX := Lib.hid hx
  have HP := Lib.hid hP
  have HC := Lib.hid hC
  clear hx hP hC
  go_enter Tryd.func78, Tryd.ntmps78
  go_wp2
  refine rn78 w.heap.size p la lb A6 gs.length c6 pe (labN la) (labN lb) (aclN gs) _ _ _ _ _ _ _ _ _ _ _ _ _ _ _ _ _ _ _ _ _ _ _ _ _ _ _ _ _ _ _ _ _ _ _ _ _ _ _ _ _ _ _ _ _ _ _ _ _ _ _ _ _ _ _ _ _ _ _ _ _ _ _ _ _ _ (blk_new w _) HP.out (lab_calls la) (lab_calls lb) (fun w1 hb => aclcheck_c gs A6 c6 w1 (Kd.C_below HC.out (below_step (below_alloc (Below.refl _ _) _) hb)) h6) ?_
  intro w6 t5 t6 t7 t8 t9 t10 t11 t12 t13 t14 t15 t16 t17 t18 hb
  have HB := Lib.hid (below_step (below_alloc (Below.refl w.heap.size w) _) hb)
  have H6 := blk_below (blk_new w (.cells #[Value.string p, Value.bool dir, Value.int .i64 la.f0, Value.int .i64 la.f1, Value.int .i64 la.f2, Value.int .i64 la.f3, Value.slice A6 gs.length c6, Value.int .i64 ri.f0, Value.int .i64 ri.f1, Value.int .i64 ri.f2, Value.int .i64 ri.f3, Value.slice A11 ws.length c11, Value.int .i64 lb.f0, Value.int .i64 lb.f1, Value.int .i64 lb.f2, Value.int .i64 lb.f3] 50)) hb
  clear hb
  generalize first4 [pe, labN la, labN lb, aclN gs] = e at HX
  by_cases he : e = 0
  · subst he
    have HRC := Lib.hid (ring_calls ri)
    cases dir with
    | true =>
      have c0 : w6.cell? ⟨w.heap.size, 0, none⟩ = some (Value.string p) := (blk_cell H6 0).trans rfl
      have c1 : w6.cell? ⟨w.heap.size, 1, none⟩ = some (Value.bool true) := (blk_cell H6 1).trans rfl
      have c7 : w6.cell? ⟨w.heap.size, 7, none⟩ = some (Value.int .i64 ri.f0) := (blk_cell H6 7).trans rfl
      have c8 : w6.cell? ⟨w.heap.size, 8, none⟩ = some (Value.int .i64 ri.f1) := (blk_cell H6 8).trans rfl
      have c9 : w6.cell? ⟨w.heap.size, 9, none⟩ = some (Value.int .i64 ri.f2) := (blk_cell H6 9).trans rfl
      have c10 : w6.cell? ⟨w.heap.size, 10, none⟩ = some (Value.int .i64 ri.f3) := (blk_cell H6 10).trans rfl
      have c11_ : w6.cell? ⟨w.heap.size, 11, none⟩ = some (Value.slice A11 ws.length c11) := (blk_cell H6 11).trans rfl
      have hz0 := HX.out
      rw [if_neg (by decide), if_neg (by simp), if_pos rfl] at hz0
      have HZ := Lib.hid hz0
      clear hz0 H6
      by_cases hr : p.toList = [47]
      all_goals
        first | (have hr1 : (p.toList == ([47] : List UInt8)) = true := by rw [hr]; rfl) | (have hr1 : (p.toList == ([47] : List UInt8)) = false := beq_eq_false_iff_ne.2 hr)
        cases hz : zR ri with
        | true =>
          obtain ⟨z0, z1, z2, z3⟩ : ri.f0 = 0 ∧ ri.f1 = 0 ∧ ri.f2 = 0 ∧ ri.f3 = 0 := by simpa [zR] using hz
          rw [z0] at c7
          rw [z1] at c8
          rw [z2] at c9
          rw [z3] at c10
          by_cases hw : ws.length = 0
          · have hxx := HZ.out
            rw [if_pos ⟨hz, hw⟩] at hxx
            subst hxx
            go_wp2
            go_ret
            exact ⟨rfl, HB.out⟩
          · have hxx := HZ.out
            rw [if_neg (fun h => hw h.2)] at hxx
            subst hxx
            have hw1 : 0 < ws.length := by omega
            go_wp2
            go_ret
            exact ⟨rfl, HB.out⟩
        | false =>
          have hxx := HZ.out
          rw [if_neg (fun h => by rw [hz] at h; exact Bool.noConfusion h.1)] at hxx
          subst hxx
          by_cases z0 : ri.f0 = 0
          · rw [z0] at c7
            by_cases z1 : ri.f1 = 0
            · rw [z1] at c8
              by_cases z2 : ri.f2 = 0
              · rw [z2] at c9
                have z3 : ¬ ri.f3 = 0 := fun h => by simp [zR, z0, z1, z2, h] at hz
                have b3 : (ri.f3 == 0) = false := beq_eq_false_iff_ne.2 z3
                go_wp2
                go_ret
                exact ⟨rfl, HB.out⟩
              · have b2 : (ri.f2 == 0) = false := beq_eq_false_iff_ne.2 z2
                go_wp2
                go_ret
                exact ⟨rfl, HB.out⟩
            · have b1 : (ri.f1 == 0) = false := beq_eq_false_iff_ne.2 z1
              go_wp2
              go_ret
              exact ⟨rfl, HB.out⟩
          · have b0 : (ri.f0 == 0) = false := beq_eq_false_iff_ne.2 z0
            go_wp2
            go_ret
            exact ⟨rfl, HB.out⟩
    | false =>
      have c0 : w6.cell? ⟨w.heap.size, 0, none⟩ = some (Value.string p) := (blk_cell H6 0).trans rfl
      have c1 : w6.cell? ⟨w.heap.size, 1, none⟩ = some (Value.bool false) := (blk_cell H6 1).trans rfl
      have c7 : w6.cell? ⟨w.heap.size, 7, none⟩ = some (Value.int .i64 ri.f0) := (blk_cell H6 7).trans rfl
      have c8 : w6.cell? ⟨w.heap.size, 8, none⟩ = some (Value.int .i64 ri.f1) := (blk_cell H6 8).trans rfl
      have c9 : w6.cell? ⟨w.heap.size, 9, none⟩ = some (Value.int .i64 ri.f2) := (blk_cell H6 9).trans rfl
      have c10 : w6.cell? ⟨w.heap.size, 10, none⟩ = some (Value.int .i64 ri.f3) := (blk_cell H6 10).trans rfl
      have c11_ : w6.cell? ⟨w.heap.size, 11, none⟩ = some (Value.slice A11 ws.length c11) := (blk_cell H6 11).trans rfl
      have hz0 := HX.out
      rw [if_neg (by decide)] at hz0
      by_cases hr : p.toList = [47]
      · have hr1 : (p.toList == ([47] : List UInt8)) = true := by rw [hr]; rfl
        rw [if_pos ⟨hr, rfl⟩] at hz0
        subst hz0
        clear H6
        go_wp2
        go_ret
        exact ⟨rfl, HB.out⟩
      · have hr1 : (p.toList == ([47] : List UInt8)) = false := beq_eq_false_iff_ne.2 hr
        rw [if_neg (fun h => hr h.1), if_neg (by simp)] at hz0
        have E6 := Lib.hid H6
        by_cases hq : ringN ri = 0
        · rw [if_neg (by simpa using hq)] at hz0
          have HZ := Lib.hid hz0
          clear hz0 H6
          rw [hq] at HRC
          by_cases h16 : 16 < ws.length
          all_goals
            have hz1 := HZ.out
            first | (rw [if_pos h16] at hz1) | (rw [if_neg h16] at hz1)
            subst hz1
            go_wp2_with (go_at_call 102; refine (HRC.out _).mono ?_; rintro e w7 ⟨rfl, hb⟩; have HB7 := Lib.hid (below_step HB.out hb); have c11b := pw_cell_below hb c11_; clear hb)
            go_ret
            exact ⟨rfl, HB7.out⟩
        · rw [if_pos hq] at hz0
          obtain ⟨y, hy⟩ : ∃ y, ringN ri = y := ⟨_, rfl⟩
          rw [hy] at hq HRC hz0
          subst hz0
          clear hy
          have hq1 : (y != 0) = true := bne_iff_ne.2 hq
          clear H6
          go_wp2_with (go_at_call 102; refine (HRC.out _).mono ?_; rintro e w7 ⟨rfl, hb⟩; have HB7 := Lib.hid (below_step HB.out hb); clear hb)
          go_ret
          exact ⟨rfl, HB7.out⟩
  · have he1 : (e != 0) = true := bne_iff_ne.2 he
    have hxx := HX.out
    rw [if_pos he] at hxx
    subst hxx
    go_wp2
    go_ret
    exact ⟨rfl, HB.out⟩
end Go.Proofs.YtmndeoncbocplaaDoor.C
end
