/- Texts that the claim's law stands on, cut down to what it reaches. -/
import Derived.Test.YtmndeoncbocplaaDoorJE1
import Derived.Deep.RegionHeldLaw
import Derived.Deep.RegionHeld3
import Derived.Deep.LoopGhost
import Derived.Test.YtmndeoncbocplaaDoorJT3
set_option linter.unusedVariables false
set_option linter.unusedSimpArgs false
section
set_option linter.unusedVariables false
set_option linter.unusedSimpArgs false
namespace Go.Proofs.YtmndeoncbocplaaDoor.C
open Go.RowKit Go.Proofs.YtmndeoncbocplaaDoor.Q Go.Proofs.YtmndeoncbocplaaDoorW.PrintWords Go.Proofs.YtmndeoncbocplaaDoorW.PrintLast Go.Proofs.YtmndeoncbocplaaDoorW.PrintMore
attribute [local go_sem ↓] rd_at50 wr_at50 al_at50
attribute [local go_sem] rd50_new wr50_new al50
theorem gAt_mem {l : List S96} {i : Nat} (h : i < l.length) : gAt l i ∈ l := by
  unfold gAt rd_T96
  simp [List.getD_eq_getElem?_getD, List.getElem?_eq_getElem h]
set_option maxHeartbeats 4000000 in
set_option maxRecDepth 100000 in
theorem raclcheck_c (l : List S96) (A : Option Addr) (c : Nat) (w : World) (hC : Kd.C k96 w A l.length l) (hc : l.length ≤ c) (hS : ∀ g ∈ l, g.f0.size ≤ 9223372036854775807) :
    Calls Tryd.prog 104 #[.slice A l.length c] w fun e w' => e = .returned (.int .i64 (aclN l)) ∧ Below w.heap.size w w' := by
  have HC := Lib.hid hC
  have HS := Lib.hid hS
  clear hC hS
  by_cases h4 : 4 < l.length
  · have hv : aclN l = 4 := by unfold aclN; rw [if_pos h4]
    rw [hv]
    clear hv
    go_enter Tryd.func104, Tryd.ntmps104
    go_wp2
    go_ret
    exact ⟨rfl, Below.refl _ _⟩
  · obtain ⟨r, hr⟩ : ∃ r, aclN l = r := ⟨_, rfl⟩
    have HR := Lib.hid hr
    rw [hr]
    clear hr
    go_enter Tryd.func104, Tryd.ntmps104
    go_wp2
    go_loopg [3] l.length (fun k s3 wr => ∃ i : Nat, i ≤ l.length ∧ l.length - i ≤ k ∧ s3 = .int .i64 i ∧ Hid (∀ j, j < i → badAt l j = false) ∧ Hid (Below w.heap.size w wr))
    case atStart => exact ⟨0, Nat.zero_le _, Nat.le_refl _, rfl, Lib.hid (fun j hj => absurd hj (Nat.not_lt_zero j)), Lib.hid (Below.refl _ _)⟩
    case round =>
      obtain ⟨i, hi, hik, rfl, HG, HB⟩ := hrel
      by_cases hlt : i < l.length
      · obtain ⟨W0, hW⟩ : ∃ W, W = wr := ⟨_, rfl⟩
        subst hW
        obtain ⟨ad, hA, h0, h1⟩ := at_T96 (Kd.C_below HC.out HB.out) (i : Int) (by omega) (by omega)
        subst hA
        simp only [Int.toNat_natCast] at h0 h1
        have HWH := Lib.hid (rwho_c (gAt l i).f0 (HS.out _ (gAt_mem hlt)))
        obtain ⟨rb, hrb⟩ : ∃ rb, badAt l i = rb := ⟨_, rfl⟩
        have HRB := Lib.hid hrb
        clear hrb
        change _ = some (Value.string (gAt l i).f0) at h0
        change _ = some (Value.int .i64 (gAt l i).f1) at h1
        have HU := Lib.hid h0
        have HM := Lib.hid h1
        clear h0 h1
        by_cases hi0 : 0 < i
        · obtain ⟨ad1, hA1, hp0, _⟩ := at_T96 (Kd.C_below HC.out HB.out) ((i - 1 : Nat) : Int) (by omega) (by omega)
          obtain rfl := Option.some.inj hA1
          simp only [Int.toNat_natCast] at hp0
          change _ = some (Value.string (gAt l (i - 1)).f0) at hp0
          have hwr : IntKind.i64.wrap ((i : Int) - 1) = ((i - 1 : Nat) : Int) := by rw [i64_w]; unfold wrap64; omega
          have HRB2 := Lib.hid (show (!whoB (gAt l i).f0 || ((!Op.bytesLess (gAt l (i - 1)).f0.toList (gAt l i).f0.toList) || (decide ((gAt l i).f1 < 1) || decide (7 < (gAt l i).f1)))) = rb from by rw [← HRB.out]; unfold badAt badM; rw [if_pos hi0])
          have HP := Lib.hid hp0
          have HWR := Lib.hid hwr
          clear hp0 hwr hA1
          generalize gAt l (i - 1) = p at HP HRB2
          generalize gAt l i = g at HU HM HWH HRB2
          go_wp2
          refine ra104b ad l.length c i (i - 1) p.f0 _ g.f0 g.f1 (whoB g.f0) rb _ _ _ _ _ _ _ _ _ _ _ _ _ _ _ _ _ _ _ _ _ _ _ _ _ _ _ _ _ _ _ _ _ _ _ _ _ _ _ _ _ _ _ _ _ _ _ _ _ _ _ _ _ _ HU.out HM.out hlt HP.out (by omega) hi0 HWR.out rfl HWH.out HRB2.out ?_
          intro w6 t13 t14 t15 t16 t17 t18 t19 t20 t21 t22 t23 t24 t25 t26 t27 t28 t29 t30 t31 t32 t33 t34 t35 t36 t37 t38 t39 t40 t41 t42 t43 t44 t45 t46 t47 t48 t49 t50 t51 t52 hb
          have HB6 := Lib.hid (below_step HB.out hb)
          clear hb
          cases rb with
          | true =>
            have hrr : r = 1 := by
              rw [← HR.out]; unfold aclN
              rw [if_neg h4, if_pos ⟨i, hlt, HRB.out⟩]
            subst hrr
            go_wp2
            go_ret
            exact ⟨rfl, HB6.out⟩
          | false =>
            have HG6 := Lib.hid (show ∀ j, j < i + 1 → badAt l j = false from fun j hj => by
              by_cases h : j = i
              · rw [h]; exact HRB.out
              · exact HG.out j (by omega))
            go_wp2
            go_roundg (l.length - (i + 1))
            case measure => omega
            case rel => exact ⟨i + 1, hlt, Nat.le_refl _, by go_num, HG6, HB6⟩
        · have HRB2 := Lib.hid (show (!whoB (gAt l i).f0 || (decide ((gAt l i).f1 < 1) || decide (7 < (gAt l i).f1))) = rb from by rw [← HRB.out]; unfold badAt badM; rw [if_neg hi0])
          generalize gAt l i = g at HU HM HWH HRB2
          go_wp2
          refine ra104a ad l.length c i g.f0 g.f1 (whoB g.f0) rb _ _ _ _ _ _ _ _ _ _ _ _ _ _ _ _ _ _ _ _ _ _ _ _ _ _ _ _ _ _ _ _ _ _ _ _ _ _ _ _ _ _ _ _ _ _ _ _ _ _ _ _ _ _ HU.out HM.out hlt hi0 HWH.out HRB2.out ?_
          intro w6 t13 t14 t15 t16 t17 t18 t19 t20 t21 t22 t23 t24 t25 t26 t27 t28 t29 t30 t31 t32 t33 t34 t35 t36 t37 t38 t39 t40 t41 t42 t43 t44 t45 t46 t47 t48 t49 t50 t51 t52 hb
          have HB6 := Lib.hid (below_step HB.out hb)
          clear hb
          cases rb with
          | true =>
            have hrr : r = 1 := by
              rw [← HR.out]; unfold aclN
              rw [if_neg h4, if_pos ⟨i, hlt, HRB.out⟩]
            subst hrr
            go_wp2
            go_ret
            exact ⟨rfl, HB6.out⟩
          | false =>
            have HG6 := Lib.hid (show ∀ j, j < i + 1 → badAt l j = false from fun j hj => by
              by_cases h : j = i
              · rw [h]; exact HRB.out
              · exact HG.out j (by omega))
            go_wp2
            go_roundg (l.length - (i + 1))
            case measure => omega
            case rel => exact ⟨i + 1, hlt, Nat.le_refl _, by go_num, HG6, HB6⟩
      · have hrr : r = 0 := by
          rw [← HR.out]; unfold aclN
          rw [if_neg h4, if_neg]
          rintro ⟨j, hj, hb⟩
          rw [HG.out j (by omega)] at hb
          exact Bool.noConfusion hb
        subst hrr
        go_wp2
        go_ret
        exact ⟨rfl, HB.out⟩
end Go.Proofs.YtmndeoncbocplaaDoor.C
end
section
set_option linter.unusedVariables false
set_option linter.unusedSimpArgs false
namespace Go.Proofs.YtmndeoncbocplaaDoor.C
open Go.RowKit Go.Proofs.YtmndeoncbocplaaDoor.Q Go.Proofs.YtmndeoncbocplaaDoorW.PrintWords Go.Proofs.YtmndeoncbocplaaDoorW.PrintLast Go.Proofs.YtmndeoncbocplaaDoorW.PrintMore
attribute [local go_sem ↓] rd_at50 wr_at50 al_at50
attribute [local go_sem] rd50_new wr50_new al50
theorem rlab_calls (a : S41) (w1 : World) : Calls Tryd.prog 103 #[.agg #[.int .i64 a.f0, .int .i64 a.f1, .int .i64 a.f2, .int .i64 a.f3]] w1 fun e w' => e = .returned (.int .i64 (labN a)) ∧ Below w1.heap.size w1 w' := by
  refine (donjonref4_Check.calls a.f0 a.f1 a.f2 a.f3 (labN a) w1 ?_).mono fun _ _ ⟨he, hd⟩ => ⟨he, hd⟩
  unfold donjonref4_Check.f labN
  repeat' split
  all_goals first | rfl | (exfalso; omega)
theorem rring_calls (r : S47) (w1 : World) : Calls Tryd.prog 105 #[.agg #[.int .i64 r.f0, .int .i64 r.f1, .int .i64 r.f2, .int .i64 r.f3]] w1 fun e w' => e = .returned (.int .i64 (ringN r)) ∧ Below w1.heap.size w1 w' := by
  refine (donjonref6_Check.calls r.f0 r.f1 r.f2 r.f3 (ringN r) w1 ?_).mono fun _ _ ⟨he, hd⟩ => ⟨he, hd⟩
  unfold donjonref6_Check.f ringN
  repeat' split
  all_goals first | rfl | (exfalso; omega)
theorem rpe_calls (s : ByteArray) (w1 : World) : Calls Tryd.prog 24 #[.string s] w1 fun e w' => e = .returned (.int .i64 (peN s)) ∧ Below w1.heap.size w1 w' :=
  (P.donjonref7_Check.calls 2000 s _ w1 (P.ref_check s 2000 (by omega))).mono fun _ _ ⟨he, hd⟩ => ⟨he, hd⟩
theorem first4_ne {a b c d : Int} (h : first4 [a, b, c, d] ≠ 0) : (a ≠ 0 ∧ first4 [a, b, c, d] = a) ∨ (a = 0 ∧ b ≠ 0 ∧ first4 [a, b, c, d] = b) ∨ (a = 0 ∧ b = 0 ∧ c ≠ 0 ∧ first4 [a, b, c, d] = c) ∨ (a = 0 ∧ b = 0 ∧ c = 0 ∧ d ≠ 0 ∧ first4 [a, b, c, d] = d) := by
  by_cases ha : a = 0 <;> by_cases hb : b = 0 <;> by_cases hc : c = 0 <;> by_cases hd : d = 0 <;> simp_all [first4]
theorem first4_eq {a b c d : Int} (h : first4 [a, b, c, d] = 0) : a = 0 ∧ b = 0 ∧ c = 0 ∧ d = 0 := by
  by_cases ha : a = 0 <;> by_cases hb : b = 0 <;> by_cases hc : c = 0 <;> by_cases hd : d = 0 <;> simp_all [first4]
set_option maxHeartbeats 8000000 in
set_option maxRecDepth 100000 in
theorem rndcheck_f (p : ByteArray) (dir : Bool) (la : S41) (gs : List S96) (ri : S47) (ws : List Int) (lb : S41) (A6 A11 : Option Addr) (c6 c11 : Nat) (pe : Int) (w : World)
    (hP : ∀ w1 : World, Calls Tryd.prog 24 #[.string p] w1 fun e w' => e = .returned (.int .i64 pe) ∧ Below w1.heap.size w1 w')
    (hC : Kd.C k96 w A6 gs.length gs) (h6 : gs.length ≤ c6) (hS : ∀ g ∈ gs, g.f0.size ≤ 9223372036854775807) :
    Calls Tryd.prog 81 #[.agg #[Value.string p, Value.bool dir, Value.int .i64 la.f0, Value.int .i64 la.f1, Value.int .i64 la.f2, Value.int .i64 la.f3, Value.slice A6 gs.length c6, Value.int .i64 ri.f0, Value.int .i64 ri.f1, Value.int .i64 ri.f2, Value.int .i64 ri.f3, Value.slice A11 ws.length c11, Value.int .i64 lb.f0, Value.int .i64 lb.f1, Value.int .i64 lb.f2, Value.int .i64 lb.f3]] w fun e w' => e = .returned (.int .i64 (ndN pe ⟨p, dir, la, gs, ri, ws, lb⟩)) ∧ Below w.heap.size w w' := by
  obtain ⟨x, hx⟩ : ∃ x, ndN pe ⟨p, dir, la, gs, ri, ws, lb⟩ = x := ⟨_, rfl⟩
  rw [hx]
  unfold ndN at hx
  dsimp only at hx
  generalize ws.length = nw at hx ⊢
  obtain ⟨r0, r1, r2, r3⟩ := ri
  have HX := Lib.hid hx
  have HP := Lib.hid hP
  have HA := Lib.hid fun w1 (hb : Below w.heap.size w w1) => raclcheck_c gs A6 c6 w1 (Kd.C_below hC hb) h6 hS
  have HL1 := Lib.hid (rlab_calls la)
  have HL2 := Lib.hid (rlab_calls lb)
  have HRC := Lib.hid fun w1 : World => (rring_calls ⟨r0, r1, r2, r3⟩ w1 : Calls Tryd.prog 105 #[.agg #[.int .i64 r0, .int .i64 r1, .int .i64 r2, .int .i64 r3]] w1 fun e w' => e = .returned (.int .i64 (ringN ⟨r0, r1, r2, r3⟩)) ∧ Below w1.heap.size w1 w')
  clear hx hP hC hS
  go_enter Tryd.func81, Tryd.ntmps81
  have HB := Lib.hid (below_alloc (Below.refl w.heap.size w) (.cells #[Value.string p, Value.bool dir, Value.int .i64 la.f0, Value.int .i64 la.f1, Value.int .i64 la.f2, Value.int .i64 la.f3, Value.slice A6 gs.length c6, Value.int .i64 r0, Value.int .i64 r1, Value.int .i64 r2, Value.int .i64 r3, Value.slice A11 nw c11, Value.int .i64 lb.f0, Value.int .i64 lb.f1, Value.int .i64 lb.f2, Value.int .i64 lb.f3] 50))
  have H6 := blk_new w (.cells #[Value.string p, Value.bool dir, Value.int .i64 la.f0, Value.int .i64 la.f1, Value.int .i64 la.f2, Value.int .i64 la.f3, Value.slice A6 gs.length c6, Value.int .i64 r0, Value.int .i64 r1, Value.int .i64 r2, Value.int .i64 r3, Value.slice A11 nw c11, Value.int .i64 lb.f0, Value.int .i64 lb.f1, Value.int .i64 lb.f2, Value.int .i64 lb.f3] 50)
  have c0_ : (w.alloc (.cells #[Value.string p, Value.bool dir, Value.int .i64 la.f0, Value.int .i64 la.f1, Value.int .i64 la.f2, Value.int .i64 la.f3, Value.slice A6 gs.length c6, Value.int .i64 r0, Value.int .i64 r1, Value.int .i64 r2, Value.int .i64 r3, Value.slice A11 nw c11, Value.int .i64 lb.f0, Value.int .i64 lb.f1, Value.int .i64 lb.f2, Value.int .i64 lb.f3] 50)).cell? ⟨w.heap.size, 0, none⟩ = some (Value.string p) := (blk_cell H6 0).trans rfl
  have c1_ : (w.alloc (.cells #[Value.string p, Value.bool dir, Value.int .i64 la.f0, Value.int .i64 la.f1, Value.int .i64 la.f2, Value.int .i64 la.f3, Value.slice A6 gs.length c6, Value.int .i64 r0, Value.int .i64 r1, Value.int .i64 r2, Value.int .i64 r3, Value.slice A11 nw c11, Value.int .i64 lb.f0, Value.int .i64 lb.f1, Value.int .i64 lb.f2, Value.int .i64 lb.f3] 50)).cell? ⟨w.heap.size, 1, none⟩ = some (Value.bool dir) := (blk_cell H6 1).trans rfl
  have c2_ : (w.alloc (.cells #[Value.string p, Value.bool dir, Value.int .i64 la.f0, Value.int .i64 la.f1, Value.int .i64 la.f2, Value.int .i64 la.f3, Value.slice A6 gs.length c6, Value.int .i64 r0, Value.int .i64 r1, Value.int .i64 r2, Value.int .i64 r3, Value.slice A11 nw c11, Value.int .i64 lb.f0, Value.int .i64 lb.f1, Value.int .i64 lb.f2, Value.int .i64 lb.f3] 50)).cell? ⟨w.heap.size, 2, none⟩ = some (Value.int .i64 la.f0) := (blk_cell H6 2).trans rfl
  have c3_ : (w.alloc (.cells #[Value.string p, Value.bool dir, Value.int .i64 la.f0, Value.int .i64 la.f1, Value.int .i64 la.f2, Value.int .i64 la.f3, Value.slice A6 gs.length c6, Value.int .i64 r0, Value.int .i64 r1, Value.int .i64 r2, Value.int .i64 r3, Value.slice A11 nw c11, Value.int .i64 lb.f0, Value.int .i64 lb.f1, Value.int .i64 lb.f2, Value.int .i64 lb.f3] 50)).cell? ⟨w.heap.size, 3, none⟩ = some (Value.int .i64 la.f1) := (blk_cell H6 3).trans rfl
  have c4_ : (w.alloc (.cells #[Value.string p, Value.bool dir, Value.int .i64 la.f0, Value.int .i64 la.f1, Value.int .i64 la.f2, Value.int .i64 la.f3, Value.slice A6 gs.length c6, Value.int .i64 r0, Value.int .i64 r1, Value.int .i64 r2, Value.int .i64 r3, Value.slice A11 nw c11, Value.int .i64 lb.f0, Value.int .i64 lb.f1, Value.int .i64 lb.f2, Value.int .i64 lb.f3] 50)).cell? ⟨w.heap.size, 4, none⟩ = some (Value.int .i64 la.f2) := (blk_cell H6 4).trans rfl
  have c5_ : (w.alloc (.cells #[Value.string p, Value.bool dir, Value.int .i64 la.f0, Value.int .i64 la.f1, Value.int .i64 la.f2, Value.int .i64 la.f3, Value.slice A6 gs.length c6, Value.int .i64 r0, Value.int .i64 r1, Value.int .i64 r2, Value.int .i64 r3, Value.slice A11 nw c11, Value.int .i64 lb.f0, Value.int .i64 lb.f1, Value.int .i64 lb.f2, Value.int .i64 lb.f3] 50)).cell? ⟨w.heap.size, 5, none⟩ = some (Value.int .i64 la.f3) := (blk_cell H6 5).trans rfl
  have c6_ : (w.alloc (.cells #[Value.string p, Value.bool dir, Value.int .i64 la.f0, Value.int .i64 la.f1, Value.int .i64 la.f2, Value.int .i64 la.f3, Value.slice A6 gs.length c6, Value.int .i64 r0, Value.int .i64 r1, Value.int .i64 r2, Value.int .i64 r3, Value.slice A11 nw c11, Value.int .i64 lb.f0, Value.int .i64 lb.f1, Value.int .i64 lb.f2, Value.int .i64 lb.f3] 50)).cell? ⟨w.heap.size, 6, none⟩ = some (Value.slice A6 gs.length c6) := (blk_cell H6 6).trans rfl
  have c7_ : (w.alloc (.cells #[Value.string p, Value.bool dir, Value.int .i64 la.f0, Value.int .i64 la.f1, Value.int .i64 la.f2, Value.int .i64 la.f3, Value.slice A6 gs.length c6, Value.int .i64 r0, Value.int .i64 r1, Value.int .i64 r2, Value.int .i64 r3, Value.slice A11 nw c11, Value.int .i64 lb.f0, Value.int .i64 lb.f1, Value.int .i64 lb.f2, Value.int .i64 lb.f3] 50)).cell? ⟨w.heap.size, 7, none⟩ = some (Value.int .i64 r0) := (blk_cell H6 7).trans rfl
  have c8_ : (w.alloc (.cells #[Value.string p, Value.bool dir, Value.int .i64 la.f0, Value.int .i64 la.f1, Value.int .i64 la.f2, Value.int .i64 la.f3, Value.slice A6 gs.length c6, Value.int .i64 r0, Value.int .i64 r1, Value.int .i64 r2, Value.int .i64 r3, Value.slice A11 nw c11, Value.int .i64 lb.f0, Value.int .i64 lb.f1, Value.int .i64 lb.f2, Value.int .i64 lb.f3] 50)).cell? ⟨w.heap.size, 8, none⟩ = some (Value.int .i64 r1) := (blk_cell H6 8).trans rfl
  have c9_ : (w.alloc (.cells #[Value.string p, Value.bool dir, Value.int .i64 la.f0, Value.int .i64 la.f1, Value.int .i64 la.f2, Value.int .i64 la.f3, Value.slice A6 gs.length c6, Value.int .i64 r0, Value.int .i64 r1, Value.int .i64 r2, Value.int .i64 r3, Value.slice A11 nw c11, Value.int .i64 lb.f0, Value.int .i64 lb.f1, Value.int .i64 lb.f2, Value.int .i64 lb.f3] 50)).cell? ⟨w.heap.size, 9, none⟩ = some (Value.int .i64 r2) := (blk_cell H6 9).trans rfl
  have c10_ : (w.alloc (.cells #[Value.string p, Value.bool dir, Value.int .i64 la.f0, Value.int .i64 la.f1, Value.int .i64 la.f2, Value.int .i64 la.f3, Value.slice A6 gs.length c6, Value.int .i64 r0, Value.int .i64 r1, Value.int .i64 r2, Value.int .i64 r3, Value.slice A11 nw c11, Value.int .i64 lb.f0, Value.int .i64 lb.f1, Value.int .i64 lb.f2, Value.int .i64 lb.f3] 50)).cell? ⟨w.heap.size, 10, none⟩ = some (Value.int .i64 r3) := (blk_cell H6 10).trans rfl
  have c11_ : (w.alloc (.cells #[Value.string p, Value.bool dir, Value.int .i64 la.f0, Value.int .i64 la.f1, Value.int .i64 la.f2, Value.int .i64 la.f3, Value.slice A6 gs.length c6, Value.int .i64 r0, Value.int .i64 r1, Value.int .i64 r2, Value.int .i64 r3, Value.slice A11 nw c11, Value.int .i64 lb.f0, Value.int .i64 lb.f1, Value.int .i64 lb.f2, Value.int .i64 lb.f3] 50)).cell? ⟨w.heap.size, 11, none⟩ = some (Value.slice A11 nw c11) := (blk_cell H6 11).trans rfl
  have c12_ : (w.alloc (.cells #[Value.string p, Value.bool dir, Value.int .i64 la.f0, Value.int .i64 la.f1, Value.int .i64 la.f2, Value.int .i64 la.f3, Value.slice A6 gs.length c6, Value.int .i64 r0, Value.int .i64 r1, Value.int .i64 r2, Value.int .i64 r3, Value.slice A11 nw c11, Value.int .i64 lb.f0, Value.int .i64 lb.f1, Value.int .i64 lb.f2, Value.int .i64 lb.f3] 50)).cell? ⟨w.heap.size, 12, none⟩ = some (Value.int .i64 lb.f0) := (blk_cell H6 12).trans rfl
  have c13_ : (w.alloc (.cells #[Value.string p, Value.bool dir, Value.int .i64 la.f0, Value.int .i64 la.f1, Value.int .i64 la.f2, Value.int .i64 la.f3, Value.slice A6 gs.length c6, Value.int .i64 r0, Value.int .i64 r1, Value.int .i64 r2, Value.int .i64 r3, Value.slice A11 nw c11, Value.int .i64 lb.f0, Value.int .i64 lb.f1, Value.int .i64 lb.f2, Value.int .i64 lb.f3] 50)).cell? ⟨w.heap.size, 13, none⟩ = some (Value.int .i64 lb.f1) := (blk_cell H6 13).trans rfl
  have c14_ : (w.alloc (.cells #[Value.string p, Value.bool dir, Value.int .i64 la.f0, Value.int .i64 la.f1, Value.int .i64 la.f2, Value.int .i64 la.f3, Value.slice A6 gs.length c6, Value.int .i64 r0, Value.int .i64 r1, Value.int .i64 r2, Value.int .i64 r3, Value.slice A11 nw c11, Value.int .i64 lb.f0, Value.int .i64 lb.f1, Value.int .i64 lb.f2, Value.int .i64 lb.f3] 50)).cell? ⟨w.heap.size, 14, none⟩ = some (Value.int .i64 lb.f2) := (blk_cell H6 14).trans rfl
  have c15_ : (w.alloc (.cells #[Value.string p, Value.bool dir, Value.int .i64 la.f0, Value.int .i64 la.f1, Value.int .i64 la.f2, Value.int .i64 la.f3, Value.slice A6 gs.length c6, Value.int .i64 r0, Value.int .i64 r1, Value.int .i64 r2, Value.int .i64 r3, Value.slice A11 nw c11, Value.int .i64 lb.f0, Value.int .i64 lb.f1, Value.int .i64 lb.f2, Value.int .i64 lb.f3] 50)).cell? ⟨w.heap.size, 15, none⟩ = some (Value.int .i64 lb.f3) := (blk_cell H6 15).trans rfl
  clear H6
  by_cases hf : first4 [pe, labN la, labN lb, aclN gs] = 0
  rotate_left
  · have hxx := HX.out
    rw [if_pos hf] at hxx
    rcases first4_ne hf with ⟨h0, he⟩ | ⟨z1, h0, he⟩ | ⟨z1, z2, h0, he⟩ | ⟨z1, z2, z3, h0, he⟩
    · rw [he] at hxx
      subst hxx
      have hy1 : (pe != 0) = true := bne_iff_ne.2 h0
      have hy2 : (pe == 0) = false := beq_eq_false_iff_ne.2 h0
      clear he h0 hf HX
      go_wp2_with (first | (go_at_call 24; (with_reducible refine (HP.out _).mono ?_); rintro e w7 ⟨rfl, hb⟩; replace c0_ := pw_cell_below hb c0_; replace c1_ := pw_cell_below hb c1_; replace c2_ := pw_cell_below hb c2_; replace c3_ := pw_cell_below hb c3_; replace c4_ := pw_cell_below hb c4_; replace c5_ := pw_cell_below hb c5_; replace c6_ := pw_cell_below hb c6_; replace c7_ := pw_cell_below hb c7_; replace c8_ := pw_cell_below hb c8_; replace c9_ := pw_cell_below hb c9_; replace c10_ := pw_cell_below hb c10_; replace c11_ := pw_cell_below hb c11_; replace c12_ := pw_cell_below hb c12_; replace c13_ := pw_cell_below hb c13_; replace c14_ := pw_cell_below hb c14_; replace c15_ := pw_cell_below hb c15_; replace HB := Lib.hid (below_step HB.out hb); clear hb))
      go_ret
      exact ⟨rfl, HB.out⟩
    · rw [he] at hxx
      rw [z1] at HP
      generalize labN la = y at h0 HL1 hxx
      subst hxx
      have hy1 : (y != 0) = true := bne_iff_ne.2 h0
      have hy2 : (y == 0) = false := beq_eq_false_iff_ne.2 h0
      clear he h0 hf HX
      go_wp2_with (first | (go_at_call 24; (with_reducible refine (HP.out _).mono ?_); rintro e w7 ⟨rfl, hb⟩; replace c0_ := pw_cell_below hb c0_; replace c1_ := pw_cell_below hb c1_; replace c2_ := pw_cell_below hb c2_; replace c3_ := pw_cell_below hb c3_; replace c4_ := pw_cell_below hb c4_; replace c5_ := pw_cell_below hb c5_; replace c6_ := pw_cell_below hb c6_; replace c7_ := pw_cell_below hb c7_; replace c8_ := pw_cell_below hb c8_; replace c9_ := pw_cell_below hb c9_; replace c10_ := pw_cell_below hb c10_; replace c11_ := pw_cell_below hb c11_; replace c12_ := pw_cell_below hb c12_; replace c13_ := pw_cell_below hb c13_; replace c14_ := pw_cell_below hb c14_; replace c15_ := pw_cell_below hb c15_; replace HB := Lib.hid (below_step HB.out hb); clear hb) | (go_at_call 103; (with_reducible refine (HL1.out _).mono ?_); rintro e w7 ⟨rfl, hb⟩; replace c0_ := pw_cell_below hb c0_; replace c1_ := pw_cell_below hb c1_; replace c2_ := pw_cell_below hb c2_; replace c3_ := pw_cell_below hb c3_; replace c4_ := pw_cell_below hb c4_; replace c5_ := pw_cell_below hb c5_; replace c6_ := pw_cell_below hb c6_; replace c7_ := pw_cell_below hb c7_; replace c8_ := pw_cell_below hb c8_; replace c9_ := pw_cell_below hb c9_; replace c10_ := pw_cell_below hb c10_; replace c11_ := pw_cell_below hb c11_; replace c12_ := pw_cell_below hb c12_; replace c13_ := pw_cell_below hb c13_; replace c14_ := pw_cell_below hb c14_; replace c15_ := pw_cell_below hb c15_; replace HB := Lib.hid (below_step HB.out hb); clear hb))
      go_ret
      exact ⟨rfl, HB.out⟩
    · rw [he] at hxx
      rw [z1] at HP
      rw [z2] at HL1
      generalize labN lb = y at h0 HL2 hxx
      subst hxx
      have hy1 : (y != 0) = true := bne_iff_ne.2 h0
      have hy2 : (y == 0) = false := beq_eq_false_iff_ne.2 h0
      clear he h0 hf HX
      go_wp2_with (first | (go_at_call 24; (with_reducible refine (HP.out _).mono ?_); rintro e w7 ⟨rfl, hb⟩; replace c0_ := pw_cell_below hb c0_; replace c1_ := pw_cell_below hb c1_; replace c2_ := pw_cell_below hb c2_; replace c3_ := pw_cell_below hb c3_; replace c4_ := pw_cell_below hb c4_; replace c5_ := pw_cell_below hb c5_; replace c6_ := pw_cell_below hb c6_; replace c7_ := pw_cell_below hb c7_; replace c8_ := pw_cell_below hb c8_; replace c9_ := pw_cell_below hb c9_; replace c10_ := pw_cell_below hb c10_; replace c11_ := pw_cell_below hb c11_; replace c12_ := pw_cell_below hb c12_; replace c13_ := pw_cell_below hb c13_; replace c14_ := pw_cell_below hb c14_; replace c15_ := pw_cell_below hb c15_; replace HB := Lib.hid (below_step HB.out hb); clear hb) | (go_at_call 103; (with_reducible refine (HL1.out _).mono ?_); rintro e w7 ⟨rfl, hb⟩; replace c0_ := pw_cell_below hb c0_; replace c1_ := pw_cell_below hb c1_; replace c2_ := pw_cell_below hb c2_; replace c3_ := pw_cell_below hb c3_; replace c4_ := pw_cell_below hb c4_; replace c5_ := pw_cell_below hb c5_; replace c6_ := pw_cell_below hb c6_; replace c7_ := pw_cell_below hb c7_; replace c8_ := pw_cell_below hb c8_; replace c9_ := pw_cell_below hb c9_; replace c10_ := pw_cell_below hb c10_; replace c11_ := pw_cell_below hb c11_; replace c12_ := pw_cell_below hb c12_; replace c13_ := pw_cell_below hb c13_; replace c14_ := pw_cell_below hb c14_; replace c15_ := pw_cell_below hb c15_; replace HB := Lib.hid (below_step HB.out hb); clear hb) | (go_at_call 103; (with_reducible refine (HL2.out _).mono ?_); rintro e w7 ⟨rfl, hb⟩; replace c0_ := pw_cell_below hb c0_; replace c1_ := pw_cell_below hb c1_; replace c2_ := pw_cell_below hb c2_; replace c3_ := pw_cell_below hb c3_; replace c4_ := pw_cell_below hb c4_; replace c5_ := pw_cell_below hb c5_; replace c6_ := pw_cell_below hb c6_; replace c7_ := pw_cell_below hb c7_; replace c8_ := pw_cell_below hb c8_; replace c9_ := pw_cell_below hb c9_; replace c10_ := pw_cell_below hb c10_; replace c11_ := pw_cell_below hb c11_; replace c12_ := pw_cell_below hb c12_; replace c13_ := pw_cell_below hb c13_; replace c14_ := pw_cell_below hb c14_; replace c15_ := pw_cell_below hb c15_; replace HB := Lib.hid (below_step HB.out hb); clear hb))
      go_ret
      exact ⟨rfl, HB.out⟩
    · rw [he] at hxx
      rw [z1] at HP
      rw [z2] at HL1
      rw [z3] at HL2
      generalize aclN gs = y at h0 HA hxx
      subst hxx
      have hy1 : (y != 0) = true := bne_iff_ne.2 h0
      have hy2 : (y == 0) = false := beq_eq_false_iff_ne.2 h0
      clear he h0 hf HX
      go_wp2_with (first | (go_at_call 24; (with_reducible refine (HP.out _).mono ?_); rintro e w7 ⟨rfl, hb⟩; replace c0_ := pw_cell_below hb c0_; replace c1_ := pw_cell_below hb c1_; replace c2_ := pw_cell_below hb c2_; replace c3_ := pw_cell_below hb c3_; replace c4_ := pw_cell_below hb c4_; replace c5_ := pw_cell_below hb c5_; replace c6_ := pw_cell_below hb c6_; replace c7_ := pw_cell_below hb c7_; replace c8_ := pw_cell_below hb c8_; replace c9_ := pw_cell_below hb c9_; replace c10_ := pw_cell_below hb c10_; replace c11_ := pw_cell_below hb c11_; replace c12_ := pw_cell_below hb c12_; replace c13_ := pw_cell_below hb c13_; replace c14_ := pw_cell_below hb c14_; replace c15_ := pw_cell_below hb c15_; replace HB := Lib.hid (below_step HB.out hb); clear hb) | (go_at_call 103; (with_reducible refine (HL1.out _).mono ?_); rintro e w7 ⟨rfl, hb⟩; replace c0_ := pw_cell_below hb c0_; replace c1_ := pw_cell_below hb c1_; replace c2_ := pw_cell_below hb c2_; replace c3_ := pw_cell_below hb c3_; replace c4_ := pw_cell_below hb c4_; replace c5_ := pw_cell_below hb c5_; replace c6_ := pw_cell_below hb c6_; replace c7_ := pw_cell_below hb c7_; replace c8_ := pw_cell_below hb c8_; replace c9_ := pw_cell_below hb c9_; replace c10_ := pw_cell_below hb c10_; replace c11_ := pw_cell_below hb c11_; replace c12_ := pw_cell_below hb c12_; replace c13_ := pw_cell_below hb c13_; replace c14_ := pw_cell_below hb c14_; replace c15_ := pw_cell_below hb c15_; replace HB := Lib.hid (below_step HB.out hb); clear hb) | (go_at_call 103; (with_reducible refine (HL2.out _).mono ?_); rintro e w7 ⟨rfl, hb⟩; replace c0_ := pw_cell_below hb c0_; replace c1_ := pw_cell_below hb c1_; replace c2_ := pw_cell_below hb c2_; replace c3_ := pw_cell_below hb c3_; replace c4_ := pw_cell_below hb c4_; replace c5_ := pw_cell_below hb c5_; replace c6_ := pw_cell_below hb c6_; replace c7_ := pw_cell_below hb c7_; replace c8_ := pw_cell_below hb c8_; replace c9_ := pw_cell_below hb c9_; replace c10_ := pw_cell_below hb c10_; replace c11_ := pw_cell_below hb c11_; replace c12_ := pw_cell_below hb c12_; replace c13_ := pw_cell_below hb c13_; replace c14_ := pw_cell_below hb c14_; replace c15_ := pw_cell_below hb c15_; replace HB := Lib.hid (below_step HB.out hb); clear hb) | (go_at_call 104; (with_reducible refine (HA.out _ HB.out).mono ?_); rintro e w7 ⟨rfl, hb⟩; replace c0_ := pw_cell_below hb c0_; replace c1_ := pw_cell_below hb c1_; replace c2_ := pw_cell_below hb c2_; replace c3_ := pw_cell_below hb c3_; replace c4_ := pw_cell_below hb c4_; replace c5_ := pw_cell_below hb c5_; replace c6_ := pw_cell_below hb c6_; replace c7_ := pw_cell_below hb c7_; replace c8_ := pw_cell_below hb c8_; replace c9_ := pw_cell_below hb c9_; replace c10_ := pw_cell_below hb c10_; replace c11_ := pw_cell_below hb c11_; replace c12_ := pw_cell_below hb c12_; replace c13_ := pw_cell_below hb c13_; replace c14_ := pw_cell_below hb c14_; replace c15_ := pw_cell_below hb c15_; replace HB := Lib.hid (below_step HB.out hb); clear hb))
      go_ret
      exact ⟨rfl, HB.out⟩
  · have hxx := HX.out
    rw [if_neg (by simpa using hf)] at hxx
    have HX2 := Lib.hid hxx
    obtain ⟨z1, z2, z3, z4⟩ := first4_eq hf
    rw [z1] at HP
    rw [z2] at HL1
    rw [z3] at HL2
    simp only [z4] at HA
    clear hxx HX hf z1 z2 z3 z4
    cases dir with
    | true =>
      have hz0 := HX2.out
      rw [if_neg (by simp), if_pos rfl] at hz0
      have HZ := Lib.hid hz0
      clear hz0 HX2
      by_cases hr : p.toList = [47]
      all_goals
        first | (have hr1 : (p.toList == ([47] : List UInt8)) = true := by rw [hr]; rfl) | (have hr1 : (p.toList == ([47] : List UInt8)) = false := beq_eq_false_iff_ne.2 hr)
        clear hr
        cases hz : zR ⟨r0, r1, r2, r3⟩ with
        | true =>
          obtain ⟨rfl, rfl, rfl, rfl⟩ : r0 = 0 ∧ r1 = 0 ∧ r2 = 0 ∧ r3 = 0 := by simpa [zR] using hz
          by_cases hw : nw = 0
          · have hxx := HZ.out
            rw [if_pos ⟨hz, hw⟩] at hxx
            subst hxx
            subst hw
            clear HZ
            go_wp2_with (first | (go_at_call 24; (with_reducible refine (HP.out _).mono ?_); rintro e w7 ⟨rfl, hb⟩; replace c0_ := pw_cell_below hb c0_; replace c1_ := pw_cell_below hb c1_; replace c2_ := pw_cell_below hb c2_; replace c3_ := pw_cell_below hb c3_; replace c4_ := pw_cell_below hb c4_; replace c5_ := pw_cell_below hb c5_; replace c6_ := pw_cell_below hb c6_; replace c7_ := pw_cell_below hb c7_; replace c8_ := pw_cell_below hb c8_; replace c9_ := pw_cell_below hb c9_; replace c10_ := pw_cell_below hb c10_; replace c11_ := pw_cell_below hb c11_; replace c12_ := pw_cell_below hb c12_; replace c13_ := pw_cell_below hb c13_; replace c14_ := pw_cell_below hb c14_; replace c15_ := pw_cell_below hb c15_; replace HB := Lib.hid (below_step HB.out hb); clear hb) | (go_at_call 103; (with_reducible refine (HL1.out _).mono ?_); rintro e w7 ⟨rfl, hb⟩; replace c0_ := pw_cell_below hb c0_; replace c1_ := pw_cell_below hb c1_; replace c2_ := pw_cell_below hb c2_; replace c3_ := pw_cell_below hb c3_; replace c4_ := pw_cell_below hb c4_; replace c5_ := pw_cell_below hb c5_; replace c6_ := pw_cell_below hb c6_; replace c7_ := pw_cell_below hb c7_; replace c8_ := pw_cell_below hb c8_; replace c9_ := pw_cell_below hb c9_; replace c10_ := pw_cell_below hb c10_; replace c11_ := pw_cell_below hb c11_; replace c12_ := pw_cell_below hb c12_; replace c13_ := pw_cell_below hb c13_; replace c14_ := pw_cell_below hb c14_; replace c15_ := pw_cell_below hb c15_; replace HB := Lib.hid (below_step HB.out hb); clear hb) | (go_at_call 103; (with_reducible refine (HL2.out _).mono ?_); rintro e w7 ⟨rfl, hb⟩; replace c0_ := pw_cell_below hb c0_; replace c1_ := pw_cell_below hb c1_; replace c2_ := pw_cell_below hb c2_; replace c3_ := pw_cell_below hb c3_; replace c4_ := pw_cell_below hb c4_; replace c5_ := pw_cell_below hb c5_; replace c6_ := pw_cell_below hb c6_; replace c7_ := pw_cell_below hb c7_; replace c8_ := pw_cell_below hb c8_; replace c9_ := pw_cell_below hb c9_; replace c10_ := pw_cell_below hb c10_; replace c11_ := pw_cell_below hb c11_; replace c12_ := pw_cell_below hb c12_; replace c13_ := pw_cell_below hb c13_; replace c14_ := pw_cell_below hb c14_; replace c15_ := pw_cell_below hb c15_; replace HB := Lib.hid (below_step HB.out hb); clear hb) | (go_at_call 104; (with_reducible refine (HA.out _ HB.out).mono ?_); rintro e w7 ⟨rfl, hb⟩; replace c0_ := pw_cell_below hb c0_; replace c1_ := pw_cell_below hb c1_; replace c2_ := pw_cell_below hb c2_; replace c3_ := pw_cell_below hb c3_; replace c4_ := pw_cell_below hb c4_; replace c5_ := pw_cell_below hb c5_; replace c6_ := pw_cell_below hb c6_; replace c7_ := pw_cell_below hb c7_; replace c8_ := pw_cell_below hb c8_; replace c9_ := pw_cell_below hb c9_; replace c10_ := pw_cell_below hb c10_; replace c11_ := pw_cell_below hb c11_; replace c12_ := pw_cell_below hb c12_; replace c13_ := pw_cell_below hb c13_; replace c14_ := pw_cell_below hb c14_; replace c15_ := pw_cell_below hb c15_; replace HB := Lib.hid (below_step HB.out hb); clear hb))
            go_ret
            exact ⟨rfl, HB.out⟩
          · have hxx := HZ.out
            rw [if_neg (fun h => hw h.2)] at hxx
            subst hxx
            have hw1 : 0 < nw := by omega
            clear hw HZ
            go_wp2_with (first | (go_at_call 24; (with_reducible refine (HP.out _).mono ?_); rintro e w7 ⟨rfl, hb⟩; replace c0_ := pw_cell_below hb c0_; replace c1_ := pw_cell_below hb c1_; replace c2_ := pw_cell_below hb c2_; replace c3_ := pw_cell_below hb c3_; replace c4_ := pw_cell_below hb c4_; replace c5_ := pw_cell_below hb c5_; replace c6_ := pw_cell_below hb c6_; replace c7_ := pw_cell_below hb c7_; replace c8_ := pw_cell_below hb c8_; replace c9_ := pw_cell_below hb c9_; replace c10_ := pw_cell_below hb c10_; replace c11_ := pw_cell_below hb c11_; replace c12_ := pw_cell_below hb c12_; replace c13_ := pw_cell_below hb c13_; replace c14_ := pw_cell_below hb c14_; replace c15_ := pw_cell_below hb c15_; replace HB := Lib.hid (below_step HB.out hb); clear hb) | (go_at_call 103; (with_reducible refine (HL1.out _).mono ?_); rintro e w7 ⟨rfl, hb⟩; replace c0_ := pw_cell_below hb c0_; replace c1_ := pw_cell_below hb c1_; replace c2_ := pw_cell_below hb c2_; replace c3_ := pw_cell_below hb c3_; replace c4_ := pw_cell_below hb c4_; replace c5_ := pw_cell_below hb c5_; replace c6_ := pw_cell_below hb c6_; replace c7_ := pw_cell_below hb c7_; replace c8_ := pw_cell_below hb c8_; replace c9_ := pw_cell_below hb c9_; replace c10_ := pw_cell_below hb c10_; replace c11_ := pw_cell_below hb c11_; replace c12_ := pw_cell_below hb c12_; replace c13_ := pw_cell_below hb c13_; replace c14_ := pw_cell_below hb c14_; replace c15_ := pw_cell_below hb c15_; replace HB := Lib.hid (below_step HB.out hb); clear hb) | (go_at_call 103; (with_reducible refine (HL2.out _).mono ?_); rintro e w7 ⟨rfl, hb⟩; replace c0_ := pw_cell_below hb c0_; replace c1_ := pw_cell_below hb c1_; replace c2_ := pw_cell_below hb c2_; replace c3_ := pw_cell_below hb c3_; replace c4_ := pw_cell_below hb c4_; replace c5_ := pw_cell_below hb c5_; replace c6_ := pw_cell_below hb c6_; replace c7_ := pw_cell_below hb c7_; replace c8_ := pw_cell_below hb c8_; replace c9_ := pw_cell_below hb c9_; replace c10_ := pw_cell_below hb c10_; replace c11_ := pw_cell_below hb c11_; replace c12_ := pw_cell_below hb c12_; replace c13_ := pw_cell_below hb c13_; replace c14_ := pw_cell_below hb c14_; replace c15_ := pw_cell_below hb c15_; replace HB := Lib.hid (below_step HB.out hb); clear hb) | (go_at_call 104; (with_reducible refine (HA.out _ HB.out).mono ?_); rintro e w7 ⟨rfl, hb⟩; replace c0_ := pw_cell_below hb c0_; replace c1_ := pw_cell_below hb c1_; replace c2_ := pw_cell_below hb c2_; replace c3_ := pw_cell_below hb c3_; replace c4_ := pw_cell_below hb c4_; replace c5_ := pw_cell_below hb c5_; replace c6_ := pw_cell_below hb c6_; replace c7_ := pw_cell_below hb c7_; replace c8_ := pw_cell_below hb c8_; replace c9_ := pw_cell_below hb c9_; replace c10_ := pw_cell_below hb c10_; replace c11_ := pw_cell_below hb c11_; replace c12_ := pw_cell_below hb c12_; replace c13_ := pw_cell_below hb c13_; replace c14_ := pw_cell_below hb c14_; replace c15_ := pw_cell_below hb c15_; replace HB := Lib.hid (below_step HB.out hb); clear hb))
            go_ret
            exact ⟨rfl, HB.out⟩
        | false =>
          have hxx := HZ.out
          rw [if_neg (fun h => by rw [hz] at h; exact Bool.noConfusion h.1)] at hxx
          subst hxx
          by_cases z0 : r0 = 0
          · subst z0
            by_cases z1 : r1 = 0
            · subst z1
              by_cases z2 : r2 = 0
              · subst z2
                have z3 : ¬ r3 = 0 := fun h => by simp [zR, h] at hz
                have b3 : (r3 == 0) = false := beq_eq_false_iff_ne.2 z3
                go_wp2_with (first | (go_at_call 24; (with_reducible refine (HP.out _).mono ?_); rintro e w7 ⟨rfl, hb⟩; replace c0_ := pw_cell_below hb c0_; replace c1_ := pw_cell_below hb c1_; replace c2_ := pw_cell_below hb c2_; replace c3_ := pw_cell_below hb c3_; replace c4_ := pw_cell_below hb c4_; replace c5_ := pw_cell_below hb c5_; replace c6_ := pw_cell_below hb c6_; replace c7_ := pw_cell_below hb c7_; replace c8_ := pw_cell_below hb c8_; replace c9_ := pw_cell_below hb c9_; replace c10_ := pw_cell_below hb c10_; replace c11_ := pw_cell_below hb c11_; replace c12_ := pw_cell_below hb c12_; replace c13_ := pw_cell_below hb c13_; replace c14_ := pw_cell_below hb c14_; replace c15_ := pw_cell_below hb c15_; replace HB := Lib.hid (below_step HB.out hb); clear hb) | (go_at_call 103; (with_reducible refine (HL1.out _).mono ?_); rintro e w7 ⟨rfl, hb⟩; replace c0_ := pw_cell_below hb c0_; replace c1_ := pw_cell_below hb c1_; replace c2_ := pw_cell_below hb c2_; replace c3_ := pw_cell_below hb c3_; replace c4_ := pw_cell_below hb c4_; replace c5_ := pw_cell_below hb c5_; replace c6_ := pw_cell_below hb c6_; replace c7_ := pw_cell_below hb c7_; replace c8_ := pw_cell_below hb c8_; replace c9_ := pw_cell_below hb c9_; replace c10_ := pw_cell_below hb c10_; replace c11_ := pw_cell_below hb c11_; replace c12_ := pw_cell_below hb c12_; replace c13_ := pw_cell_below hb c13_; replace c14_ := pw_cell_below hb c14_; replace c15_ := pw_cell_below hb c15_; replace HB := Lib.hid (below_step HB.out hb); clear hb) | (go_at_call 103; (with_reducible refine (HL2.out _).mono ?_); rintro e w7 ⟨rfl, hb⟩; replace c0_ := pw_cell_below hb c0_; replace c1_ := pw_cell_below hb c1_; replace c2_ := pw_cell_below hb c2_; replace c3_ := pw_cell_below hb c3_; replace c4_ := pw_cell_below hb c4_; replace c5_ := pw_cell_below hb c5_; replace c6_ := pw_cell_below hb c6_; replace c7_ := pw_cell_below hb c7_; replace c8_ := pw_cell_below hb c8_; replace c9_ := pw_cell_below hb c9_; replace c10_ := pw_cell_below hb c10_; replace c11_ := pw_cell_below hb c11_; replace c12_ := pw_cell_below hb c12_; replace c13_ := pw_cell_below hb c13_; replace c14_ := pw_cell_below hb c14_; replace c15_ := pw_cell_below hb c15_; replace HB := Lib.hid (below_step HB.out hb); clear hb) | (go_at_call 104; (with_reducible refine (HA.out _ HB.out).mono ?_); rintro e w7 ⟨rfl, hb⟩; replace c0_ := pw_cell_below hb c0_; replace c1_ := pw_cell_below hb c1_; replace c2_ := pw_cell_below hb c2_; replace c3_ := pw_cell_below hb c3_; replace c4_ := pw_cell_below hb c4_; replace c5_ := pw_cell_below hb c5_; replace c6_ := pw_cell_below hb c6_; replace c7_ := pw_cell_below hb c7_; replace c8_ := pw_cell_below hb c8_; replace c9_ := pw_cell_below hb c9_; replace c10_ := pw_cell_below hb c10_; replace c11_ := pw_cell_below hb c11_; replace c12_ := pw_cell_below hb c12_; replace c13_ := pw_cell_below hb c13_; replace c14_ := pw_cell_below hb c14_; replace c15_ := pw_cell_below hb c15_; replace HB := Lib.hid (below_step HB.out hb); clear hb))
                go_ret
                exact ⟨rfl, HB.out⟩
              · have b2 : (r2 == 0) = false := beq_eq_false_iff_ne.2 z2
                go_wp2_with (first | (go_at_call 24; (with_reducible refine (HP.out _).mono ?_); rintro e w7 ⟨rfl, hb⟩; replace c0_ := pw_cell_below hb c0_; replace c1_ := pw_cell_below hb c1_; replace c2_ := pw_cell_below hb c2_; replace c3_ := pw_cell_below hb c3_; replace c4_ := pw_cell_below hb c4_; replace c5_ := pw_cell_below hb c5_; replace c6_ := pw_cell_below hb c6_; replace c7_ := pw_cell_below hb c7_; replace c8_ := pw_cell_below hb c8_; replace c9_ := pw_cell_below hb c9_; replace c10_ := pw_cell_below hb c10_; replace c11_ := pw_cell_below hb c11_; replace c12_ := pw_cell_below hb c12_; replace c13_ := pw_cell_below hb c13_; replace c14_ := pw_cell_below hb c14_; replace c15_ := pw_cell_below hb c15_; replace HB := Lib.hid (below_step HB.out hb); clear hb) | (go_at_call 103; (with_reducible refine (HL1.out _).mono ?_); rintro e w7 ⟨rfl, hb⟩; replace c0_ := pw_cell_below hb c0_; replace c1_ := pw_cell_below hb c1_; replace c2_ := pw_cell_below hb c2_; replace c3_ := pw_cell_below hb c3_; replace c4_ := pw_cell_below hb c4_; replace c5_ := pw_cell_below hb c5_; replace c6_ := pw_cell_below hb c6_; replace c7_ := pw_cell_below hb c7_; replace c8_ := pw_cell_below hb c8_; replace c9_ := pw_cell_below hb c9_; replace c10_ := pw_cell_below hb c10_; replace c11_ := pw_cell_below hb c11_; replace c12_ := pw_cell_below hb c12_; replace c13_ := pw_cell_below hb c13_; replace c14_ := pw_cell_below hb c14_; replace c15_ := pw_cell_below hb c15_; replace HB := Lib.hid (below_step HB.out hb); clear hb) | (go_at_call 103; (with_reducible refine (HL2.out _).mono ?_); rintro e w7 ⟨rfl, hb⟩; replace c0_ := pw_cell_below hb c0_; replace c1_ := pw_cell_below hb c1_; replace c2_ := pw_cell_below hb c2_; replace c3_ := pw_cell_below hb c3_; replace c4_ := pw_cell_below hb c4_; replace c5_ := pw_cell_below hb c5_; replace c6_ := pw_cell_below hb c6_; replace c7_ := pw_cell_below hb c7_; replace c8_ := pw_cell_below hb c8_; replace c9_ := pw_cell_below hb c9_; replace c10_ := pw_cell_below hb c10_; replace c11_ := pw_cell_below hb c11_; replace c12_ := pw_cell_below hb c12_; replace c13_ := pw_cell_below hb c13_; replace c14_ := pw_cell_below hb c14_; replace c15_ := pw_cell_below hb c15_; replace HB := Lib.hid (below_step HB.out hb); clear hb) | (go_at_call 104; (with_reducible refine (HA.out _ HB.out).mono ?_); rintro e w7 ⟨rfl, hb⟩; replace c0_ := pw_cell_below hb c0_; replace c1_ := pw_cell_below hb c1_; replace c2_ := pw_cell_below hb c2_; replace c3_ := pw_cell_below hb c3_; replace c4_ := pw_cell_below hb c4_; replace c5_ := pw_cell_below hb c5_; replace c6_ := pw_cell_below hb c6_; replace c7_ := pw_cell_below hb c7_; replace c8_ := pw_cell_below hb c8_; replace c9_ := pw_cell_below hb c9_; replace c10_ := pw_cell_below hb c10_; replace c11_ := pw_cell_below hb c11_; replace c12_ := pw_cell_below hb c12_; replace c13_ := pw_cell_below hb c13_; replace c14_ := pw_cell_below hb c14_; replace c15_ := pw_cell_below hb c15_; replace HB := Lib.hid (below_step HB.out hb); clear hb))
                go_ret
                exact ⟨rfl, HB.out⟩
            · have b1 : (r1 == 0) = false := beq_eq_false_iff_ne.2 z1
              go_wp2_with (first | (go_at_call 24; (with_reducible refine (HP.out _).mono ?_); rintro e w7 ⟨rfl, hb⟩; replace c0_ := pw_cell_below hb c0_; replace c1_ := pw_cell_below hb c1_; replace c2_ := pw_cell_below hb c2_; replace c3_ := pw_cell_below hb c3_; replace c4_ := pw_cell_below hb c4_; replace c5_ := pw_cell_below hb c5_; replace c6_ := pw_cell_below hb c6_; replace c7_ := pw_cell_below hb c7_; replace c8_ := pw_cell_below hb c8_; replace c9_ := pw_cell_below hb c9_; replace c10_ := pw_cell_below hb c10_; replace c11_ := pw_cell_below hb c11_; replace c12_ := pw_cell_below hb c12_; replace c13_ := pw_cell_below hb c13_; replace c14_ := pw_cell_below hb c14_; replace c15_ := pw_cell_below hb c15_; replace HB := Lib.hid (below_step HB.out hb); clear hb) | (go_at_call 103; (with_reducible refine (HL1.out _).mono ?_); rintro e w7 ⟨rfl, hb⟩; replace c0_ := pw_cell_below hb c0_; replace c1_ := pw_cell_below hb c1_; replace c2_ := pw_cell_below hb c2_; replace c3_ := pw_cell_below hb c3_; replace c4_ := pw_cell_below hb c4_; replace c5_ := pw_cell_below hb c5_; replace c6_ := pw_cell_below hb c6_; replace c7_ := pw_cell_below hb c7_; replace c8_ := pw_cell_below hb c8_; replace c9_ := pw_cell_below hb c9_; replace c10_ := pw_cell_below hb c10_; replace c11_ := pw_cell_below hb c11_; replace c12_ := pw_cell_below hb c12_; replace c13_ := pw_cell_below hb c13_; replace c14_ := pw_cell_below hb c14_; replace c15_ := pw_cell_below hb c15_; replace HB := Lib.hid (below_step HB.out hb); clear hb) | (go_at_call 103; (with_reducible refine (HL2.out _).mono ?_); rintro e w7 ⟨rfl, hb⟩; replace c0_ := pw_cell_below hb c0_; replace c1_ := pw_cell_below hb c1_; replace c2_ := pw_cell_below hb c2_; replace c3_ := pw_cell_below hb c3_; replace c4_ := pw_cell_below hb c4_; replace c5_ := pw_cell_below hb c5_; replace c6_ := pw_cell_below hb c6_; replace c7_ := pw_cell_below hb c7_; replace c8_ := pw_cell_below hb c8_; replace c9_ := pw_cell_below hb c9_; replace c10_ := pw_cell_below hb c10_; replace c11_ := pw_cell_below hb c11_; replace c12_ := pw_cell_below hb c12_; replace c13_ := pw_cell_below hb c13_; replace c14_ := pw_cell_below hb c14_; replace c15_ := pw_cell_below hb c15_; replace HB := Lib.hid (below_step HB.out hb); clear hb) | (go_at_call 104; (with_reducible refine (HA.out _ HB.out).mono ?_); rintro e w7 ⟨rfl, hb⟩; replace c0_ := pw_cell_below hb c0_; replace c1_ := pw_cell_below hb c1_; replace c2_ := pw_cell_below hb c2_; replace c3_ := pw_cell_below hb c3_; replace c4_ := pw_cell_below hb c4_; replace c5_ := pw_cell_below hb c5_; replace c6_ := pw_cell_below hb c6_; replace c7_ := pw_cell_below hb c7_; replace c8_ := pw_cell_below hb c8_; replace c9_ := pw_cell_below hb c9_; replace c10_ := pw_cell_below hb c10_; replace c11_ := pw_cell_below hb c11_; replace c12_ := pw_cell_below hb c12_; replace c13_ := pw_cell_below hb c13_; replace c14_ := pw_cell_below hb c14_; replace c15_ := pw_cell_below hb c15_; replace HB := Lib.hid (below_step HB.out hb); clear hb))
              go_ret
              exact ⟨rfl, HB.out⟩
          · have b0 : (r0 == 0) = false := beq_eq_false_iff_ne.2 z0
            go_wp2_with (first | (go_at_call 24; (with_reducible refine (HP.out _).mono ?_); rintro e w7 ⟨rfl, hb⟩; replace c0_ := pw_cell_below hb c0_; replace c1_ := pw_cell_below hb c1_; replace c2_ := pw_cell_below hb c2_; replace c3_ := pw_cell_below hb c3_; replace c4_ := pw_cell_below hb c4_; replace c5_ := pw_cell_below hb c5_; replace c6_ := pw_cell_below hb c6_; replace c7_ := pw_cell_below hb c7_; replace c8_ := pw_cell_below hb c8_; replace c9_ := pw_cell_below hb c9_; replace c10_ := pw_cell_below hb c10_; replace c11_ := pw_cell_below hb c11_; replace c12_ := pw_cell_below hb c12_; replace c13_ := pw_cell_below hb c13_; replace c14_ := pw_cell_below hb c14_; replace c15_ := pw_cell_below hb c15_; replace HB := Lib.hid (below_step HB.out hb); clear hb) | (go_at_call 103; (with_reducible refine (HL1.out _).mono ?_); rintro e w7 ⟨rfl, hb⟩; replace c0_ := pw_cell_below hb c0_; replace c1_ := pw_cell_below hb c1_; replace c2_ := pw_cell_below hb c2_; replace c3_ := pw_cell_below hb c3_; replace c4_ := pw_cell_below hb c4_; replace c5_ := pw_cell_below hb c5_; replace c6_ := pw_cell_below hb c6_; replace c7_ := pw_cell_below hb c7_; replace c8_ := pw_cell_below hb c8_; replace c9_ := pw_cell_below hb c9_; replace c10_ := pw_cell_below hb c10_; replace c11_ := pw_cell_below hb c11_; replace c12_ := pw_cell_below hb c12_; replace c13_ := pw_cell_below hb c13_; replace c14_ := pw_cell_below hb c14_; replace c15_ := pw_cell_below hb c15_; replace HB := Lib.hid (below_step HB.out hb); clear hb) | (go_at_call 103; (with_reducible refine (HL2.out _).mono ?_); rintro e w7 ⟨rfl, hb⟩; replace c0_ := pw_cell_below hb c0_; replace c1_ := pw_cell_below hb c1_; replace c2_ := pw_cell_below hb c2_; replace c3_ := pw_cell_below hb c3_; replace c4_ := pw_cell_below hb c4_; replace c5_ := pw_cell_below hb c5_; replace c6_ := pw_cell_below hb c6_; replace c7_ := pw_cell_below hb c7_; replace c8_ := pw_cell_below hb c8_; replace c9_ := pw_cell_below hb c9_; replace c10_ := pw_cell_below hb c10_; replace c11_ := pw_cell_below hb c11_; replace c12_ := pw_cell_below hb c12_; replace c13_ := pw_cell_below hb c13_; replace c14_ := pw_cell_below hb c14_; replace c15_ := pw_cell_below hb c15_; replace HB := Lib.hid (below_step HB.out hb); clear hb) | (go_at_call 104; (with_reducible refine (HA.out _ HB.out).mono ?_); rintro e w7 ⟨rfl, hb⟩; replace c0_ := pw_cell_below hb c0_; replace c1_ := pw_cell_below hb c1_; replace c2_ := pw_cell_below hb c2_; replace c3_ := pw_cell_below hb c3_; replace c4_ := pw_cell_below hb c4_; replace c5_ := pw_cell_below hb c5_; replace c6_ := pw_cell_below hb c6_; replace c7_ := pw_cell_below hb c7_; replace c8_ := pw_cell_below hb c8_; replace c9_ := pw_cell_below hb c9_; replace c10_ := pw_cell_below hb c10_; replace c11_ := pw_cell_below hb c11_; replace c12_ := pw_cell_below hb c12_; replace c13_ := pw_cell_below hb c13_; replace c14_ := pw_cell_below hb c14_; replace c15_ := pw_cell_below hb c15_; replace HB := Lib.hid (below_step HB.out hb); clear hb))
            go_ret
            exact ⟨rfl, HB.out⟩
    | false =>
      have hz0 := HX2.out
      by_cases hr : p.toList = [47]
      · have hr1 : (p.toList == ([47] : List UInt8)) = true := by rw [hr]; rfl
        rw [if_pos ⟨hr, rfl⟩] at hz0
        subst hz0
        go_wp2_with (first | (go_at_call 24; (with_reducible refine (HP.out _).mono ?_); rintro e w7 ⟨rfl, hb⟩; replace c0_ := pw_cell_below hb c0_; replace c1_ := pw_cell_below hb c1_; replace c2_ := pw_cell_below hb c2_; replace c3_ := pw_cell_below hb c3_; replace c4_ := pw_cell_below hb c4_; replace c5_ := pw_cell_below hb c5_; replace c6_ := pw_cell_below hb c6_; replace c7_ := pw_cell_below hb c7_; replace c8_ := pw_cell_below hb c8_; replace c9_ := pw_cell_below hb c9_; replace c10_ := pw_cell_below hb c10_; replace c11_ := pw_cell_below hb c11_; replace c12_ := pw_cell_below hb c12_; replace c13_ := pw_cell_below hb c13_; replace c14_ := pw_cell_below hb c14_; replace c15_ := pw_cell_below hb c15_; replace HB := Lib.hid (below_step HB.out hb); clear hb) | (go_at_call 103; (with_reducible refine (HL1.out _).mono ?_); rintro e w7 ⟨rfl, hb⟩; replace c0_ := pw_cell_below hb c0_; replace c1_ := pw_cell_below hb c1_; replace c2_ := pw_cell_below hb c2_; replace c3_ := pw_cell_below hb c3_; replace c4_ := pw_cell_below hb c4_; replace c5_ := pw_cell_below hb c5_; replace c6_ := pw_cell_below hb c6_; replace c7_ := pw_cell_below hb c7_; replace c8_ := pw_cell_below hb c8_; replace c9_ := pw_cell_below hb c9_; replace c10_ := pw_cell_below hb c10_; replace c11_ := pw_cell_below hb c11_; replace c12_ := pw_cell_below hb c12_; replace c13_ := pw_cell_below hb c13_; replace c14_ := pw_cell_below hb c14_; replace c15_ := pw_cell_below hb c15_; replace HB := Lib.hid (below_step HB.out hb); clear hb) | (go_at_call 103; (with_reducible refine (HL2.out _).mono ?_); rintro e w7 ⟨rfl, hb⟩; replace c0_ := pw_cell_below hb c0_; replace c1_ := pw_cell_below hb c1_; replace c2_ := pw_cell_below hb c2_; replace c3_ := pw_cell_below hb c3_; replace c4_ := pw_cell_below hb c4_; replace c5_ := pw_cell_below hb c5_; replace c6_ := pw_cell_below hb c6_; replace c7_ := pw_cell_below hb c7_; replace c8_ := pw_cell_below hb c8_; replace c9_ := pw_cell_below hb c9_; replace c10_ := pw_cell_below hb c10_; replace c11_ := pw_cell_below hb c11_; replace c12_ := pw_cell_below hb c12_; replace c13_ := pw_cell_below hb c13_; replace c14_ := pw_cell_below hb c14_; replace c15_ := pw_cell_below hb c15_; replace HB := Lib.hid (below_step HB.out hb); clear hb) | (go_at_call 104; (with_reducible refine (HA.out _ HB.out).mono ?_); rintro e w7 ⟨rfl, hb⟩; replace c0_ := pw_cell_below hb c0_; replace c1_ := pw_cell_below hb c1_; replace c2_ := pw_cell_below hb c2_; replace c3_ := pw_cell_below hb c3_; replace c4_ := pw_cell_below hb c4_; replace c5_ := pw_cell_below hb c5_; replace c6_ := pw_cell_below hb c6_; replace c7_ := pw_cell_below hb c7_; replace c8_ := pw_cell_below hb c8_; replace c9_ := pw_cell_below hb c9_; replace c10_ := pw_cell_below hb c10_; replace c11_ := pw_cell_below hb c11_; replace c12_ := pw_cell_below hb c12_; replace c13_ := pw_cell_below hb c13_; replace c14_ := pw_cell_below hb c14_; replace c15_ := pw_cell_below hb c15_; replace HB := Lib.hid (below_step HB.out hb); clear hb))
        go_ret
        exact ⟨rfl, HB.out⟩
      · have hr1 : (p.toList == ([47] : List UInt8)) = false := beq_eq_false_iff_ne.2 hr
        rw [if_neg (fun h => hr h.1), if_neg (by simp)] at hz0
        by_cases hq : ringN ⟨r0, r1, r2, r3⟩ = 0
        · rw [if_neg (by simpa using hq)] at hz0
          have HZ := Lib.hid hz0
          clear hz0
          rw [hq] at HRC
          by_cases h16 : 16 < nw
          all_goals
            have hz1 := HZ.out
            first | (rw [if_pos h16] at hz1) | (rw [if_neg h16] at hz1)
            subst hz1
            go_wp2_with (first | (go_at_call 24; (with_reducible refine (HP.out _).mono ?_); rintro e w7 ⟨rfl, hb⟩; replace c0_ := pw_cell_below hb c0_; replace c1_ := pw_cell_below hb c1_; replace c2_ := pw_cell_below hb c2_; replace c3_ := pw_cell_below hb c3_; replace c4_ := pw_cell_below hb c4_; replace c5_ := pw_cell_below hb c5_; replace c6_ := pw_cell_below hb c6_; replace c7_ := pw_cell_below hb c7_; replace c8_ := pw_cell_below hb c8_; replace c9_ := pw_cell_below hb c9_; replace c10_ := pw_cell_below hb c10_; replace c11_ := pw_cell_below hb c11_; replace c12_ := pw_cell_below hb c12_; replace c13_ := pw_cell_below hb c13_; replace c14_ := pw_cell_below hb c14_; replace c15_ := pw_cell_below hb c15_; replace HB := Lib.hid (below_step HB.out hb); clear hb) | (go_at_call 103; (with_reducible refine (HL1.out _).mono ?_); rintro e w7 ⟨rfl, hb⟩; replace c0_ := pw_cell_below hb c0_; replace c1_ := pw_cell_below hb c1_; replace c2_ := pw_cell_below hb c2_; replace c3_ := pw_cell_below hb c3_; replace c4_ := pw_cell_below hb c4_; replace c5_ := pw_cell_below hb c5_; replace c6_ := pw_cell_below hb c6_; replace c7_ := pw_cell_below hb c7_; replace c8_ := pw_cell_below hb c8_; replace c9_ := pw_cell_below hb c9_; replace c10_ := pw_cell_below hb c10_; replace c11_ := pw_cell_below hb c11_; replace c12_ := pw_cell_below hb c12_; replace c13_ := pw_cell_below hb c13_; replace c14_ := pw_cell_below hb c14_; replace c15_ := pw_cell_below hb c15_; replace HB := Lib.hid (below_step HB.out hb); clear hb) | (go_at_call 103; (with_reducible refine (HL2.out _).mono ?_); rintro e w7 ⟨rfl, hb⟩; replace c0_ := pw_cell_below hb c0_; replace c1_ := pw_cell_below hb c1_; replace c2_ := pw_cell_below hb c2_; replace c3_ := pw_cell_below hb c3_; replace c4_ := pw_cell_below hb c4_; replace c5_ := pw_cell_below hb c5_; replace c6_ := pw_cell_below hb c6_; replace c7_ := pw_cell_below hb c7_; replace c8_ := pw_cell_below hb c8_; replace c9_ := pw_cell_below hb c9_; replace c10_ := pw_cell_below hb c10_; replace c11_ := pw_cell_below hb c11_; replace c12_ := pw_cell_below hb c12_; replace c13_ := pw_cell_below hb c13_; replace c14_ := pw_cell_below hb c14_; replace c15_ := pw_cell_below hb c15_; replace HB := Lib.hid (below_step HB.out hb); clear hb) | (go_at_call 104; (with_reducible refine (HA.out _ HB.out).mono ?_); rintro e w7 ⟨rfl, hb⟩; replace c0_ := pw_cell_below hb c0_; replace c1_ := pw_cell_below hb c1_; replace c2_ := pw_cell_below hb c2_; replace c3_ := pw_cell_below hb c3_; replace c4_ := pw_cell_below hb c4_; replace c5_ := pw_cell_below hb c5_; replace c6_ := pw_cell_below hb c6_; replace c7_ := pw_cell_below hb c7_; replace c8_ := pw_cell_below hb c8_; replace c9_ := pw_cell_below hb c9_; replace c10_ := pw_cell_below hb c10_; replace c11_ := pw_cell_below hb c11_; replace c12_ := pw_cell_below hb c12_; replace c13_ := pw_cell_below hb c13_; replace c14_ := pw_cell_below hb c14_; replace c15_ := pw_cell_below hb c15_; replace HB := Lib.hid (below_step HB.out hb); clear hb) | (go_at_call 105; (with_reducible refine (HRC.out _).mono ?_); rintro e w7 ⟨rfl, hb⟩; replace c0_ := pw_cell_below hb c0_; replace c1_ := pw_cell_below hb c1_; replace c2_ := pw_cell_below hb c2_; replace c3_ := pw_cell_below hb c3_; replace c4_ := pw_cell_below hb c4_; replace c5_ := pw_cell_below hb c5_; replace c6_ := pw_cell_below hb c6_; replace c7_ := pw_cell_below hb c7_; replace c8_ := pw_cell_below hb c8_; replace c9_ := pw_cell_below hb c9_; replace c10_ := pw_cell_below hb c10_; replace c11_ := pw_cell_below hb c11_; replace c12_ := pw_cell_below hb c12_; replace c13_ := pw_cell_below hb c13_; replace c14_ := pw_cell_below hb c14_; replace c15_ := pw_cell_below hb c15_; replace HB := Lib.hid (below_step HB.out hb); clear hb))
            go_ret
            exact ⟨rfl, HB.out⟩
        · rw [if_pos hq] at hz0
          obtain ⟨y, hy⟩ : ∃ y, ringN ⟨r0, r1, r2, r3⟩ = y := ⟨_, rfl⟩
          rw [hy] at hq HRC hz0
          subst hz0
          clear hy
          have hq1 : (y != 0) = true := bne_iff_ne.2 hq
          go_wp2_with (first | (go_at_call 24; (with_reducible refine (HP.out _).mono ?_); rintro e w7 ⟨rfl, hb⟩; replace c0_ := pw_cell_below hb c0_; replace c1_ := pw_cell_below hb c1_; replace c2_ := pw_cell_below hb c2_; replace c3_ := pw_cell_below hb c3_; replace c4_ := pw_cell_below hb c4_; replace c5_ := pw_cell_below hb c5_; replace c6_ := pw_cell_below hb c6_; replace c7_ := pw_cell_below hb c7_; replace c8_ := pw_cell_below hb c8_; replace c9_ := pw_cell_below hb c9_; replace c10_ := pw_cell_below hb c10_; replace c11_ := pw_cell_below hb c11_; replace c12_ := pw_cell_below hb c12_; replace c13_ := pw_cell_below hb c13_; replace c14_ := pw_cell_below hb c14_; replace c15_ := pw_cell_below hb c15_; replace HB := Lib.hid (below_step HB.out hb); clear hb) | (go_at_call 103; (with_reducible refine (HL1.out _).mono ?_); rintro e w7 ⟨rfl, hb⟩; replace c0_ := pw_cell_below hb c0_; replace c1_ := pw_cell_below hb c1_; replace c2_ := pw_cell_below hb c2_; replace c3_ := pw_cell_below hb c3_; replace c4_ := pw_cell_below hb c4_; replace c5_ := pw_cell_below hb c5_; replace c6_ := pw_cell_below hb c6_; replace c7_ := pw_cell_below hb c7_; replace c8_ := pw_cell_below hb c8_; replace c9_ := pw_cell_below hb c9_; replace c10_ := pw_cell_below hb c10_; replace c11_ := pw_cell_below hb c11_; replace c12_ := pw_cell_below hb c12_; replace c13_ := pw_cell_below hb c13_; replace c14_ := pw_cell_below hb c14_; replace c15_ := pw_cell_below hb c15_; replace HB := Lib.hid (below_step HB.out hb); clear hb) | (go_at_call 103; (with_reducible refine (HL2.out _).mono ?_); rintro e w7 ⟨rfl, hb⟩; replace c0_ := pw_cell_below hb c0_; replace c1_ := pw_cell_below hb c1_; replace c2_ := pw_cell_below hb c2_; replace c3_ := pw_cell_below hb c3_; replace c4_ := pw_cell_below hb c4_; replace c5_ := pw_cell_below hb c5_; replace c6_ := pw_cell_below hb c6_; replace c7_ := pw_cell_below hb c7_; replace c8_ := pw_cell_below hb c8_; replace c9_ := pw_cell_below hb c9_; replace c10_ := pw_cell_below hb c10_; replace c11_ := pw_cell_below hb c11_; replace c12_ := pw_cell_below hb c12_; replace c13_ := pw_cell_below hb c13_; replace c14_ := pw_cell_below hb c14_; replace c15_ := pw_cell_below hb c15_; replace HB := Lib.hid (below_step HB.out hb); clear hb) | (go_at_call 104; (with_reducible refine (HA.out _ HB.out).mono ?_); rintro e w7 ⟨rfl, hb⟩; replace c0_ := pw_cell_below hb c0_; replace c1_ := pw_cell_below hb c1_; replace c2_ := pw_cell_below hb c2_; replace c3_ := pw_cell_below hb c3_; replace c4_ := pw_cell_below hb c4_; replace c5_ := pw_cell_below hb c5_; replace c6_ := pw_cell_below hb c6_; replace c7_ := pw_cell_below hb c7_; replace c8_ := pw_cell_below hb c8_; replace c9_ := pw_cell_below hb c9_; replace c10_ := pw_cell_below hb c10_; replace c11_ := pw_cell_below hb c11_; replace c12_ := pw_cell_below hb c12_; replace c13_ := pw_cell_below hb c13_; replace c14_ := pw_cell_below hb c14_; replace c15_ := pw_cell_below hb c15_; replace HB := Lib.hid (below_step HB.out hb); clear hb) | (go_at_call 105; (with_reducible refine (HRC.out _).mono ?_); rintro e w7 ⟨rfl, hb⟩; replace c0_ := pw_cell_below hb c0_; replace c1_ := pw_cell_below hb c1_; replace c2_ := pw_cell_below hb c2_; replace c3_ := pw_cell_below hb c3_; replace c4_ := pw_cell_below hb c4_; replace c5_ := pw_cell_below hb c5_; replace c6_ := pw_cell_below hb c6_; replace c7_ := pw_cell_below hb c7_; replace c8_ := pw_cell_below hb c8_; replace c9_ := pw_cell_below hb c9_; replace c10_ := pw_cell_below hb c10_; replace c11_ := pw_cell_below hb c11_; replace c12_ := pw_cell_below hb c12_; replace c13_ := pw_cell_below hb c13_; replace c14_ := pw_cell_below hb c14_; replace c15_ := pw_cell_below hb c15_; replace HB := Lib.hid (below_step HB.out hb); clear hb))
          go_ret
          exact ⟨rfl, HB.out⟩
end Go.Proofs.YtmndeoncbocplaaDoor.C
end
