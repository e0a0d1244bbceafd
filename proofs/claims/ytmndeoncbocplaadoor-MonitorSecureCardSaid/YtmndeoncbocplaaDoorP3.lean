-- Written by our px.py (wip/tools) over the kit's print program, with contracts of ours for some callees; not print.sh's own output.
import Derived.Test.YtmndeoncbocplaaDoorGName
import Derived.Test.YtmndeoncbocplaaDoorGSplit
import Derived.Test.YtmndeoncbocplaaDoorP0
namespace Go.Proofs.YtmndeoncbocplaaDoor.P
open Go.RowKit Go.Proofs.YtmndeoncbocplaaDoorW.PrintWords Go.Proofs.YtmndeoncbocplaaDoorW.PrintLast Go.Proofs.YtmndeoncbocplaaDoorW.PrintMore
attribute [local go_sem] max2_int min2_int max_two min_two max_three min_three max_four min_four   -- for this text's walks alone
set_option linter.unusedVariables false
set_option linter.unusedSimpArgs false

/-! ### path_Check: function 23 -/
mutual
def path_Check.j0 : Nat → List ByteArray → Bool → Option (Int)
  | 0, _, _ => none
  | k + 1, x3, x26 => if x26 = true then (some 1) else (if 1 ≤ (x3.length : Int) then ((some (x3.drop 1 : List ByteArray)).bind fun y111 => (path_Check.l0 k y111 (y111.length : Int) 0)) else (none))
def path_Check.l0 : Nat → List ByteArray → Int → Int → Option (Int)
  | 0, _, _, _ => none
  | k + 1, x28, x29, x30 => if x30 < x29 then (if 0 ≤ x30 then (if x30 < (x28.length : Int) then ((path_Name.f (rdOf ByteArray.empty x28 x30)).bind fun t116 => (if t116 = true then (path_Check.l0 k x28 x29 (wrap64 (x30 + 1))) else (some 1))) else (none)) else (none)) else (some 0)
end
def path_Check.f (k : Nat) (a0 : ByteArray) : Option (Int) := if (a0.size : Int) > 78 then (some 5) else (if a0.toList = ([47] : List UInt8) then (some 0) else ((strings_Split.f a0 (⟨#[47]⟩ : ByteArray)).bind fun t107 => (if 0 < (t107.length : Int) then (if (rdOf ByteArray.empty t107 0).toList = ([] : List UInt8) then (if (t107.length : Int) < 2 then (path_Check.j0 k t107 true) else (path_Check.j0 k t107 (decide ((t107.length : Int) > 7)))) else (path_Check.j0 k t107 true)) else (none))))
theorem path_Check.mono_l : ∀ k, (∀ y0 y1, LeO (path_Check.j0 k y0 y1) (path_Check.j0 (k + 1) y0 y1)) ∧ (∀ y0 y1 y2, LeO (path_Check.l0 k y0 y1 y2) (path_Check.l0 (k + 1) y0 y1 y2))
  | 0 => ⟨fun _ _ r h => by simp [path_Check.j0] at h, fun _ _ _ r h => by simp [path_Check.l0] at h⟩
  | k + 1 => by
    obtain ⟨ih0, ih1⟩ := path_Check.mono_l k
    refine ⟨?_, ?_⟩
    · intro y0 y1
      unfold path_Check.j0
      repeat' first
      | (with_reducible exact ih0 _ _)
      | (with_reducible exact ih1 _ _ _)
      | (with_reducible exact LeO.refl _)
      | (with_reducible exact LeO.none _)
      | (with_reducible refine LeO.ite ?_ ?_)
      | (with_reducible refine LeO.bind ?_ (fun _ => ?_))
      | exact ih0 _ _
      | exact ih1 _ _ _
      | exact LeO.none _
      | refine LeO.ite ?_ ?_
      | refine LeO.bind ?_ (fun _ => ?_)
    · intro y0 y1 y2
      unfold path_Check.l0
      repeat' first
      | (with_reducible exact ih0 _ _)
      | (with_reducible exact ih1 _ _ _)
      | (with_reducible exact LeO.refl _)
      | (with_reducible exact LeO.none _)
      | (with_reducible refine LeO.ite ?_ ?_)
      | (with_reducible refine LeO.bind ?_ (fun _ => ?_))
      | exact ih0 _ _
      | exact ih1 _ _ _
      | exact LeO.none _
      | refine LeO.ite ?_ ?_
      | refine LeO.bind ?_ (fun _ => ?_)
theorem path_Check.mono : ∀ a0 k, LeO (path_Check.f k a0) (path_Check.f (k + 1) a0) := by
  intro a0 k
  obtain ⟨ih0, ih1⟩ := path_Check.mono_l k
  unfold path_Check.f
  repeat' first
      | (with_reducible exact ih0 _ _)
      | (with_reducible exact ih1 _ _ _)
      | (with_reducible exact LeO.refl _)
      | (with_reducible exact LeO.none _)
      | (with_reducible refine LeO.ite ?_ ?_)
      | (with_reducible refine LeO.bind ?_ (fun _ => ?_))
      | exact ih0 _ _
      | exact ih1 _ _ _
      | exact LeO.none _
      | refine LeO.ite ?_ ?_
      | refine LeO.bind ?_ (fun _ => ?_)
set_option maxHeartbeats 8000000 in
set_option maxRecDepth 100000 in
theorem path_Check.calls (k : Nat) (a0 : ByteArray) (r : Int) (w : World) (h : path_Check.f k a0 = some r) :
    Calls Tryd.prog 23 #[.string a0] w fun e w' => e = .returned (.int .i64 r) ∧ Below w.heap.size w w' := by
  have HB := Aside0.mk (Below.refl w.heap.size w)
  have H : (if (a0.size : Int) > 78 then (some 5) else (if a0.toList = ([47] : List UInt8) then (some 0) else ((strings_Split.f a0 (⟨#[47]⟩ : ByteArray)).bind fun t107 => (if 0 < (t107.length : Int) then (if (rdOf ByteArray.empty t107 0).toList = ([] : List UInt8) then (if (t107.length : Int) < 2 then (path_Check.j0 k t107 true) else (path_Check.j0 k t107 (decide ((t107.length : Int) > 7)))) else (path_Check.j0 k t107 true)) else (none))))) = some r := h
  clear h
  by_cases c2 : (a0.size : Int) > 78
  · rw [if_pos c2] at H
    have c2b0 : decide (78 < (a0.size : Int)) = true := decide_eq_true c2
    have c2b1 : decide (78 < a0.size) = true := decide_eq_true (by omega)
    clear c2
    obtain rfl := Option.some.inj H
    go_enter Tryd.func23, Tryd.ntmps23
    go_wp2
    go_ret
    exact ⟨by first | rfl | (simp [errW_none, errW_some] <;> rfl) | (simp [*, errW_none, errW_some] <;> rfl), by repeat (first | (with_reducible first | exact HB.out | apply below_alloc | apply pw_below_drewN | apply below_drew1) | exact HB.out)⟩
  · rw [if_neg c2] at H
    have c2b0 : decide (78 < (a0.size : Int)) = false := decide_eq_false c2
    have c2b1 : decide (78 < a0.size) = false := decide_eq_false (by omega)
    clear c2
    by_cases c3 : a0.toList = ([47] : List UInt8)
    · rw [if_pos c3] at H
      have c3b0 : (a0.toList == ([47] : List UInt8)) = true := beq_iff_eq.mpr c3
      have c3b1 : (a0.toList != ([47] : List UInt8)) = false := bne_eq_false_iff_eq.mpr c3
      clear c3
      obtain rfl := Option.some.inj H
      go_enter Tryd.func23, Tryd.ntmps23
      go_wp2
      go_ret
      exact ⟨by first | rfl | (simp [errW_none, errW_some] <;> rfl) | (simp [*, errW_none, errW_some] <;> rfl), by repeat (first | (with_reducible first | exact HB.out | apply below_alloc | apply pw_below_drewN | apply below_drew1) | exact HB.out)⟩
    · rw [if_neg c3] at H
      have c3b0 : (a0.toList == ([47] : List UInt8)) = false := beq_eq_false_iff_ne.mpr c3
      have c3b1 : (a0.toList != ([47] : List UInt8)) = true := bne_iff_ne.mpr c3
      replace H := Option.bind_eq_some_iff.mp H
      obtain ⟨t107, A40, H⟩ := H
      replace H : (if 0 < (t107.length : Int) then (if (rdOf ByteArray.empty t107 0).toList = ([] : List UInt8) then (if (t107.length : Int) < 2 then (path_Check.j0 k t107 true) else (path_Check.j0 k t107 (decide ((t107.length : Int) > 7)))) else (path_Check.j0 k t107 true)) else (none)) = some r := H
      have A4 := Aside0.mk A40
      clear A40
      have HC5 := Aside0.mk H
      clear H
      go_enter Tryd.func23, Tryd.ntmps23
      go_upto_region 6 with (first | ((with_reducible refine gate_callee (f := 61) rfl ?_); refine goesL_ (some 12) rfl rfl Tryd.func61 (by kernel_rfl) rfl #[.string a0, .string (⟨#[47]⟩ : ByteArray)] rfl (by (try simp only [List.map_toArray, List.map_cons, List.map_nil]); first | done | rfl | (simp only [List.length_drop, List.length_take]; rfl)) ?_; (with_reducible refine (strings_Split.calls a0 (⟨#[47]⟩ : ByteArray) t107 _ A4.out).mono ?_); rintro e w6 ⟨v108, rfl, ho0, hb⟩; refine ⟨_, rfl, ?_⟩; have n0_ := Aside0.mk (Kd.R_lower ho0 (below_size (by repeat (first | (with_reducible first | exact HB.out | apply below_alloc | apply pw_below_drewN | apply below_drew1) | exact HB.out)))); have n1_ := Aside0.mk (below_step (by repeat (first | (with_reducible first | exact HB.out | apply below_alloc | apply pw_below_drewN | apply below_drew1) | exact HB.out)) hb); clear HB; have HO109 := n0_; have HB := n1_; clear n0_ n1_; (try clear hb); (try clear hb2); (try clear hk); (try clear hi); (try clear ho0)))
      (try simp only [Act.put, List.setIfInBounds_toArray, List.set_cons_zero, List.set_cons_succ])
      go_cut [26] (fun v26 wc => ∃ (kq : Nat) (x26_4 : Bool), v26 = .bool x26_4 ∧ Aside0 (path_Check.j0 kq t107 x26_4 = some r) ∧ Aside0 (kq ≤ k) ∧ Aside0 (Kd.R Kd.string 9 wc w.heap.size (fun _ => True) v108 t107) ∧ Aside0 (Below w.heap.size w wc))
      case first =>
        have H := HC5.out
        clear HC5
        by_cases c7 : 0 < (t107.length : Int)
        · rw [if_pos c7] at H
          have c7b0 : decide (0 < (t107.length : Int)) = true := decide_eq_true c7
          have c7b1 : decide (0 < t107.length) = true := decide_eq_true (by omega)
          clear c7
          (first | rw [c7b0] | (simp only [i64_w, i32_w]; rw [c7b0]) | skip)
          by_cases c8 : (rdOf ByteArray.empty t107 0).toList = ([] : List UInt8)
          · rw [if_pos c8] at H
            have c8b0 : ((rdOf ByteArray.empty t107 0).toList == ([] : List UInt8)) = true := beq_iff_eq.mpr c8
            have c8b1 : ((rdOf ByteArray.empty t107 0).toList != ([] : List UInt8)) = false := bne_eq_false_iff_eq.mpr c8
            clear c8
            by_cases c9 : (t107.length : Int) < 2
            · rw [if_pos c9] at H
              have c9b0 : decide ((t107.length : Int) < 2) = true := decide_eq_true c9
              have c9b1 : decide (t107.length < 2) = true := decide_eq_true (by omega)
              clear c9
              have H' := Aside0.mk H
              clear H
              obtain ⟨Ao10, co10, eo10⟩ := Kd.R_slice HO109.out
              subst eo10
              have p110 : 0 ≤ (0 : Int) := (by omega)
              have q110 : 0 < (t107.length : Int) := of_decide_eq_true (by first | (with_reducible assumption) | assumption)
              obtain ⟨ad110, e110, hx110_0⟩ := Kd.at_string (Kd.R_reads' HO109.out).2.2 0 p110 q110
              cases e110
              have qi110 : (0 < t107.length) = True := eq_true (by omega)
              (try rw [show ((0 : Int)).toNat = 0 from rfl] at hx110_0)
              (try rw [Addr.add_zero'] at hx110_0)
              replace p110 := eq_true p110
              replace q110 := eq_true q110
              go_wp2
              go_meet
              case rel => exact ⟨_, (true), (by first | rfl | (simp; done) | (simp [*]; done)), H', ⟨by first | omega | exact Nat.le_refl _⟩, ⟨by (with_reducible repeat (first | apply Kd.R_alloc | apply Kd.R_drewN | apply Kd.R_drew)); exact HO109.out⟩, ⟨by repeat (first | (with_reducible first | exact HB.out | apply below_alloc | apply pw_below_drewN | apply below_drew1) | exact HB.out)⟩⟩
            · rw [if_neg c9] at H
              have c9b0 : decide ((t107.length : Int) < 2) = false := decide_eq_false c9
              have c9b1 : decide (t107.length < 2) = false := decide_eq_false (by omega)
              clear c9
              have H' := Aside0.mk H
              clear H
              obtain ⟨Ao11, co11, eo11⟩ := Kd.R_slice HO109.out
              subst eo11
              have p110 : 0 ≤ (0 : Int) := (by omega)
              have q110 : 0 < (t107.length : Int) := of_decide_eq_true (by first | (with_reducible assumption) | assumption)
              obtain ⟨ad110, e110, hx110_0⟩ := Kd.at_string (Kd.R_reads' HO109.out).2.2 0 p110 q110
              cases e110
              have qi110 : (0 < t107.length) = True := eq_true (by omega)
              (try rw [show ((0 : Int)).toNat = 0 from rfl] at hx110_0)
              (try rw [Addr.add_zero'] at hx110_0)
              replace p110 := eq_true p110
              replace q110 := eq_true q110
              go_wp2
              go_meet
              case rel => exact ⟨_, (decide ((t107.length : Int) > 7)), (by first | rfl | (simp; done) | (simp [*]; done)), H', ⟨by first | omega | exact Nat.le_refl _⟩, ⟨by (with_reducible repeat (first | apply Kd.R_alloc | apply Kd.R_drewN | apply Kd.R_drew)); exact HO109.out⟩, ⟨by repeat (first | (with_reducible first | exact HB.out | apply below_alloc | apply pw_below_drewN | apply below_drew1) | exact HB.out)⟩⟩
          · rw [if_neg c8] at H
            have c8b0 : ((rdOf ByteArray.empty t107 0).toList == ([] : List UInt8)) = false := beq_eq_false_iff_ne.mpr c8
            have c8b1 : ((rdOf ByteArray.empty t107 0).toList != ([] : List UInt8)) = true := bne_iff_ne.mpr c8
            have H' := Aside0.mk H
            clear H
            obtain ⟨Ao12, co12, eo12⟩ := Kd.R_slice HO109.out
            subst eo12
            have p110 : 0 ≤ (0 : Int) := (by omega)
            have q110 : 0 < (t107.length : Int) := of_decide_eq_true (by first | (with_reducible assumption) | assumption)
            obtain ⟨ad110, e110, hx110_0⟩ := Kd.at_string (Kd.R_reads' HO109.out).2.2 0 p110 q110
            cases e110
            have qi110 : (0 < t107.length) = True := eq_true (by omega)
            (try rw [show ((0 : Int)).toNat = 0 from rfl] at hx110_0)
            (try rw [Addr.add_zero'] at hx110_0)
            replace p110 := eq_true p110
            replace q110 := eq_true q110
            go_wp2
            go_meet
            case rel => exact ⟨_, (true), (by first | rfl | (simp; done) | (simp [*]; done)), H', ⟨by first | omega | exact Nat.le_refl _⟩, ⟨by (with_reducible repeat (first | apply Kd.R_alloc | apply Kd.R_drewN | apply Kd.R_drew)); exact HO109.out⟩, ⟨by repeat (first | (with_reducible first | exact HB.out | apply below_alloc | apply pw_below_drewN | apply below_drew1) | exact HB.out)⟩⟩
        · rw [if_neg c7] at H
          exact absurd H (by simp)
      case rest =>
        clear HC5
        try clear p1
        try clear q1
        try clear hx1
        try clear qi1
        try clear c2
        try clear c2b0
        try clear c2b1
        try clear p2
        try clear c3
        try clear c3b0
        try clear c3b1
        try clear c6
        try clear c7
        try clear c7b0
        try clear c7b1
        try clear c8
        try clear c8b0
        try clear c8b1
        try clear c9
        try clear c9b0
        try clear c9b1
        try clear p11
        try clear q11
        try clear hx11
        try clear qi11
        try clear hx110_0
        try clear p110
        try clear q110
        obtain ⟨kq, x26_4, rfl, HA, HJ4, HO_3, HB⟩ := hcut
        cases kq with
        | zero => exact absurd HA.out (by simp [path_Check.j0])
        | succ kj4 =>
          have H := HA.out
          clear HA
          simp only [path_Check.j0] at H
          by_cases c13 : x26_4 = true
          · subst c13
            have H1 : (some 1) = some r := by rw [if_pos rfl] at H; exact H
            clear H
            have H := H1
            clear H1
            obtain rfl := Option.some.inj H
            go_wp2
            go_ret
            exact ⟨by first | rfl | (simp [errW_none, errW_some] <;> rfl) | (simp [*, errW_none, errW_some] <;> rfl), by repeat (first | (with_reducible first | exact HB.out | apply below_alloc | apply pw_below_drewN | apply below_drew1) | exact HB.out)⟩
          · replace c13 := Bool.eq_false_iff.mpr c13
            subst c13
            have H1 : (if 1 ≤ (t107.length : Int) then ((some (t107.drop 1 : List ByteArray)).bind fun y111 => (path_Check.l0 kj4 y111 (y111.length : Int) 0)) else (none)) = some r := by rw [if_neg (show ¬ (false = true) by decide)] at H; exact H
            clear H
            have H := H1
            clear H1
            by_cases c14 : 1 ≤ (t107.length : Int)
            · rw [if_pos c14] at H
              have c14b0 := eq_true c14
              have c14b1 : decide (1 ≤ (t107.length : Int)) = true := decide_eq_true c14
              clear c14
              obtain ⟨y111, hy111⟩ : ∃ y_ : List ByteArray, y_ = (t107.drop 1) := ⟨_, rfl⟩
              replace H : (path_Check.l0 kj4 y111 (y111.length : Int) 0) = some r := by first | (rw [hy111]; with_reducible exact H) | (have H2_ := (Option.bind_some _ _).symm.trans H; rw [hy111]; with_reducible exact H2_) | (have H2_ := (Option.bind_some _ _).symm.trans H; with_reducible exact H2_) | with_reducible exact H | (rw [hy111]; exact H) | exact H
              have Ny111 := Aside0.mk hy111
              clear hy111
              have H' := Aside0.mk H
              clear H
              obtain ⟨Ao16, co16, eo16⟩ := Kd.R_slice HO_3.out
              subst eo16
              have q15 : (1 : Int) ≤ ((t107.length : Int) : Int) := of_decide_eq_true (by first | (with_reducible assumption) | assumption)
              obtain ⟨i015, hi015, _, hsz15, _⟩ := info_parts info9
              have hroom15 : t107.length ≤ co16 := (Kd.R_reads' HO_3.out).2.1
              have hC15 : Kd.C Kd.string _ Ao16 t107.length t107 := (Kd.R_reads' HO_3.out).2.2
              have hcut15 := cut_from (P := Tryd.prog) 35 9 .i64 Tryd.underlying35 hi015 1 hsz15 Ao16 t107.length co16 1 (by omega) q15
              have hr15 := Kd.C_drop (m := (1 : Int).toNat) (c := co16) hC15 (by omega) hroom15
              obtain ⟨A15, hA15⟩ : ∃ A1, A1 = (if co16 = (1 : Int).toNat then Ao16 else (Ao16 : Option Addr).map (·.add ((1 : Int).toNat * 1))) := ⟨_, rfl⟩
              obtain ⟨c15, hc15⟩ : ∃ c1, c1 = co16 - (1 : Int).toNat := ⟨_, rfl⟩
              have hy15 : y111.length = t107.length - (1 : Int).toNat := (by rw [Ny111.out, List.length_drop] <;> omega)
              rw [show (t107).drop (1 : Int).toNat = y111 from Ny111.out.symm] at hr15
              replace hr15 : Kd.C Kd.string _ A15 y111.length y111 := (by rw [hA15]; exact hr15)
              rw [← hy15, ← hA15, ← hc15] at hcut15
              have HR114 := Aside0.mk hr15
              have HC114 := Aside0.mk (show y111.length ≤ c15 from by rw [hy15, hc15]; exact Nat.sub_le_sub_right hroom15 _)
              clear hr15 hC15 hroom15 hi015 hsz15 hc15
              have KY15 := Aside0.mk hy15
              have KA15 := Aside0.mk hA15
              clear hy15 hA15
              have KL15 := Aside0.mk (show 1 ≤ t107.length from by omega)
              replace q15 := eq_true q15
              go_wp2
              go_loopg [30] kj4 (fun kq v30 w' => ∃ (x30_2 : Int), v30 = .int .i64 x30_2 ∧ Aside0 (path_Check.l0 kq y111 (y111.length : Int) x30_2 = some r) ∧ Aside0 (kq ≤ kj4) ∧ Aside0 (Kd.C Kd.string w' A15 y111.length y111) ∧ Aside0 (Below w.heap.size w w'))
              case atStart => exact ⟨(0), (by first | rfl | (simp; done) | (simp [*]; done)), H', ⟨Nat.le_refl _⟩, ⟨by repeat (first | (with_reducible exact HR114.out) | (with_reducible refine Kd.C_alloc ?_ _) | (with_reducible refine Kd.C_drewN ?_ _) | (with_reducible refine Kd.C_drew ?_) | exact HR114.out)⟩, ⟨by repeat (first | (with_reducible first | exact HB.out | apply below_alloc | apply pw_below_drewN | apply below_drew1) | exact HB.out)⟩⟩
              case round =>
                clear H'
                try clear c1
                try clear p1
                try clear q1
                try clear hx1
                try clear qi1
                try clear c2
                try clear c2b0
                try clear c2b1
                try clear p2
                try clear c3
                try clear c3b0
                try clear c3b1
                try clear c6
                try clear c7
                try clear c7b0
                try clear c7b1
                try clear c8
                try clear c8b0
                try clear c8b1
                try clear c9
                try clear c9b0
                try clear c9b1
                try clear p11
                try clear q11
                try clear hx11
                try clear qi11
                try clear c13
                try clear c14
                try clear c14b0
                try clear c14b1
                try clear c15
                try clear q15
                try clear hx110_0
                try clear p1
                try clear p11
                try clear p110
                try clear p2
                try clear q1
                try clear q11
                try clear q110
                try clear q15
                obtain ⟨x30_2, rfl, HA, HK2, HR114, HB⟩ := hrel
                cases gk with
                | zero => exact absurd HA.out (by simp [path_Check.l0])
                | succ k2 =>
                  have H := HA.out
                  clear HA
                  simp only [path_Check.l0] at H
                  by_cases c17 : x30_2 < (y111.length : Int)
                  · rw [if_pos c17] at H
                    have c17b0 : decide (x30_2 < (y111.length : Int)) = true := decide_eq_true c17
                    clear c17
                    by_cases c18 : 0 ≤ x30_2
                    · rw [if_pos c18] at H
                      have c18b0 : decide (0 ≤ x30_2) = true := decide_eq_true c18
                      clear c18
                      by_cases c19 : x30_2 < (y111.length : Int)
                      · rw [if_pos c19] at H
                        have c19b0 : decide (x30_2 < (y111.length : Int)) = true := decide_eq_true c19
                        clear c19
                        replace H := Option.bind_eq_some_iff.mp H
                        obtain ⟨t116, A200, H⟩ := H
                        replace H : (if t116 = true then (path_Check.l0 k2 y111 (y111.length : Int) (wrap64 (x30_2 + 1))) else (some 1)) = some r := H
                        have A20 := Aside0.mk A200
                        clear A200
                        by_cases c21 : t116 = true
                        · subst c21
                          have H1 : (path_Check.l0 k2 y111 (y111.length : Int) (wrap64 (x30_2 + 1))) = some r := by rw [if_pos rfl] at H; exact H
                          clear H
                          have H := H1
                          clear H1
                          have H' := Aside0.mk H
                          clear H
                          have p115 : 0 ≤ (x30_2 : Int) := of_decide_eq_true (by first | (with_reducible assumption) | assumption)
                          have q115 : x30_2 < (y111.length : Int) := of_decide_eq_true (by first | (with_reducible assumption) | assumption)
                          obtain ⟨ad115, e115, hx115_0⟩ := Kd.at_string HR114.out x30_2 p115 q115
                          cases e115
                          (try replace hx115_0 := (HB.out.cell (World.block_lt_of_cell? w _ hx115_0)).trans hx115_0)
                          replace p115 := eq_true p115
                          replace q115 := eq_true q115
                          go_wp2_with (first | ((with_reducible refine gate_callee (f := 21) rfl ?_); refine goesL_ (some 35) rfl rfl Tryd.func21 (by kernel_rfl) rfl #[.string (rdOf ByteArray.empty y111 x30_2)] rfl (by (try simp only [List.map_toArray, List.map_cons, List.map_nil]); first | done | rfl | (simp only [List.length_drop, List.length_take]; rfl)) ?_; (with_reducible refine (path_Name.calls (rdOf ByteArray.empty y111 x30_2) true _ A20.out).mono ?_); rintro e w22 ⟨rfl, hb⟩; refine ⟨_, rfl, ?_⟩; have n0_ := Aside0.mk (Kd.C_below (by repeat (first | (with_reducible exact HR114.out) | (with_reducible refine Kd.C_alloc ?_ _) | (with_reducible refine Kd.C_drewN ?_ _) | (with_reducible refine Kd.C_drew ?_) | exact HR114.out)) hb); have n1_ := Aside0.mk (below_step (by repeat (first | (with_reducible first | exact HB.out | apply below_alloc | apply pw_below_drewN | apply below_drew1) | exact HB.out)) hb); clear HR114; clear HB; have HR114 := n0_; have HB := n1_; clear n0_ n1_; (try clear hb); (try clear hb2); (try clear hk); (try clear hi)))
                          go_roundg k2
                          case measure => have := HJ4.out; have := HK2.out; omega
                          case rel => exact ⟨(wrap64 (x30_2 + 1)), (by first | rfl | (simp; done) | (simp [*]; done)), H', ⟨by have := HJ4.out; have := HK2.out; omega⟩, ⟨by repeat (first | (with_reducible exact HR114.out) | (with_reducible refine Kd.C_alloc ?_ _) | (with_reducible refine Kd.C_drewN ?_ _) | (with_reducible refine Kd.C_drew ?_) | exact HR114.out)⟩, ⟨by repeat (first | (with_reducible first | exact HB.out | apply below_alloc | apply pw_below_drewN | apply below_drew1) | exact HB.out)⟩⟩
                        · replace c21 := Bool.eq_false_iff.mpr c21
                          subst c21
                          have H1 : (some 1) = some r := by rw [if_neg (show ¬ (false = true) by decide)] at H; exact H
                          clear H
                          have H := H1
                          clear H1
                          obtain rfl := Option.some.inj H
                          have p115 : 0 ≤ (x30_2 : Int) := of_decide_eq_true (by first | (with_reducible assumption) | assumption)
                          have q115 : x30_2 < (y111.length : Int) := of_decide_eq_true (by first | (with_reducible assumption) | assumption)
                          obtain ⟨ad115, e115, hx115_0⟩ := Kd.at_string HR114.out x30_2 p115 q115
                          cases e115
                          (try replace hx115_0 := (HB.out.cell (World.block_lt_of_cell? w _ hx115_0)).trans hx115_0)
                          replace p115 := eq_true p115
                          replace q115 := eq_true q115
                          go_wp2_with (first | ((with_reducible refine gate_callee (f := 21) rfl ?_); refine goesL_ (some 35) rfl rfl Tryd.func21 (by kernel_rfl) rfl #[.string (rdOf ByteArray.empty y111 x30_2)] rfl (by (try simp only [List.map_toArray, List.map_cons, List.map_nil]); first | done | rfl | (simp only [List.length_drop, List.length_take]; rfl)) ?_; (with_reducible refine (path_Name.calls (rdOf ByteArray.empty y111 x30_2) false _ A20.out).mono ?_); rintro e w23 ⟨rfl, hb⟩; refine ⟨_, rfl, ?_⟩; have n0_ := Aside0.mk (Kd.C_below (by repeat (first | (with_reducible exact HR114.out) | (with_reducible refine Kd.C_alloc ?_ _) | (with_reducible refine Kd.C_drewN ?_ _) | (with_reducible refine Kd.C_drew ?_) | exact HR114.out)) hb); have n1_ := Aside0.mk (below_step (by repeat (first | (with_reducible first | exact HB.out | apply below_alloc | apply pw_below_drewN | apply below_drew1) | exact HB.out)) hb); clear HR114; clear HB; have HR114 := n0_; have HB := n1_; clear n0_ n1_; (try clear hb); (try clear hb2); (try clear hk); (try clear hi)))
                          go_ret
                          exact ⟨by first | rfl | (simp [errW_none, errW_some] <;> rfl) | (simp [*, errW_none, errW_some] <;> rfl), by repeat (first | (with_reducible first | exact HB.out | apply below_alloc | apply pw_below_drewN | apply below_drew1) | exact HB.out)⟩
                      · rw [if_neg c19] at H
                        exact absurd H (by simp)
                    · rw [if_neg c18] at H
                      exact absurd H (by simp)
                  · rw [if_neg c17] at H
                    have c17b0 : decide (x30_2 < (y111.length : Int)) = false := decide_eq_false c17
                    clear c17
                    obtain rfl := Option.some.inj H
                    go_wp2
                    go_ret
                    exact ⟨by first | rfl | (simp [errW_none, errW_some] <;> rfl) | (simp [*, errW_none, errW_some] <;> rfl), by repeat (first | (with_reducible first | exact HB.out | apply below_alloc | apply pw_below_drewN | apply below_drew1) | exact HB.out)⟩
            · rw [if_neg c14] at H
              exact absurd H (by simp)

end Go.Proofs.YtmndeoncbocplaaDoor.P
