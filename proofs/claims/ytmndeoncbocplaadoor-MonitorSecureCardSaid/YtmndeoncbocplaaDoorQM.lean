-- Printed by our px.py (wip/tools) over the kit's print program; sections chosen by mkql.py.
import Derived.Test.YtmndeoncbocplaaDoorQ0
namespace Go.Proofs.YtmndeoncbocplaaDoor.Q
open Go.RowKit Go.Proofs.YtmndeoncbocplaaDoorW.PrintWords Go.Proofs.YtmndeoncbocplaaDoorW.PrintLast Go.Proofs.YtmndeoncbocplaaDoorW.PrintMore
attribute [local go_sem] max2_int min2_int max_two min_two max_three min_three max_four min_four   -- for this text's walks alone
set_option linter.unusedVariables false
set_option linter.unusedSimpArgs false

/-! ### donjonlaw6_within: function 93 -/
def donjonlaw6_within.f (a0 : Int) (a1 : Int) : Option (Int) := if a1 = 0 then (none) else (if (Int.tmod a0 a1) < 0 then (some (wrap64 ((Int.tmod a0 a1) + a1))) else (some (Int.tmod a0 a1)))
set_option maxHeartbeats 8000000 in
set_option maxRecDepth 100000 in
theorem donjonlaw6_within.calls (a0 : Int) (a1 : Int) (r : Int) (w : World) (h : donjonlaw6_within.f a0 a1 = some r) :
    Calls Tryd.prog 93 #[.int .i64 a0, .int .i64 a1] w fun e w' => e = .returned (.int .i64 r) ∧ Drawn0 w w' := by
  have H : (if a1 = 0 then (none) else (if (Int.tmod a0 a1) < 0 then (some (wrap64 ((Int.tmod a0 a1) + a1))) else (some (Int.tmod a0 a1)))) = some r := h
  clear h
  by_cases c3 : a1 = 0
  · rw [if_pos c3] at H
    exact absurd H (by simp)
  · rw [if_neg c3] at H
    have c3b0 : (a1 == 0) = false := beq_eq_false_iff_ne.mpr c3
    have c3b1 : (a1 != 0) = true := bne_iff_ne.mpr c3
    by_cases c4 : (Int.tmod a0 a1) < 0
    · rw [if_pos c4] at H
      have c4b0 : decide ((Int.tmod a0 a1) < 0) = true := decide_eq_true c4
      clear c4
      obtain rfl := Option.some.inj H
      go_enter Tryd.func93, Tryd.ntmps93
      go_wp2
      go_ret
      exact ⟨by first | rfl | (simp; done) | (simp [*]; done), by repeat (first | exact Drawn0.refl _ | apply Drawn0.step)⟩
    · rw [if_neg c4] at H
      have c4b0 : decide ((Int.tmod a0 a1) < 0) = false := decide_eq_false c4
      clear c4
      obtain rfl := Option.some.inj H
      go_enter Tryd.func93, Tryd.ntmps93
      go_wp2
      go_ret
      exact ⟨by first | rfl | (simp; done) | (simp [*]; done), by repeat (first | exact Drawn0.refl _ | apply Drawn0.step)⟩


/-! ### donjonlaw13_within: function 34 -/
def donjonlaw13_within.f (a0 : Int) (a1 : Int) : Option (Int) := if a1 = 0 then (none) else (if (Int.tmod a0 a1) < 0 then (some (wrap64 ((Int.tmod a0 a1) + a1))) else (some (Int.tmod a0 a1)))
set_option maxHeartbeats 8000000 in
set_option maxRecDepth 100000 in
theorem donjonlaw13_within.calls (a0 : Int) (a1 : Int) (r : Int) (w : World) (h : donjonlaw13_within.f a0 a1 = some r) :
    Calls Tryd.prog 34 #[.int .i64 a0, .int .i64 a1] w fun e w' => e = .returned (.int .i64 r) ∧ Drawn0 w w' := by
  have H : (if a1 = 0 then (none) else (if (Int.tmod a0 a1) < 0 then (some (wrap64 ((Int.tmod a0 a1) + a1))) else (some (Int.tmod a0 a1)))) = some r := h
  clear h
  by_cases c3 : a1 = 0
  · rw [if_pos c3] at H
    exact absurd H (by simp)
  · rw [if_neg c3] at H
    have c3b0 : (a1 == 0) = false := beq_eq_false_iff_ne.mpr c3
    have c3b1 : (a1 != 0) = true := bne_iff_ne.mpr c3
    by_cases c4 : (Int.tmod a0 a1) < 0
    · rw [if_pos c4] at H
      have c4b0 : decide ((Int.tmod a0 a1) < 0) = true := decide_eq_true c4
      clear c4
      obtain rfl := Option.some.inj H
      go_enter Tryd.func34, Tryd.ntmps34
      go_wp2
      go_ret
      exact ⟨by first | rfl | (simp; done) | (simp [*]; done), by repeat (first | exact Drawn0.refl _ | apply Drawn0.step)⟩
    · rw [if_neg c4] at H
      have c4b0 : decide ((Int.tmod a0 a1) < 0) = false := decide_eq_false c4
      clear c4
      obtain rfl := Option.some.inj H
      go_enter Tryd.func34, Tryd.ntmps34
      go_wp2
      go_ret
      exact ⟨by first | rfl | (simp; done) | (simp [*]; done), by repeat (first | exact Drawn0.refl _ | apply Drawn0.step)⟩


/-! ### donjonlaw13_Who: function 36 -/
def donjonlaw13_Who.f (a0 : Int) : Option (ByteArray) := (donjonlaw13_within.f a0 5).bind fun t522 => (some (strOfNums (([(wrap64 (97 + t522)) % 256] : List Int))))
set_option maxHeartbeats 8000000 in
set_option maxRecDepth 100000 in
theorem donjonlaw13_Who.calls (a0 : Int) (r : ByteArray) (w : World) (h : donjonlaw13_Who.f a0 = some r) :
    Calls Tryd.prog 36 #[.int .i64 a0] w fun e w' => e = .returned (.string r) ∧ Below w.heap.size w w' := by
  have HB := Aside0.mk (Below.refl w.heap.size w)
  have H : ((donjonlaw13_within.f a0 5).bind fun t522 => (some (strOfNums (([(wrap64 (97 + t522)) % 256] : List Int))))) = some r := h
  clear h
  replace H := Option.bind_eq_some_iff.mp H
  obtain ⟨t522, A20, H⟩ := H
  replace H : (some (strOfNums (([(wrap64 (97 + t522)) % 256] : List Int)))) = some r := H
  have A2 := Aside0.mk A20
  clear A20
  obtain ⟨y523, hy523⟩ : ∃ y_ : List Int, y_ = (([(wrap64 (97 + t522)) % 256] : List Int)) := ⟨_, rfl⟩
  replace H : (some (strOfNums y523)) = some r := by first | (rw [hy523]; with_reducible exact H) | (have H2_ := (Option.bind_some _ _).symm.trans H; rw [hy523]; with_reducible exact H2_) | (have H2_ := (Option.bind_some _ _).symm.trans H; with_reducible exact H2_) | with_reducible exact H | (rw [hy523]; exact H) | exact H
  have Ny523 := Aside0.mk hy523
  clear hy523
  obtain rfl := Option.some.inj H
  go_enter Tryd.func36, Tryd.ntmps36
  go_wp2_with (first | ((with_reducible refine gate_callee (f := 34) rfl ?_); refine goesL_ (some 4) rfl rfl Tryd.func34 (by kernel_rfl) rfl #[.int .i64 a0, .int .i64 5] rfl (by (try simp only [List.map_toArray, List.map_cons, List.map_nil]); first | done | rfl | (simp only [List.length_drop, List.length_take]; rfl)) ?_; (with_reducible refine (donjonlaw13_within.calls a0 5 t522 _ A2.out).mono ?_); rintro e w' ⟨rfl, ⟨nd, rfl⟩⟩; refine ⟨_, rfl, ?_⟩) | ((with_reducible refine gate_dst (N := 7) rfl ?_); refine Kd.R_lit (Kd.int .u8) _ 5 ?hg (N := 7) ?hd (xs := ([(wrap64 (97 + t522)) % 256] : List Int)) (inner := [.int .u8 ((wrap64 (97 + t522)) % 256)]) (ok := fun _ => True) (okp := fun _ => True) ?hr ?hp (fun _ hk => hk) trivial (Below.refl _ _) (Nat.le_refl _) (by simp) ?_; (case hd => rfl); (case hg => rfl); (case hr => first | (go_simp; done) | (go_simp; rfl)); (case hp => exact (Reps.one (show Kd.M (Kd.int .u8) _ _ _ ((wrap64 (97 + t522)) % 256) [.int .u8 ((wrap64 (97 + t522)) % 256)] from rfl) (Reps.none _ _))); intro v524 w3 ho4 hb hg_ hnew_; clear hg_ hnew_; (first | rw [← Ny523.out] at ho4 | (simp only [Int.reduceToNat] at ho4; rw [← Ny523.out] at ho4)); have n0_ := Aside0.mk (Kd.R_lower ho4 (below_size (by repeat (first | (with_reducible first | exact HB.out | apply below_alloc | apply pw_below_drewN | apply below_drew1) | exact HB.out)))); have n1_ := Aside0.mk (below_step (by repeat (first | (with_reducible first | exact HB.out | apply below_alloc | apply pw_below_drewN | apply below_drew1) | exact HB.out)) hb); clear HB; have HO525 := n0_; have HB := n1_; clear n0_ n1_; clear hb ho4; have hcv5 := own_string (P := Tryd.prog) Tryd.underlying34 Tryd.underlying5 Tryd.underlying9 (Kd.own_of_R HO525.out)))
  go_ret
  exact ⟨by first | rfl | (simp [errW_none, errW_some] <;> rfl) | (simp [*, errW_none, errW_some] <;> rfl), by repeat (first | (with_reducible first | exact HB.out | apply below_alloc | apply pw_below_drewN | apply below_drew1) | exact HB.out)⟩


/-! ### donjonref5_Modes: function 38 -/
def donjonref5_Modes.l0 : Nat → List (S96) → ByteArray → Int → Int → Option (Int)
  | 0, _, _, _, _ => none
  | k + 1, x0, x1, x5, x6 => if x6 < (x0.length : Int) then (if 0 ≤ x6 then (if ((rd_T96 x0 x6).f0).toList = ([42] : List UInt8) then (donjonref5_Modes.l0 k x0 x1 ((rd_T96 x0 x6).f1) (wrap64 (x6 + 1))) else (if ((rd_T96 x0 x6).f0).toList = x1.toList then (some ((rd_T96 x0 x6).f1)) else (donjonref5_Modes.l0 k x0 x1 x5 (wrap64 (x6 + 1))))) else (none)) else (some x5)
def donjonref5_Modes.f (k : Nat) (l0 : List (S96)) (a1 : ByteArray) : Option (Int) := donjonref5_Modes.l0 k l0 a1 0 0
theorem donjonref5_Modes.mono_l : ∀ k, (∀ y0 y1 y2 y3, LeO (donjonref5_Modes.l0 k y0 y1 y2 y3) (donjonref5_Modes.l0 (k + 1) y0 y1 y2 y3))
  | 0 => fun _ _ _ _ r h => by simp [donjonref5_Modes.l0] at h
  | k + 1 => by
    have ih0 := donjonref5_Modes.mono_l k
    · intro y0 y1 y2 y3
      unfold donjonref5_Modes.l0
      repeat' first
      | (with_reducible exact ih0 _ _ _ _)
      | (with_reducible exact LeO.refl _)
      | (with_reducible exact LeO.none _)
      | (with_reducible refine LeO.ite ?_ ?_)
      | (with_reducible refine LeO.bind ?_ (fun _ => ?_))
      | exact ih0 _ _ _ _
      | exact LeO.none _
      | refine LeO.ite ?_ ?_
      | refine LeO.bind ?_ (fun _ => ?_)
theorem donjonref5_Modes.mono : ∀ a0 a1 k, LeO (donjonref5_Modes.f k a0 a1) (donjonref5_Modes.f (k + 1) a0 a1) := by
  intro a0 a1 k
  have ih0 := donjonref5_Modes.mono_l k
  unfold donjonref5_Modes.f
  repeat' first
      | (with_reducible exact ih0 _ _ _ _)
      | (with_reducible exact LeO.refl _)
      | (with_reducible exact LeO.none _)
      | (with_reducible refine LeO.ite ?_ ?_)
      | (with_reducible refine LeO.bind ?_ (fun _ => ?_))
      | exact ih0 _ _ _ _
      | exact LeO.none _
      | refine LeO.ite ?_ ?_
      | refine LeO.bind ?_ (fun _ => ?_)
set_option maxHeartbeats 8000000 in
set_option maxRecDepth 100000 in
theorem donjonref5_Modes.calls (k : Nat) (A0 : Option Addr) (c0 : Nat) (l0 : List (S96)) (a1 : ByteArray) (r : Int) (w : World) (hr0 : Kd.C k96 w A0 l0.length l0) (hc0 : l0.length ≤ c0) (h : donjonref5_Modes.f k l0 a1 = some r) :
    Calls Tryd.prog 38 #[.slice A0 l0.length c0, .string a1] w fun e w' => e = .returned (.int .i64 r) ∧ Drawn0 w w' := by
  have HR0 := Aside0.mk hr0
  have HC0 := Aside0.mk hc0
  clear hr0 hc0
  have H : (donjonref5_Modes.l0 k l0 a1 0 0) = some r := h
  clear h
  have H' := Aside0.mk H
  clear H
  go_enter Tryd.func38, Tryd.ntmps38
  go_wp2
  go_loopg [5, 6] k (fun kq v5 v6 w' => ∃ (x5_1 : Int) (x6_1 : Int), v5 = .int .i64 x5_1 ∧ v6 = .int .i64 x6_1 ∧ Aside0 (donjonref5_Modes.l0 kq l0 a1 x5_1 x6_1 = some r) ∧ Aside0 (kq ≤ k) ∧ Drawn0 w w')
  case atStart => exact ⟨(0), (0), (by first | rfl | (simp; done) | (simp [*]; done)), (by first | rfl | (simp; done) | (simp [*]; done)), H', ⟨Nat.le_refl _⟩, by repeat (first | exact Drawn0.refl _ | apply Drawn0.step)⟩
  case round =>
    clear H'
    try clear p2
    obtain ⟨x5_1, x6_1, rfl, rfl, HA, HK1, ⟨m1, rfl⟩⟩ := hrel
    cases gk with
    | zero => exact absurd HA.out (by simp [donjonref5_Modes.l0])
    | succ k1 =>
      have H := HA.out
      clear HA
      simp only [donjonref5_Modes.l0] at H
      by_cases c3 : x6_1 < (l0.length : Int)
      · rw [if_pos c3] at H
        have c3b0 : decide (x6_1 < (l0.length : Int)) = true := decide_eq_true c3
        clear c3
        by_cases c4 : 0 ≤ x6_1
        · rw [if_pos c4] at H
          have c4b0 : decide (0 ≤ x6_1) = true := decide_eq_true c4
          clear c4
          by_cases c5 : ((rd_T96 l0 x6_1).f0).toList = ([42] : List UInt8)
          · rw [if_pos c5] at H
            have c5b0 : (((rd_T96 l0 x6_1).f0).toList == ([42] : List UInt8)) = true := beq_iff_eq.mpr c5
            have c5b1 : (((rd_T96 l0 x6_1).f0).toList != ([42] : List UInt8)) = false := bne_eq_false_iff_eq.mpr c5
            clear c5
            have H' := Aside0.mk H
            clear H
            have p528 : 0 ≤ (x6_1 : Int) := of_decide_eq_true (by first | (with_reducible assumption) | assumption)
            have q528 : x6_1 < (l0.length : Int) := of_decide_eq_true (by first | (with_reducible assumption) | assumption)
            obtain ⟨ad528, e528, hx528_0, hx528_1⟩ := at_T96 HR0.out x6_1 p528 q528
            cases e528
            replace p528 := eq_true p528
            replace q528 := eq_true q528
            have p529 : 0 ≤ (x6_1 : Int) := of_decide_eq_true (by first | (with_reducible assumption) | assumption)
            have q529 : x6_1 < (l0.length : Int) := of_decide_eq_true (by first | (with_reducible assumption) | assumption)
            obtain ⟨ad529, e529, hx529_0, hx529_1⟩ := at_T96 HR0.out x6_1 p529 q529
            obtain rfl : ad528 = ad529 := (by injection e529)
            replace p529 := eq_true p529
            replace q529 := eq_true q529
            go_wp2
            go_roundg k1
            case measure => have := HK1.out; omega
            case rel => exact ⟨((rd_T96 l0 x6_1).f1), (wrap64 (x6_1 + 1)), (by first | rfl | (simp; done) | (simp [*]; done)), (by first | rfl | (simp; done) | (simp [*]; done)), H', ⟨by have := HK1.out; omega⟩, by repeat (first | exact Drawn0.refl _ | apply Drawn0.step)⟩
          · rw [if_neg c5] at H
            have c5b0 : (((rd_T96 l0 x6_1).f0).toList == ([42] : List UInt8)) = false := beq_eq_false_iff_ne.mpr c5
            have c5b1 : (((rd_T96 l0 x6_1).f0).toList != ([42] : List UInt8)) = true := bne_iff_ne.mpr c5
            by_cases c6 : ((rd_T96 l0 x6_1).f0).toList = a1.toList
            · rw [if_pos c6] at H
              have c6b0 : (((rd_T96 l0 x6_1).f0).toList == a1.toList) = true := beq_iff_eq.mpr c6
              have c6b1 : (((rd_T96 l0 x6_1).f0).toList != a1.toList) = false := bne_eq_false_iff_eq.mpr c6
              clear c6
              obtain rfl := Option.some.inj H
              have p528 : 0 ≤ (x6_1 : Int) := of_decide_eq_true (by first | (with_reducible assumption) | assumption)
              have q528 : x6_1 < (l0.length : Int) := of_decide_eq_true (by first | (with_reducible assumption) | assumption)
              obtain ⟨ad528, e528, hx528_0, hx528_1⟩ := at_T96 HR0.out x6_1 p528 q528
              cases e528
              replace p528 := eq_true p528
              replace q528 := eq_true q528
              have p530 : 0 ≤ (x6_1 : Int) := of_decide_eq_true (by first | (with_reducible assumption) | assumption)
              have q530 : x6_1 < (l0.length : Int) := of_decide_eq_true (by first | (with_reducible assumption) | assumption)
              obtain ⟨ad530, e530, hx530_0, hx530_1⟩ := at_T96 HR0.out x6_1 p530 q530
              obtain rfl : ad528 = ad530 := (by injection e530)
              replace p530 := eq_true p530
              replace q530 := eq_true q530
              have p531 : 0 ≤ (x6_1 : Int) := of_decide_eq_true (by first | (with_reducible assumption) | assumption)
              have q531 : x6_1 < (l0.length : Int) := of_decide_eq_true (by first | (with_reducible assumption) | assumption)
              obtain ⟨ad531, e531, hx531_0, hx531_1⟩ := at_T96 HR0.out x6_1 p531 q531
              obtain rfl : ad528 = ad531 := (by injection e531)
              replace p531 := eq_true p531
              replace q531 := eq_true q531
              go_wp2
              go_ret
              exact ⟨by first | rfl | (simp; done) | (simp [*]; done), by repeat (first | exact Drawn0.refl _ | apply Drawn0.step)⟩
            · rw [if_neg c6] at H
              have c6b0 : (((rd_T96 l0 x6_1).f0).toList == a1.toList) = false := beq_eq_false_iff_ne.mpr c6
              have c6b1 : (((rd_T96 l0 x6_1).f0).toList != a1.toList) = true := bne_iff_ne.mpr c6
              have H' := Aside0.mk H
              clear H
              have p528 : 0 ≤ (x6_1 : Int) := of_decide_eq_true (by first | (with_reducible assumption) | assumption)
              have q528 : x6_1 < (l0.length : Int) := of_decide_eq_true (by first | (with_reducible assumption) | assumption)
              obtain ⟨ad528, e528, hx528_0, hx528_1⟩ := at_T96 HR0.out x6_1 p528 q528
              cases e528
              replace p528 := eq_true p528
              replace q528 := eq_true q528
              have p530 : 0 ≤ (x6_1 : Int) := of_decide_eq_true (by first | (with_reducible assumption) | assumption)
              have q530 : x6_1 < (l0.length : Int) := of_decide_eq_true (by first | (with_reducible assumption) | assumption)
              obtain ⟨ad530, e530, hx530_0, hx530_1⟩ := at_T96 HR0.out x6_1 p530 q530
              obtain rfl : ad528 = ad530 := (by injection e530)
              replace p530 := eq_true p530
              replace q530 := eq_true q530
              go_wp2
              go_roundg k1
              case measure => have := HK1.out; omega
              case rel => exact ⟨(x5_1), (wrap64 (x6_1 + 1)), (by first | rfl | (simp; done) | (simp [*]; done)), (by first | rfl | (simp; done) | (simp [*]; done)), H', ⟨by have := HK1.out; omega⟩, by repeat (first | exact Drawn0.refl _ | apply Drawn0.step)⟩
        · rw [if_neg c4] at H
          exact absurd H (by simp)
      · rw [if_neg c3] at H
        have c3b0 : decide (x6_1 < (l0.length : Int)) = false := decide_eq_false c3
        clear c3
        obtain rfl := Option.some.inj H
        go_wp2
        go_ret
        exact ⟨by first | rfl | (simp; done) | (simp [*]; done), by repeat (first | exact Drawn0.refl _ | apply Drawn0.step)⟩


/-! ### donjonlaw11_within: function 51 -/
def donjonlaw11_within.f (a0 : Int) (a1 : Int) : Option (Int) := if a1 = 0 then (none) else (if (Int.tmod a0 a1) < 0 then (some (wrap64 ((Int.tmod a0 a1) + a1))) else (some (Int.tmod a0 a1)))
set_option maxHeartbeats 8000000 in
set_option maxRecDepth 100000 in
theorem donjonlaw11_within.calls (a0 : Int) (a1 : Int) (r : Int) (w : World) (h : donjonlaw11_within.f a0 a1 = some r) :
    Calls Tryd.prog 51 #[.int .i64 a0, .int .i64 a1] w fun e w' => e = .returned (.int .i64 r) ∧ Drawn0 w w' := by
  have H : (if a1 = 0 then (none) else (if (Int.tmod a0 a1) < 0 then (some (wrap64 ((Int.tmod a0 a1) + a1))) else (some (Int.tmod a0 a1)))) = some r := h
  clear h
  by_cases c3 : a1 = 0
  · rw [if_pos c3] at H
    exact absurd H (by simp)
  · rw [if_neg c3] at H
    have c3b0 : (a1 == 0) = false := beq_eq_false_iff_ne.mpr c3
    have c3b1 : (a1 != 0) = true := bne_iff_ne.mpr c3
    by_cases c4 : (Int.tmod a0 a1) < 0
    · rw [if_pos c4] at H
      have c4b0 : decide ((Int.tmod a0 a1) < 0) = true := decide_eq_true c4
      clear c4
      obtain rfl := Option.some.inj H
      go_enter Tryd.func51, Tryd.ntmps51
      go_wp2
      go_ret
      exact ⟨by first | rfl | (simp; done) | (simp [*]; done), by repeat (first | exact Drawn0.refl _ | apply Drawn0.step)⟩
    · rw [if_neg c4] at H
      have c4b0 : decide ((Int.tmod a0 a1) < 0) = false := decide_eq_false c4
      clear c4
      obtain rfl := Option.some.inj H
      go_enter Tryd.func51, Tryd.ntmps51
      go_wp2
      go_ret
      exact ⟨by first | rfl | (simp; done) | (simp [*]; done), by repeat (first | exact Drawn0.refl _ | apply Drawn0.step)⟩

-- NOT PRINTED: function 15 (donjonlaw11_TreeChecks)

-- GIVEN: function 82 (slices.Sort[[]string,string]): GSort


/-! ### path_Join: function 73 -/
def path_Join.f (a0 : ByteArray) (a1 : ByteArray) : Option (ByteArray) := if a0.toList = ([47] : List UInt8) then (if a0.size + a1.size ≤ 9223372036854775807 then (some (a0 ++ a1)) else (none)) else (if a0.size + 1 ≤ 9223372036854775807 then (if (a0 ++ (⟨#[47]⟩ : ByteArray)).size + a1.size ≤ 9223372036854775807 then (some ((a0 ++ (⟨#[47]⟩ : ByteArray)) ++ a1)) else (none)) else (none))
set_option maxHeartbeats 8000000 in
set_option maxRecDepth 100000 in
theorem path_Join.calls (a0 : ByteArray) (a1 : ByteArray) (r : ByteArray) (w : World) (h : path_Join.f a0 a1 = some r) :
    Calls Tryd.prog 73 #[.string a0, .string a1] w fun e w' => e = .returned (.string r) ∧ Drawn0 w w' := by
  have H : (if a0.toList = ([47] : List UInt8) then (if a0.size + a1.size ≤ 9223372036854775807 then (some (a0 ++ a1)) else (none)) else (if a0.size + 1 ≤ 9223372036854775807 then (if (a0 ++ (⟨#[47]⟩ : ByteArray)).size + a1.size ≤ 9223372036854775807 then (some ((a0 ++ (⟨#[47]⟩ : ByteArray)) ++ a1)) else (none)) else (none))) = some r := h
  clear h
  by_cases c3 : a0.toList = ([47] : List UInt8)
  · rw [if_pos c3] at H
    have c3b0 : (a0.toList == ([47] : List UInt8)) = true := beq_iff_eq.mpr c3
    have c3b1 : (a0.toList != ([47] : List UInt8)) = false := bne_eq_false_iff_eq.mpr c3
    clear c3
    by_cases c4 : a0.size + a1.size ≤ 9223372036854775807
    · rw [if_pos c4] at H
      have c4b0 := eq_true c4
      have c4b1 : decide (a0.size + a1.size ≤ 9223372036854775807) = true := decide_eq_true c4
      try have c4b2 : (9223372036854775807 < a0.size + a1.size) = False := eq_false (Nat.not_lt.2 c4)
      obtain rfl := Option.some.inj H
      go_enter Tryd.func73, Tryd.ntmps73
      go_wp2
      go_ret
      exact ⟨by first | rfl | (simp; done) | (simp [*]; done), by repeat (first | exact Drawn0.refl _ | apply Drawn0.step)⟩
    · rw [if_neg c4] at H
      exact absurd H (by simp)
  · rw [if_neg c3] at H
    have c3b0 : (a0.toList == ([47] : List UInt8)) = false := beq_eq_false_iff_ne.mpr c3
    have c3b1 : (a0.toList != ([47] : List UInt8)) = true := bne_iff_ne.mpr c3
    by_cases c5 : a0.size + 1 ≤ 9223372036854775807
    · rw [if_pos c5] at H
      have c5b0 := eq_true c5
      have c5b1 : decide (a0.size + 1 ≤ 9223372036854775807) = true := decide_eq_true c5
      try have c5b2 : (9223372036854775807 < a0.size + 1) = False := eq_false (Nat.not_lt.2 c5)
      by_cases c6 : (a0 ++ (⟨#[47]⟩ : ByteArray)).size + a1.size ≤ 9223372036854775807
      · rw [if_pos c6] at H
        have c6b0 := eq_true c6
        have c6b1 : decide ((a0 ++ (⟨#[47]⟩ : ByteArray)).size + a1.size ≤ 9223372036854775807) = true := decide_eq_true c6
        try have c6b2 : (9223372036854775807 < (a0 ++ (⟨#[47]⟩ : ByteArray)).size + a1.size) = False := eq_false (Nat.not_lt.2 c6)
        obtain rfl := Option.some.inj H
        go_enter Tryd.func73, Tryd.ntmps73
        go_wp2
        go_ret
        exact ⟨by first | rfl | (simp; done) | (simp [*]; done), by repeat (first | exact Drawn0.refl _ | apply Drawn0.step)⟩
      · rw [if_neg c6] at H
        exact absurd H (by simp)
    · rw [if_neg c5] at H
      exact absurd H (by simp)


/-! ### donjonref7_slash: function 71 -/
def donjonref7_slash.l0 : Nat → ByteArray → Int → Int → Option (Int)
  | 0, _, _, _ => none
  | k + 1, x0, x3, x4 => if x4 < (x0.size : Int) then (if 0 ≤ x4 then (if (bt x0 x4) = 47 then (donjonref7_slash.l0 k x0 x4 (wrap64 (x4 + 1))) else (donjonref7_slash.l0 k x0 x3 (wrap64 (x4 + 1)))) else (none)) else (some x3)
def donjonref7_slash.f (k : Nat) (a0 : ByteArray) : Option (Int) := donjonref7_slash.l0 k a0 0 0
theorem donjonref7_slash.mono_l : ∀ k, (∀ y0 y1 y2, LeO (donjonref7_slash.l0 k y0 y1 y2) (donjonref7_slash.l0 (k + 1) y0 y1 y2))
  | 0 => fun _ _ _ r h => by simp [donjonref7_slash.l0] at h
  | k + 1 => by
    have ih0 := donjonref7_slash.mono_l k
    · intro y0 y1 y2
      unfold donjonref7_slash.l0
      repeat' first
      | (with_reducible exact ih0 _ _ _)
      | (with_reducible exact LeO.refl _)
      | (with_reducible exact LeO.none _)
      | (with_reducible refine LeO.ite ?_ ?_)
      | (with_reducible refine LeO.bind ?_ (fun _ => ?_))
      | exact ih0 _ _ _
      | exact LeO.none _
      | refine LeO.ite ?_ ?_
      | refine LeO.bind ?_ (fun _ => ?_)
theorem donjonref7_slash.mono : ∀ a0 k, LeO (donjonref7_slash.f k a0) (donjonref7_slash.f (k + 1) a0) := by
  intro a0 k
  have ih0 := donjonref7_slash.mono_l k
  unfold donjonref7_slash.f
  repeat' first
      | (with_reducible exact ih0 _ _ _)
      | (with_reducible exact LeO.refl _)
      | (with_reducible exact LeO.none _)
      | (with_reducible refine LeO.ite ?_ ?_)
      | (with_reducible refine LeO.bind ?_ (fun _ => ?_))
      | exact ih0 _ _ _
      | exact LeO.none _
      | refine LeO.ite ?_ ?_
      | refine LeO.bind ?_ (fun _ => ?_)
set_option maxHeartbeats 8000000 in
set_option maxRecDepth 100000 in
theorem donjonref7_slash.calls (k : Nat) (a0 : ByteArray) (r : Int) (w : World) (h : donjonref7_slash.f k a0 = some r) :
    Calls Tryd.prog 71 #[.string a0] w fun e w' => e = .returned (.int .i64 r) ∧ Drawn0 w w' := by
  have H : (donjonref7_slash.l0 k a0 0 0) = some r := h
  clear h
  have H' := Aside0.mk H
  clear H
  go_enter Tryd.func71, Tryd.ntmps71
  go_wp2
  go_loopg [3, 4] k (fun kq v3 v4 w' => ∃ (x3_1 : Int) (x4_1 : Int), v3 = .int .i64 x3_1 ∧ v4 = .int .i64 x4_1 ∧ Aside0 (donjonref7_slash.l0 kq a0 x3_1 x4_1 = some r) ∧ Aside0 (kq ≤ k) ∧ Drawn0 w w')
  case atStart => exact ⟨(0), (0), (by first | rfl | (simp; done) | (simp [*]; done)), (by first | rfl | (simp; done) | (simp [*]; done)), H', ⟨Nat.le_refl _⟩, by repeat (first | exact Drawn0.refl _ | apply Drawn0.step)⟩
  case round =>
    clear H'
    obtain ⟨x3_1, x4_1, rfl, rfl, HA, HK1, ⟨m1, rfl⟩⟩ := hrel
    cases gk with
    | zero => exact absurd HA.out (by simp [donjonref7_slash.l0])
    | succ k1 =>
      have H := HA.out
      clear HA
      simp only [donjonref7_slash.l0] at H
      by_cases c2 : x4_1 < (a0.size : Int)
      · rw [if_pos c2] at H
        have c2b0 : decide (x4_1 < (a0.size : Int)) = true := decide_eq_true c2
        clear c2
        by_cases c3 : 0 ≤ x4_1
        · rw [if_pos c3] at H
          have c3b0 : decide (0 ≤ x4_1) = true := decide_eq_true c3
          clear c3
          by_cases c5 : (bt a0 x4_1) = 47
          · rw [if_pos c5] at H
            have c5b0 : ((bt a0 x4_1) == 47) = true := beq_iff_eq.mpr c5
            have c5b1 : ((bt a0 x4_1) != 47) = false := bne_eq_false_iff_eq.mpr c5
            clear c5
            have H' := Aside0.mk H
            clear H
            have p4 : 0 ≤ (x4_1 : Int) := of_decide_eq_true (by first | (with_reducible assumption) | assumption)
            have q4 : x4_1 < (a0.size : Int) := of_decide_eq_true (by first | (with_reducible assumption) | assumption)
            have hx4 := bt_at a0 x4_1
            replace p4 := eq_true p4
            replace q4 := eq_true q4
            go_wp2
            go_roundg k1
            case measure => have := HK1.out; omega
            case rel => exact ⟨(x4_1), (wrap64 (x4_1 + 1)), (by first | rfl | (simp; done) | (simp [*]; done)), (by first | rfl | (simp; done) | (simp [*]; done)), H', ⟨by have := HK1.out; omega⟩, by repeat (first | exact Drawn0.refl _ | apply Drawn0.step)⟩
          · rw [if_neg c5] at H
            have c5b0 : ((bt a0 x4_1) == 47) = false := beq_eq_false_iff_ne.mpr c5
            have c5b1 : ((bt a0 x4_1) != 47) = true := bne_iff_ne.mpr c5
            have H' := Aside0.mk H
            clear H
            have p4 : 0 ≤ (x4_1 : Int) := of_decide_eq_true (by first | (with_reducible assumption) | assumption)
            have q4 : x4_1 < (a0.size : Int) := of_decide_eq_true (by first | (with_reducible assumption) | assumption)
            have hx4 := bt_at a0 x4_1
            replace p4 := eq_true p4
            replace q4 := eq_true q4
            go_wp2
            go_roundg k1
            case measure => have := HK1.out; omega
            case rel => exact ⟨(x3_1), (wrap64 (x4_1 + 1)), (by first | rfl | (simp; done) | (simp [*]; done)), (by first | rfl | (simp; done) | (simp [*]; done)), H', ⟨by have := HK1.out; omega⟩, by repeat (first | exact Drawn0.refl _ | apply Drawn0.step)⟩
        · rw [if_neg c3] at H
          exact absurd H (by simp)
      · rw [if_neg c2] at H
        have c2b0 : decide (x4_1 < (a0.size : Int)) = false := decide_eq_false c2
        clear c2
        obtain rfl := Option.some.inj H
        go_wp2
        go_ret
        exact ⟨by first | rfl | (simp; done) | (simp [*]; done), by repeat (first | exact Drawn0.refl _ | apply Drawn0.step)⟩


/-! ### donjonref7_Parent: function 39 -/
def donjonref7_Parent.f (k : Nat) (a0 : ByteArray) : Option (ByteArray) := if (a0.size : Int) < 2 then (some (⟨#[]⟩ : ByteArray)) else ((donjonref7_slash.f k a0).bind fun t393 => (if t393 = 0 then (some (⟨#[47]⟩ : ByteArray)) else (if 0 ≤ t393 then (if t393 ≤ (a0.size : Int) then (some (a0.extract 0 (t393 : Int).toNat)) else (none)) else (none))))
theorem donjonref7_Parent.mono : ∀ a0 k, LeO (donjonref7_Parent.f k a0) (donjonref7_Parent.f (k + 1) a0) := by
  intro a0 k
  unfold donjonref7_Parent.f
  repeat' first
      | (with_reducible exact donjonref7_slash.mono _ _)
      | (with_reducible exact LeO.refl _)
      | (with_reducible exact LeO.none _)
      | (with_reducible refine LeO.ite ?_ ?_)
      | (with_reducible refine LeO.bind ?_ (fun _ => ?_))
      | exact donjonref7_slash.mono _ _
      | exact LeO.none _
      | refine LeO.ite ?_ ?_
      | refine LeO.bind ?_ (fun _ => ?_)
set_option maxHeartbeats 8000000 in
set_option maxRecDepth 100000 in
theorem donjonref7_Parent.calls (k : Nat) (a0 : ByteArray) (r : ByteArray) (w : World) (h : donjonref7_Parent.f k a0 = some r) :
    Calls Tryd.prog 39 #[.string a0] w fun e w' => e = .returned (.string r) ∧ Drawn0 w w' := by
  have H : (if (a0.size : Int) < 2 then (some (⟨#[]⟩ : ByteArray)) else ((donjonref7_slash.f k a0).bind fun t393 => (if t393 = 0 then (some (⟨#[47]⟩ : ByteArray)) else (if 0 ≤ t393 then (if t393 ≤ (a0.size : Int) then (some (a0.extract 0 (t393 : Int).toNat)) else (none)) else (none))))) = some r := h
  clear h
  by_cases c2 : (a0.size : Int) < 2
  · rw [if_pos c2] at H
    have c2b0 : decide ((a0.size : Int) < 2) = true := decide_eq_true c2
    have c2b1 : decide (a0.size < 2) = true := decide_eq_true (by omega)
    clear c2
    obtain rfl := Option.some.inj H
    go_enter Tryd.func39, Tryd.ntmps39
    go_wp2
    go_ret
    exact ⟨by first | rfl | (simp; done) | (simp [*]; done), by repeat (first | exact Drawn0.refl _ | apply Drawn0.step)⟩
  · rw [if_neg c2] at H
    have c2b0 : decide ((a0.size : Int) < 2) = false := decide_eq_false c2
    have c2b1 : decide (a0.size < 2) = false := decide_eq_false (by omega)
    clear c2
    replace H := Option.bind_eq_some_iff.mp H
    obtain ⟨t393, A30, H⟩ := H
    replace H : (if t393 = 0 then (some (⟨#[47]⟩ : ByteArray)) else (if 0 ≤ t393 then (if t393 ≤ (a0.size : Int) then (some (a0.extract 0 (t393 : Int).toNat)) else (none)) else (none))) = some r := H
    have A3 := Aside0.mk A30
    clear A30
    by_cases c4 : t393 = 0
    · rw [if_pos c4] at H
      have c4b0 : (t393 == 0) = true := beq_iff_eq.mpr c4
      have c4b1 : (t393 != 0) = false := bne_eq_false_iff_eq.mpr c4
      clear c4
      obtain rfl := Option.some.inj H
      go_enter Tryd.func39, Tryd.ntmps39
      go_wp2_with (first | ((with_reducible refine gate_callee (f := 71) rfl ?_); refine goesL_ (some 8) rfl rfl Tryd.func71 (by kernel_rfl) rfl #[.string a0] rfl (by (try simp only [List.map_toArray, List.map_cons, List.map_nil]); first | done | rfl | (simp only [List.length_drop, List.length_take]; rfl)) ?_; (with_reducible refine (donjonref7_slash.calls k a0 t393 _ A3.out).mono ?_); rintro e w' ⟨rfl, ⟨nd, rfl⟩⟩; refine ⟨_, rfl, ?_⟩))
      go_ret
      exact ⟨by first | rfl | (simp; done) | (simp [*]; done), by repeat (first | exact Drawn0.refl _ | apply Drawn0.step)⟩
    · rw [if_neg c4] at H
      have c4b0 : (t393 == 0) = false := beq_eq_false_iff_ne.mpr c4
      have c4b1 : (t393 != 0) = true := bne_iff_ne.mpr c4
      by_cases c5 : 0 ≤ t393
      · rw [if_pos c5] at H
        have c5b0 := eq_true c5
        have c5b1 : decide (0 ≤ t393) = true := decide_eq_true c5
        clear c5
        by_cases c6 : t393 ≤ (a0.size : Int)
        · rw [if_pos c6] at H
          have c6b0 := eq_true c6
          have c6b1 : decide (t393 ≤ (a0.size : Int)) = true := decide_eq_true c6
          clear c6
          obtain rfl := Option.some.inj H
          go_enter Tryd.func39, Tryd.ntmps39
          go_wp2_with (first | ((with_reducible refine gate_callee (f := 71) rfl ?_); refine goesL_ (some 8) rfl rfl Tryd.func71 (by kernel_rfl) rfl #[.string a0] rfl (by (try simp only [List.map_toArray, List.map_cons, List.map_nil]); first | done | rfl | (simp only [List.length_drop, List.length_take]; rfl)) ?_; (with_reducible refine (donjonref7_slash.calls k a0 t393 _ A3.out).mono ?_); rintro e w' ⟨rfl, ⟨nd, rfl⟩⟩; refine ⟨_, rfl, ?_⟩))
          go_ret
          exact ⟨by first | rfl | (simp; done) | (simp [*]; done), by repeat (first | exact Drawn0.refl _ | apply Drawn0.step)⟩
        · rw [if_neg c6] at H
          exact absurd H (by simp)
      · rw [if_neg c5] at H
        exact absurd H (by simp)


/-! ### donjonref7_Join: function 45 -/
def donjonref7_Join.f (a0 : ByteArray) (a1 : ByteArray) : Option (ByteArray) := if a0.toList = ([47] : List UInt8) then (if a0.size + a1.size ≤ 9223372036854775807 then (some (a0 ++ a1)) else (none)) else (if a0.size + 1 ≤ 9223372036854775807 then (if (a0 ++ (⟨#[47]⟩ : ByteArray)).size + a1.size ≤ 9223372036854775807 then (some ((a0 ++ (⟨#[47]⟩ : ByteArray)) ++ a1)) else (none)) else (none))
set_option maxHeartbeats 8000000 in
set_option maxRecDepth 100000 in
theorem donjonref7_Join.calls (a0 : ByteArray) (a1 : ByteArray) (r : ByteArray) (w : World) (h : donjonref7_Join.f a0 a1 = some r) :
    Calls Tryd.prog 45 #[.string a0, .string a1] w fun e w' => e = .returned (.string r) ∧ Drawn0 w w' := by
  have H : (if a0.toList = ([47] : List UInt8) then (if a0.size + a1.size ≤ 9223372036854775807 then (some (a0 ++ a1)) else (none)) else (if a0.size + 1 ≤ 9223372036854775807 then (if (a0 ++ (⟨#[47]⟩ : ByteArray)).size + a1.size ≤ 9223372036854775807 then (some ((a0 ++ (⟨#[47]⟩ : ByteArray)) ++ a1)) else (none)) else (none))) = some r := h
  clear h
  by_cases c3 : a0.toList = ([47] : List UInt8)
  · rw [if_pos c3] at H
    have c3b0 : (a0.toList == ([47] : List UInt8)) = true := beq_iff_eq.mpr c3
    have c3b1 : (a0.toList != ([47] : List UInt8)) = false := bne_eq_false_iff_eq.mpr c3
    clear c3
    by_cases c4 : a0.size + a1.size ≤ 9223372036854775807
    · rw [if_pos c4] at H
      have c4b0 := eq_true c4
      have c4b1 : decide (a0.size + a1.size ≤ 9223372036854775807) = true := decide_eq_true c4
      try have c4b2 : (9223372036854775807 < a0.size + a1.size) = False := eq_false (Nat.not_lt.2 c4)
      obtain rfl := Option.some.inj H
      go_enter Tryd.func45, Tryd.ntmps45
      go_wp2
      go_ret
      exact ⟨by first | rfl | (simp; done) | (simp [*]; done), by repeat (first | exact Drawn0.refl _ | apply Drawn0.step)⟩
    · rw [if_neg c4] at H
      exact absurd H (by simp)
  · rw [if_neg c3] at H
    have c3b0 : (a0.toList == ([47] : List UInt8)) = false := beq_eq_false_iff_ne.mpr c3
    have c3b1 : (a0.toList != ([47] : List UInt8)) = true := bne_iff_ne.mpr c3
    by_cases c5 : a0.size + 1 ≤ 9223372036854775807
    · rw [if_pos c5] at H
      have c5b0 := eq_true c5
      have c5b1 : decide (a0.size + 1 ≤ 9223372036854775807) = true := decide_eq_true c5
      try have c5b2 : (9223372036854775807 < a0.size + 1) = False := eq_false (Nat.not_lt.2 c5)
      by_cases c6 : (a0 ++ (⟨#[47]⟩ : ByteArray)).size + a1.size ≤ 9223372036854775807
      · rw [if_pos c6] at H
        have c6b0 := eq_true c6
        have c6b1 : decide ((a0 ++ (⟨#[47]⟩ : ByteArray)).size + a1.size ≤ 9223372036854775807) = true := decide_eq_true c6
        try have c6b2 : (9223372036854775807 < (a0 ++ (⟨#[47]⟩ : ByteArray)).size + a1.size) = False := eq_false (Nat.not_lt.2 c6)
        obtain rfl := Option.some.inj H
        go_enter Tryd.func45, Tryd.ntmps45
        go_wp2
        go_ret
        exact ⟨by first | rfl | (simp; done) | (simp [*]; done), by repeat (first | exact Drawn0.refl _ | apply Drawn0.step)⟩
      · rw [if_neg c6] at H
        exact absurd H (by simp)
    · rw [if_neg c5] at H
      exact absurd H (by simp)


/-! ### donjonref7_Last: function 88 -/
def donjonref7_Last.f (k : Nat) (a0 : ByteArray) : Option (ByteArray) := if (a0.size : Int) < 2 then (some (⟨#[]⟩ : ByteArray)) else ((donjonref7_slash.f k a0).bind fun t1724 => (if 0 ≤ (wrap64 (t1724 + 1)) then (if (wrap64 (t1724 + 1)) ≤ (a0.size : Int) then (some (a0.extract ((wrap64 (t1724 + 1)) : Int).toNat a0.size)) else (none)) else (none)))
theorem donjonref7_Last.mono : ∀ a0 k, LeO (donjonref7_Last.f k a0) (donjonref7_Last.f (k + 1) a0) := by
  intro a0 k
  unfold donjonref7_Last.f
  repeat' first
      | (with_reducible exact donjonref7_slash.mono _ _)
      | (with_reducible exact LeO.refl _)
      | (with_reducible exact LeO.none _)
      | (with_reducible refine LeO.ite ?_ ?_)
      | (with_reducible refine LeO.bind ?_ (fun _ => ?_))
      | exact donjonref7_slash.mono _ _
      | exact LeO.none _
      | refine LeO.ite ?_ ?_
      | refine LeO.bind ?_ (fun _ => ?_)
set_option maxHeartbeats 8000000 in
set_option maxRecDepth 100000 in
theorem donjonref7_Last.calls (k : Nat) (a0 : ByteArray) (r : ByteArray) (w : World) (h : donjonref7_Last.f k a0 = some r) :
    Calls Tryd.prog 88 #[.string a0] w fun e w' => e = .returned (.string r) ∧ Drawn0 w w' := by
  have H : (if (a0.size : Int) < 2 then (some (⟨#[]⟩ : ByteArray)) else ((donjonref7_slash.f k a0).bind fun t1724 => (if 0 ≤ (wrap64 (t1724 + 1)) then (if (wrap64 (t1724 + 1)) ≤ (a0.size : Int) then (some (a0.extract ((wrap64 (t1724 + 1)) : Int).toNat a0.size)) else (none)) else (none)))) = some r := h
  clear h
  by_cases c2 : (a0.size : Int) < 2
  · rw [if_pos c2] at H
    have c2b0 : decide ((a0.size : Int) < 2) = true := decide_eq_true c2
    have c2b1 : decide (a0.size < 2) = true := decide_eq_true (by omega)
    clear c2
    obtain rfl := Option.some.inj H
    go_enter Tryd.func88, Tryd.ntmps88
    go_wp2
    go_ret
    exact ⟨by first | rfl | (simp; done) | (simp [*]; done), by repeat (first | exact Drawn0.refl _ | apply Drawn0.step)⟩
  · rw [if_neg c2] at H
    have c2b0 : decide ((a0.size : Int) < 2) = false := decide_eq_false c2
    have c2b1 : decide (a0.size < 2) = false := decide_eq_false (by omega)
    clear c2
    replace H := Option.bind_eq_some_iff.mp H
    obtain ⟨t1724, A30, H⟩ := H
    replace H : (if 0 ≤ (wrap64 (t1724 + 1)) then (if (wrap64 (t1724 + 1)) ≤ (a0.size : Int) then (some (a0.extract ((wrap64 (t1724 + 1)) : Int).toNat a0.size)) else (none)) else (none)) = some r := H
    have A3 := Aside0.mk A30
    clear A30
    obtain ⟨ji4, hji4⟩ : ∃ j_ : Int, (wrap64 (t1724 + 1)) = j_ := ⟨_, rfl⟩
    replace H : (if 0 ≤ (ji4) then (if (ji4) ≤ (a0.size : Int) then (some (a0.extract ((ji4) : Int).toNat a0.size)) else (none)) else (none)) = some r := by first | (rw [hji4] at H; exact H) | (simp only [hji4] at H ⊢; exact H)
    (try rw [hji4] at A3)
    have hji4w : (IntKind.i64.wrap (t1724 + 1)) = ji4 := (i64_w _).trans hji4
    by_cases c5 : 0 ≤ (ji4)
    · rw [if_pos c5] at H
      have c5b0 := eq_true c5
      have c5b1 : decide (0 ≤ (ji4)) = true := decide_eq_true c5
      clear c5
      by_cases c6 : (ji4) ≤ (a0.size : Int)
      · rw [if_pos c6] at H
        have c6b0 := eq_true c6
        have c6b1 : decide ((ji4) ≤ (a0.size : Int)) = true := decide_eq_true c6
        clear c6
        obtain rfl := Option.some.inj H
        go_enter Tryd.func88, Tryd.ntmps88
        go_wp2_with (first | ((with_reducible refine gate_callee (f := 71) rfl ?_); refine goesL_ (some 8) rfl rfl Tryd.func71 (by kernel_rfl) rfl #[.string a0] rfl (by (try simp only [List.map_toArray, List.map_cons, List.map_nil]); first | done | rfl | (simp only [List.length_drop, List.length_take]; rfl)) ?_; (with_reducible refine (donjonref7_slash.calls k a0 t1724 _ A3.out).mono ?_); rintro e w' ⟨rfl, ⟨nd, rfl⟩⟩; refine ⟨_, rfl, ?_⟩))
        go_ret
        exact ⟨by first | rfl | (simp; done) | (simp only [← hji4] <;> (first | rfl | simp)) | (simp [*]; done), by repeat (first | exact Drawn0.refl _ | apply Drawn0.step)⟩
      · rw [if_neg c6] at H
        exact absurd H (by simp)
    · rw [if_neg c5] at H
      exact absurd H (by simp)


end Go.Proofs.YtmndeoncbocplaaDoor.Q
