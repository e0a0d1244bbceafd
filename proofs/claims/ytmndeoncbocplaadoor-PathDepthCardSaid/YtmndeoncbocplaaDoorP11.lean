-- Written by our px.py (wip/tools) over the kit's print program, with contracts of ours for some callees; not print.sh's own output.
import Derived.Test.YtmndeoncbocplaaDoorP0
import Derived.Test.YtmndeoncbocplaaDoorP1
import Derived.Test.YtmndeoncbocplaaDoorP3
import Derived.Test.YtmndeoncbocplaaDoorP6
import Derived.Test.YtmndeoncbocplaaDoorP10
namespace Go.Proofs.YtmndeoncbocplaaDoor.P
open Go.RowKit Go.Proofs.YtmndeoncbocplaaDoorW.PrintWords Go.Proofs.YtmndeoncbocplaaDoorW.PrintLast Go.Proofs.YtmndeoncbocplaaDoorW.PrintMore
attribute [local go_sem] max2_int min2_int max_two min_two max_three min_three max_four min_four   -- for this text's walks alone
set_option linter.unusedVariables false
set_option linter.unusedSimpArgs false

/-! ### donjonlaw7_PathDepth: function 6 -/
mutual
def donjonlaw7_PathDepth.l0 : Nat → Int → Int → ByteArray → Int → Option (Bool)
  | 0, _, _, _, _ => none
  | k + 1, x0, x1, x5, x6 => if x6 < x0 then (if x5.size + 1 ≤ 9223372036854775807 then (donjonlaw7_PathDepth.l1 k x0 x1 (x5 ++ (⟨#[47]⟩ : ByteArray)) x6 0) else (none)) else (if (x5.size : Int) > 78 then (donjonlaw7_PathDepth.j2 k x0 x1 x5 5) else (if x0 > 6 then (donjonlaw7_PathDepth.j2 k x0 x1 x5 1) else (if x1 > 12 then (donjonlaw7_PathDepth.j2 k x0 x1 x5 1) else (donjonlaw7_PathDepth.j2 k x0 x1 x5 0))))
def donjonlaw7_PathDepth.l1 : Nat → Int → Int → ByteArray → Int → Int → Option (Bool)
  | 0, _, _, _, _, _ => none
  | k + 1, x0, x1, x5, x6, x7 => if x7 < x1 then ((some (([(wrap64 (97 + x6)) % 256] : List Int) : List Int)).bind fun y166 => (if x5.size + (strOfNums y166).size ≤ 9223372036854775807 then (donjonlaw7_PathDepth.l1 k x0 x1 (x5 ++ (strOfNums y166)) x6 (wrap64 (x7 + 1))) else (none))) else (donjonlaw7_PathDepth.l0 k x0 x1 x5 (wrap64 (x6 + 1)))
def donjonlaw7_PathDepth.j2 : Nat → Int → Int → ByteArray → Int → Option (Bool)
  | 0, _, _, _, _ => none
  | k + 1, x0, x1, x5, x8 => (path_Check.f k x5).bind fun t169 => (if t169 = x8 then (if x8 = 0 then ((path_Parts.f x5).bind fun t170 => (if (t170.length : Int) = x0 then (donjonlaw7_PathDepth.l2 k x0 x1 x5 0) else (some false))) else (some true)) else (some false))
def donjonlaw7_PathDepth.l2 : Nat → Int → Int → ByteArray → Int → Option (Bool)
  | 0, _, _, _, _ => none
  | k + 1, x0, x1, x5, x9 => if x9 < x0 then ((path_Last.f x5).bind fun t178 => (if (t178.size : Int) = x1 then ((path_Parent.f x5).bind fun t179 => (donjonlaw7_PathDepth.l2 k x0 x1 t179 (wrap64 (x9 + 1)))) else (some false))) else (if x5.toList = ([47] : List UInt8) then ((path_Parent.f x5).bind fun t173 => (if t173.toList = ([] : List UInt8) then ((path_Last.f x5).bind fun t174 => (if t174.toList = ([] : List UInt8) then ((path_Parts.f x5).bind fun t175 => (some ((t175.length : Int) == 0))) else (some false))) else (some false))) else (some false))
end
def donjonlaw7_PathDepth.f (k : Nat) (a0 : Int) (a1 : Int) : Option (Bool) := (donjonlaw7_known.f).bind fun t163 => (if t163 = true then ((donjonlaw7_within.f a0 8).bind fun t164 => ((donjonlaw7_within.f a1 14).bind fun t165 => (donjonlaw7_PathDepth.l0 k (wrap64 (1 + t164)) (wrap64 (1 + t165)) (⟨#[]⟩ : ByteArray) 0))) else (some false))
theorem donjonlaw7_PathDepth.mono_l : ∀ k, (∀ y0 y1 y2 y3, LeO (donjonlaw7_PathDepth.l0 k y0 y1 y2 y3) (donjonlaw7_PathDepth.l0 (k + 1) y0 y1 y2 y3)) ∧ (∀ y0 y1 y2 y3 y4, LeO (donjonlaw7_PathDepth.l1 k y0 y1 y2 y3 y4) (donjonlaw7_PathDepth.l1 (k + 1) y0 y1 y2 y3 y4)) ∧ (∀ y0 y1 y2 y3, LeO (donjonlaw7_PathDepth.j2 k y0 y1 y2 y3) (donjonlaw7_PathDepth.j2 (k + 1) y0 y1 y2 y3)) ∧ (∀ y0 y1 y2 y3, LeO (donjonlaw7_PathDepth.l2 k y0 y1 y2 y3) (donjonlaw7_PathDepth.l2 (k + 1) y0 y1 y2 y3))
  | 0 => ⟨fun _ _ _ _ r h => by simp [donjonlaw7_PathDepth.l0] at h, fun _ _ _ _ _ r h => by simp [donjonlaw7_PathDepth.l1] at h, fun _ _ _ _ r h => by simp [donjonlaw7_PathDepth.j2] at h, fun _ _ _ _ r h => by simp [donjonlaw7_PathDepth.l2] at h⟩
  | k + 1 => by
    obtain ⟨ih0, ih1, ih2, ih3⟩ := donjonlaw7_PathDepth.mono_l k
    refine ⟨?_, ?_, ?_, ?_⟩
    · intro y0 y1 y2 y3
      unfold donjonlaw7_PathDepth.l0
      repeat' first
      | (with_reducible exact ih0 _ _ _ _)
      | (with_reducible exact ih1 _ _ _ _ _)
      | (with_reducible exact ih2 _ _ _ _)
      | (with_reducible exact ih3 _ _ _ _)
      | (with_reducible exact path_Check.mono _ _)
      | (with_reducible exact LeO.refl _)
      | (with_reducible exact LeO.none _)
      | (with_reducible refine LeO.ite ?_ ?_)
      | (with_reducible refine LeO.bind ?_ (fun _ => ?_))
      | exact ih0 _ _ _ _
      | exact ih1 _ _ _ _ _
      | exact ih2 _ _ _ _
      | exact ih3 _ _ _ _
      | exact path_Check.mono _ _
      | exact LeO.none _
      | refine LeO.ite ?_ ?_
      | refine LeO.bind ?_ (fun _ => ?_)
    · intro y0 y1 y2 y3 y4
      unfold donjonlaw7_PathDepth.l1
      repeat' first
      | (with_reducible exact ih0 _ _ _ _)
      | (with_reducible exact ih1 _ _ _ _ _)
      | (with_reducible exact ih2 _ _ _ _)
      | (with_reducible exact ih3 _ _ _ _)
      | (with_reducible exact path_Check.mono _ _)
      | (with_reducible exact LeO.refl _)
      | (with_reducible exact LeO.none _)
      | (with_reducible refine LeO.ite ?_ ?_)
      | (with_reducible refine LeO.bind ?_ (fun _ => ?_))
      | exact ih0 _ _ _ _
      | exact ih1 _ _ _ _ _
      | exact ih2 _ _ _ _
      | exact ih3 _ _ _ _
      | exact path_Check.mono _ _
      | exact LeO.none _
      | refine LeO.ite ?_ ?_
      | refine LeO.bind ?_ (fun _ => ?_)
    · intro y0 y1 y2 y3
      unfold donjonlaw7_PathDepth.j2
      repeat' first
      | (with_reducible exact ih0 _ _ _ _)
      | (with_reducible exact ih1 _ _ _ _ _)
      | (with_reducible exact ih2 _ _ _ _)
      | (with_reducible exact ih3 _ _ _ _)
      | (with_reducible exact path_Check.mono _ _)
      | (with_reducible exact LeO.refl _)
      | (with_reducible exact LeO.none _)
      | (with_reducible refine LeO.ite ?_ ?_)
      | (with_reducible refine LeO.bind ?_ (fun _ => ?_))
      | exact ih0 _ _ _ _
      | exact ih1 _ _ _ _ _
      | exact ih2 _ _ _ _
      | exact ih3 _ _ _ _
      | exact path_Check.mono _ _
      | exact LeO.none _
      | refine LeO.ite ?_ ?_
      | refine LeO.bind ?_ (fun _ => ?_)
    · intro y0 y1 y2 y3
      unfold donjonlaw7_PathDepth.l2
      repeat' first
      | (with_reducible exact ih0 _ _ _ _)
      | (with_reducible exact ih1 _ _ _ _ _)
      | (with_reducible exact ih2 _ _ _ _)
      | (with_reducible exact ih3 _ _ _ _)
      | (with_reducible exact path_Check.mono _ _)
      | (with_reducible exact LeO.refl _)
      | (with_reducible exact LeO.none _)
      | (with_reducible refine LeO.ite ?_ ?_)
      | (with_reducible refine LeO.bind ?_ (fun _ => ?_))
      | exact ih0 _ _ _ _
      | exact ih1 _ _ _ _ _
      | exact ih2 _ _ _ _
      | exact ih3 _ _ _ _
      | exact path_Check.mono _ _
      | exact LeO.none _
      | refine LeO.ite ?_ ?_
      | refine LeO.bind ?_ (fun _ => ?_)
theorem donjonlaw7_PathDepth.mono : ∀ a0 a1 k, LeO (donjonlaw7_PathDepth.f k a0 a1) (donjonlaw7_PathDepth.f (k + 1) a0 a1) := by
  intro a0 a1 k
  obtain ⟨ih0, ih1, ih2, ih3⟩ := donjonlaw7_PathDepth.mono_l k
  unfold donjonlaw7_PathDepth.f
  repeat' first
      | (with_reducible exact ih0 _ _ _ _)
      | (with_reducible exact ih1 _ _ _ _ _)
      | (with_reducible exact ih2 _ _ _ _)
      | (with_reducible exact ih3 _ _ _ _)
      | (with_reducible exact path_Check.mono _ _)
      | (with_reducible exact LeO.refl _)
      | (with_reducible exact LeO.none _)
      | (with_reducible refine LeO.ite ?_ ?_)
      | (with_reducible refine LeO.bind ?_ (fun _ => ?_))
      | exact ih0 _ _ _ _
      | exact ih1 _ _ _ _ _
      | exact ih2 _ _ _ _
      | exact ih3 _ _ _ _
      | exact path_Check.mono _ _
      | exact LeO.none _
      | refine LeO.ite ?_ ?_
      | refine LeO.bind ?_ (fun _ => ?_)
set_option maxHeartbeats 8000000 in
set_option maxRecDepth 100000 in
theorem donjonlaw7_PathDepth.calls (k : Nat) (a0 : Int) (a1 : Int) (r : Bool) (w : World) (h : donjonlaw7_PathDepth.f k a0 a1 = some r) :
    Calls Tryd.prog 6 #[.int .i64 a0, .int .i64 a1] w fun e w' => e = .returned (.bool r) ∧ Below w.heap.size w w' := by
  have HB := Aside0.mk (Below.refl w.heap.size w)
  have H : ((donjonlaw7_known.f).bind fun t163 => (if t163 = true then ((donjonlaw7_within.f a0 8).bind fun t164 => ((donjonlaw7_within.f a1 14).bind fun t165 => (donjonlaw7_PathDepth.l0 k (wrap64 (1 + t164)) (wrap64 (1 + t165)) (⟨#[]⟩ : ByteArray) 0))) else (some false))) = some r := h
  clear h
  replace H := Option.bind_eq_some_iff.mp H
  obtain ⟨t163, A30, H⟩ := H
  replace H : (if t163 = true then ((donjonlaw7_within.f a0 8).bind fun t164 => ((donjonlaw7_within.f a1 14).bind fun t165 => (donjonlaw7_PathDepth.l0 k (wrap64 (1 + t164)) (wrap64 (1 + t165)) (⟨#[]⟩ : ByteArray) 0))) else (some false)) = some r := H
  have A3 := Aside0.mk A30
  clear A30
  by_cases c4 : t163 = true
  · subst c4
    have H1 : ((donjonlaw7_within.f a0 8).bind fun t164 => ((donjonlaw7_within.f a1 14).bind fun t165 => (donjonlaw7_PathDepth.l0 k (wrap64 (1 + t164)) (wrap64 (1 + t165)) (⟨#[]⟩ : ByteArray) 0))) = some r := by rw [if_pos rfl] at H; exact H
    clear H
    have H := H1
    clear H1
    replace H := Option.bind_eq_some_iff.mp H
    obtain ⟨t164, A50, H⟩ := H
    replace H : ((donjonlaw7_within.f a1 14).bind fun t165 => (donjonlaw7_PathDepth.l0 k (wrap64 (1 + t164)) (wrap64 (1 + t165)) (⟨#[]⟩ : ByteArray) 0)) = some r := H
    have A5 := Aside0.mk A50
    clear A50
    replace H := Option.bind_eq_some_iff.mp H
    obtain ⟨t165, A60, H⟩ := H
    replace H : (donjonlaw7_PathDepth.l0 k (wrap64 (1 + t164)) (wrap64 (1 + t165)) (⟨#[]⟩ : ByteArray) 0) = some r := H
    have A6 := Aside0.mk A60
    clear A60
    have H' := Aside0.mk H
    clear H
    go_enter Tryd.func6, Tryd.ntmps6
    go_wp2_with (first | ((with_reducible refine gate_callee (f := 20) rfl ?_); refine goesL_ (some 10) rfl rfl Tryd.func20 (by kernel_rfl) rfl #[] rfl (by (try simp only [List.map_toArray, List.map_cons, List.map_nil]); first | done | rfl | (simp only [List.length_drop, List.length_take]; rfl)) ?_; (with_reducible refine (donjonlaw7_known.calls  true _ A3.out).mono ?_); rintro e w7 ⟨rfl, hb⟩; refine ⟨_, rfl, ?_⟩; have n0_ := Aside0.mk (below_step (by repeat (first | (with_reducible first | exact HB.out | apply below_alloc | apply pw_below_drewN | apply below_drew1) | exact HB.out)) hb); clear HB; have HB := n0_; clear n0_; (try clear hb); (try clear hb2); (try clear hk); (try clear hi)) | ((with_reducible refine gate_callee (f := 28) rfl ?_); refine goesL_ (some 13) rfl rfl Tryd.func28 (by kernel_rfl) rfl #[.int .i64 a0, .int .i64 8] rfl (by (try simp only [List.map_toArray, List.map_cons, List.map_nil]); first | done | rfl | (simp only [List.length_drop, List.length_take]; rfl)) ?_; (with_reducible refine (donjonlaw7_within.calls a0 8 t164 _ A5.out).mono ?_); rintro e w' ⟨rfl, ⟨nd, rfl⟩⟩; refine ⟨_, rfl, ?_⟩) | ((with_reducible refine gate_callee (f := 28) rfl ?_); refine goesL_ (some 16) rfl rfl Tryd.func28 (by kernel_rfl) rfl #[.int .i64 a1, .int .i64 14] rfl (by (try simp only [List.map_toArray, List.map_cons, List.map_nil]); first | done | rfl | (simp only [List.length_drop, List.length_take]; rfl)) ?_; (with_reducible refine (donjonlaw7_within.calls a1 14 t165 _ A6.out).mono ?_); rintro e w' ⟨rfl, ⟨nd, rfl⟩⟩; refine ⟨_, rfl, ?_⟩))
    go_loopg [5, 6] k (fun kq v5 v6 w' => ∃ (x5_1 : ByteArray) (x6_1 : Int), v5 = .string x5_1 ∧ v6 = .int .i64 x6_1 ∧ Aside0 (donjonlaw7_PathDepth.l0 kq (wrap64 (1 + t164)) (wrap64 (1 + t165)) x5_1 x6_1 = some r) ∧ Aside0 (kq ≤ k) ∧ Aside0 (Below w.heap.size w w'))
    case atStart => exact ⟨((⟨#[]⟩ : ByteArray)), (0), (by first | rfl | (simp; done) | (simp [*]; done)), (by first | rfl | (simp; done) | (simp [*]; done)), H', ⟨Nat.le_refl _⟩, ⟨by repeat (first | (with_reducible first | exact HB.out | apply below_alloc | apply pw_below_drewN | apply below_drew1) | exact HB.out)⟩⟩
    case round =>
      clear H'
      try clear c2
      try clear p2
      try clear c4
      try clear c6
      try clear p6
      obtain ⟨x5_1, x6_1, rfl, rfl, HA, HK1, HB⟩ := hrel
      cases gk with
      | zero => exact absurd HA.out (by simp [donjonlaw7_PathDepth.l0])
      | succ k1 =>
        have H := HA.out
        clear HA
        simp only [donjonlaw7_PathDepth.l0] at H
        by_cases c8 : x6_1 < (wrap64 (1 + t164))
        · rw [if_pos c8] at H
          have c8b0 : decide (x6_1 < (wrap64 (1 + t164))) = true := decide_eq_true c8
          clear c8
          by_cases c9 : x5_1.size + 1 ≤ 9223372036854775807
          · rw [if_pos c9] at H
            have c9b0 := eq_true c9
            have c9b1 : decide (x5_1.size + 1 ≤ 9223372036854775807) = true := decide_eq_true c9
            try have c9b2 : (9223372036854775807 < x5_1.size + 1) = False := eq_false (Nat.not_lt.2 c9)
            have H' := Aside0.mk H
            clear H
            go_wp2
            go_loopg [5, 7] k1 (fun kq v5 v7 w' => ∃ (x5_2 : ByteArray) (x7_2 : Int), v5 = .string x5_2 ∧ v7 = .int .i64 x7_2 ∧ Aside0 (donjonlaw7_PathDepth.l1 kq (wrap64 (1 + t164)) (wrap64 (1 + t165)) x5_2 x6_1 x7_2 = some r) ∧ Aside0 (kq ≤ k1) ∧ Aside0 (Below w.heap.size w w'))
            case atStart => exact ⟨(x5_1 ++ (⟨#[47]⟩ : ByteArray)), (0), (by first | rfl | (simp; done) | (simp [*]; done)), (by first | rfl | (simp; done) | (simp [*]; done)), H', ⟨Nat.le_refl _⟩, ⟨by repeat (first | (with_reducible first | exact HB.out | apply below_alloc | apply pw_below_drewN | apply below_drew1) | exact HB.out)⟩⟩
            case round =>
              clear H'
              try clear c2
              try clear p2
              try clear c4
              try clear c6
              try clear p6
              try clear c8
              try clear c8b0
              try clear c9
              try clear c9b0
              try clear c9b1
              try clear c9b2
              try clear p2
              try clear p6
              obtain ⟨x5_2, x7_2, rfl, rfl, HA, HK2, HB⟩ := hrel
              cases gk with
              | zero => exact absurd HA.out (by simp [donjonlaw7_PathDepth.l1])
              | succ k2 =>
                have H := HA.out
                clear HA
                simp only [donjonlaw7_PathDepth.l1] at H
                by_cases c10 : x7_2 < (wrap64 (1 + t165))
                · rw [if_pos c10] at H
                  have c10b0 : decide (x7_2 < (wrap64 (1 + t165))) = true := decide_eq_true c10
                  clear c10
                  obtain ⟨y166, hy166⟩ : ∃ y_ : List Int, y_ = (([(wrap64 (97 + x6_1)) % 256] : List Int)) := ⟨_, rfl⟩
                  replace H : (if x5_2.size + (strOfNums y166).size ≤ 9223372036854775807 then (donjonlaw7_PathDepth.l1 k2 (wrap64 (1 + t164)) (wrap64 (1 + t165)) (x5_2 ++ (strOfNums y166)) x6_1 (wrap64 (x7_2 + 1))) else (none)) = some r := by first | (rw [hy166]; with_reducible exact H) | (have H2_ := (Option.bind_some _ _).symm.trans H; rw [hy166]; with_reducible exact H2_) | (have H2_ := (Option.bind_some _ _).symm.trans H; with_reducible exact H2_) | with_reducible exact H | (rw [hy166]; exact H) | exact H
                  have Ny166 := Aside0.mk hy166
                  clear hy166
                  by_cases c11 : x5_2.size + (strOfNums y166).size ≤ 9223372036854775807
                  · rw [if_pos c11] at H
                    have c11b0 := eq_true c11
                    have c11b1 : decide (x5_2.size + (strOfNums y166).size ≤ 9223372036854775807) = true := decide_eq_true c11
                    try have c11b2 : (9223372036854775807 < x5_2.size + (strOfNums y166).size) = False := eq_false (Nat.not_lt.2 c11)
                    have H' := Aside0.mk H
                    clear H
                    go_wp2_with (first | ((with_reducible refine gate_dst (N := 34) rfl ?_); (try (refine gate_guard (by rfl) ?_; dsimp only)); refine Kd.R_lit (Kd.int .u8) _ 5 ?hg (N := 34) ?hd (xs := ([(wrap64 (97 + x6_1)) % 256] : List Int)) (inner := [.int .u8 ((wrap64 (97 + x6_1)) % 256)]) (ok := fun _ => True) (okp := fun _ => True) ?hr ?hp (fun _ hk => hk) trivial (Below.refl _ _) (Nat.le_refl _) (by simp) ?_; (case hd => rfl); (case hg => rfl); (case hr => first | (go_simp; done) | (go_simp; rfl)); (case hp => exact (Reps.one (show Kd.M (Kd.int .u8) _ _ _ ((wrap64 (97 + x6_1)) % 256) [.int .u8 ((wrap64 (97 + x6_1)) % 256)] from rfl) (Reps.none _ _))); intro v167 w12 ho13 hb hg_ hnew_; clear hg_ hnew_; (first | rw [← Ny166.out] at ho13 | (simp only [Int.reduceToNat] at ho13; rw [← Ny166.out] at ho13)); have n0_ := Aside0.mk (Kd.R_lower ho13 (below_size (by repeat (first | (with_reducible first | exact HB.out | apply below_alloc | apply pw_below_drewN | apply below_drew1) | exact HB.out)))); have n1_ := Aside0.mk (below_step (by repeat (first | (with_reducible first | exact HB.out | apply below_alloc | apply pw_below_drewN | apply below_drew1) | exact HB.out)) hb); clear HB; have HO168 := n0_; have HB := n1_; clear n0_ n1_; clear hb ho13; have hcv14 := own_string (P := Tryd.prog) Tryd.underlying34 Tryd.underlying5 Tryd.underlying9 (Kd.own_of_R HO168.out)))
                    go_roundg k2
                    case measure => have := HK1.out; have := HK2.out; omega
                    case rel => exact ⟨(x5_2 ++ (strOfNums y166)), (wrap64 (x7_2 + 1)), (by first | rfl | (simp; done) | (simp [*]; done)), (by first | rfl | (simp; done) | (simp [*]; done)), H', ⟨by have := HK1.out; have := HK2.out; omega⟩, ⟨by repeat (first | (with_reducible first | exact HB.out | apply below_alloc | apply pw_below_drewN | apply below_drew1) | exact HB.out)⟩⟩
                  · rw [if_neg c11] at H
                    exact absurd H (by simp)
                · rw [if_neg c10] at H
                  have c10b0 : decide (x7_2 < (wrap64 (1 + t165))) = false := decide_eq_false c10
                  clear c10
                  have H' := Aside0.mk H
                  clear H
                  go_wp2
                  go_roundg k2
                  case measure => have := HK1.out; have := HK2.out; omega
                  case rel => exact ⟨(x5_2), (wrap64 (x6_1 + 1)), (by first | rfl | (simp; done) | (simp [*]; done)), (by first | rfl | (simp; done) | (simp [*]; done)), H', ⟨by have := HK1.out; have := HK2.out; omega⟩, ⟨by repeat (first | (with_reducible first | exact HB.out | apply below_alloc | apply pw_below_drewN | apply below_drew1) | exact HB.out)⟩⟩
          · rw [if_neg c9] at H
            exact absurd H (by simp)
        · rw [if_neg c8] at H
          have c8b0 : decide (x6_1 < (wrap64 (1 + t164))) = false := decide_eq_false c8
          clear c8
          have HC15 := Aside0.mk H
          clear H
          go_upto_if 39 with (fail)
          go_cut [8] (fun v8 wc => ∃ (kq : Nat) (x8_14 : Int), v8 = .int .i64 x8_14 ∧ Aside0 (donjonlaw7_PathDepth.j2 kq (wrap64 (1 + t164)) (wrap64 (1 + t165)) x5_1 x8_14 = some r) ∧ Aside0 (kq ≤ k1) ∧ Aside0 (Below w.heap.size w wc))
          case first =>
            have H := HC15.out
            clear HC15
            by_cases c16 : (x5_1.size : Int) > 78
            · rw [if_pos c16] at H
              have c16b0 : decide (78 < (x5_1.size : Int)) = true := decide_eq_true c16
              have c16b1 : decide (78 < x5_1.size) = true := decide_eq_true (by omega)
              clear c16
              (first | rw [c16b0] | (simp only [i64_w, i32_w]; rw [c16b0]) | skip)
              have H' := Aside0.mk H
              clear H
              go_wp2
              go_meet
              case rel => exact ⟨_, (5), (by first | rfl | (simp; done) | (simp [*]; done)), H', ⟨by have := HK1.out; first | omega | exact Nat.le_refl _⟩, ⟨by repeat (first | (with_reducible first | exact HB.out | apply below_alloc | apply pw_below_drewN | apply below_drew1) | exact HB.out)⟩⟩
            · rw [if_neg c16] at H
              have c16b0 : decide (78 < (x5_1.size : Int)) = false := decide_eq_false c16
              have c16b1 : decide (78 < x5_1.size) = false := decide_eq_false (by omega)
              clear c16
              (first | rw [c16b0] | (simp only [i64_w, i32_w]; rw [c16b0]) | skip)
              by_cases c17 : (wrap64 (1 + t164)) > 6
              · rw [if_pos c17] at H
                have c17b0 : decide (6 < (wrap64 (1 + t164))) = true := decide_eq_true c17
                clear c17
                have H' := Aside0.mk H
                clear H
                go_wp2
                go_meet
                case rel => exact ⟨_, (1), (by first | rfl | (simp; done) | (simp [*]; done)), H', ⟨by have := HK1.out; first | omega | exact Nat.le_refl _⟩, ⟨by repeat (first | (with_reducible first | exact HB.out | apply below_alloc | apply pw_below_drewN | apply below_drew1) | exact HB.out)⟩⟩
              · rw [if_neg c17] at H
                have c17b0 : decide (6 < (wrap64 (1 + t164))) = false := decide_eq_false c17
                clear c17
                by_cases c18 : (wrap64 (1 + t165)) > 12
                · rw [if_pos c18] at H
                  have c18b0 : decide (12 < (wrap64 (1 + t165))) = true := decide_eq_true c18
                  clear c18
                  have H' := Aside0.mk H
                  clear H
                  go_wp2
                  go_meet
                  case rel => exact ⟨_, (1), (by first | rfl | (simp; done) | (simp [*]; done)), H', ⟨by have := HK1.out; first | omega | exact Nat.le_refl _⟩, ⟨by repeat (first | (with_reducible first | exact HB.out | apply below_alloc | apply pw_below_drewN | apply below_drew1) | exact HB.out)⟩⟩
                · rw [if_neg c18] at H
                  have c18b0 : decide (12 < (wrap64 (1 + t165))) = false := decide_eq_false c18
                  clear c18
                  have H' := Aside0.mk H
                  clear H
                  go_wp2
                  go_meet
                  case rel => exact ⟨_, (0), (by first | rfl | (simp; done) | (simp [*]; done)), H', ⟨by have := HK1.out; first | omega | exact Nat.le_refl _⟩, ⟨by repeat (first | (with_reducible first | exact HB.out | apply below_alloc | apply pw_below_drewN | apply below_drew1) | exact HB.out)⟩⟩
          case rest =>
            clear HC15
            try clear c1
            try clear hcv1
            try clear c2
            try clear p2
            try clear c4
            try clear c6
            try clear p6
            try clear c8
            try clear c8b0
            try clear c9
            try clear c9b0
            try clear c9b1
            try clear c9b2
            try clear c10
            try clear c10b0
            try clear c11
            try clear c11b0
            try clear c11b1
            try clear c11b2
            try clear hcv14
            try clear c16
            try clear c16b0
            try clear c16b1
            try clear c17
            try clear c17b0
            try clear c18
            try clear c18b0
            try clear p2
            try clear p6
            obtain ⟨kq, x8_14, rfl, HA, HJ14, HB⟩ := hcut
            cases kq with
            | zero => exact absurd HA.out (by simp [donjonlaw7_PathDepth.j2])
            | succ kj14 =>
              have H := HA.out
              clear HA
              simp only [donjonlaw7_PathDepth.j2] at H
              replace H := Option.bind_eq_some_iff.mp H
              obtain ⟨t169, A190, H⟩ := H
              replace H : (if t169 = x8_14 then (if x8_14 = 0 then ((path_Parts.f x5_1).bind fun t170 => (if (t170.length : Int) = (wrap64 (1 + t164)) then (donjonlaw7_PathDepth.l2 kj14 (wrap64 (1 + t164)) (wrap64 (1 + t165)) x5_1 0) else (some false))) else (some true)) else (some false)) = some r := H
              have A19 := Aside0.mk A190
              clear A190
              by_cases c20 : t169 = x8_14
              · rw [if_pos c20] at H
                have c20b0 : (t169 == x8_14) = true := beq_iff_eq.mpr c20
                have c20b1 : (t169 != x8_14) = false := bne_eq_false_iff_eq.mpr c20
                clear c20
                by_cases c21 : x8_14 = 0
                · rw [if_pos c21] at H
                  have c21b0 : (x8_14 == 0) = true := beq_iff_eq.mpr c21
                  have c21b1 : (x8_14 != 0) = false := bne_eq_false_iff_eq.mpr c21
                  clear c21
                  replace H := Option.bind_eq_some_iff.mp H
                  obtain ⟨t170, A220, H⟩ := H
                  replace H : (if (t170.length : Int) = (wrap64 (1 + t164)) then (donjonlaw7_PathDepth.l2 kj14 (wrap64 (1 + t164)) (wrap64 (1 + t165)) x5_1 0) else (some false)) = some r := H
                  have A22 := Aside0.mk A220
                  clear A220
                  by_cases c23 : (t170.length : Int) = (wrap64 (1 + t164))
                  · rw [if_pos c23] at H
                    have c23b0 : ((t170.length : Int) == (wrap64 (1 + t164))) = true := beq_iff_eq.mpr c23
                    have c23b1 : ((t170.length : Int) != (wrap64 (1 + t164))) = false := bne_eq_false_iff_eq.mpr c23
                    clear c23
                    have H' := Aside0.mk H
                    clear H
                    go_wp2_with (first | ((with_reducible refine gate_callee (f := 23) rfl ?_); refine goesL_ (some 47) rfl rfl Tryd.func23 (by kernel_rfl) rfl #[.string x5_1] rfl (by (try simp only [List.map_toArray, List.map_cons, List.map_nil]); first | done | rfl | (simp only [List.length_drop, List.length_take]; rfl)) ?_; (with_reducible refine (path_Check.calls kj14 x5_1 t169 _ A19.out).mono ?_); rintro e w24 ⟨rfl, hb⟩; refine ⟨_, rfl, ?_⟩; have n0_ := Aside0.mk (below_step (by repeat (first | (with_reducible first | exact HB.out | apply below_alloc | apply pw_below_drewN | apply below_drew1) | exact HB.out)) hb); clear HB; have HB := n0_; clear n0_; (try clear hb); (try clear hb2); (try clear hk); (try clear hi)) | ((with_reducible refine gate_callee (f := 29) rfl ?_); refine goesL_ (some 53) rfl rfl Tryd.func29 (by kernel_rfl) rfl #[.string x5_1] rfl (by (try simp only [List.map_toArray, List.map_cons, List.map_nil]); first | done | rfl | (simp only [List.length_drop, List.length_take]; rfl)) ?_; (with_reducible refine (path_Parts.calls x5_1 t170 _ A22.out).mono ?_); rintro e w25 ⟨v171, rfl, ho0, hb⟩; refine ⟨_, rfl, ?_⟩; have n0_ := Aside0.mk (Kd.R_lower ho0 (below_size (by repeat (first | (with_reducible first | exact HB.out | apply below_alloc | apply pw_below_drewN | apply below_drew1) | exact HB.out)))); have n1_ := Aside0.mk (below_step (by repeat (first | (with_reducible first | exact HB.out | apply below_alloc | apply pw_below_drewN | apply below_drew1) | exact HB.out)) hb); clear HB; have HO172 := n0_; have HB := n1_; clear n0_ n1_; (try clear hb); (try clear hb2); (try clear hk); (try clear hi); (try clear ho0); obtain ⟨Ao26, co26, eo26⟩ := Kd.R_slice HO172.out; subst eo26))
                    go_loopg [5, 9] kj14 (fun kq v5 v9 w' => ∃ (x5_3 : ByteArray) (x9_3 : Int), v5 = .string x5_3 ∧ v9 = .int .i64 x9_3 ∧ Aside0 (donjonlaw7_PathDepth.l2 kq (wrap64 (1 + t164)) (wrap64 (1 + t165)) x5_3 x9_3 = some r) ∧ Aside0 (kq ≤ kj14) ∧ Aside0 (Below w.heap.size w w'))
                    case atStart => exact ⟨(x5_1), (0), (by first | rfl | (simp; done) | (simp [*]; done)), (by first | rfl | (simp; done) | (simp [*]; done)), H', ⟨Nat.le_refl _⟩, ⟨by repeat (first | (with_reducible first | exact HB.out | apply below_alloc | apply pw_below_drewN | apply below_drew1) | exact HB.out)⟩⟩
                    case round =>
                      clear H'
                      try clear c1
                      try clear hcv1
                      try clear c2
                      try clear p2
                      try clear c4
                      try clear c6
                      try clear p6
                      try clear c8
                      try clear c8b0
                      try clear c9
                      try clear c9b0
                      try clear c9b1
                      try clear c9b2
                      try clear c10
                      try clear c10b0
                      try clear c11
                      try clear c11b0
                      try clear c11b1
                      try clear c11b2
                      try clear hcv14
                      try clear c16
                      try clear c16b0
                      try clear c16b1
                      try clear c17
                      try clear c17b0
                      try clear c18
                      try clear c18b0
                      try clear c20
                      try clear c20b0
                      try clear c20b1
                      try clear c21
                      try clear c21b0
                      try clear c21b1
                      try clear c23
                      try clear c23b0
                      try clear c23b1
                      try clear p2
                      try clear p6
                      obtain ⟨x5_3, x9_3, rfl, rfl, HA, HK3, HB⟩ := hrel
                      cases gk with
                      | zero => exact absurd HA.out (by simp [donjonlaw7_PathDepth.l2])
                      | succ k3 =>
                        have H := HA.out
                        clear HA
                        simp only [donjonlaw7_PathDepth.l2] at H
                        by_cases c27 : x9_3 < (wrap64 (1 + t164))
                        · rw [if_pos c27] at H
                          have c27b0 : decide (x9_3 < (wrap64 (1 + t164))) = true := decide_eq_true c27
                          clear c27
                          replace H := Option.bind_eq_some_iff.mp H
                          obtain ⟨t178, A280, H⟩ := H
                          replace H : (if (t178.size : Int) = (wrap64 (1 + t165)) then ((path_Parent.f x5_3).bind fun t179 => (donjonlaw7_PathDepth.l2 k3 (wrap64 (1 + t164)) (wrap64 (1 + t165)) t179 (wrap64 (x9_3 + 1)))) else (some false)) = some r := H
                          have A28 := Aside0.mk A280
                          clear A280
                          by_cases c29 : (t178.size : Int) = (wrap64 (1 + t165))
                          · rw [if_pos c29] at H
                            have c29b0 : ((t178.size : Int) == (wrap64 (1 + t165))) = true := beq_iff_eq.mpr c29
                            have c29b1 : ((t178.size : Int) != (wrap64 (1 + t165))) = false := bne_eq_false_iff_eq.mpr c29
                            clear c29
                            replace H := Option.bind_eq_some_iff.mp H
                            obtain ⟨t179, A300, H⟩ := H
                            replace H : (donjonlaw7_PathDepth.l2 k3 (wrap64 (1 + t164)) (wrap64 (1 + t165)) t179 (wrap64 (x9_3 + 1))) = some r := H
                            have A30 := Aside0.mk A300
                            clear A300
                            have H' := Aside0.mk H
                            clear H
                            go_wp2_with (first | ((with_reducible refine gate_callee (f := 30) rfl ?_); refine goesL_ (some 63) rfl rfl Tryd.func30 (by kernel_rfl) rfl #[.string x5_3] rfl (by (try simp only [List.map_toArray, List.map_cons, List.map_nil]); first | done | rfl | (simp only [List.length_drop, List.length_take]; rfl)) ?_; (with_reducible refine (path_Last.calls x5_3 t178 _ A28.out).mono ?_); rintro e w' ⟨rfl, ⟨nd, rfl⟩⟩; refine ⟨_, rfl, ?_⟩) | ((with_reducible refine gate_callee (f := 26) rfl ?_); refine goesL_ (some 68) rfl rfl Tryd.func26 (by kernel_rfl) rfl #[.string x5_3] rfl (by (try simp only [List.map_toArray, List.map_cons, List.map_nil]); first | done | rfl | (simp only [List.length_drop, List.length_take]; rfl)) ?_; (with_reducible refine (path_Parent.calls x5_3 t179 _ A30.out).mono ?_); rintro e w31 ⟨rfl, hb⟩; refine ⟨_, rfl, ?_⟩; have n0_ := Aside0.mk (below_step (by repeat (first | (with_reducible first | exact HB.out | apply below_alloc | apply pw_below_drewN | apply below_drew1) | exact HB.out)) hb); clear HB; have HB := n0_; clear n0_; (try clear hb); (try clear hb2); (try clear hk); (try clear hi)))
                            go_roundg k3
                            case measure => have := HK1.out; have := HJ14.out; have := HK3.out; omega
                            case rel => exact ⟨(t179), (wrap64 (x9_3 + 1)), (by first | rfl | (simp; done) | (simp [*]; done)), (by first | rfl | (simp; done) | (simp [*]; done)), H', ⟨by have := HK1.out; have := HJ14.out; have := HK3.out; omega⟩, ⟨by repeat (first | (with_reducible first | exact HB.out | apply below_alloc | apply pw_below_drewN | apply below_drew1) | exact HB.out)⟩⟩
                          · rw [if_neg c29] at H
                            have c29b0 : ((t178.size : Int) == (wrap64 (1 + t165))) = false := beq_eq_false_iff_ne.mpr c29
                            have c29b1 : ((t178.size : Int) != (wrap64 (1 + t165))) = true := bne_iff_ne.mpr c29
                            obtain rfl := Option.some.inj H
                            go_wp2_with (first | ((with_reducible refine gate_callee (f := 30) rfl ?_); refine goesL_ (some 63) rfl rfl Tryd.func30 (by kernel_rfl) rfl #[.string x5_3] rfl (by (try simp only [List.map_toArray, List.map_cons, List.map_nil]); first | done | rfl | (simp only [List.length_drop, List.length_take]; rfl)) ?_; (with_reducible refine (path_Last.calls x5_3 t178 _ A28.out).mono ?_); rintro e w' ⟨rfl, ⟨nd, rfl⟩⟩; refine ⟨_, rfl, ?_⟩))
                            go_ret
                            exact ⟨by first | rfl | (simp [errW_none, errW_some] <;> rfl) | (simp [*, errW_none, errW_some] <;> rfl), by repeat (first | (with_reducible first | exact HB.out | apply below_alloc | apply pw_below_drewN | apply below_drew1) | exact HB.out)⟩
                        · rw [if_neg c27] at H
                          have c27b0 : decide (x9_3 < (wrap64 (1 + t164))) = false := decide_eq_false c27
                          clear c27
                          by_cases c32 : x5_3.toList = ([47] : List UInt8)
                          · rw [if_pos c32] at H
                            have c32b0 : (x5_3.toList == ([47] : List UInt8)) = true := beq_iff_eq.mpr c32
                            have c32b1 : (x5_3.toList != ([47] : List UInt8)) = false := bne_eq_false_iff_eq.mpr c32
                            clear c32
                            replace H := Option.bind_eq_some_iff.mp H
                            obtain ⟨t173, A330, H⟩ := H
                            replace H : (if t173.toList = ([] : List UInt8) then ((path_Last.f x5_3).bind fun t174 => (if t174.toList = ([] : List UInt8) then ((path_Parts.f x5_3).bind fun t175 => (some ((t175.length : Int) == 0))) else (some false))) else (some false)) = some r := H
                            have A33 := Aside0.mk A330
                            clear A330
                            by_cases c34 : t173.toList = ([] : List UInt8)
                            · rw [if_pos c34] at H
                              have c34b0 : (t173.toList == ([] : List UInt8)) = true := beq_iff_eq.mpr c34
                              have c34b1 : (t173.toList != ([] : List UInt8)) = false := bne_eq_false_iff_eq.mpr c34
                              clear c34
                              replace H := Option.bind_eq_some_iff.mp H
                              obtain ⟨t174, A350, H⟩ := H
                              replace H : (if t174.toList = ([] : List UInt8) then ((path_Parts.f x5_3).bind fun t175 => (some ((t175.length : Int) == 0))) else (some false)) = some r := H
                              have A35 := Aside0.mk A350
                              clear A350
                              by_cases c36 : t174.toList = ([] : List UInt8)
                              · rw [if_pos c36] at H
                                have c36b0 : (t174.toList == ([] : List UInt8)) = true := beq_iff_eq.mpr c36
                                have c36b1 : (t174.toList != ([] : List UInt8)) = false := bne_eq_false_iff_eq.mpr c36
                                clear c36
                                replace H := Option.bind_eq_some_iff.mp H
                                obtain ⟨t175, A370, H⟩ := H
                                replace H : (some ((t175.length : Int) == 0)) = some r := H
                                have A37 := Aside0.mk A370
                                clear A370
                                obtain rfl := Option.some.inj H
                                go_wp2_with (first | (go_at_call 26; (with_reducible refine (path_Parent.calls x5_3 t173 _ A33.out).mono ?_); rintro e w38 ⟨rfl, hb⟩; have n0_ := Aside0.mk (below_step (by repeat (first | (with_reducible first | exact HB.out | apply below_alloc | apply pw_below_drewN | apply below_drew1) | exact HB.out)) hb); clear HB; have HB := n0_; clear n0_; (try clear hb); (try clear hb2); (try clear hk); (try clear hi)) | (go_at_call 30; (with_reducible refine (path_Last.calls x5_3 t174 _ A35.out).mono ?_); rintro e w' ⟨rfl, ⟨nd, rfl⟩⟩) | (go_at_call 29; (with_reducible refine (path_Parts.calls x5_3 t175 _ A37.out).mono ?_); rintro e w39 ⟨v176, rfl, ho0, hb⟩; have n0_ := Aside0.mk (Kd.R_lower ho0 (below_size (by repeat (first | (with_reducible first | exact HB.out | apply below_alloc | apply pw_below_drewN | apply below_drew1) | exact HB.out)))); have n1_ := Aside0.mk (below_step (by repeat (first | (with_reducible first | exact HB.out | apply below_alloc | apply pw_below_drewN | apply below_drew1) | exact HB.out)) hb); clear HB; have HO177 := n0_; have HB := n1_; clear n0_ n1_; (try clear hb); (try clear hb2); (try clear hk); (try clear hi); (try clear ho0); obtain ⟨Ao40, co40, eo40⟩ := Kd.R_slice HO177.out; subst eo40))
                                go_ret
                                exact ⟨by first | rfl | (simp [errW_none, errW_some] <;> rfl) | (simp [*, errW_none, errW_some] <;> rfl), by repeat (first | (with_reducible first | exact HB.out | apply below_alloc | apply pw_below_drewN | apply below_drew1) | exact HB.out)⟩
                              · rw [if_neg c36] at H
                                have c36b0 : (t174.toList == ([] : List UInt8)) = false := beq_eq_false_iff_ne.mpr c36
                                have c36b1 : (t174.toList != ([] : List UInt8)) = true := bne_iff_ne.mpr c36
                                obtain rfl := Option.some.inj H
                                go_wp2_with (first | (go_at_call 26; (with_reducible refine (path_Parent.calls x5_3 t173 _ A33.out).mono ?_); rintro e w41 ⟨rfl, hb⟩; have n0_ := Aside0.mk (below_step (by repeat (first | (with_reducible first | exact HB.out | apply below_alloc | apply pw_below_drewN | apply below_drew1) | exact HB.out)) hb); clear HB; have HB := n0_; clear n0_; (try clear hb); (try clear hb2); (try clear hk); (try clear hi)) | (go_at_call 30; (with_reducible refine (path_Last.calls x5_3 t174 _ A35.out).mono ?_); rintro e w' ⟨rfl, ⟨nd, rfl⟩⟩))
                                go_ret
                                exact ⟨by first | rfl | (simp [errW_none, errW_some] <;> rfl) | (simp [*, errW_none, errW_some] <;> rfl), by repeat (first | (with_reducible first | exact HB.out | apply below_alloc | apply pw_below_drewN | apply below_drew1) | exact HB.out)⟩
                            · rw [if_neg c34] at H
                              have c34b0 : (t173.toList == ([] : List UInt8)) = false := beq_eq_false_iff_ne.mpr c34
                              have c34b1 : (t173.toList != ([] : List UInt8)) = true := bne_iff_ne.mpr c34
                              obtain rfl := Option.some.inj H
                              go_wp2_with (first | (go_at_call 26; (with_reducible refine (path_Parent.calls x5_3 t173 _ A33.out).mono ?_); rintro e w42 ⟨rfl, hb⟩; have n0_ := Aside0.mk (below_step (by repeat (first | (with_reducible first | exact HB.out | apply below_alloc | apply pw_below_drewN | apply below_drew1) | exact HB.out)) hb); clear HB; have HB := n0_; clear n0_; (try clear hb); (try clear hb2); (try clear hk); (try clear hi)))
                              go_ret
                              exact ⟨by first | rfl | (simp [errW_none, errW_some] <;> rfl) | (simp [*, errW_none, errW_some] <;> rfl), by repeat (first | (with_reducible first | exact HB.out | apply below_alloc | apply pw_below_drewN | apply below_drew1) | exact HB.out)⟩
                          · rw [if_neg c32] at H
                            have c32b0 : (x5_3.toList == ([47] : List UInt8)) = false := beq_eq_false_iff_ne.mpr c32
                            have c32b1 : (x5_3.toList != ([47] : List UInt8)) = true := bne_iff_ne.mpr c32
                            obtain rfl := Option.some.inj H
                            go_wp2
                            go_ret
                            exact ⟨by first | rfl | (simp [errW_none, errW_some] <;> rfl) | (simp [*, errW_none, errW_some] <;> rfl), by repeat (first | (with_reducible first | exact HB.out | apply below_alloc | apply pw_below_drewN | apply below_drew1) | exact HB.out)⟩
                  · rw [if_neg c23] at H
                    have c23b0 : ((t170.length : Int) == (wrap64 (1 + t164))) = false := beq_eq_false_iff_ne.mpr c23
                    have c23b1 : ((t170.length : Int) != (wrap64 (1 + t164))) = true := bne_iff_ne.mpr c23
                    obtain rfl := Option.some.inj H
                    go_wp2_with (first | ((with_reducible refine gate_callee (f := 23) rfl ?_); refine goesL_ (some 47) rfl rfl Tryd.func23 (by kernel_rfl) rfl #[.string x5_1] rfl (by (try simp only [List.map_toArray, List.map_cons, List.map_nil]); first | done | rfl | (simp only [List.length_drop, List.length_take]; rfl)) ?_; (with_reducible refine (path_Check.calls kj14 x5_1 t169 _ A19.out).mono ?_); rintro e w43 ⟨rfl, hb⟩; refine ⟨_, rfl, ?_⟩; have n0_ := Aside0.mk (below_step (by repeat (first | (with_reducible first | exact HB.out | apply below_alloc | apply pw_below_drewN | apply below_drew1) | exact HB.out)) hb); clear HB; have HB := n0_; clear n0_; (try clear hb); (try clear hb2); (try clear hk); (try clear hi)) | ((with_reducible refine gate_callee (f := 29) rfl ?_); refine goesL_ (some 53) rfl rfl Tryd.func29 (by kernel_rfl) rfl #[.string x5_1] rfl (by (try simp only [List.map_toArray, List.map_cons, List.map_nil]); first | done | rfl | (simp only [List.length_drop, List.length_take]; rfl)) ?_; (with_reducible refine (path_Parts.calls x5_1 t170 _ A22.out).mono ?_); rintro e w44 ⟨v171, rfl, ho0, hb⟩; refine ⟨_, rfl, ?_⟩; have n0_ := Aside0.mk (Kd.R_lower ho0 (below_size (by repeat (first | (with_reducible first | exact HB.out | apply below_alloc | apply pw_below_drewN | apply below_drew1) | exact HB.out)))); have n1_ := Aside0.mk (below_step (by repeat (first | (with_reducible first | exact HB.out | apply below_alloc | apply pw_below_drewN | apply below_drew1) | exact HB.out)) hb); clear HB; have HO172 := n0_; have HB := n1_; clear n0_ n1_; (try clear hb); (try clear hb2); (try clear hk); (try clear hi); (try clear ho0); obtain ⟨Ao45, co45, eo45⟩ := Kd.R_slice HO172.out; subst eo45))
                    go_ret
                    exact ⟨by first | rfl | (simp [errW_none, errW_some] <;> rfl) | (simp [*, errW_none, errW_some] <;> rfl), by repeat (first | (with_reducible first | exact HB.out | apply below_alloc | apply pw_below_drewN | apply below_drew1) | exact HB.out)⟩
                · rw [if_neg c21] at H
                  have c21b0 : (x8_14 == 0) = false := beq_eq_false_iff_ne.mpr c21
                  have c21b1 : (x8_14 != 0) = true := bne_iff_ne.mpr c21
                  obtain rfl := Option.some.inj H
                  go_wp2_with (first | ((with_reducible refine gate_callee (f := 23) rfl ?_); refine goesL_ (some 47) rfl rfl Tryd.func23 (by kernel_rfl) rfl #[.string x5_1] rfl (by (try simp only [List.map_toArray, List.map_cons, List.map_nil]); first | done | rfl | (simp only [List.length_drop, List.length_take]; rfl)) ?_; (with_reducible refine (path_Check.calls kj14 x5_1 t169 _ A19.out).mono ?_); rintro e w46 ⟨rfl, hb⟩; refine ⟨_, rfl, ?_⟩; have n0_ := Aside0.mk (below_step (by repeat (first | (with_reducible first | exact HB.out | apply below_alloc | apply pw_below_drewN | apply below_drew1) | exact HB.out)) hb); clear HB; have HB := n0_; clear n0_; (try clear hb); (try clear hb2); (try clear hk); (try clear hi)))
                  go_ret
                  exact ⟨by first | rfl | (simp [errW_none, errW_some] <;> rfl) | (simp [*, errW_none, errW_some] <;> rfl), by repeat (first | (with_reducible first | exact HB.out | apply below_alloc | apply pw_below_drewN | apply below_drew1) | exact HB.out)⟩
              · rw [if_neg c20] at H
                have c20b0 : (t169 == x8_14) = false := beq_eq_false_iff_ne.mpr c20
                have c20b1 : (t169 != x8_14) = true := bne_iff_ne.mpr c20
                obtain rfl := Option.some.inj H
                go_wp2_with (first | ((with_reducible refine gate_callee (f := 23) rfl ?_); refine goesL_ (some 47) rfl rfl Tryd.func23 (by kernel_rfl) rfl #[.string x5_1] rfl (by (try simp only [List.map_toArray, List.map_cons, List.map_nil]); first | done | rfl | (simp only [List.length_drop, List.length_take]; rfl)) ?_; (with_reducible refine (path_Check.calls kj14 x5_1 t169 _ A19.out).mono ?_); rintro e w47 ⟨rfl, hb⟩; refine ⟨_, rfl, ?_⟩; have n0_ := Aside0.mk (below_step (by repeat (first | (with_reducible first | exact HB.out | apply below_alloc | apply pw_below_drewN | apply below_drew1) | exact HB.out)) hb); clear HB; have HB := n0_; clear n0_; (try clear hb); (try clear hb2); (try clear hk); (try clear hi)))
                go_ret
                exact ⟨by first | rfl | (simp [errW_none, errW_some] <;> rfl) | (simp [*, errW_none, errW_some] <;> rfl), by repeat (first | (with_reducible first | exact HB.out | apply below_alloc | apply pw_below_drewN | apply below_drew1) | exact HB.out)⟩
  · replace c4 := Bool.eq_false_iff.mpr c4
    subst c4
    have H1 : (some false) = some r := by rw [if_neg (show ¬ (false = true) by decide)] at H; exact H
    clear H
    have H := H1
    clear H1
    obtain rfl := Option.some.inj H
    go_enter Tryd.func6, Tryd.ntmps6
    go_wp2_with (first | ((with_reducible refine gate_callee (f := 20) rfl ?_); refine goesL_ (some 10) rfl rfl Tryd.func20 (by kernel_rfl) rfl #[] rfl (by (try simp only [List.map_toArray, List.map_cons, List.map_nil]); first | done | rfl | (simp only [List.length_drop, List.length_take]; rfl)) ?_; (with_reducible refine (donjonlaw7_known.calls  false _ A3.out).mono ?_); rintro e w48 ⟨rfl, hb⟩; refine ⟨_, rfl, ?_⟩; have n0_ := Aside0.mk (below_step (by repeat (first | (with_reducible first | exact HB.out | apply below_alloc | apply pw_below_drewN | apply below_drew1) | exact HB.out)) hb); clear HB; have HB := n0_; clear n0_; (try clear hb); (try clear hb2); (try clear hk); (try clear hi)))
    go_ret
    exact ⟨by first | rfl | (simp [errW_none, errW_some] <;> rfl) | (simp [*, errW_none, errW_some] <;> rfl), by repeat (first | (with_reducible first | exact HB.out | apply below_alloc | apply pw_below_drewN | apply below_drew1) | exact HB.out)⟩

/-- THE ONE PURE STATEMENT of donjonlaw7_PathDepth: yours. -/
def donjonlaw7_PathDepth.Pure : Prop := ∀ (a0 : Int) (a1 : Int), (Lit.int .i64 a0).wf = true → (Lit.int .i64 a1).wf = true → ∃ k, donjonlaw7_PathDepth.f k a0 a1 = some true
theorem donjonlaw7_PathDepth.walk (P : donjonlaw7_PathDepth.Pure) (a0 : Int) (a1 : Int) (w : World) (w0 : (Lit.int .i64 a0).wf = true) (w1 : (Lit.int .i64 a1).wf = true) :
    Calls Tryd.prog 6 #[.int .i64 a0, .int .i64 a1] w fun e w' => e = .returned (.bool true) ∧ Below w.heap.size w w' := by
  obtain ⟨k, h⟩ := P a0 a1 w0 w1
  refine (donjonlaw7_PathDepth.calls k a0 a1 true w h).mono ?_
  rintro e w' ⟨rfl, hd⟩
  exact ⟨rfl, hd⟩

end Go.Proofs.YtmndeoncbocplaaDoor.P
