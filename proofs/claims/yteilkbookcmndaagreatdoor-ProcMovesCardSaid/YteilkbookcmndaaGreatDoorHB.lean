/- Texts that the claim's law stands on, cut down to what it reaches. -/
import Derived.Test.YteilkbookcmndaaGreatDoorHA2
import Derived.Deep.LoopGhost
import Derived.Test.YteilkbookcmndaaGreatDoorHQ
import Derived.Deep.RegionHeldLaw
set_option linter.unusedVariables false
set_option linter.unusedSimpArgs false
section
set_option linter.unusedVariables false
set_option linter.unusedSimpArgs false
namespace Go.Proofs.YteilkbookcmndaaGreatDoor.C
open Go.RowKit Go.Proofs.YteilkbookcmndaaGreatDoor.Q Go.Proofs.YteilkbookcmndaaGreatDoorW.PrintWords Go.Proofs.YteilkbookcmndaaGreatDoorW.PrintLast Go.Proofs.YteilkbookcmndaaGreatDoorW.PrintMore
theorem conv_one (W : World) (x : Int) (p : ByteArray) (hp : strOfNums [x] = p) : (convert 38 9 (.slice (some ⟨W.heap.size, 0, none⟩) 1 1)).run Tryz.prog (W.alloc (.cells #[.int .u8 x] 5)) = .ok (.string p) (W.alloc (.cells #[.int .u8 x] 5)) := by
  rw [← hp]
  refine run_convert_bytes_arg _ 38 5 Tryz.underlying38 Tryz.underlying5 W.heap.size 0 1 1 [x] rfl (fun i hi => ?_) 9 Tryz.underlying9
  have hi0 : i = 0 := by omega
  subst hi0
  exact (blk_cell (blk_new W (.cells #[.int .u8 x] 5)) 0).trans rfl
end Go.Proofs.YteilkbookcmndaaGreatDoor.C
namespace Go.Proofs.YteilkbookcmndaaGreatDoor.C
open Go.RowKit Go.Proofs.YteilkbookcmndaaGreatDoor.Q Go.Proofs.YteilkbookcmndaaGreatDoorW.PrintWords Go.Proofs.YteilkbookcmndaaGreatDoorW.PrintLast Go.Proofs.YteilkbookcmndaaGreatDoorW.PrintMore
attribute [local go_sem ↓] rd_at50 wr_at50 al_at50
attribute [local go_sem] rd50_new wr50_new al50
attribute [local go_sem high] eqA41
/-- The list that all may do all. -/
def allG : List S96 := [⟨⟨#[42]⟩, 7⟩]
/-- A first directory. -/
def dirN (p : ByteArray) (a : S41) : S50 := ⟨p, true, a, allG, z47, [], botS⟩
def l0 (k : Nat) : ByteArray := ⟨#[47, 108, UInt8.ofNat (48 + k)]⟩
/-- The first nodes: the root, a directory for each label. -/
def firstT (ls : List S41) : List S50 := dirN ⟨#[47]⟩ botS :: (List.range ls.length).map fun k => dirN (l0 k) (ls.getD k z41)
theorem reps_single {α : Type} {R : α → List Value → Prop} {size : Nat} {p : α} {cs : List Value} (h : R p cs) (hl : cs.length = size) : Reps R size [p] cs := by
  refine ⟨by simp [hl], fun j q hj => ?_⟩
  have hj0 : j = 0 := by
    have := (List.getElem?_eq_some_iff.1 hj).1
    simp at this
    exact this
  subst hj0
  have : q = p := by simpa using hj.symm
  subst this
  rw [Nat.zero_mul, List.drop_zero, ← hl, List.take_length]
  exact h
theorem dir_K {W : World} {g : Nat} (h : W.heap[g]? = some (.cells #[.string (⟨#[42]⟩ : ByteArray), .int .i64 7] 85 (0, 0))) (p : ByteArray) (a : S41) : k50.K W (dirN p a) [.string p, .bool true, .int .i64 a.f0, .int .i64 a.f1, .int .i64 a.f2, .int .i64 a.f3, .slice (some ⟨g, 0, none⟩) 1 1, .int .i64 0, .int .i64 0, .int .i64 0, .int .i64 0, .slice none 0 0, .int .i64 0, .int .i64 0, .int .i64 3, .int .i64 255] := by
  have hC : k96.C W (some ⟨g, 0, none⟩) 1 allG := by
    refine ⟨rfl, by decide, fun _ => ⟨_, rfl, fun j q hj => ?_⟩⟩
    have hj0 : j = 0 := by
      have := (List.getElem?_eq_some_iff.1 hj).1
      simp [allG] at this
      exact this
    subst hj0
    have hq : q = ⟨⟨#[42]⟩, 7⟩ := by simpa [allG] using hj.symm
    subst hq
    refine ⟨_, rfl, k96_mk W _, fun i u hu => ?_⟩
    rcases i with _ | _ | i
    · have hu' : Value.string (⟨#[42]⟩ : ByteArray) = u := by simpa using hu
      rw [← hu']
      exact (blk_cell h 0).trans rfl
    · have hu' : Value.int .i64 7 = u := by simpa using hu
      rw [← hu']
      exact (blk_cell h 1).trans rfl
    · simp at hu
  exact k50_mk W (dirN p a) (A6 := some ⟨g, 0, none⟩) (c6 := 1) (Nat.le_refl _) hC (A11 := none) (c11 := 0) (Nat.le_refl _) (C_nil _ _ _)
theorem conv_blk {W : World} {g : Nat} {x : Int} (h : W.heap[g]? = some (.cells #[.int .u8 x] 5 (0, 0))) : (convert 38 9 (.slice (some ⟨g, 0, none⟩) 1 1)).run Tryz.prog W = .ok (.string (strOfNums [x])) W := by
  refine run_convert_bytes_arg _ 38 5 Tryz.underlying38 Tryz.underlying5 g 0 1 1 [x] rfl (fun i hi => ?_) 9 Tryz.underlying9
  have hi0 : i = 0 := by omega
  subst hi0
  exact (blk_cell h 0).trans rfl
theorem wk1 (k : Nat) (h : k ≤ 100) : IntKind.i64.wrap (48 + (k : Int)) = 48 + (k : Int) := by rw [i64_w]; unfold wrap64; omega
theorem wk2 (k : Nat) (h : k ≤ 100) : IntKind.u8.wrap (48 + (k : Int)) = 48 + (k : Int) := by simp [IntKind.wrap, IntKind.bits, IntKind.signed]; omega
theorem take_one {ls xs : List S41} {i : Nat} {a : S41} (h : ls = xs.take i) (hi : i = 0) (_hl : i < xs.length) (ha : xs[i]? = some a) : ls ++ [a] = xs.take (i + 1) := by
  subst hi
  rw [h, List.take_succ_eq_append_getElem _hl]
  rw [List.getElem?_eq_getElem _hl] at ha
  rw [Option.some.inj ha]
theorem firstT_len (ls : List S41) : (firstT ls).length = ls.length + 1 := by simp [firstT]
theorem firstT_snoc (ls : List S41) (a : S41) : firstT (ls ++ [a]) = firstT ls ++ [dirN (l0 ls.length) a] := by
  unfold firstT
  rw [List.length_append, List.length_singleton, List.range_succ, List.map_append, List.cons_append]
  congr 1
  congr 1
  · refine List.map_congr_left fun k hk => ?_
    have := List.mem_range.1 hk
    rw [List.getD_eq_getElem?_getD, List.getD_eq_getElem?_getD, List.getElem?_append_left this]
  · simp
theorem l0_cat (k : Nat) : (⟨#[47, 108]⟩ : ByteArray) ++ strOfNums [48 + (k : Int)] = l0 k := by
  refine L.bytes_ext ?_
  rw [P.append_data]
  have : (48 + (k : Int)).toNat = 48 + k := by omega
  simp [l0, strOfNums, this]
set_option maxHeartbeats 1000000 in
set_option maxRecDepth 100000 in
theorem first_c (xs : List S41) (A : Option Addr) (c : Nat) (v1 v2 : Value) (w : World) (hC : Kd.C k41 w A xs.length xs) (hc : xs.length ≤ c) (hn : xs.length ≤ 4) :
    Calls Tryz.prog 26 #[.agg #[.slice A xs.length c, v1, v2]] w fun e w' => ∃ v, e = .returned v ∧ ∃ ls, ((∀ a ∈ ls, a ∈ xs) ∧ (xs.length = 1 → ls = xs)) ∧ ls.length ≤ 4 ∧ ∃ w1, Below w.heap.size w w1 ∧ Below w1.heap.size w1 w' ∧ OwnRow (k50.K w1) 36 16 w' w1.heap.size v (firstT ls) := by
  have HC := Lib.hid hC
  clear hC
  go_enter Tryz.func26, Tryz.ntmps26
  have E0 := Lib.hid (blk_alloc (blk_new w (.cells #[.slice A xs.length c, v1, v2] 92)) (.cells #[.string (⟨#[42]⟩ : ByteArray), .int .i64 7] 85))
  have E1 := Lib.hid (show ((w.alloc (.cells #[.slice A xs.length c, v1, v2] 92)).alloc (.cells #[.string (⟨#[42]⟩ : ByteArray), .int .i64 7] 85)).heap[w.heap.size + 1]? = some (.cells #[.string (⟨#[42]⟩ : ByteArray), .int .i64 7] 85) by have := blk_new (w.alloc (.cells #[.slice A xs.length c, v1, v2] 92)) (.cells #[.string (⟨#[42]⟩ : ByteArray), .int .i64 7] 85); rwa [World.size_alloc] at this)
  have HB0 := Lib.hid (below_alloc (below_alloc (Below.refl w.heap.size w) (.cells #[.slice A xs.length c, v1, v2] 92)) (.cells #[.string (⟨#[42]⟩ : ByteArray), .int .i64 7] 85))
  go_wp2_with (first | (go_at_call 22; have g := HB1.out; clear g; refine (donjonref4_Bottom.calls 0 0 3 255 _ rfl).mono ?_; rintro e w2 ⟨rfl, hd⟩; have HB2 := Lib.hid (below_step HB1.out hd); have F0 := Lib.hid (blk_below G0.out hd); have F1 := Lib.hid (blk_below G1.out hd); clear hd) | (go_at_call 22; refine (donjonref4_Bottom.calls 0 0 3 255 _ rfl).mono ?_; rintro e w1 ⟨rfl, hd⟩; have HB1 := Lib.hid (below_step HB0.out hd); have G0 := Lib.hid (blk_below E0.out hd); have G1 := Lib.hid (blk_below E1.out hd); clear hd))
  have hu41 := Tryz.underlying30
  go_loopg [4, 5, 6] xs.length (fun k s4 s5 s6 wr => ∃ (i : Nat) (ls : List S41), i ≤ xs.length ∧ xs.length - i ≤ k ∧ s6 = .int .i64 i ∧ s5 = .int .i64 ls.length ∧ ls.length ≤ i ∧ Hid ((∀ a ∈ ls, a ∈ xs) ∧ (i ≤ 1 → ls = xs.take i)) ∧ Hid (OwnRow (k50.K w2) 36 16 wr w2.heap.size s4 (firstT ls)) ∧ Hid (Below w2.heap.size w2 wr))
  case atStart => exact ⟨0, [], Nat.zero_le _, Nat.le_refl _, rfl, rfl, Nat.le_refl _, Lib.hid ⟨by simp, fun _ => rfl⟩, Lib.hid (by
    exact OwnRow.lit w2 w2.heap.size (reps_single (dir_K F1.out ⟨#[47]⟩ botS) rfl) (Nat.le_refl _) (by decide)), Lib.hid (below_alloc (Below.refl _ _) _)⟩
  case round =>
    obtain ⟨i, ls, hi, hik, rfl, rfl, hls, HM, HO, HB⟩ := hrel
    obtain ⟨V0, hV⟩ : ∃ V, V = wr := ⟨_, rfl⟩
    subst hV
    have HNl := Lib.hid (firstT_len ls)
    have HNs := Lib.hid (fun a => firstT_snoc ls a)
    generalize hnd0 : firstT ls = nodes at HO HNl HNs
    have HND := Lib.hid hnd0
    clear hnd0
    obtain ⟨Ao, co, hs, hco, _⟩ := OwnRow.reads HO.out
    subst hs
    have hc0 : V0.cell? ⟨w.heap.size, 0, none⟩ = some (.slice A xs.length c) := (blk_cell (blk_below F0.out HB.out) 0).trans rfl
    by_cases hlt : i < xs.length
    · go_wp2
      have mixed : Tryz.prog.follows .mixedOrders = true := by kernel_rfl
      obtain ⟨ad, hA, g0, g1, g2, g3⟩ := at_T41 (Kd.C_below HC.out HB2.out) (i : Int) (by omega) (by omega)
      subst hA
      simp only [Int.toNat_natCast] at g0 g1 g2 g3
      have hmem : rd_T41 xs (i : Int) ∈ xs ∧ xs[i]? = some (rd_T41 xs (i : Int)) := by unfold rd_T41; rw [Int.toNat_natCast, List.getD_eq_getElem?_getD, List.getElem?_eq_getElem hlt]; exact ⟨List.getElem_mem hlt, rfl⟩
      have HMem := Lib.hid hmem
      clear hmem
      generalize rd_T41 xs (i : Int) = a at g0 g1 g2 g3 HMem
      have HI := Lib.hid (And.intro g0 (And.intro g1 (And.intro g2 g3)))
      have i0 := pw_cell_below HB.out g0
      have i1 := pw_cell_below HB.out g1
      have i2 := pw_cell_below HB.out g2
      have i3 := pw_cell_below HB.out g3
      clear g0 g1 g2 g3
      go_loopg [7, 8] i (fun k s7 s8 w2 => ∃ (j : Nat) (b : Bool), j ≤ i ∧ i - j ≤ k ∧ s8 = .int .i64 j ∧ s7 = .bool b ∧ Hid (Below V0.heap.size V0 w2) ∧ Hid (j = 0 → b = false))
      case atStart => exact ⟨0, false, Nat.zero_le _, Nat.le_refl _, rfl, rfl, Lib.hid (Below.refl _ _), Lib.hid fun _ => rfl⟩
      case round =>
        obtain ⟨j, b, hj, hjk, rfl, rfl, HV, HJB⟩ := hrel
        have hc1 := pw_cell_below HV.out hc0
        have i0' := pw_cell_below HV.out i0
        have i1' := pw_cell_below HV.out i1
        have i2' := pw_cell_below HV.out i2
        have i3' := pw_cell_below HV.out i3
        by_cases hjl : j < i
        · obtain ⟨ad2, hA, j0, j1, j2, j3⟩ := at_T41 (Kd.C_below HC.out (below_step (below_step HB2.out HB.out) HV.out)) (j : Int) (by omega) (by omega)
          obtain rfl := Option.some.inj hA
          simp only [Int.toNat_natCast] at j0 j1 j2 j3
          generalize rd_T41 xs (j : Int) = a2 at j0 j1 j2 j3
          cases b
          all_goals go_wp2
          all_goals go_region_o
          all_goals go_wp2
          all_goals go_roundg (i - (j + 1))
          case measure => omega
          case measure => omega
          case rel => exact ⟨j + 1, _, hjl, Nat.le_refl _, by go_num, rfl, Lib.hid (below_drew1 HV.out), Lib.hid fun h => absurd h (Nat.succ_ne_zero _)⟩
          case rel => exact ⟨j + 1, _, hjl, Nat.le_refl _, by go_num, rfl, Lib.hid (below_drew1 HV.out), Lib.hid fun h => absurd h (Nat.succ_ne_zero _)⟩
        · have hji : j = i := by omega
          subst hji
          cases b
          · have HBB := Lib.hid (below_step HB.out HV.out)
            have HO1 := Lib.hid (OwnRow.below HO.out HV.out)
            have HK := Lib.hid (dir_K F1.out (l0 ls.length) a)
            go_wp2
            have hwk1 := wk1 ls.length (by omega)
            have hwk2 := wk2 ls.length (by omega)
            have hcv := conv_blk (blk_drew (blk_new wr (.cells #[.int .u8 (48 + (ls.length : Int))] 5)))
            have hcat : (⟨#[47, 108]⟩ : ByteArray) ++ strOfNums [48 + (ls.length : Int)] = l0 ls.length := l0_cat _
            have hnz : (strOfNums [48 + (ls.length : Int)]).size = 1 := rfl
            generalize hnm0 : strOfNums [48 + (ls.length : Int)] = nm at hcv hcat hnz
            have HNM := Lib.hid hnm0
            clear hnm0
            have HNs := Lib.hid (HNs.out a)
            generalize l0 ls.length = pk at hcat HK HNs
            generalize hn20 : firstT (ls ++ [a]) = nodes2 at HNs
            have HN2 := Lib.hid hn20
            clear hn20
            have HLn := Lib.hid (show ls.length ≤ 4 by omega)
            go_region_held_law (fun W => W.cell? ⟨w.heap.size, 0, none⟩ = some (.slice (some ad) xs.length c) ∧ W.cell? (ad.add (j * 4)) = some (.int .i64 a.f0) ∧ W.cell? ⟨(ad.add (j * 4)).block, (ad.add (j * 4)).off + 1, none⟩ = some (.int .i64 a.f1) ∧ W.cell? ⟨(ad.add (j * 4)).block, (ad.add (j * 4)).off + 2, none⟩ = some (.int .i64 a.f2) ∧ W.cell? ⟨(ad.add (j * 4)).block, (ad.add (j * 4)).off + 3, none⟩ = some (.int .i64 a.f3)) (go_keep)
              (first | (go_at_call 22; (refine (donjonref4_Bottom.calls 0 0 3 255 _ rfl).mono ?_; rintro e w5 ⟨rfl, hd⟩; have HB5 := Lib.hid (below_step (show Below wr.heap.size wr _ by repeat (first | exact Below.refl _ _ | apply below_alloc | apply below_drew1)) hd); have k0 := pw_cell_below HB5.out hc1; have k1 := pw_cell_below HB5.out i0'; have k2 := pw_cell_below HB5.out i1'; have k3 := pw_cell_below HB5.out i2'; have k4 := pw_cell_below HB5.out i3'; (first | (have hcv2 := conv_blk (blk_below (blk_drew (blk_new wr (.cells #[.int .u8 (48 + (ls.length : Int))] 5))) hd); rw [HNM.out] at hcv2) | (have hcv2 := conv_blk (blk_below (blk_new wr (.cells #[.int .u8 (48 + (ls.length : Int))] 5)) hd); rw [HNM.out] at hcv2) | have hcv2 := True.intro); have hcv3 := conv_one w5 (48 + (ls.length : Int)) _ HNM.out; clear hd)) | ((refine OwnRow.append_step w2.heap.size (by rfl) _ _ 27 36 (.agg #[.string (⟨#[]⟩ : ByteArray), .bool false, .int .i64 0, .int .i64 0, .int .i64 0, .int .i64 0, .slice none 0 0, .int .i64 0, .int .i64 0, .int .i64 0, .int .i64 0, .slice none 0 0, .int .i64 0, .int .i64 0, .int .i64 0, .int .i64 0]) 16 168 (by rfl) Tryz.underlying27 inf50 rfl (by decide) (by decide) (.slice Ao nodes.length co) nodes (dirN pk a) [.string pk, .bool true, .int .i64 a.f0, .int .i64 a.f1, .int .i64 a.f2, .int .i64 a.f3, .slice (some ⟨w.heap.size + 1, 0, none⟩) 1 1, .int .i64 0, .int .i64 0, .int .i64 0, .int .i64 0, .slice none 0 0, .int .i64 0, .int .i64 0, .int .i64 3, .int .i64 255] (by rfl) (by first | rfl | (simp only [World.size_alloc]; rfl)) HK.out rfl (by simp [Value.oneCell']) (OwnRow.below HO1.out (by repeat (first | exact HB5.out | exact Below.refl _ _ | apply below_alloc | apply below_drew1))) (below_step HBB.out (by repeat (first | exact HB5.out | exact Below.refl _ _ | apply below_alloc | apply below_drew1))) (below_size (below_step HBB.out (by repeat (first | exact HB5.out | exact Below.refl _ _ | apply below_alloc | apply below_drew1)))) (by have := HLn.out; have := HNl.out; omega) ?_; intro v4 w4 hO4 hB4 _ _; have HO4 := Lib.hid hO4; have HB4 := Lib.hid hB4; have q0 := (blk_cell (blk_below F0.out hB4) 0).trans rfl; have q1 := pw_cell_below hB4 HI.out.1; have q2 := pw_cell_below hB4 HI.out.2.1; have q3 := pw_cell_below hB4 HI.out.2.2.1; have q4 := pw_cell_below hB4 HI.out.2.2.2; clear hO4 hB4)))
            all_goals go_wp2
            all_goals go_roundg (xs.length - (j + 1))
            all_goals first
              | omega
              | exact ⟨j + 1, ls ++ [a], hlt, Nat.le_refl _, by go_num, by rw [List.length_append, List.length_singleton]; go_num, by rw [List.length_append, List.length_singleton]; omega, Lib.hid ⟨fun b hb => by rcases List.mem_append.1 hb with hb | hb; exact HM.out.1 b hb; rw [List.mem_singleton.1 hb]; exact HMem.out.1, fun h => take_one (HM.out.2 (by omega)) (by omega) hlt HMem.out.2⟩, Lib.hid (by rw [HN2.out, HNs.out]; exact HO4.out), HB4⟩
          · go_wp2
            go_roundg (xs.length - (j + 1))
            case measure => omega
            case rel => exact ⟨j + 1, ls, hlt, Nat.le_refl _, by go_num, rfl, by omega, Lib.hid ⟨HM.out.1, fun h => by have h0 := HJB.out (by omega); cases h0⟩, Lib.hid (by rw [HND.out]; exact OwnRow.below HO.out HV.out), Lib.hid (below_step HB.out HV.out)⟩
    · go_wp2
      go_ret
      exact ⟨_, rfl, ls, ⟨HM.out.1, fun h => by have := HM.out.2 (by omega); rw [this]; exact List.take_of_length_le (by omega)⟩, by omega, w2, HB2.out, HB.out, by rw [HND.out]; exact HO.out⟩
end Go.Proofs.YteilkbookcmndaaGreatDoor.C
namespace Go.Proofs.YteilkbookcmndaaGreatDoor.C
open Go.RowKit Go.Proofs.YteilkbookcmndaaGreatDoor.Q Go.Proofs.YteilkbookcmndaaGreatDoorW.PrintWords Go.Proofs.YteilkbookcmndaaGreatDoorW.PrintLast Go.Proofs.YteilkbookcmndaaGreatDoorW.PrintMore
theorem all_ok : AclOk allG := ⟨[0], List.pairwise_singleton _ _, by simp, rfl, by simp [allG], by decide⟩
theorem bot_lab : Lab botS := by unfold Lab botS; decide
theorem dir_ok (p : ByteArray) (a : S41) (h : Lab a) : NodeOk (dirN p a) := ⟨h, bot_lab, all_ok, Nat.zero_le _, fun _ => ⟨rfl, rfl⟩, ⟨Int.le_refl 0, Int.le_refl 0, Int.le_refl 0, (by decide : (0 : Int) < 8), Int.le_refl 0, (by decide : (0 : Int) < 17)⟩⟩
theorem l0_less : ∀ a b : Fin 10, a < b → less (l0 a) (l0 b) = true := by decide +kernel
theorem root_less : ∀ a : Fin 10, less ⟨#[47]⟩ (l0 a) = true := by decide +kernel
theorem l0_pth : ∀ k : Fin 10, l0 k = pth [[108, UInt8.ofNat (48 + k)]] := fun k => L.bytes_ext rfl
theorem l0_okp (k : Nat) (hk : k < 10) : Okp [[108, UInt8.ofNat (48 + k)]] := by
  have key : ∀ k : Fin 10, L.nameL [108, UInt8.ofNat (48 + k.val)] = true := by decide +kernel
  have h2 : ∀ k : Fin 10, L.checkL (L.render [[108, UInt8.ofNat (48 + k.val)]]) = 0 := by decide +kernel
  refine ⟨fun x hx => ?_, h2 ⟨k, hk⟩⟩
  rw [List.mem_singleton.1 hx]
  exact L.name_nm (key ⟨k, hk⟩)
theorem over_bot {a : S41} (h : Lab a) : lover a botS = true := by
  rw [lover_iff h bot_lab]
  obtain ⟨h0, h1, h2, h3⟩ := h
  refine ⟨h0.1, Nat.or_zero _, h2.2, ?_⟩
  obtain ⟨x, hx⟩ := Int.eq_ofNat_of_zero_le h3.1
  have : a.f3.toNat = x := by omega
  rw [this]
  have hx2 : x < 256 := by omega
  have e : (botS.f3.toNat : Nat) = 2 ^ 8 - 1 := rfl
  rw [e, Nat.and_two_pow_sub_one_eq_mod]
  exact Nat.mod_eq_of_lt hx2
theorem root_okp : Okp [] := ⟨by simp, by decide +kernel⟩
theorem mem_first {ls : List S41} {n : S50} (h : n ∈ firstT ls) : n = dirN ⟨#[47]⟩ botS ∨ ∃ k, k < ls.length ∧ n = dirN (l0 k) (ls.getD k z41) := by
  unfold firstT at h
  rcases List.mem_cons.1 h with h | h
  · exact Or.inl h
  · obtain ⟨k, hk, he⟩ := List.mem_map.1 h
    exact Or.inr ⟨k, List.mem_range.1 hk, he.symm⟩
theorem tree_first (ls : List S41) (hl : ls.length ≤ 9) (hL : ∀ a ∈ ls, Lab a) : Tree (firstT ls) := by
  have hget : ∀ k, k < ls.length → Lab (ls.getD k z41) := fun k hk => by
    rw [List.getD_eq_getElem?_getD, List.getElem?_eq_getElem hk]
    exact hL _ (List.getElem_mem hk)
  have hroot : dirN ⟨#[47]⟩ botS ∈ firstT ls := List.mem_cons_self
  refine ⟨?_, by rw [firstT_len]; omega, ⟨_, hroot, rfl, rfl, rfl⟩, ?_, ?_⟩
  · unfold firstT Asc
    refine List.pairwise_cons.2 ⟨?_, ?_⟩
    · intro n hn
      obtain ⟨k, hk, rfl⟩ := List.mem_map.1 hn
      have := List.mem_range.1 hk
      exact root_less ⟨k, by omega⟩
    · rw [List.pairwise_map]
      refine List.Pairwise.imp_of_mem ?_ (List.pairwise_lt_range (n := ls.length))
      intro a b ha hb hab
      have h1 := List.mem_range.1 ha
      have h2 := List.mem_range.1 hb
      exact l0_less ⟨a, by omega⟩ ⟨b, by omega⟩ hab
  · intro n hn
    rcases mem_first hn with rfl | ⟨k, hk, rfl⟩
    · exact dir_ok _ _ bot_lab
    · exact dir_ok _ _ (hget k hk)
  · intro n hn
    rcases mem_first hn with rfl | ⟨k, hk, rfl⟩
    · exact ⟨[], root_okp, rfl, fun h => absurd rfl h⟩
    · exact ⟨[[108, UInt8.ofNat (48 + k)]], l0_okp k (by omega), l0_pth ⟨k, by omega⟩, fun _ => ⟨_, hroot, rfl, rfl, over_bot (hget k hk), fun h => by cases h⟩⟩
end Go.Proofs.YteilkbookcmndaaGreatDoor.C
namespace Go.Proofs.YteilkbookcmndaaGreatDoor.C
open Go.RowKit Go.Proofs.YteilkbookcmndaaGreatDoor.Q Go.Proofs.YteilkbookcmndaaGreatDoorW.PrintWords Go.Proofs.YteilkbookcmndaaGreatDoorW.PrintLast Go.Proofs.YteilkbookcmndaaGreatDoorW.PrintMore
end Go.Proofs.YteilkbookcmndaaGreatDoor.C
end
