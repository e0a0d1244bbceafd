/- MonitorBlind: what lies in directories that a subject's label is not over changes nothing that it is told: the walk. -/
import Derived.Test.YtmndeoncbocplaaDoorMBlR
import Derived.Lib.Walk
import Derived.Deep.LoopGhost
set_option linter.unusedVariables false
set_option linter.unusedSimpArgs false
section
set_option linter.unusedVariables false
set_option linter.unusedSimpArgs false
namespace Go.Proofs.YtmndeoncbocplaaDoor.C
open Go.RowKit Go.Proofs.YtmndeoncbocplaaDoor.Q Go.Proofs.YtmndeoncbocplaaDoorW.PrintWords Go.Proofs.YtmndeoncbocplaaDoorW.PrintLast Go.Proofs.YtmndeoncbocplaaDoorW.PrintMore
attribute [local go_sem ↓] rd_at50 wr_at50 al_at50 wr_at41
attribute [local go_sem] rd50_new wr50_new al50
theorem c16_below {W W1 : World} (hb : Below W.heap.size W W1) {b : Addr} {n : S50} {A6 A11 : Option Addr} {c6 c11 : Nat} (h : W.cell? b = some (.string n.f0) ∧ W.cell? ⟨(b).block, (b).off + 1, none⟩ = some (.bool n.f1) ∧ W.cell? ⟨(b).block, (b).off + 2, none⟩ = some (.int .i64 n.f2.f0) ∧ W.cell? ⟨(b).block, (b).off + 3, none⟩ = some (.int .i64 n.f2.f1) ∧ W.cell? ⟨(b).block, (b).off + 4, none⟩ = some (.int .i64 n.f2.f2) ∧ W.cell? ⟨(b).block, (b).off + 5, none⟩ = some (.int .i64 n.f2.f3) ∧ W.cell? ⟨(b).block, (b).off + 6, none⟩ = some (.slice A6 n.f3.length c6) ∧ W.cell? ⟨(b).block, (b).off + 7, none⟩ = some (.int .i64 n.f4.f0) ∧ W.cell? ⟨(b).block, (b).off + 8, none⟩ = some (.int .i64 n.f4.f1) ∧ W.cell? ⟨(b).block, (b).off + 9, none⟩ = some (.int .i64 n.f4.f2) ∧ W.cell? ⟨(b).block, (b).off + 10, none⟩ = some (.int .i64 n.f4.f3) ∧ W.cell? ⟨(b).block, (b).off + 11, none⟩ = some (.slice A11 n.f5.length c11) ∧ W.cell? ⟨(b).block, (b).off + 12, none⟩ = some (.int .i64 n.f6.f0) ∧ W.cell? ⟨(b).block, (b).off + 13, none⟩ = some (.int .i64 n.f6.f1) ∧ W.cell? ⟨(b).block, (b).off + 14, none⟩ = some (.int .i64 n.f6.f2) ∧ W.cell? ⟨(b).block, (b).off + 15, none⟩ = some (.int .i64 n.f6.f3)) : W1.cell? b = some (.string n.f0) ∧ W1.cell? ⟨(b).block, (b).off + 1, none⟩ = some (.bool n.f1) ∧ W1.cell? ⟨(b).block, (b).off + 2, none⟩ = some (.int .i64 n.f2.f0) ∧ W1.cell? ⟨(b).block, (b).off + 3, none⟩ = some (.int .i64 n.f2.f1) ∧ W1.cell? ⟨(b).block, (b).off + 4, none⟩ = some (.int .i64 n.f2.f2) ∧ W1.cell? ⟨(b).block, (b).off + 5, none⟩ = some (.int .i64 n.f2.f3) ∧ W1.cell? ⟨(b).block, (b).off + 6, none⟩ = some (.slice A6 n.f3.length c6) ∧ W1.cell? ⟨(b).block, (b).off + 7, none⟩ = some (.int .i64 n.f4.f0) ∧ W1.cell? ⟨(b).block, (b).off + 8, none⟩ = some (.int .i64 n.f4.f1) ∧ W1.cell? ⟨(b).block, (b).off + 9, none⟩ = some (.int .i64 n.f4.f2) ∧ W1.cell? ⟨(b).block, (b).off + 10, none⟩ = some (.int .i64 n.f4.f3) ∧ W1.cell? ⟨(b).block, (b).off + 11, none⟩ = some (.slice A11 n.f5.length c11) ∧ W1.cell? ⟨(b).block, (b).off + 12, none⟩ = some (.int .i64 n.f6.f0) ∧ W1.cell? ⟨(b).block, (b).off + 13, none⟩ = some (.int .i64 n.f6.f1) ∧ W1.cell? ⟨(b).block, (b).off + 14, none⟩ = some (.int .i64 n.f6.f2) ∧ W1.cell? ⟨(b).block, (b).off + 15, none⟩ = some (.int .i64 n.f6.f3) := by
  obtain ⟨h0, h1, h2, h3, h4, h5, h6, h7, h8, h9, h10, h11, h12, h13, h14, h15⟩ := h
  exact ⟨pw_cell_below hb h0, pw_cell_below hb h1, pw_cell_below hb h2, pw_cell_below hb h3, pw_cell_below hb h4, pw_cell_below hb h5, pw_cell_below hb h6, pw_cell_below hb h7, pw_cell_below hb h8, pw_cell_below hb h9, pw_cell_below hb h10, pw_cell_below hb h11, pw_cell_below hb h12, pw_cell_below hb h13, pw_cell_below hb h14, pw_cell_below hb h15⟩
theorem wi13_e (a n : Int) (h0 : 0 < n) (hn : n ≤ 4611686018427387904) : ∃ k : Nat, (k : Int) < n ∧ ∀ w : World, Calls Tryd.prog 34 #[.int .i64 a, .int .i64 n] w fun e w' => e = .returned (.int .i64 (k : Int)) ∧ Below w.heap.size w w' := by
  obtain ⟨t, ht, h1, h2⟩ := P.within_f a n h0 hn
  obtain ⟨k, rfl⟩ := Int.eq_ofNat_of_zero_le h1
  exact ⟨k, h2, fun w => (donjonlaw13_within.calls a n k w ht).mono fun _ _ ⟨he, hd⟩ => ⟨he, hd.below⟩⟩
set_option maxHeartbeats 4000000 in
set_option maxRecDepth 100000 in
theorem blind_c (terms : List S41) (makes : List S80) (paths : List (List Int)) (A B A3 : Option Addr) (c d c3 : Nat) (who : Int) (at0 : S41) (pick mode : Int) (w : World) (hC : Kd.C k41 w A terms.length terms) (hc : terms.length ≤ c) (hD : Kd.C k80 w B makes.length makes) (hd : makes.length ≤ d) (hE : Kd.C (Kd.slice 3 (Kd.int .i64)) w A3 paths.length paths) (hc3 : paths.length ≤ c3) :
    Calls Tryd.prog 13 #[.slice A terms.length c, .slice B makes.length d, .int .i64 who, .agg #[.int .i64 at0.f0, .int .i64 at0.f1, .int .i64 at0.f2, .int .i64 at0.f3], .int .i64 pick, .int .i64 mode, .slice A3 paths.length c3] w fun e w' => e = .returned (.bool true) ∧ Below w.heap.size w w' := by
  have HG := Lib.hid fun w1 (hb : Below w.heap.size w w1) => grow_c terms makes A B c d w1 (Kd.C_below hC hb) hc (Kd.C_below hD hb) hd
  have HEP := Lib.hid hE
  have HPL := Lib.hid hE.2.1
  clear hC hD hE
  obtain ⟨u, hws, hu⟩ := who_f who
  have HU := Lib.hid fun w1 => donjonlaw13_Who.calls who u w1 hu
  obtain ⟨k7, hk7, hW7⟩ := wi13_e mode 7 (by omega) (by omega)
  have HW7 := Lib.hid hW7
  clear hu hws hW7
  have EB0 := Lib.hid (blk_new w (.cells #[.int .i64 at0.f0, .int .i64 at0.f1, .int .i64 at0.f2, .int .i64 at0.f3] 41))
  have HB0 := Lib.hid (below_alloc (Below.refl w.heap.size w) (.cells #[.int .i64 at0.f0, .int .i64 at0.f1, .int .i64 at0.f2, .int .i64 at0.f3] 41))
  cases hev : (pick.tmod 2 == 0) with
  | true =>
    go_enter Tryd.func13, Tryd.ntmps13
    go_wp2_with (first | (go_at_call 34; have hg := HC5.out; clear hg; refine (wi13_c _ _ _ (by omega) (by omega)).mono ?_; rintro e w5 ⟨k1, hk1, rfl, hb⟩; obtain ⟨ad2, A6, c6, A11, c11, hA2, hcs, HK⟩ := at50 HC5.out hb k1 (by have := HTL5.out; omega); obtain rfl := Option.some.inj hA2; obtain ⟨_, _, h2, h3, h4, h5, _⟩ := hcs; have HA := Lib.hid (HT5.out.ok _ (List.getElem_mem (l := t) (n := k1) (by have := HTL5.out; omega))).1; generalize (t[k1]'(by have := HTL5.out; omega)).f2 = a at h2 h3 h4 h5 HA; have EB6 := Lib.hid (blk_below EB5.out hb); have hst2 := wr41_blk (cs := #[.int .i64 a.f0, .int .i64 a.f1, .int .i64 a.f2, .int .i64 a.f3]) EB6.out rfl rfl (by simp [Value.oneCell']); obtain ⟨tt, hl, hC6, hT6, _⟩ := tree_turn (r := a) EB6.out (Kd.C_below HC5.out hb) HT5.out; have HC6 := Lib.hid hC6; have HT6 := Lib.hid hT6; have HTL6 := Lib.hid (hl.trans HTL5.out); have EB7 := Lib.hid (setRow_heap _ _ _ #[.int .i64 a.f0, .int .i64 a.f1, .int .i64 a.f2, .int .i64 a.f3] _ _ EB6.out); have HB6 := Lib.hid (below_setRow (below_step HB5.out hb) (Nat.le_refl _) #[.int .i64 a.f0, .int .i64 a.f1, .int .i64 a.f2, .int .i64 a.f3]); clear hb hl hC6 hT6 hA2 HK) | (go_at_call 33; refine (good_c at0 _).mono ?_; rintro e w4 ⟨q, rfl, hq, hb⟩; have HQ := Lib.hid hq; have HX4 := Lib.hid hb; have EB4 := Lib.hid (blk_below EB2.out hb); have hst := wr41_blk (cs := #[.int .i64 q.f0, .int .i64 q.f1, .int .i64 q.f2, .int .i64 q.f3]) EB4.out rfl rfl (by simp [Value.oneCell']); obtain ⟨t, hl, hC5, hT5, _⟩ := tree_turn (r := q) EB4.out (Kd.C_below HC2.out HX4.out) HT2.out; have HC5 := Lib.hid hC5; have HT5 := Lib.hid hT5; have HTL5 := Lib.hid (hl.trans HTL.out); have EB5 := Lib.hid (setRow_heap _ _ _ #[.int .i64 q.f0, .int .i64 q.f1, .int .i64 q.f2, .int .i64 q.f3] _ _ EB4.out); have HB5 := Lib.hid (below_setRow (below_step HB2.out HX4.out) (Nat.le_refl _) #[.int .i64 q.f0, .int .i64 q.f1, .int .i64 q.f2, .int .i64 q.f3]); clear hb hl hC5 hT5 hq) | (go_at_call 32; refine (HG.out _ HB1.out).mono ?_; rintro e w2 ⟨Ag, t0, cg, rfl, hT, hcg, hCt, hb⟩; obtain ⟨ad, rfl, _⟩ := hCt.2.2 (tree_ne hT); obtain ⟨tl, htl⟩ : ∃ n, t0.length = n := ⟨_, rfl⟩; have HT2 := Lib.hid hT; have HC2 := Lib.hid hCt; have HB2 := Lib.hid (below_step HB1.out hb); have EB2 := Lib.hid (blk_below EB1.out hb); have htl0 : 0 < tl := (by have := tree_ne hT; omega); have htl1 : tl ≤ 1000 := (by have := hT.len; omega); have hcl : tl ≤ cg := (by omega); have s0b := (blk_cell EB2.out 0).trans rfl; have s1b := (blk_cell EB2.out 1).trans rfl; have s2b := (blk_cell EB2.out 2).trans rfl; have s3b := (blk_cell EB2.out 3).trans rfl; rw [htl]; have HTL := Lib.hid htl; clear hT hCt hb hcg htl) | (go_at_call 31; refine (known13_c _).mono ?_; rintro e w1 ⟨rfl, hb⟩; have HB1 := Lib.hid (below_step HB0.out hb); have EB1 := Lib.hid (blk_below EB0.out hb); clear hb))
    have HCV := HC6
    have HTV := HT6
    have HTLV := HTL6
    have EAV := EB7
    have HLA := HA
    have hbv := HB6.out
    clear hst hst2 HC6 HT6 HTL6 EB7 HA HB6 h2 h3 h4 h5 EB6 EB5 HB5 EB4 HX4 s0b s1b s2b s3b EB2 HB2 HC2 HT2 HTL EB1 HB1 EB0 HB0 HG hev
    generalize w5.setRow w.heap.size #[.int .i64 a.f0, .int .i64 a.f1, .int .i64 a.f2, .int .i64 a.f3] = V at HCV EAV hbv ⊢
    have HBV := Lib.hid hbv
    clear hbv
    go_loopg [16, 17] tl (fun k s16 s17 wr => ∃ i : Nat, i ≤ tl ∧ tl - i ≤ k ∧ s17 = .int .i64 i ∧ Hid (OwnN V V.heap.size wr s16 ((tt.take i).filter (lowB tt a))) ∧ Hid (Below V.heap.size V wr))
    case atStart => exact ⟨0, Nat.zero_le _, Nat.le_refl _, rfl, Lib.hid (OwnRow.none_ _ _ _ _ _), Lib.hid (Below.refl _ _)⟩
    case round =>
      obtain ⟨i, hi, hik, rfl, HO, HV⟩ := hrel
      by_cases hlt : i < tl
      · obtain ⟨W0, hW⟩ : ∃ W, W = wr := ⟨_, rfl⟩
        subst hW
        have hit : i < tt.length := by have := HTLV.out; omega
        obtain ⟨ad2, A6, c6, A11, c11, hA2, hcs, HK⟩ := at50 HCV.out HV.out i hit
        obtain rfl := Option.some.inj hA2
        have HCS := Lib.hid hcs
        have h0 := hcs.1
        have HM := Lib.hid (List.getElem_mem (l := tt) (n := i) hit)
        have HFT := Lib.hid (show lowB tt a (tt[i]'hit) = true → (tt.take (i + 1)).filter (lowB tt a) = (tt.take i).filter (lowB tt a) ++ [tt[i]'hit] by intro h; rw [List.take_succ_eq_append_getElem hit, List.filter_append]; simp [h])
        have HFF := Lib.hid (show lowB tt a (tt[i]'hit) = false → (tt.take (i + 1)).filter (lowB tt a) = (tt.take i).filter (lowB tt a) by intro h; rw [List.take_succ_eq_append_getElem hit, List.filter_append]; simp [h])
        have HLen := Lib.hid (show ((tt.take i).filter (lowB tt a)).length ≤ 1000 from Nat.le_trans (List.length_filter_le _ _) (by rw [List.length_take]; omega))
        clear hcs hA2
        generalize (tt[i]'hit) = n at h0 HCS HM HFT HFF HK
        have HJ := Lib.hid (Below.refl W0.heap.size W0)
        have HI := HV
        have HPR := Lib.hid fun w1 => donjonref7_Parent.calls 2000 n.f0 (parS n.f0) w1 (parent_any HTV.out HM.out)
        obtain ⟨b, hbq⟩ : ∃ b, isN tt (parS n.f0) = b := ⟨_, rfl⟩
        obtain ⟨dn, hdn⟩ : ∃ d, nodeN tt (parS n.f0) = d := ⟨_, rfl⟩
        have hlow : lowB tt a n = (!b || lover a dn.f2) := by unfold lowB; rw [hbq, hdn]
        have HBQ := Lib.hid hbq
        have HDN := Lib.hid hdn
        have HLL := Lib.hid hlow
        clear hbq hdn hlow
        have HFD := Lib.hid fun w1 (hb : Below V.heap.size V w1) => (show Calls Tryd.prog 40 #[.slice (some ad) tl cg, .string (parS n.f0)] w1 fun e w' => ∃ D6 d6 D11 d11, e = .returned (.tuple #[.agg #[.string dn.f0, .bool dn.f1, .int .i64 dn.f2.f0, .int .i64 dn.f2.f1, .int .i64 dn.f2.f2, .int .i64 dn.f2.f3, .slice D6 dn.f3.length d6, .int .i64 dn.f4.f0, .int .i64 dn.f4.f1, .int .i64 dn.f4.f2, .int .i64 dn.f4.f3, .slice D11 dn.f5.length d11, .int .i64 dn.f6.f0, .int .i64 dn.f6.f1, .int .i64 dn.f6.f2, .int .i64 dn.f6.f3], .bool b]) ∧ Below w1.heap.size w1 w' from by
          have h := find_t HTV.out (parS n.f0) (some ad) cg w1 (Kd.C_below HCV.out hb) (by have := HTLV.out; omega) dn b HDN.out HBQ.out
          rw [HTLV.out] at h
          exact h)
        cases b with
        | false =>
          have HLW := Lib.hid (show lowB tt a n = true by rw [HLL.out]; rfl)
          go_wp2_with (first | (at_builtin; go_loud (refine OwnRow.append V.heap.size rfl _ _ 42 50 (.agg #[.string (⟨#[]⟩ : ByteArray), .bool false, .int .i64 0, .int .i64 0, .int .i64 0, .int .i64 0, .slice none 0 0, .int .i64 0, .int .i64 0, .int .i64 0, .int .i64 0, .slice none 0 0, .int .i64 0, .int .i64 0, .int .i64 0, .int .i64 0]) 16 168 rfl Tryd.underlying42 inf50 rfl (by decide) (by decide) u16 ((tt.take i).filter (lowB tt a)) n [.string n.f0, .bool n.f1, .int .i64 n.f2.f0, .int .i64 n.f2.f1, .int .i64 n.f2.f2, .int .i64 n.f2.f3, .slice A6 n.f3.length c6, .int .i64 n.f4.f0, .int .i64 n.f4.f1, .int .i64 n.f4.f2, .int .i64 n.f4.f3, .slice A11 n.f5.length c11, .int .i64 n.f6.f0, .int .i64 n.f6.f1, .int .i64 n.f6.f2, .int .i64 n.f6.f3] rfl (by first | rfl | (rw [World.size_alloc]; rfl)) HK.out rfl (by simp [Value.oneCell']) (OwnRow.below HO.out HJ.out) HI.out (below_size HI.out) (by have := HLen.out; omega) ?_; intro v1 w1 hO hB hg hat; have HO1 := Lib.hid hO; have HB1 := Lib.hid hB; clear hO hB hg hat)) | (go_at_call 40; refine (HFD.out _ HI.out).mono ?_; rintro e w9 ⟨D6, d6, D11, d11, rfl, hb⟩; have HJ := Lib.hid (below_alloc (below_step HJ.out hb) (.cells #[.string dn.f0, .bool dn.f1, .int .i64 dn.f2.f0, .int .i64 dn.f2.f1, .int .i64 dn.f2.f2, .int .i64 dn.f2.f3, .slice D6 dn.f3.length d6, .int .i64 dn.f4.f0, .int .i64 dn.f4.f1, .int .i64 dn.f4.f2, .int .i64 dn.f4.f3, .slice D11 dn.f5.length d11, .int .i64 dn.f6.f0, .int .i64 dn.f6.f1, .int .i64 dn.f6.f2, .int .i64 dn.f6.f3] 50)); have HI := Lib.hid (below_alloc (below_step HI.out hb) (.cells #[.string dn.f0, .bool dn.f1, .int .i64 dn.f2.f0, .int .i64 dn.f2.f1, .int .i64 dn.f2.f2, .int .i64 dn.f2.f3, .slice D6 dn.f3.length d6, .int .i64 dn.f4.f0, .int .i64 dn.f4.f1, .int .i64 dn.f4.f2, .int .i64 dn.f4.f3, .slice D11 dn.f5.length d11, .int .i64 dn.f6.f0, .int .i64 dn.f6.f1, .int .i64 dn.f6.f2, .int .i64 dn.f6.f3] 50)); have ED := Lib.hid (blk_new w9 (.cells #[.string dn.f0, .bool dn.f1, .int .i64 dn.f2.f0, .int .i64 dn.f2.f1, .int .i64 dn.f2.f2, .int .i64 dn.f2.f3, .slice D6 dn.f3.length d6, .int .i64 dn.f4.f0, .int .i64 dn.f4.f1, .int .i64 dn.f4.f2, .int .i64 dn.f4.f3, .slice D11 dn.f5.length d11, .int .i64 dn.f6.f0, .int .i64 dn.f6.f1, .int .i64 dn.f6.f2, .int .i64 dn.f6.f3] 50)); have hld := rd50_of (loadC50 (P := Tryd.prog) (c16_below HJ.out HCS.out)); clear hb) | (go_at_call 39; refine (HPR.out _).mono ?_; rintro e w8 ⟨rfl, hb⟩; have hb2 := hb.below; have HJ := Lib.hid (below_step HJ.out hb2); have HI := Lib.hid (below_step HI.out hb2); clear hb hb2))
          go_roundg (tl - (i + 1))
          case measure => omega
          case rel => exact ⟨i + 1, hlt, Nat.le_refl _, by go_num, Lib.hid (by rw [HFT.out HLW.out]; exact HO1.out), HB1⟩
        | true =>
          have HOV0 := fun w1 : World => donjonref4_Over.calls a.f0 a.f1 a.f2 a.f3 dn.f2.f0 dn.f2.f1 dn.f2.f2 dn.f2.f3 (lover a dn.f2) w1 (rover_iff HLA.out (HTV.out.ok dn (by rw [← HDN.out]; exact nodeN_mem HBQ.out)).1)
          cases hl : lover a dn.f2 with
          | true =>
            have HLW := Lib.hid (show lowB tt a n = true by rw [HLL.out, hl]; rfl)
            rw [hl] at HOV0
            have HOV := Lib.hid HOV0
            clear HOV0 hl
            go_wp2_with (first | (at_builtin; go_loud (refine OwnRow.append V.heap.size rfl _ _ 42 50 (.agg #[.string (⟨#[]⟩ : ByteArray), .bool false, .int .i64 0, .int .i64 0, .int .i64 0, .int .i64 0, .slice none 0 0, .int .i64 0, .int .i64 0, .int .i64 0, .int .i64 0, .slice none 0 0, .int .i64 0, .int .i64 0, .int .i64 0, .int .i64 0]) 16 168 rfl Tryd.underlying42 inf50 rfl (by decide) (by decide) u16 ((tt.take i).filter (lowB tt a)) n [.string n.f0, .bool n.f1, .int .i64 n.f2.f0, .int .i64 n.f2.f1, .int .i64 n.f2.f2, .int .i64 n.f2.f3, .slice A6 n.f3.length c6, .int .i64 n.f4.f0, .int .i64 n.f4.f1, .int .i64 n.f4.f2, .int .i64 n.f4.f3, .slice A11 n.f5.length c11, .int .i64 n.f6.f0, .int .i64 n.f6.f1, .int .i64 n.f6.f2, .int .i64 n.f6.f3] rfl (by first | rfl | (rw [World.size_alloc]; rfl)) HK.out rfl (by simp [Value.oneCell']) (OwnRow.below HO.out HJ.out) HI.out (below_size HI.out) (by have := HLen.out; omega) ?_; intro v1 w1 hO hB hg hat; have HO1 := Lib.hid hO; have HB1 := Lib.hid hB; clear hO hB hg hat)) | (go_at_call 37; refine (HOV.out _).mono ?_; rintro e w10 ⟨rfl, hb⟩; have HJ := Lib.hid (below_step HJ.out hb); have HI := Lib.hid (below_step HI.out hb); have hld := rd50_of (loadC50 (P := Tryd.prog) (c16_below HJ.out HCS.out)); clear hb) | (go_at_call 40; refine (HFD.out _ HI.out).mono ?_; rintro e w9 ⟨D6, d6, D11, d11, rfl, hb⟩; have HJ := Lib.hid (below_alloc (below_step HJ.out hb) (.cells #[.string dn.f0, .bool dn.f1, .int .i64 dn.f2.f0, .int .i64 dn.f2.f1, .int .i64 dn.f2.f2, .int .i64 dn.f2.f3, .slice D6 dn.f3.length d6, .int .i64 dn.f4.f0, .int .i64 dn.f4.f1, .int .i64 dn.f4.f2, .int .i64 dn.f4.f3, .slice D11 dn.f5.length d11, .int .i64 dn.f6.f0, .int .i64 dn.f6.f1, .int .i64 dn.f6.f2, .int .i64 dn.f6.f3] 50)); have HI := Lib.hid (below_alloc (below_step HI.out hb) (.cells #[.string dn.f0, .bool dn.f1, .int .i64 dn.f2.f0, .int .i64 dn.f2.f1, .int .i64 dn.f2.f2, .int .i64 dn.f2.f3, .slice D6 dn.f3.length d6, .int .i64 dn.f4.f0, .int .i64 dn.f4.f1, .int .i64 dn.f4.f2, .int .i64 dn.f4.f3, .slice D11 dn.f5.length d11, .int .i64 dn.f6.f0, .int .i64 dn.f6.f1, .int .i64 dn.f6.f2, .int .i64 dn.f6.f3] 50)); have ED := Lib.hid (blk_new w9 (.cells #[.string dn.f0, .bool dn.f1, .int .i64 dn.f2.f0, .int .i64 dn.f2.f1, .int .i64 dn.f2.f2, .int .i64 dn.f2.f3, .slice D6 dn.f3.length d6, .int .i64 dn.f4.f0, .int .i64 dn.f4.f1, .int .i64 dn.f4.f2, .int .i64 dn.f4.f3, .slice D11 dn.f5.length d11, .int .i64 dn.f6.f0, .int .i64 dn.f6.f1, .int .i64 dn.f6.f2, .int .i64 dn.f6.f3] 50)); have d2 := (blk_cell ED.out 2).trans rfl; have d3 := (blk_cell ED.out 3).trans rfl; have d4 := (blk_cell ED.out 4).trans rfl; have d5 := (blk_cell ED.out 5).trans rfl; have q0 := (blk_cell (blk_below EAV.out HI.out) 0).trans rfl; have q1 := (blk_cell (blk_below EAV.out HI.out) 1).trans rfl; have q2 := (blk_cell (blk_below EAV.out HI.out) 2).trans rfl; have q3 := (blk_cell (blk_below EAV.out HI.out) 3).trans rfl; clear hb) | (go_at_call 39; refine (HPR.out _).mono ?_; rintro e w8 ⟨rfl, hb⟩; have hb2 := hb.below; have HJ := Lib.hid (below_step HJ.out hb2); have HI := Lib.hid (below_step HI.out hb2); clear hb hb2))
            go_roundg (tl - (i + 1))
            case measure => omega
            case rel => exact ⟨i + 1, hlt, Nat.le_refl _, by go_num, Lib.hid (by rw [HFT.out HLW.out]; exact HO1.out), HB1⟩
          | false =>
            have HLW := Lib.hid (show lowB tt a n = false by rw [HLL.out, hl]; rfl)
            rw [hl] at HOV0
            have HOV := Lib.hid HOV0
            clear HOV0 hl
            go_wp2_with (first | (go_at_call 37; refine (HOV.out _).mono ?_; rintro e w10 ⟨rfl, hb⟩; have HJ := Lib.hid (below_step HJ.out hb); have HI := Lib.hid (below_step HI.out hb); have HO1 := Lib.hid (OwnRow.below HO.out HJ.out); have HB1 := HI; clear hb) | (go_at_call 40; refine (HFD.out _ HI.out).mono ?_; rintro e w9 ⟨D6, d6, D11, d11, rfl, hb⟩; have HJ := Lib.hid (below_alloc (below_step HJ.out hb) (.cells #[.string dn.f0, .bool dn.f1, .int .i64 dn.f2.f0, .int .i64 dn.f2.f1, .int .i64 dn.f2.f2, .int .i64 dn.f2.f3, .slice D6 dn.f3.length d6, .int .i64 dn.f4.f0, .int .i64 dn.f4.f1, .int .i64 dn.f4.f2, .int .i64 dn.f4.f3, .slice D11 dn.f5.length d11, .int .i64 dn.f6.f0, .int .i64 dn.f6.f1, .int .i64 dn.f6.f2, .int .i64 dn.f6.f3] 50)); have HI := Lib.hid (below_alloc (below_step HI.out hb) (.cells #[.string dn.f0, .bool dn.f1, .int .i64 dn.f2.f0, .int .i64 dn.f2.f1, .int .i64 dn.f2.f2, .int .i64 dn.f2.f3, .slice D6 dn.f3.length d6, .int .i64 dn.f4.f0, .int .i64 dn.f4.f1, .int .i64 dn.f4.f2, .int .i64 dn.f4.f3, .slice D11 dn.f5.length d11, .int .i64 dn.f6.f0, .int .i64 dn.f6.f1, .int .i64 dn.f6.f2, .int .i64 dn.f6.f3] 50)); have ED := Lib.hid (blk_new w9 (.cells #[.string dn.f0, .bool dn.f1, .int .i64 dn.f2.f0, .int .i64 dn.f2.f1, .int .i64 dn.f2.f2, .int .i64 dn.f2.f3, .slice D6 dn.f3.length d6, .int .i64 dn.f4.f0, .int .i64 dn.f4.f1, .int .i64 dn.f4.f2, .int .i64 dn.f4.f3, .slice D11 dn.f5.length d11, .int .i64 dn.f6.f0, .int .i64 dn.f6.f1, .int .i64 dn.f6.f2, .int .i64 dn.f6.f3] 50)); have d2 := (blk_cell ED.out 2).trans rfl; have d3 := (blk_cell ED.out 3).trans rfl; have d4 := (blk_cell ED.out 4).trans rfl; have d5 := (blk_cell ED.out 5).trans rfl; have q0 := (blk_cell (blk_below EAV.out HI.out) 0).trans rfl; have q1 := (blk_cell (blk_below EAV.out HI.out) 1).trans rfl; have q2 := (blk_cell (blk_below EAV.out HI.out) 2).trans rfl; have q3 := (blk_cell (blk_below EAV.out HI.out) 3).trans rfl; clear hb) | (go_at_call 39; refine (HPR.out _).mono ?_; rintro e w8 ⟨rfl, hb⟩; have hb2 := hb.below; have HJ := Lib.hid (below_step HJ.out hb2); have HI := Lib.hid (below_step HI.out hb2); clear hb hb2))
            go_roundg (tl - (i + 1))
            case measure => omega
            case rel => exact ⟨i + 1, hlt, Nat.le_refl _, by go_num, Lib.hid (by rw [HFF.out HLW.out]; exact HO1.out), HB1⟩
      · have hin : tl = i := by omega
        have hO := HO.out
        rw [← hin, ← HTLV.out, List.take_length] at hO
        obtain ⟨A2, c2, rfl, hc2, hR⟩ := OwnRow.reads hO
        have hCL := C50_of hR HV.out
        obtain ⟨low, hlow⟩ : ∃ l, l = tt.filter (lowB tt a) := ⟨_, rfl⟩
        rw [← hlow] at hCL hc2 ⊢
        have HLOW := Lib.hid hlow
        have HCL0 := Lib.hid hCL
        obtain ⟨W0, hW⟩ : ∃ W, W = wr := ⟨_, rfl⟩
        subst hW
        have EA0 := Lib.hid (blk_below EAV.out HV.out)
        clear hO hR hCL hlow HO
        subst hin
        go_wp2
        refine rb14 who w.heap.size u a _ _ _ _ _ _ _ _ _ _ _ _ _ _ _ _ _ _ _ _ _ _ _ _ _ _ _ _ _ _ _ _ _ _ _ _ _ _ _ _ _ _ _ _ _ _ _ _ _ _ _ _ _ _ _ _ _ _ _ _ _ _ _ _ _ _ _ _ _ _ _ _ _ _ _ _ _ _ _ _ _ _ _ _ _ _ _ _ _ _ _ _ _ _ _ _ _ _ _ _ _ _ _ _ _ _ _ _ _ _ _ _ _ _ _ _ _ _ _ _ _ _ _ _ _ _ _ _ _ _ _ _ _ _ _ _ _ _ _ _ _ _ _ _ _ _ _ _ _ _ _ _ _ _ _ _ _ _ _ _ _ _ _ _ _ _ _ _ W0 _ EA0.out HU.out ?_
        intro g5 V2 t82 t83 t84 t85 hG hb
        have ES := Lib.hid hG
        have HCL := Lib.hid (Kd.C_below HCL0.out hb)
        have HCT := Lib.hid (Kd.C_below HCV.out (below_step HV.out hb))
        have HBX := Lib.hid (below_step HBV.out (below_step HV.out hb))
        have HEX := Lib.hid (Kd.C_below HEP.out HBX.out)
        clear hG hb HCL0 HV EA0
        go_wp2
        go_loopg [21] 40 (fun k s21 wr => ∃ i : Nat, i ≤ 40 ∧ 40 - i ≤ k ∧ s21 = .int .i64 i ∧ Hid (Below V2.heap.size V2 wr))
        case atStart => exact ⟨0, Nat.zero_le _, Nat.le_refl _, rfl, Lib.hid (Below.refl _ _)⟩
        case round =>
          obtain ⟨i, hi4, hik4, rfl, HI⟩ := hrel
          by_cases hcd : (i : Int) < wrap64 ((tl : Int) + (paths.length : Int))
          · have HIX := Lib.hid (show i < tl ∨ i - tl < paths.length by have h := HPL.out; unfold wrap64 at hcd; omega)
            by_cases h40 : i < 40
            · by_cases hit : i < tl
              · have hitt : i < tt.length := by have := HTLV.out; omega
                obtain ⟨ad2, A6, c6, A11, c11, hA2, hcs, _⟩ := at50 HCT.out HI.out i hitt
                obtain rfl := Option.some.inj hA2
                have h0 := hcs.1
                obtain ⟨ns, hok, hp⟩ := tree_path HTV.out (List.getElem_mem (l := tt) (n := i) hitt)
                have HOK := Lib.hid hok
                clear hcs hA2 hok
                generalize (tt[i]'hitt).f0 = p at h0 hp
                have HPP := Lib.hid hp.symm
                clear hp
                obtain ⟨x, hx⟩ : ∃ x, (mayR tt a u ns (IntKind.i64.wrap (1 + (k7 : Int)))).1 = x := ⟨_, rfl⟩
                obtain ⟨e1, he1⟩ : ∃ x, (mayR tt a u ns (IntKind.i64.wrap (1 + (k7 : Int)))).2 = x := ⟨_, rfl⟩
                have HMX := Lib.hid (show mayR tt a u ns (IntKind.i64.wrap (1 + (k7 : Int))) = (x, e1) by rw [← hx, ← he1])
                obtain ⟨y, e2, hchg⟩ := chg_two HTV.out a u ns HOK.out
                have HCHG := Lib.hid hchg
                clear hx he1 hchg
                have HMT := Lib.hid fun w1 (hb : Below V2.heap.size V2 w1) => (show Calls Tryd.prog 35 #[.slice (some ad) tl cg, .agg #[.string u, .int .i64 a.f0, .int .i64 a.f1, .int .i64 a.f2, .int .i64 a.f3], .string p, .int .i64 (IntKind.i64.wrap (1 + (k7 : Int)))] w1 fun e w' => ∃ X6 x6 X11 x11, e = .returned (.tuple #[.agg #[.string x.f0, .bool x.f1, .int .i64 x.f2.f0, .int .i64 x.f2.f1, .int .i64 x.f2.f2, .int .i64 x.f2.f3, .slice X6 x.f3.length x6, .int .i64 x.f4.f0, .int .i64 x.f4.f1, .int .i64 x.f4.f2, .int .i64 x.f4.f3, .slice X11 x.f5.length x11, .int .i64 x.f6.f0, .int .i64 x.f6.f1, .int .i64 x.f6.f2, .int .i64 x.f6.f3], .int .i64 e1]) ∧ k50.FK w' (fun k => w1.heap.size ≤ k) x [.string x.f0, .bool x.f1, .int .i64 x.f2.f0, .int .i64 x.f2.f1, .int .i64 x.f2.f2, .int .i64 x.f2.f3, .slice X6 x.f3.length x6, .int .i64 x.f4.f0, .int .i64 x.f4.f1, .int .i64 x.f4.f2, .int .i64 x.f4.f3, .slice X11 x.f5.length x11, .int .i64 x.f6.f0, .int .i64 x.f6.f1, .int .i64 x.f6.f2, .int .i64 x.f6.f3] ∧ Below w1.heap.size w1 w' from by
                  have h := may_c tt u a ns (IntKind.i64.wrap (1 + (k7 : Int))) (some ad) cg w1 (Kd.C_below HCT.out hb) (by have := HTLV.out; omega) (tree_srch HTV.out) (tree_acls HTV.out) HOK.out.1 HOK.out.2
                  rw [HMX.out, HTLV.out, HPP.out] at h
                  refine h.mono ?_
                  rintro e w' ⟨cs, rfl, hK, hB⟩
                  obtain ⟨P6, p6, P11, p11, rfl, _⟩ := k50_open (Foot.now hK)
                  exact ⟨P6, p6, P11, p11, rfl, hK, hB⟩)
                have HML := Lib.hid fun w1 (hb : Below V2.heap.size V2 w1) => (show Calls Tryd.prog 35 #[.slice A2 low.length c2, .agg #[.string u, .int .i64 a.f0, .int .i64 a.f1, .int .i64 a.f2, .int .i64 a.f3], .string p, .int .i64 (IntKind.i64.wrap (1 + (k7 : Int)))] w1 fun e w' => ∃ X6 x6 X11 x11, e = .returned (.tuple #[.agg #[.string x.f0, .bool x.f1, .int .i64 x.f2.f0, .int .i64 x.f2.f1, .int .i64 x.f2.f2, .int .i64 x.f2.f3, .slice X6 x.f3.length x6, .int .i64 x.f4.f0, .int .i64 x.f4.f1, .int .i64 x.f4.f2, .int .i64 x.f4.f3, .slice X11 x.f5.length x11, .int .i64 x.f6.f0, .int .i64 x.f6.f1, .int .i64 x.f6.f2, .int .i64 x.f6.f3], .int .i64 e1]) ∧ k50.FK w' (fun k => w1.heap.size ≤ k) x [.string x.f0, .bool x.f1, .int .i64 x.f2.f0, .int .i64 x.f2.f1, .int .i64 x.f2.f2, .int .i64 x.f2.f3, .slice X6 x.f3.length x6, .int .i64 x.f4.f0, .int .i64 x.f4.f1, .int .i64 x.f4.f2, .int .i64 x.f4.f3, .slice X11 x.f5.length x11, .int .i64 x.f6.f0, .int .i64 x.f6.f1, .int .i64 x.f6.f2, .int .i64 x.f6.f3] ∧ Below w1.heap.size w1 w' from by
                  have h := may_c low u a ns (IntKind.i64.wrap (1 + (k7 : Int))) A2 c2 w1 (Kd.C_below HCL.out hb) hc2 (by rw [HLOW.out]; exact (low_srch HTV.out a).1) (by rw [HLOW.out]; exact (low_srch HTV.out a).2) HOK.out.1 HOK.out.2
                  rw [show mayR low a u ns (IntKind.i64.wrap (1 + (k7 : Int))) = (x, e1) by rw [HLOW.out, low_may HTV.out a u ns HOK.out.1, HMX.out], HPP.out] at h
                  refine h.mono ?_
                  rintro e w' ⟨cs, rfl, hK, hB⟩
                  obtain ⟨P6, p6, P11, p11, rfl, _⟩ := k50_open (Foot.now hK)
                  exact ⟨P6, p6, P11, p11, rfl, hK, hB⟩)
                have HCY := Lib.hid fun w1 (hb : Below V2.heap.size V2 w1) => (show Calls Tryd.prog 46 #[.slice (some ad) tl cg, .agg #[.string u, .int .i64 a.f0, .int .i64 a.f1, .int .i64 a.f2, .int .i64 a.f3], .string p] w1 fun e w' => ∃ Y6 y6 Y11 y11, e = .returned (.tuple #[.agg #[.string y.f0, .bool y.f1, .int .i64 y.f2.f0, .int .i64 y.f2.f1, .int .i64 y.f2.f2, .int .i64 y.f2.f3, .slice Y6 y.f3.length y6, .int .i64 y.f4.f0, .int .i64 y.f4.f1, .int .i64 y.f4.f2, .int .i64 y.f4.f3, .slice Y11 y.f5.length y11, .int .i64 y.f6.f0, .int .i64 y.f6.f1, .int .i64 y.f6.f2, .int .i64 y.f6.f3], .int .i64 e2]) ∧ k50.K w' y [.string y.f0, .bool y.f1, .int .i64 y.f2.f0, .int .i64 y.f2.f1, .int .i64 y.f2.f2, .int .i64 y.f2.f3, .slice Y6 y.f3.length y6, .int .i64 y.f4.f0, .int .i64 y.f4.f1, .int .i64 y.f4.f2, .int .i64 y.f4.f3, .slice Y11 y.f5.length y11, .int .i64 y.f6.f0, .int .i64 y.f6.f1, .int .i64 y.f6.f2, .int .i64 y.f6.f3] ∧ Below w1.heap.size w1 w' from by
                  have h := HCHG.out tt (Or.inl rfl) (some ad) cg w1 (Kd.C_below HCT.out hb) (by have := HTLV.out; omega)
                  rw [HTLV.out, HPP.out] at h
                  refine h.mono ?_
                  rintro e w' ⟨cs, rfl, hK, hB⟩
                  obtain ⟨P6, p6, P11, p11, rfl, _⟩ := k50_open (Foot.now hK)
                  exact ⟨P6, p6, P11, p11, rfl, Foot.now hK, hB⟩)
                have HCZ := Lib.hid fun w1 (hb : Below V2.heap.size V2 w1) => (show Calls Tryd.prog 46 #[.slice A2 low.length c2, .agg #[.string u, .int .i64 a.f0, .int .i64 a.f1, .int .i64 a.f2, .int .i64 a.f3], .string p] w1 fun e w' => ∃ Z6 z6 Z11 z11, e = .returned (.tuple #[.agg #[.string y.f0, .bool y.f1, .int .i64 y.f2.f0, .int .i64 y.f2.f1, .int .i64 y.f2.f2, .int .i64 y.f2.f3, .slice Z6 y.f3.length z6, .int .i64 y.f4.f0, .int .i64 y.f4.f1, .int .i64 y.f4.f2, .int .i64 y.f4.f3, .slice Z11 y.f5.length z11, .int .i64 y.f6.f0, .int .i64 y.f6.f1, .int .i64 y.f6.f2, .int .i64 y.f6.f3], .int .i64 e2]) ∧ k50.K w' y [.string y.f0, .bool y.f1, .int .i64 y.f2.f0, .int .i64 y.f2.f1, .int .i64 y.f2.f2, .int .i64 y.f2.f3, .slice Z6 y.f3.length z6, .int .i64 y.f4.f0, .int .i64 y.f4.f1, .int .i64 y.f4.f2, .int .i64 y.f4.f3, .slice Z11 y.f5.length z11, .int .i64 y.f6.f0, .int .i64 y.f6.f1, .int .i64 y.f6.f2, .int .i64 y.f6.f3] ∧ Below w1.heap.size w1 w' from by
                  have h := HCHG.out low (Or.inr HLOW.out) A2 c2 w1 (Kd.C_below HCL.out hb) hc2
                  rw [HPP.out] at h
                  refine h.mono ?_
                  rintro e w' ⟨cs, rfl, hK, hB⟩
                  obtain ⟨P6, p6, P11, p11, rfl, _⟩ := k50_open (Foot.now hK)
                  exact ⟨P6, p6, P11, p11, rfl, Foot.now hK, hB⟩)
                clear HCHG
                go_wp2
                refine rb22 (some ad) tl cg g5 p u mode (k7 : Int) a x e1 _ _ _ _ _ _ _ _ _ _ _ _ _ _ _ _ _ _ _ _ _ _ _ _ _ _ _ _ _ _ _ _ _ _ _ _ _ _ _ _ _ _ _ _ _ _ _ _ _ _ _ _ _ _ _ _ _ _ _ _ _ _ _ _ _ _ _ _ _ _ _ _ _ _ _ _ _ _ _ _ _ _ _ _ _ _ _ _ _ _ _ _ _ _ _ _ _ _ _ _ _ _ _ _ _ _ _ _ _ _ _ _ _ _ _ _ _ _ _ _ _ _ _ _ _ _ _ _ _ _ _ _ _ _ _ _ _ _ _ _ _ _ _ _ _ _ _ _ _ _ _ _ _ _ _ _ _ _ _ _ _ _ _ _ _ _ wr _ (blk_below ES.out HI.out) HW7.out (fun w1 hb => HMT.out w1 (below_step HI.out hb)) ?_
                intro gE E6 E11 ce6 ce11 wE t116 t117 t118 t119 t120 t121 t122 t123 t124 t125 hG hK hb
                have HI := Lib.hid (below_step HI.out hb)
                have HKE := Lib.hid hK
                have BE := Lib.hid hG
                clear hG hK hb
                go_wp2
                refine rb23 A2 low.length c2 g5 p u mode (k7 : Int) a x e1 _ _ _ _ _ _ _ _ _ _ _ _ _ _ _ _ _ _ _ _ _ _ _ _ _ _ _ _ _ _ _ _ _ _ _ _ _ _ _ _ _ _ _ _ _ _ _ _ _ _ _ _ _ _ _ _ _ _ _ _ _ _ _ _ _ _ _ _ _ _ _ _ _ _ _ _ _ _ _ _ _ _ _ _ _ _ _ _ _ _ _ _ _ _ _ _ _ _ _ _ _ _ _ _ _ _ _ _ _ _ _ _ _ _ _ _ _ _ _ _ _ _ _ _ _ _ _ _ _ _ _ _ _ _ _ _ _ _ _ _ _ _ _ _ _ _ _ _ _ _ _ _ _ _ _ _ _ _ _ _ _ _ _ _ _ _ wE _ (blk_below ES.out HI.out) HW7.out (fun w1 hb => HML.out w1 (below_step HI.out hb)) ?_
                intro gF F6 F11 cf6 cf11 wF t126 t127 t128 t129 t130 t131 t132 t133 t134 t135 hG hK hb
                have HI := Lib.hid (below_step HI.out hb)
                have HKE := Lib.hid (k50.K_below hb HKE.out)
                have BE := Lib.hid (blk_below BE.out hb)
                have HKF := Lib.hid hK
                have BF := Lib.hid hG
                have BS := Lib.hid (blk_below ES.out HI.out)
                have s0 := (blk_cell BS.out 0).trans rfl
                have s1 := (blk_cell BS.out 1).trans rfl
                have s2 := (blk_cell BS.out 2).trans rfl
                have s3 := (blk_cell BS.out 3).trans rfl
                have s4 := (blk_cell BS.out 4).trans rfl
                clear hG hK hb
                go_wp2_with (first | (go_at_call 42; have hg := HS1.out; clear hg; refine (same_t y _ _ _ HKY.out HKZ.out).mono ?_; rintro e ws2 ⟨rfl, hb⟩; have HI := Lib.hid (below_step HI.out hb); clear hb) | (go_at_call 42; refine (same_t x _ _ _ HKE.out HKF.out).mono ?_; rintro e ws1 ⟨rfl, hb⟩; have HI := Lib.hid (below_step HI.out hb); have HS1 := HI; have HKY := Lib.hid (k50.K_below hb HKY.out); have HKZ := Lib.hid (k50.K_below hb HKZ.out); have rdY := rd50_blk (blk_below BY.out hb) rfl; have rdZ := rd50_blk (blk_below BZ.out hb) rfl; clear hb) | (go_at_call 46; have hg := HKY.out; clear hg; refine (HCZ.out _ HI.out).mono ?_; rintro e wz ⟨Z6, z6, Z11, z11, rfl, hK, hb⟩; have HI := Lib.hid (below_alloc (below_step HI.out hb) (.cells #[.string y.f0, .bool y.f1, .int .i64 y.f2.f0, .int .i64 y.f2.f1, .int .i64 y.f2.f2, .int .i64 y.f2.f3, .slice Z6 y.f3.length z6, .int .i64 y.f4.f0, .int .i64 y.f4.f1, .int .i64 y.f4.f2, .int .i64 y.f4.f3, .slice Z11 y.f5.length z11, .int .i64 y.f6.f0, .int .i64 y.f6.f1, .int .i64 y.f6.f2, .int .i64 y.f6.f3] 50)); have BS := Lib.hid (blk_alloc (blk_below BS.out hb) (.cells #[.string y.f0, .bool y.f1, .int .i64 y.f2.f0, .int .i64 y.f2.f1, .int .i64 y.f2.f2, .int .i64 y.f2.f3, .slice Z6 y.f3.length z6, .int .i64 y.f4.f0, .int .i64 y.f4.f1, .int .i64 y.f4.f2, .int .i64 y.f4.f3, .slice Z11 y.f5.length z11, .int .i64 y.f6.f0, .int .i64 y.f6.f1, .int .i64 y.f6.f2, .int .i64 y.f6.f3] 50)); have HKE := Lib.hid (k50.K_below (below_alloc hb (.cells #[.string y.f0, .bool y.f1, .int .i64 y.f2.f0, .int .i64 y.f2.f1, .int .i64 y.f2.f2, .int .i64 y.f2.f3, .slice Z6 y.f3.length z6, .int .i64 y.f4.f0, .int .i64 y.f4.f1, .int .i64 y.f4.f2, .int .i64 y.f4.f3, .slice Z11 y.f5.length z11, .int .i64 y.f6.f0, .int .i64 y.f6.f1, .int .i64 y.f6.f2, .int .i64 y.f6.f3] 50)) HKE.out); have BE := Lib.hid (blk_alloc (blk_below BE.out hb) (.cells #[.string y.f0, .bool y.f1, .int .i64 y.f2.f0, .int .i64 y.f2.f1, .int .i64 y.f2.f2, .int .i64 y.f2.f3, .slice Z6 y.f3.length z6, .int .i64 y.f4.f0, .int .i64 y.f4.f1, .int .i64 y.f4.f2, .int .i64 y.f4.f3, .slice Z11 y.f5.length z11, .int .i64 y.f6.f0, .int .i64 y.f6.f1, .int .i64 y.f6.f2, .int .i64 y.f6.f3] 50)); have HKF := Lib.hid (k50.K_below (below_alloc hb (.cells #[.string y.f0, .bool y.f1, .int .i64 y.f2.f0, .int .i64 y.f2.f1, .int .i64 y.f2.f2, .int .i64 y.f2.f3, .slice Z6 y.f3.length z6, .int .i64 y.f4.f0, .int .i64 y.f4.f1, .int .i64 y.f4.f2, .int .i64 y.f4.f3, .slice Z11 y.f5.length z11, .int .i64 y.f6.f0, .int .i64 y.f6.f1, .int .i64 y.f6.f2, .int .i64 y.f6.f3] 50)) HKF.out); have BF := Lib.hid (blk_alloc (blk_below BF.out hb) (.cells #[.string y.f0, .bool y.f1, .int .i64 y.f2.f0, .int .i64 y.f2.f1, .int .i64 y.f2.f2, .int .i64 y.f2.f3, .slice Z6 y.f3.length z6, .int .i64 y.f4.f0, .int .i64 y.f4.f1, .int .i64 y.f4.f2, .int .i64 y.f4.f3, .slice Z11 y.f5.length z11, .int .i64 y.f6.f0, .int .i64 y.f6.f1, .int .i64 y.f6.f2, .int .i64 y.f6.f3] 50)); have HKY := Lib.hid (k50.K_below (below_alloc hb (.cells #[.string y.f0, .bool y.f1, .int .i64 y.f2.f0, .int .i64 y.f2.f1, .int .i64 y.f2.f2, .int .i64 y.f2.f3, .slice Z6 y.f3.length z6, .int .i64 y.f4.f0, .int .i64 y.f4.f1, .int .i64 y.f4.f2, .int .i64 y.f4.f3, .slice Z11 y.f5.length z11, .int .i64 y.f6.f0, .int .i64 y.f6.f1, .int .i64 y.f6.f2, .int .i64 y.f6.f3] 50)) HKY.out); have BY := Lib.hid (blk_alloc (blk_below BY.out hb) (.cells #[.string y.f0, .bool y.f1, .int .i64 y.f2.f0, .int .i64 y.f2.f1, .int .i64 y.f2.f2, .int .i64 y.f2.f3, .slice Z6 y.f3.length z6, .int .i64 y.f4.f0, .int .i64 y.f4.f1, .int .i64 y.f4.f2, .int .i64 y.f4.f3, .slice Z11 y.f5.length z11, .int .i64 y.f6.f0, .int .i64 y.f6.f1, .int .i64 y.f6.f2, .int .i64 y.f6.f3] 50)); have HKZ := Lib.hid (k50.K_below (below_alloc (Below.refl wz.heap.size wz) (.cells #[.string y.f0, .bool y.f1, .int .i64 y.f2.f0, .int .i64 y.f2.f1, .int .i64 y.f2.f2, .int .i64 y.f2.f3, .slice Z6 y.f3.length z6, .int .i64 y.f4.f0, .int .i64 y.f4.f1, .int .i64 y.f4.f2, .int .i64 y.f4.f3, .slice Z11 y.f5.length z11, .int .i64 y.f6.f0, .int .i64 y.f6.f1, .int .i64 y.f6.f2, .int .i64 y.f6.f3] 50)) hK); have BZ := Lib.hid (blk_new wz (.cells #[.string y.f0, .bool y.f1, .int .i64 y.f2.f0, .int .i64 y.f2.f1, .int .i64 y.f2.f2, .int .i64 y.f2.f3, .slice Z6 y.f3.length z6, .int .i64 y.f4.f0, .int .i64 y.f4.f1, .int .i64 y.f4.f2, .int .i64 y.f4.f3, .slice Z11 y.f5.length z11, .int .i64 y.f6.f0, .int .i64 y.f6.f1, .int .i64 y.f6.f2, .int .i64 y.f6.f3] 50)); have s0 := (blk_cell BS.out 0).trans rfl; have s1 := (blk_cell BS.out 1).trans rfl; have s2 := (blk_cell BS.out 2).trans rfl; have s3 := (blk_cell BS.out 3).trans rfl; have s4 := (blk_cell BS.out 4).trans rfl; have rdE := rd50_blk BE.out rfl; have rdF := rd50_blk BF.out rfl; have rdY := rd50_blk BY.out rfl; have rdZ := rd50_blk BZ.out rfl; clear hK hb) | (go_at_call 46; refine (HCY.out _ HI.out).mono ?_; rintro e wy ⟨Y6, y6, Y11, y11, rfl, hK, hb⟩; have HI := Lib.hid (below_alloc (below_step HI.out hb) (.cells #[.string y.f0, .bool y.f1, .int .i64 y.f2.f0, .int .i64 y.f2.f1, .int .i64 y.f2.f2, .int .i64 y.f2.f3, .slice Y6 y.f3.length y6, .int .i64 y.f4.f0, .int .i64 y.f4.f1, .int .i64 y.f4.f2, .int .i64 y.f4.f3, .slice Y11 y.f5.length y11, .int .i64 y.f6.f0, .int .i64 y.f6.f1, .int .i64 y.f6.f2, .int .i64 y.f6.f3] 50)); have BS := Lib.hid (blk_alloc (blk_below BS.out hb) (.cells #[.string y.f0, .bool y.f1, .int .i64 y.f2.f0, .int .i64 y.f2.f1, .int .i64 y.f2.f2, .int .i64 y.f2.f3, .slice Y6 y.f3.length y6, .int .i64 y.f4.f0, .int .i64 y.f4.f1, .int .i64 y.f4.f2, .int .i64 y.f4.f3, .slice Y11 y.f5.length y11, .int .i64 y.f6.f0, .int .i64 y.f6.f1, .int .i64 y.f6.f2, .int .i64 y.f6.f3] 50)); have HKE := Lib.hid (k50.K_below (below_alloc hb (.cells #[.string y.f0, .bool y.f1, .int .i64 y.f2.f0, .int .i64 y.f2.f1, .int .i64 y.f2.f2, .int .i64 y.f2.f3, .slice Y6 y.f3.length y6, .int .i64 y.f4.f0, .int .i64 y.f4.f1, .int .i64 y.f4.f2, .int .i64 y.f4.f3, .slice Y11 y.f5.length y11, .int .i64 y.f6.f0, .int .i64 y.f6.f1, .int .i64 y.f6.f2, .int .i64 y.f6.f3] 50)) HKE.out); have BE := Lib.hid (blk_alloc (blk_below BE.out hb) (.cells #[.string y.f0, .bool y.f1, .int .i64 y.f2.f0, .int .i64 y.f2.f1, .int .i64 y.f2.f2, .int .i64 y.f2.f3, .slice Y6 y.f3.length y6, .int .i64 y.f4.f0, .int .i64 y.f4.f1, .int .i64 y.f4.f2, .int .i64 y.f4.f3, .slice Y11 y.f5.length y11, .int .i64 y.f6.f0, .int .i64 y.f6.f1, .int .i64 y.f6.f2, .int .i64 y.f6.f3] 50)); have HKF := Lib.hid (k50.K_below (below_alloc hb (.cells #[.string y.f0, .bool y.f1, .int .i64 y.f2.f0, .int .i64 y.f2.f1, .int .i64 y.f2.f2, .int .i64 y.f2.f3, .slice Y6 y.f3.length y6, .int .i64 y.f4.f0, .int .i64 y.f4.f1, .int .i64 y.f4.f2, .int .i64 y.f4.f3, .slice Y11 y.f5.length y11, .int .i64 y.f6.f0, .int .i64 y.f6.f1, .int .i64 y.f6.f2, .int .i64 y.f6.f3] 50)) HKF.out); have BF := Lib.hid (blk_alloc (blk_below BF.out hb) (.cells #[.string y.f0, .bool y.f1, .int .i64 y.f2.f0, .int .i64 y.f2.f1, .int .i64 y.f2.f2, .int .i64 y.f2.f3, .slice Y6 y.f3.length y6, .int .i64 y.f4.f0, .int .i64 y.f4.f1, .int .i64 y.f4.f2, .int .i64 y.f4.f3, .slice Y11 y.f5.length y11, .int .i64 y.f6.f0, .int .i64 y.f6.f1, .int .i64 y.f6.f2, .int .i64 y.f6.f3] 50)); have HKY := Lib.hid (k50.K_below (below_alloc (Below.refl wy.heap.size wy) (.cells #[.string y.f0, .bool y.f1, .int .i64 y.f2.f0, .int .i64 y.f2.f1, .int .i64 y.f2.f2, .int .i64 y.f2.f3, .slice Y6 y.f3.length y6, .int .i64 y.f4.f0, .int .i64 y.f4.f1, .int .i64 y.f4.f2, .int .i64 y.f4.f3, .slice Y11 y.f5.length y11, .int .i64 y.f6.f0, .int .i64 y.f6.f1, .int .i64 y.f6.f2, .int .i64 y.f6.f3] 50)) hK); have BY := Lib.hid (blk_new wy (.cells #[.string y.f0, .bool y.f1, .int .i64 y.f2.f0, .int .i64 y.f2.f1, .int .i64 y.f2.f2, .int .i64 y.f2.f3, .slice Y6 y.f3.length y6, .int .i64 y.f4.f0, .int .i64 y.f4.f1, .int .i64 y.f4.f2, .int .i64 y.f4.f3, .slice Y11 y.f5.length y11, .int .i64 y.f6.f0, .int .i64 y.f6.f1, .int .i64 y.f6.f2, .int .i64 y.f6.f3] 50)); have s0 := (blk_cell BS.out 0).trans rfl; have s1 := (blk_cell BS.out 1).trans rfl; have s2 := (blk_cell BS.out 2).trans rfl; have s3 := (blk_cell BS.out 3).trans rfl; have s4 := (blk_cell BS.out 4).trans rfl; clear hK hb))
                go_roundg (40 - (i + 1))
                case measure => omega
                case rel => exact ⟨i + 1, h40, Nat.le_refl _, by go_num, HI⟩
              · have hj : i - tl < paths.length := by rcases HIX.out with h | h <;> omega
                obtain ⟨ad9, cc, hA9, _, hK9, hc9⟩ := Kd.C_get (Kd.C_below HEX.out HI.out) ([] : List Int) ((i : Int) - (tl : Int)) (by omega) (by omega)
                obtain ⟨Aj, cj, rfl, hlj, hCj⟩ := hK9
                have h9 := hc9 0 _ rfl
                subst hA9
                simp only [show (Kd.slice 3 (Kd.int .i64)).sz = 1 from rfl, Nat.mul_one, Nat.add_zero] at h9
                have hn9 : ((i : Int) - (tl : Int)).toNat = i - tl := by omega
                rw [hn9] at h9 hlj hCj
                generalize paths.getD (i - tl) [] = lj at h9 hlj hCj
                clear hn9
                obtain ⟨ns, hok, hof⟩ := of_c lj hCj.2.1
                have HOK := Lib.hid hok
                obtain ⟨p, hp⟩ : ∃ p, pth ns = p := ⟨_, rfl⟩
                rw [hp] at hof
                have HPP := Lib.hid hp
                have HOFJ := Lib.hid fun w1 (hb : Below wr.heap.size wr w1) => hof Aj cj w1 (Kd.C_below hCj hb) hlj
                have HRR := Lib.hid (Below.refl wr.heap.size wr)
                have hj2 : (i : Int) - (tl : Int) < (paths.length : Int) := by omega
                have hj3 : 0 ≤ (i : Int) - (tl : Int) := by omega
                clear hc9 hCj hok hof hp
                obtain ⟨x, hx⟩ : ∃ x, (mayR tt a u ns (IntKind.i64.wrap (1 + (k7 : Int)))).1 = x := ⟨_, rfl⟩
                obtain ⟨e1, he1⟩ : ∃ x, (mayR tt a u ns (IntKind.i64.wrap (1 + (k7 : Int)))).2 = x := ⟨_, rfl⟩
                have HMX := Lib.hid (show mayR tt a u ns (IntKind.i64.wrap (1 + (k7 : Int))) = (x, e1) by rw [← hx, ← he1])
                obtain ⟨y, e2, hchg⟩ := chg_two HTV.out a u ns HOK.out
                have HCHG := Lib.hid hchg
                clear hx he1 hchg
                have HMT := Lib.hid fun w1 (hb : Below V2.heap.size V2 w1) => (show Calls Tryd.prog 35 #[.slice (some ad) tl cg, .agg #[.string u, .int .i64 a.f0, .int .i64 a.f1, .int .i64 a.f2, .int .i64 a.f3], .string p, .int .i64 (IntKind.i64.wrap (1 + (k7 : Int)))] w1 fun e w' => ∃ X6 x6 X11 x11, e = .returned (.tuple #[.agg #[.string x.f0, .bool x.f1, .int .i64 x.f2.f0, .int .i64 x.f2.f1, .int .i64 x.f2.f2, .int .i64 x.f2.f3, .slice X6 x.f3.length x6, .int .i64 x.f4.f0, .int .i64 x.f4.f1, .int .i64 x.f4.f2, .int .i64 x.f4.f3, .slice X11 x.f5.length x11, .int .i64 x.f6.f0, .int .i64 x.f6.f1, .int .i64 x.f6.f2, .int .i64 x.f6.f3], .int .i64 e1]) ∧ k50.FK w' (fun k => w1.heap.size ≤ k) x [.string x.f0, .bool x.f1, .int .i64 x.f2.f0, .int .i64 x.f2.f1, .int .i64 x.f2.f2, .int .i64 x.f2.f3, .slice X6 x.f3.length x6, .int .i64 x.f4.f0, .int .i64 x.f4.f1, .int .i64 x.f4.f2, .int .i64 x.f4.f3, .slice X11 x.f5.length x11, .int .i64 x.f6.f0, .int .i64 x.f6.f1, .int .i64 x.f6.f2, .int .i64 x.f6.f3] ∧ Below w1.heap.size w1 w' from by
                  have h := may_c tt u a ns (IntKind.i64.wrap (1 + (k7 : Int))) (some ad) cg w1 (Kd.C_below HCT.out hb) (by have := HTLV.out; omega) (tree_srch HTV.out) (tree_acls HTV.out) HOK.out.1 HOK.out.2
                  rw [HMX.out, HTLV.out, HPP.out] at h
                  refine h.mono ?_
                  rintro e w' ⟨cs, rfl, hK, hB⟩
                  obtain ⟨P6, p6, P11, p11, rfl, _⟩ := k50_open (Foot.now hK)
                  exact ⟨P6, p6, P11, p11, rfl, hK, hB⟩)
                have HML := Lib.hid fun w1 (hb : Below V2.heap.size V2 w1) => (show Calls Tryd.prog 35 #[.slice A2 low.length c2, .agg #[.string u, .int .i64 a.f0, .int .i64 a.f1, .int .i64 a.f2, .int .i64 a.f3], .string p, .int .i64 (IntKind.i64.wrap (1 + (k7 : Int)))] w1 fun e w' => ∃ X6 x6 X11 x11, e = .returned (.tuple #[.agg #[.string x.f0, .bool x.f1, .int .i64 x.f2.f0, .int .i64 x.f2.f1, .int .i64 x.f2.f2, .int .i64 x.f2.f3, .slice X6 x.f3.length x6, .int .i64 x.f4.f0, .int .i64 x.f4.f1, .int .i64 x.f4.f2, .int .i64 x.f4.f3, .slice X11 x.f5.length x11, .int .i64 x.f6.f0, .int .i64 x.f6.f1, .int .i64 x.f6.f2, .int .i64 x.f6.f3], .int .i64 e1]) ∧ k50.FK w' (fun k => w1.heap.size ≤ k) x [.string x.f0, .bool x.f1, .int .i64 x.f2.f0, .int .i64 x.f2.f1, .int .i64 x.f2.f2, .int .i64 x.f2.f3, .slice X6 x.f3.length x6, .int .i64 x.f4.f0, .int .i64 x.f4.f1, .int .i64 x.f4.f2, .int .i64 x.f4.f3, .slice X11 x.f5.length x11, .int .i64 x.f6.f0, .int .i64 x.f6.f1, .int .i64 x.f6.f2, .int .i64 x.f6.f3] ∧ Below w1.heap.size w1 w' from by
                  have h := may_c low u a ns (IntKind.i64.wrap (1 + (k7 : Int))) A2 c2 w1 (Kd.C_below HCL.out hb) hc2 (by rw [HLOW.out]; exact (low_srch HTV.out a).1) (by rw [HLOW.out]; exact (low_srch HTV.out a).2) HOK.out.1 HOK.out.2
                  rw [show mayR low a u ns (IntKind.i64.wrap (1 + (k7 : Int))) = (x, e1) by rw [HLOW.out, low_may HTV.out a u ns HOK.out.1, HMX.out], HPP.out] at h
                  refine h.mono ?_
                  rintro e w' ⟨cs, rfl, hK, hB⟩
                  obtain ⟨P6, p6, P11, p11, rfl, _⟩ := k50_open (Foot.now hK)
                  exact ⟨P6, p6, P11, p11, rfl, hK, hB⟩)
                have HCY := Lib.hid fun w1 (hb : Below V2.heap.size V2 w1) => (show Calls Tryd.prog 46 #[.slice (some ad) tl cg, .agg #[.string u, .int .i64 a.f0, .int .i64 a.f1, .int .i64 a.f2, .int .i64 a.f3], .string p] w1 fun e w' => ∃ Y6 y6 Y11 y11, e = .returned (.tuple #[.agg #[.string y.f0, .bool y.f1, .int .i64 y.f2.f0, .int .i64 y.f2.f1, .int .i64 y.f2.f2, .int .i64 y.f2.f3, .slice Y6 y.f3.length y6, .int .i64 y.f4.f0, .int .i64 y.f4.f1, .int .i64 y.f4.f2, .int .i64 y.f4.f3, .slice Y11 y.f5.length y11, .int .i64 y.f6.f0, .int .i64 y.f6.f1, .int .i64 y.f6.f2, .int .i64 y.f6.f3], .int .i64 e2]) ∧ k50.K w' y [.string y.f0, .bool y.f1, .int .i64 y.f2.f0, .int .i64 y.f2.f1, .int .i64 y.f2.f2, .int .i64 y.f2.f3, .slice Y6 y.f3.length y6, .int .i64 y.f4.f0, .int .i64 y.f4.f1, .int .i64 y.f4.f2, .int .i64 y.f4.f3, .slice Y11 y.f5.length y11, .int .i64 y.f6.f0, .int .i64 y.f6.f1, .int .i64 y.f6.f2, .int .i64 y.f6.f3] ∧ Below w1.heap.size w1 w' from by
                  have h := HCHG.out tt (Or.inl rfl) (some ad) cg w1 (Kd.C_below HCT.out hb) (by have := HTLV.out; omega)
                  rw [HTLV.out, HPP.out] at h
                  refine h.mono ?_
                  rintro e w' ⟨cs, rfl, hK, hB⟩
                  obtain ⟨P6, p6, P11, p11, rfl, _⟩ := k50_open (Foot.now hK)
                  exact ⟨P6, p6, P11, p11, rfl, Foot.now hK, hB⟩)
                have HCZ := Lib.hid fun w1 (hb : Below V2.heap.size V2 w1) => (show Calls Tryd.prog 46 #[.slice A2 low.length c2, .agg #[.string u, .int .i64 a.f0, .int .i64 a.f1, .int .i64 a.f2, .int .i64 a.f3], .string p] w1 fun e w' => ∃ Z6 z6 Z11 z11, e = .returned (.tuple #[.agg #[.string y.f0, .bool y.f1, .int .i64 y.f2.f0, .int .i64 y.f2.f1, .int .i64 y.f2.f2, .int .i64 y.f2.f3, .slice Z6 y.f3.length z6, .int .i64 y.f4.f0, .int .i64 y.f4.f1, .int .i64 y.f4.f2, .int .i64 y.f4.f3, .slice Z11 y.f5.length z11, .int .i64 y.f6.f0, .int .i64 y.f6.f1, .int .i64 y.f6.f2, .int .i64 y.f6.f3], .int .i64 e2]) ∧ k50.K w' y [.string y.f0, .bool y.f1, .int .i64 y.f2.f0, .int .i64 y.f2.f1, .int .i64 y.f2.f2, .int .i64 y.f2.f3, .slice Z6 y.f3.length z6, .int .i64 y.f4.f0, .int .i64 y.f4.f1, .int .i64 y.f4.f2, .int .i64 y.f4.f3, .slice Z11 y.f5.length z11, .int .i64 y.f6.f0, .int .i64 y.f6.f1, .int .i64 y.f6.f2, .int .i64 y.f6.f3] ∧ Below w1.heap.size w1 w' from by
                  have h := HCHG.out low (Or.inr HLOW.out) A2 c2 w1 (Kd.C_below HCL.out hb) hc2
                  rw [HPP.out] at h
                  refine h.mono ?_
                  rintro e w' ⟨cs, rfl, hK, hB⟩
                  obtain ⟨P6, p6, P11, p11, rfl, _⟩ := k50_open (Foot.now hK)
                  exact ⟨P6, p6, P11, p11, rfl, Foot.now hK, hB⟩)
                clear HCHG
                go_wp2_with (go_at_call 25; refine (HOFJ.out _ HRR.out).mono ?_; rintro e w3 ⟨rfl, hb⟩; have HI := Lib.hid (below_step HI.out hb); clear hb)
                refine rb22 (some ad) tl cg g5 p u mode (k7 : Int) a x e1 _ _ _ _ _ _ _ _ _ _ _ _ _ _ _ _ _ _ _ _ _ _ _ _ _ _ _ _ _ _ _ _ _ _ _ _ _ _ _ _ _ _ _ _ _ _ _ _ _ _ _ _ _ _ _ _ _ _ _ _ _ _ _ _ _ _ _ _ _ _ _ _ _ _ _ _ _ _ _ _ _ _ _ _ _ _ _ _ _ _ _ _ _ _ _ _ _ _ _ _ _ _ _ _ _ _ _ _ _ _ _ _ _ _ _ _ _ _ _ _ _ _ _ _ _ _ _ _ _ _ _ _ _ _ _ _ _ _ _ _ _ _ _ _ _ _ _ _ _ _ _ _ _ _ _ _ _ _ _ _ _ _ _ _ _ _ w3 _ (blk_below ES.out HI.out) HW7.out (fun w1 hb => HMT.out w1 (below_step HI.out hb)) ?_
                intro gE E6 E11 ce6 ce11 wE t116 t117 t118 t119 t120 t121 t122 t123 t124 t125 hG hK hb
                have HI := Lib.hid (below_step HI.out hb)
                have HKE := Lib.hid hK
                have BE := Lib.hid hG
                clear hG hK hb
                go_wp2
                refine rb23 A2 low.length c2 g5 p u mode (k7 : Int) a x e1 _ _ _ _ _ _ _ _ _ _ _ _ _ _ _ _ _ _ _ _ _ _ _ _ _ _ _ _ _ _ _ _ _ _ _ _ _ _ _ _ _ _ _ _ _ _ _ _ _ _ _ _ _ _ _ _ _ _ _ _ _ _ _ _ _ _ _ _ _ _ _ _ _ _ _ _ _ _ _ _ _ _ _ _ _ _ _ _ _ _ _ _ _ _ _ _ _ _ _ _ _ _ _ _ _ _ _ _ _ _ _ _ _ _ _ _ _ _ _ _ _ _ _ _ _ _ _ _ _ _ _ _ _ _ _ _ _ _ _ _ _ _ _ _ _ _ _ _ _ _ _ _ _ _ _ _ _ _ _ _ _ _ _ _ _ _ wE _ (blk_below ES.out HI.out) HW7.out (fun w1 hb => HML.out w1 (below_step HI.out hb)) ?_
                intro gF F6 F11 cf6 cf11 wF t126 t127 t128 t129 t130 t131 t132 t133 t134 t135 hG hK hb
                have HI := Lib.hid (below_step HI.out hb)
                have HKE := Lib.hid (k50.K_below hb HKE.out)
                have BE := Lib.hid (blk_below BE.out hb)
                have HKF := Lib.hid hK
                have BF := Lib.hid hG
                have BS := Lib.hid (blk_below ES.out HI.out)
                have s0 := (blk_cell BS.out 0).trans rfl
                have s1 := (blk_cell BS.out 1).trans rfl
                have s2 := (blk_cell BS.out 2).trans rfl
                have s3 := (blk_cell BS.out 3).trans rfl
                have s4 := (blk_cell BS.out 4).trans rfl
                clear hG hK hb
                go_wp2_with (first | (go_at_call 42; have hg := HS1.out; clear hg; refine (same_t y _ _ _ HKY.out HKZ.out).mono ?_; rintro e ws2 ⟨rfl, hb⟩; have HI := Lib.hid (below_step HI.out hb); clear hb) | (go_at_call 42; refine (same_t x _ _ _ HKE.out HKF.out).mono ?_; rintro e ws1 ⟨rfl, hb⟩; have HI := Lib.hid (below_step HI.out hb); have HS1 := HI; have HKY := Lib.hid (k50.K_below hb HKY.out); have HKZ := Lib.hid (k50.K_below hb HKZ.out); have rdY := rd50_blk (blk_below BY.out hb) rfl; have rdZ := rd50_blk (blk_below BZ.out hb) rfl; clear hb) | (go_at_call 46; have hg := HKY.out; clear hg; refine (HCZ.out _ HI.out).mono ?_; rintro e wz ⟨Z6, z6, Z11, z11, rfl, hK, hb⟩; have HI := Lib.hid (below_alloc (below_step HI.out hb) (.cells #[.string y.f0, .bool y.f1, .int .i64 y.f2.f0, .int .i64 y.f2.f1, .int .i64 y.f2.f2, .int .i64 y.f2.f3, .slice Z6 y.f3.length z6, .int .i64 y.f4.f0, .int .i64 y.f4.f1, .int .i64 y.f4.f2, .int .i64 y.f4.f3, .slice Z11 y.f5.length z11, .int .i64 y.f6.f0, .int .i64 y.f6.f1, .int .i64 y.f6.f2, .int .i64 y.f6.f3] 50)); have BS := Lib.hid (blk_alloc (blk_below BS.out hb) (.cells #[.string y.f0, .bool y.f1, .int .i64 y.f2.f0, .int .i64 y.f2.f1, .int .i64 y.f2.f2, .int .i64 y.f2.f3, .slice Z6 y.f3.length z6, .int .i64 y.f4.f0, .int .i64 y.f4.f1, .int .i64 y.f4.f2, .int .i64 y.f4.f3, .slice Z11 y.f5.length z11, .int .i64 y.f6.f0, .int .i64 y.f6.f1, .int .i64 y.f6.f2, .int .i64 y.f6.f3] 50)); have HKE := Lib.hid (k50.K_below (below_alloc hb (.cells #[.string y.f0, .bool y.f1, .int .i64 y.f2.f0, .int .i64 y.f2.f1, .int .i64 y.f2.f2, .int .i64 y.f2.f3, .slice Z6 y.f3.length z6, .int .i64 y.f4.f0, .int .i64 y.f4.f1, .int .i64 y.f4.f2, .int .i64 y.f4.f3, .slice Z11 y.f5.length z11, .int .i64 y.f6.f0, .int .i64 y.f6.f1, .int .i64 y.f6.f2, .int .i64 y.f6.f3] 50)) HKE.out); have BE := Lib.hid (blk_alloc (blk_below BE.out hb) (.cells #[.string y.f0, .bool y.f1, .int .i64 y.f2.f0, .int .i64 y.f2.f1, .int .i64 y.f2.f2, .int .i64 y.f2.f3, .slice Z6 y.f3.length z6, .int .i64 y.f4.f0, .int .i64 y.f4.f1, .int .i64 y.f4.f2, .int .i64 y.f4.f3, .slice Z11 y.f5.length z11, .int .i64 y.f6.f0, .int .i64 y.f6.f1, .int .i64 y.f6.f2, .int .i64 y.f6.f3] 50)); have HKF := Lib.hid (k50.K_below (below_alloc hb (.cells #[.string y.f0, .bool y.f1, .int .i64 y.f2.f0, .int .i64 y.f2.f1, .int .i64 y.f2.f2, .int .i64 y.f2.f3, .slice Z6 y.f3.length z6, .int .i64 y.f4.f0, .int .i64 y.f4.f1, .int .i64 y.f4.f2, .int .i64 y.f4.f3, .slice Z11 y.f5.length z11, .int .i64 y.f6.f0, .int .i64 y.f6.f1, .int .i64 y.f6.f2, .int .i64 y.f6.f3] 50)) HKF.out); have BF := Lib.hid (blk_alloc (blk_below BF.out hb) (.cells #[.string y.f0, .bool y.f1, .int .i64 y.f2.f0, .int .i64 y.f2.f1, .int .i64 y.f2.f2, .int .i64 y.f2.f3, .slice Z6 y.f3.length z6, .int .i64 y.f4.f0, .int .i64 y.f4.f1, .int .i64 y.f4.f2, .int .i64 y.f4.f3, .slice Z11 y.f5.length z11, .int .i64 y.f6.f0, .int .i64 y.f6.f1, .int .i64 y.f6.f2, .int .i64 y.f6.f3] 50)); have HKY := Lib.hid (k50.K_below (below_alloc hb (.cells #[.string y.f0, .bool y.f1, .int .i64 y.f2.f0, .int .i64 y.f2.f1, .int .i64 y.f2.f2, .int .i64 y.f2.f3, .slice Z6 y.f3.length z6, .int .i64 y.f4.f0, .int .i64 y.f4.f1, .int .i64 y.f4.f2, .int .i64 y.f4.f3, .slice Z11 y.f5.length z11, .int .i64 y.f6.f0, .int .i64 y.f6.f1, .int .i64 y.f6.f2, .int .i64 y.f6.f3] 50)) HKY.out); have BY := Lib.hid (blk_alloc (blk_below BY.out hb) (.cells #[.string y.f0, .bool y.f1, .int .i64 y.f2.f0, .int .i64 y.f2.f1, .int .i64 y.f2.f2, .int .i64 y.f2.f3, .slice Z6 y.f3.length z6, .int .i64 y.f4.f0, .int .i64 y.f4.f1, .int .i64 y.f4.f2, .int .i64 y.f4.f3, .slice Z11 y.f5.length z11, .int .i64 y.f6.f0, .int .i64 y.f6.f1, .int .i64 y.f6.f2, .int .i64 y.f6.f3] 50)); have HKZ := Lib.hid (k50.K_below (below_alloc (Below.refl wz.heap.size wz) (.cells #[.string y.f0, .bool y.f1, .int .i64 y.f2.f0, .int .i64 y.f2.f1, .int .i64 y.f2.f2, .int .i64 y.f2.f3, .slice Z6 y.f3.length z6, .int .i64 y.f4.f0, .int .i64 y.f4.f1, .int .i64 y.f4.f2, .int .i64 y.f4.f3, .slice Z11 y.f5.length z11, .int .i64 y.f6.f0, .int .i64 y.f6.f1, .int .i64 y.f6.f2, .int .i64 y.f6.f3] 50)) hK); have BZ := Lib.hid (blk_new wz (.cells #[.string y.f0, .bool y.f1, .int .i64 y.f2.f0, .int .i64 y.f2.f1, .int .i64 y.f2.f2, .int .i64 y.f2.f3, .slice Z6 y.f3.length z6, .int .i64 y.f4.f0, .int .i64 y.f4.f1, .int .i64 y.f4.f2, .int .i64 y.f4.f3, .slice Z11 y.f5.length z11, .int .i64 y.f6.f0, .int .i64 y.f6.f1, .int .i64 y.f6.f2, .int .i64 y.f6.f3] 50)); have s0 := (blk_cell BS.out 0).trans rfl; have s1 := (blk_cell BS.out 1).trans rfl; have s2 := (blk_cell BS.out 2).trans rfl; have s3 := (blk_cell BS.out 3).trans rfl; have s4 := (blk_cell BS.out 4).trans rfl; have rdE := rd50_blk BE.out rfl; have rdF := rd50_blk BF.out rfl; have rdY := rd50_blk BY.out rfl; have rdZ := rd50_blk BZ.out rfl; clear hK hb) | (go_at_call 46; refine (HCY.out _ HI.out).mono ?_; rintro e wy ⟨Y6, y6, Y11, y11, rfl, hK, hb⟩; have HI := Lib.hid (below_alloc (below_step HI.out hb) (.cells #[.string y.f0, .bool y.f1, .int .i64 y.f2.f0, .int .i64 y.f2.f1, .int .i64 y.f2.f2, .int .i64 y.f2.f3, .slice Y6 y.f3.length y6, .int .i64 y.f4.f0, .int .i64 y.f4.f1, .int .i64 y.f4.f2, .int .i64 y.f4.f3, .slice Y11 y.f5.length y11, .int .i64 y.f6.f0, .int .i64 y.f6.f1, .int .i64 y.f6.f2, .int .i64 y.f6.f3] 50)); have BS := Lib.hid (blk_alloc (blk_below BS.out hb) (.cells #[.string y.f0, .bool y.f1, .int .i64 y.f2.f0, .int .i64 y.f2.f1, .int .i64 y.f2.f2, .int .i64 y.f2.f3, .slice Y6 y.f3.length y6, .int .i64 y.f4.f0, .int .i64 y.f4.f1, .int .i64 y.f4.f2, .int .i64 y.f4.f3, .slice Y11 y.f5.length y11, .int .i64 y.f6.f0, .int .i64 y.f6.f1, .int .i64 y.f6.f2, .int .i64 y.f6.f3] 50)); have HKE := Lib.hid (k50.K_below (below_alloc hb (.cells #[.string y.f0, .bool y.f1, .int .i64 y.f2.f0, .int .i64 y.f2.f1, .int .i64 y.f2.f2, .int .i64 y.f2.f3, .slice Y6 y.f3.length y6, .int .i64 y.f4.f0, .int .i64 y.f4.f1, .int .i64 y.f4.f2, .int .i64 y.f4.f3, .slice Y11 y.f5.length y11, .int .i64 y.f6.f0, .int .i64 y.f6.f1, .int .i64 y.f6.f2, .int .i64 y.f6.f3] 50)) HKE.out); have BE := Lib.hid (blk_alloc (blk_below BE.out hb) (.cells #[.string y.f0, .bool y.f1, .int .i64 y.f2.f0, .int .i64 y.f2.f1, .int .i64 y.f2.f2, .int .i64 y.f2.f3, .slice Y6 y.f3.length y6, .int .i64 y.f4.f0, .int .i64 y.f4.f1, .int .i64 y.f4.f2, .int .i64 y.f4.f3, .slice Y11 y.f5.length y11, .int .i64 y.f6.f0, .int .i64 y.f6.f1, .int .i64 y.f6.f2, .int .i64 y.f6.f3] 50)); have HKF := Lib.hid (k50.K_below (below_alloc hb (.cells #[.string y.f0, .bool y.f1, .int .i64 y.f2.f0, .int .i64 y.f2.f1, .int .i64 y.f2.f2, .int .i64 y.f2.f3, .slice Y6 y.f3.length y6, .int .i64 y.f4.f0, .int .i64 y.f4.f1, .int .i64 y.f4.f2, .int .i64 y.f4.f3, .slice Y11 y.f5.length y11, .int .i64 y.f6.f0, .int .i64 y.f6.f1, .int .i64 y.f6.f2, .int .i64 y.f6.f3] 50)) HKF.out); have BF := Lib.hid (blk_alloc (blk_below BF.out hb) (.cells #[.string y.f0, .bool y.f1, .int .i64 y.f2.f0, .int .i64 y.f2.f1, .int .i64 y.f2.f2, .int .i64 y.f2.f3, .slice Y6 y.f3.length y6, .int .i64 y.f4.f0, .int .i64 y.f4.f1, .int .i64 y.f4.f2, .int .i64 y.f4.f3, .slice Y11 y.f5.length y11, .int .i64 y.f6.f0, .int .i64 y.f6.f1, .int .i64 y.f6.f2, .int .i64 y.f6.f3] 50)); have HKY := Lib.hid (k50.K_below (below_alloc (Below.refl wy.heap.size wy) (.cells #[.string y.f0, .bool y.f1, .int .i64 y.f2.f0, .int .i64 y.f2.f1, .int .i64 y.f2.f2, .int .i64 y.f2.f3, .slice Y6 y.f3.length y6, .int .i64 y.f4.f0, .int .i64 y.f4.f1, .int .i64 y.f4.f2, .int .i64 y.f4.f3, .slice Y11 y.f5.length y11, .int .i64 y.f6.f0, .int .i64 y.f6.f1, .int .i64 y.f6.f2, .int .i64 y.f6.f3] 50)) hK); have BY := Lib.hid (blk_new wy (.cells #[.string y.f0, .bool y.f1, .int .i64 y.f2.f0, .int .i64 y.f2.f1, .int .i64 y.f2.f2, .int .i64 y.f2.f3, .slice Y6 y.f3.length y6, .int .i64 y.f4.f0, .int .i64 y.f4.f1, .int .i64 y.f4.f2, .int .i64 y.f4.f3, .slice Y11 y.f5.length y11, .int .i64 y.f6.f0, .int .i64 y.f6.f1, .int .i64 y.f6.f2, .int .i64 y.f6.f3] 50)); have s0 := (blk_cell BS.out 0).trans rfl; have s1 := (blk_cell BS.out 1).trans rfl; have s2 := (blk_cell BS.out 2).trans rfl; have s3 := (blk_cell BS.out 3).trans rfl; have s4 := (blk_cell BS.out 4).trans rfl; clear hK hb))
                go_roundg (40 - (i + 1))
                case measure => omega
                case rel => exact ⟨i + 1, h40, Nat.le_refl _, by go_num, HI⟩
            · go_wp2
              go_ret
              exact ⟨rfl, below_step HBX.out HI.out⟩
          · go_wp2
            go_ret
            exact ⟨rfl, below_step HBX.out HI.out⟩
  | false =>
    go_enter Tryd.func13, Tryd.ntmps13
    go_wp2_with (first | (go_at_call 33; refine (good_c at0 _).mono ?_; rintro e w4 ⟨a, rfl, hq, hb⟩; have HQ := Lib.hid hq; have HX4 := Lib.hid hb; have EB4 := Lib.hid (blk_below EB2.out hb); have hst := wr41_blk (cs := #[.int .i64 a.f0, .int .i64 a.f1, .int .i64 a.f2, .int .i64 a.f3]) EB4.out rfl rfl (by simp [Value.oneCell']); obtain ⟨tt, hl, hC5, hT5, _⟩ := tree_turn (r := a) EB4.out (Kd.C_below HC2.out HX4.out) HT2.out; have HC5 := Lib.hid hC5; have HT5 := Lib.hid hT5; have HTL5 := Lib.hid (hl.trans HTL.out); have EB5 := Lib.hid (setRow_heap _ _ _ #[.int .i64 a.f0, .int .i64 a.f1, .int .i64 a.f2, .int .i64 a.f3] _ _ EB4.out); have HB5 := Lib.hid (below_setRow (below_step HB2.out HX4.out) (Nat.le_refl _) #[.int .i64 a.f0, .int .i64 a.f1, .int .i64 a.f2, .int .i64 a.f3]); clear hb hl hC5 hT5 hq) | (go_at_call 32; refine (HG.out _ HB1.out).mono ?_; rintro e w2 ⟨Ag, t0, cg, rfl, hT, hcg, hCt, hb⟩; obtain ⟨ad, rfl, _⟩ := hCt.2.2 (tree_ne hT); obtain ⟨tl, htl⟩ : ∃ n, t0.length = n := ⟨_, rfl⟩; have HT2 := Lib.hid hT; have HC2 := Lib.hid hCt; have HB2 := Lib.hid (below_step HB1.out hb); have EB2 := Lib.hid (blk_below EB1.out hb); have htl0 : 0 < tl := (by have := tree_ne hT; omega); have htl1 : tl ≤ 1000 := (by have := hT.len; omega); have hcl : tl ≤ cg := (by omega); have s0b := (blk_cell EB2.out 0).trans rfl; have s1b := (blk_cell EB2.out 1).trans rfl; have s2b := (blk_cell EB2.out 2).trans rfl; have s3b := (blk_cell EB2.out 3).trans rfl; rw [htl]; have HTL := Lib.hid htl; clear hT hCt hb hcg htl) | (go_at_call 31; refine (known13_c _).mono ?_; rintro e w1 ⟨rfl, hb⟩; have HB1 := Lib.hid (below_step HB0.out hb); have EB1 := Lib.hid (blk_below EB0.out hb); clear hb))
    have HCV := HC5
    have HTV := HT5
    have HTLV := HTL5
    have EAV := EB5
    have HLA := HQ
    have hbv := HB5.out
    clear hst HC5 HT5 HTL5 EB5 HQ HB5 EB4 HX4 s0b s1b s2b s3b EB2 HB2 HC2 HT2 HTL EB1 HB1 EB0 HB0 HG hev
    generalize w4.setRow w.heap.size #[.int .i64 a.f0, .int .i64 a.f1, .int .i64 a.f2, .int .i64 a.f3] = V at HCV EAV hbv ⊢
    have HBV := Lib.hid hbv
    clear hbv
    go_loopg [16, 17] tl (fun k s16 s17 wr => ∃ i : Nat, i ≤ tl ∧ tl - i ≤ k ∧ s17 = .int .i64 i ∧ Hid (OwnN V V.heap.size wr s16 ((tt.take i).filter (lowB tt a))) ∧ Hid (Below V.heap.size V wr))
    case atStart => exact ⟨0, Nat.zero_le _, Nat.le_refl _, rfl, Lib.hid (OwnRow.none_ _ _ _ _ _), Lib.hid (Below.refl _ _)⟩
    case round =>
      obtain ⟨i, hi, hik, rfl, HO, HV⟩ := hrel
      by_cases hlt : i < tl
      · obtain ⟨W0, hW⟩ : ∃ W, W = wr := ⟨_, rfl⟩
        subst hW
        have hit : i < tt.length := by have := HTLV.out; omega
        obtain ⟨ad2, A6, c6, A11, c11, hA2, hcs, HK⟩ := at50 HCV.out HV.out i hit
        obtain rfl := Option.some.inj hA2
        have HCS := Lib.hid hcs
        have h0 := hcs.1
        have HM := Lib.hid (List.getElem_mem (l := tt) (n := i) hit)
        have HFT := Lib.hid (show lowB tt a (tt[i]'hit) = true → (tt.take (i + 1)).filter (lowB tt a) = (tt.take i).filter (lowB tt a) ++ [tt[i]'hit] by intro h; rw [List.take_succ_eq_append_getElem hit, List.filter_append]; simp [h])
        have HFF := Lib.hid (show lowB tt a (tt[i]'hit) = false → (tt.take (i + 1)).filter (lowB tt a) = (tt.take i).filter (lowB tt a) by intro h; rw [List.take_succ_eq_append_getElem hit, List.filter_append]; simp [h])
        have HLen := Lib.hid (show ((tt.take i).filter (lowB tt a)).length ≤ 1000 from Nat.le_trans (List.length_filter_le _ _) (by rw [List.length_take]; omega))
        clear hcs hA2
        generalize (tt[i]'hit) = n at h0 HCS HM HFT HFF HK
        have HJ := Lib.hid (Below.refl W0.heap.size W0)
        have HI := HV
        have HPR := Lib.hid fun w1 => donjonref7_Parent.calls 2000 n.f0 (parS n.f0) w1 (parent_any HTV.out HM.out)
        obtain ⟨b, hbq⟩ : ∃ b, isN tt (parS n.f0) = b := ⟨_, rfl⟩
        obtain ⟨dn, hdn⟩ : ∃ d, nodeN tt (parS n.f0) = d := ⟨_, rfl⟩
        have hlow : lowB tt a n = (!b || lover a dn.f2) := by unfold lowB; rw [hbq, hdn]
        have HBQ := Lib.hid hbq
        have HDN := Lib.hid hdn
        have HLL := Lib.hid hlow
        clear hbq hdn hlow
        have HFD := Lib.hid fun w1 (hb : Below V.heap.size V w1) => (show Calls Tryd.prog 40 #[.slice (some ad) tl cg, .string (parS n.f0)] w1 fun e w' => ∃ D6 d6 D11 d11, e = .returned (.tuple #[.agg #[.string dn.f0, .bool dn.f1, .int .i64 dn.f2.f0, .int .i64 dn.f2.f1, .int .i64 dn.f2.f2, .int .i64 dn.f2.f3, .slice D6 dn.f3.length d6, .int .i64 dn.f4.f0, .int .i64 dn.f4.f1, .int .i64 dn.f4.f2, .int .i64 dn.f4.f3, .slice D11 dn.f5.length d11, .int .i64 dn.f6.f0, .int .i64 dn.f6.f1, .int .i64 dn.f6.f2, .int .i64 dn.f6.f3], .bool b]) ∧ Below w1.heap.size w1 w' from by
          have h := find_t HTV.out (parS n.f0) (some ad) cg w1 (Kd.C_below HCV.out hb) (by have := HTLV.out; omega) dn b HDN.out HBQ.out
          rw [HTLV.out] at h
          exact h)
        cases b with
        | false =>
          have HLW := Lib.hid (show lowB tt a n = true by rw [HLL.out]; rfl)
          go_wp2_with (first | (at_builtin; go_loud (refine OwnRow.append V.heap.size rfl _ _ 42 50 (.agg #[.string (⟨#[]⟩ : ByteArray), .bool false, .int .i64 0, .int .i64 0, .int .i64 0, .int .i64 0, .slice none 0 0, .int .i64 0, .int .i64 0, .int .i64 0, .int .i64 0, .slice none 0 0, .int .i64 0, .int .i64 0, .int .i64 0, .int .i64 0]) 16 168 rfl Tryd.underlying42 inf50 rfl (by decide) (by decide) u16 ((tt.take i).filter (lowB tt a)) n [.string n.f0, .bool n.f1, .int .i64 n.f2.f0, .int .i64 n.f2.f1, .int .i64 n.f2.f2, .int .i64 n.f2.f3, .slice A6 n.f3.length c6, .int .i64 n.f4.f0, .int .i64 n.f4.f1, .int .i64 n.f4.f2, .int .i64 n.f4.f3, .slice A11 n.f5.length c11, .int .i64 n.f6.f0, .int .i64 n.f6.f1, .int .i64 n.f6.f2, .int .i64 n.f6.f3] rfl (by first | rfl | (rw [World.size_alloc]; rfl)) HK.out rfl (by simp [Value.oneCell']) (OwnRow.below HO.out HJ.out) HI.out (below_size HI.out) (by have := HLen.out; omega) ?_; intro v1 w1 hO hB hg hat; have HO1 := Lib.hid hO; have HB1 := Lib.hid hB; clear hO hB hg hat)) | (go_at_call 40; refine (HFD.out _ HI.out).mono ?_; rintro e w9 ⟨D6, d6, D11, d11, rfl, hb⟩; have HJ := Lib.hid (below_alloc (below_step HJ.out hb) (.cells #[.string dn.f0, .bool dn.f1, .int .i64 dn.f2.f0, .int .i64 dn.f2.f1, .int .i64 dn.f2.f2, .int .i64 dn.f2.f3, .slice D6 dn.f3.length d6, .int .i64 dn.f4.f0, .int .i64 dn.f4.f1, .int .i64 dn.f4.f2, .int .i64 dn.f4.f3, .slice D11 dn.f5.length d11, .int .i64 dn.f6.f0, .int .i64 dn.f6.f1, .int .i64 dn.f6.f2, .int .i64 dn.f6.f3] 50)); have HI := Lib.hid (below_alloc (below_step HI.out hb) (.cells #[.string dn.f0, .bool dn.f1, .int .i64 dn.f2.f0, .int .i64 dn.f2.f1, .int .i64 dn.f2.f2, .int .i64 dn.f2.f3, .slice D6 dn.f3.length d6, .int .i64 dn.f4.f0, .int .i64 dn.f4.f1, .int .i64 dn.f4.f2, .int .i64 dn.f4.f3, .slice D11 dn.f5.length d11, .int .i64 dn.f6.f0, .int .i64 dn.f6.f1, .int .i64 dn.f6.f2, .int .i64 dn.f6.f3] 50)); have ED := Lib.hid (blk_new w9 (.cells #[.string dn.f0, .bool dn.f1, .int .i64 dn.f2.f0, .int .i64 dn.f2.f1, .int .i64 dn.f2.f2, .int .i64 dn.f2.f3, .slice D6 dn.f3.length d6, .int .i64 dn.f4.f0, .int .i64 dn.f4.f1, .int .i64 dn.f4.f2, .int .i64 dn.f4.f3, .slice D11 dn.f5.length d11, .int .i64 dn.f6.f0, .int .i64 dn.f6.f1, .int .i64 dn.f6.f2, .int .i64 dn.f6.f3] 50)); have hld := rd50_of (loadC50 (P := Tryd.prog) (c16_below HJ.out HCS.out)); clear hb) | (go_at_call 39; refine (HPR.out _).mono ?_; rintro e w8 ⟨rfl, hb⟩; have hb2 := hb.below; have HJ := Lib.hid (below_step HJ.out hb2); have HI := Lib.hid (below_step HI.out hb2); clear hb hb2))
          go_roundg (tl - (i + 1))
          case measure => omega
          case rel => exact ⟨i + 1, hlt, Nat.le_refl _, by go_num, Lib.hid (by rw [HFT.out HLW.out]; exact HO1.out), HB1⟩
        | true =>
          have HOV0 := fun w1 : World => donjonref4_Over.calls a.f0 a.f1 a.f2 a.f3 dn.f2.f0 dn.f2.f1 dn.f2.f2 dn.f2.f3 (lover a dn.f2) w1 (rover_iff HLA.out (HTV.out.ok dn (by rw [← HDN.out]; exact nodeN_mem HBQ.out)).1)
          cases hl : lover a dn.f2 with
          | true =>
            have HLW := Lib.hid (show lowB tt a n = true by rw [HLL.out, hl]; rfl)
            rw [hl] at HOV0
            have HOV := Lib.hid HOV0
            clear HOV0 hl
            go_wp2_with (first | (at_builtin; go_loud (refine OwnRow.append V.heap.size rfl _ _ 42 50 (.agg #[.string (⟨#[]⟩ : ByteArray), .bool false, .int .i64 0, .int .i64 0, .int .i64 0, .int .i64 0, .slice none 0 0, .int .i64 0, .int .i64 0, .int .i64 0, .int .i64 0, .slice none 0 0, .int .i64 0, .int .i64 0, .int .i64 0, .int .i64 0]) 16 168 rfl Tryd.underlying42 inf50 rfl (by decide) (by decide) u16 ((tt.take i).filter (lowB tt a)) n [.string n.f0, .bool n.f1, .int .i64 n.f2.f0, .int .i64 n.f2.f1, .int .i64 n.f2.f2, .int .i64 n.f2.f3, .slice A6 n.f3.length c6, .int .i64 n.f4.f0, .int .i64 n.f4.f1, .int .i64 n.f4.f2, .int .i64 n.f4.f3, .slice A11 n.f5.length c11, .int .i64 n.f6.f0, .int .i64 n.f6.f1, .int .i64 n.f6.f2, .int .i64 n.f6.f3] rfl (by first | rfl | (rw [World.size_alloc]; rfl)) HK.out rfl (by simp [Value.oneCell']) (OwnRow.below HO.out HJ.out) HI.out (below_size HI.out) (by have := HLen.out; omega) ?_; intro v1 w1 hO hB hg hat; have HO1 := Lib.hid hO; have HB1 := Lib.hid hB; clear hO hB hg hat)) | (go_at_call 37; refine (HOV.out _).mono ?_; rintro e w10 ⟨rfl, hb⟩; have HJ := Lib.hid (below_step HJ.out hb); have HI := Lib.hid (below_step HI.out hb); have hld := rd50_of (loadC50 (P := Tryd.prog) (c16_below HJ.out HCS.out)); clear hb) | (go_at_call 40; refine (HFD.out _ HI.out).mono ?_; rintro e w9 ⟨D6, d6, D11, d11, rfl, hb⟩; have HJ := Lib.hid (below_alloc (below_step HJ.out hb) (.cells #[.string dn.f0, .bool dn.f1, .int .i64 dn.f2.f0, .int .i64 dn.f2.f1, .int .i64 dn.f2.f2, .int .i64 dn.f2.f3, .slice D6 dn.f3.length d6, .int .i64 dn.f4.f0, .int .i64 dn.f4.f1, .int .i64 dn.f4.f2, .int .i64 dn.f4.f3, .slice D11 dn.f5.length d11, .int .i64 dn.f6.f0, .int .i64 dn.f6.f1, .int .i64 dn.f6.f2, .int .i64 dn.f6.f3] 50)); have HI := Lib.hid (below_alloc (below_step HI.out hb) (.cells #[.string dn.f0, .bool dn.f1, .int .i64 dn.f2.f0, .int .i64 dn.f2.f1, .int .i64 dn.f2.f2, .int .i64 dn.f2.f3, .slice D6 dn.f3.length d6, .int .i64 dn.f4.f0, .int .i64 dn.f4.f1, .int .i64 dn.f4.f2, .int .i64 dn.f4.f3, .slice D11 dn.f5.length d11, .int .i64 dn.f6.f0, .int .i64 dn.f6.f1, .int .i64 dn.f6.f2, .int .i64 dn.f6.f3] 50)); have ED := Lib.hid (blk_new w9 (.cells #[.string dn.f0, .bool dn.f1, .int .i64 dn.f2.f0, .int .i64 dn.f2.f1, .int .i64 dn.f2.f2, .int .i64 dn.f2.f3, .slice D6 dn.f3.length d6, .int .i64 dn.f4.f0, .int .i64 dn.f4.f1, .int .i64 dn.f4.f2, .int .i64 dn.f4.f3, .slice D11 dn.f5.length d11, .int .i64 dn.f6.f0, .int .i64 dn.f6.f1, .int .i64 dn.f6.f2, .int .i64 dn.f6.f3] 50)); have d2 := (blk_cell ED.out 2).trans rfl; have d3 := (blk_cell ED.out 3).trans rfl; have d4 := (blk_cell ED.out 4).trans rfl; have d5 := (blk_cell ED.out 5).trans rfl; have q0 := (blk_cell (blk_below EAV.out HI.out) 0).trans rfl; have q1 := (blk_cell (blk_below EAV.out HI.out) 1).trans rfl; have q2 := (blk_cell (blk_below EAV.out HI.out) 2).trans rfl; have q3 := (blk_cell (blk_below EAV.out HI.out) 3).trans rfl; clear hb) | (go_at_call 39; refine (HPR.out _).mono ?_; rintro e w8 ⟨rfl, hb⟩; have hb2 := hb.below; have HJ := Lib.hid (below_step HJ.out hb2); have HI := Lib.hid (below_step HI.out hb2); clear hb hb2))
            go_roundg (tl - (i + 1))
            case measure => omega
            case rel => exact ⟨i + 1, hlt, Nat.le_refl _, by go_num, Lib.hid (by rw [HFT.out HLW.out]; exact HO1.out), HB1⟩
          | false =>
            have HLW := Lib.hid (show lowB tt a n = false by rw [HLL.out, hl]; rfl)
            rw [hl] at HOV0
            have HOV := Lib.hid HOV0
            clear HOV0 hl
            go_wp2_with (first | (go_at_call 37; refine (HOV.out _).mono ?_; rintro e w10 ⟨rfl, hb⟩; have HJ := Lib.hid (below_step HJ.out hb); have HI := Lib.hid (below_step HI.out hb); have HO1 := Lib.hid (OwnRow.below HO.out HJ.out); have HB1 := HI; clear hb) | (go_at_call 40; refine (HFD.out _ HI.out).mono ?_; rintro e w9 ⟨D6, d6, D11, d11, rfl, hb⟩; have HJ := Lib.hid (below_alloc (below_step HJ.out hb) (.cells #[.string dn.f0, .bool dn.f1, .int .i64 dn.f2.f0, .int .i64 dn.f2.f1, .int .i64 dn.f2.f2, .int .i64 dn.f2.f3, .slice D6 dn.f3.length d6, .int .i64 dn.f4.f0, .int .i64 dn.f4.f1, .int .i64 dn.f4.f2, .int .i64 dn.f4.f3, .slice D11 dn.f5.length d11, .int .i64 dn.f6.f0, .int .i64 dn.f6.f1, .int .i64 dn.f6.f2, .int .i64 dn.f6.f3] 50)); have HI := Lib.hid (below_alloc (below_step HI.out hb) (.cells #[.string dn.f0, .bool dn.f1, .int .i64 dn.f2.f0, .int .i64 dn.f2.f1, .int .i64 dn.f2.f2, .int .i64 dn.f2.f3, .slice D6 dn.f3.length d6, .int .i64 dn.f4.f0, .int .i64 dn.f4.f1, .int .i64 dn.f4.f2, .int .i64 dn.f4.f3, .slice D11 dn.f5.length d11, .int .i64 dn.f6.f0, .int .i64 dn.f6.f1, .int .i64 dn.f6.f2, .int .i64 dn.f6.f3] 50)); have ED := Lib.hid (blk_new w9 (.cells #[.string dn.f0, .bool dn.f1, .int .i64 dn.f2.f0, .int .i64 dn.f2.f1, .int .i64 dn.f2.f2, .int .i64 dn.f2.f3, .slice D6 dn.f3.length d6, .int .i64 dn.f4.f0, .int .i64 dn.f4.f1, .int .i64 dn.f4.f2, .int .i64 dn.f4.f3, .slice D11 dn.f5.length d11, .int .i64 dn.f6.f0, .int .i64 dn.f6.f1, .int .i64 dn.f6.f2, .int .i64 dn.f6.f3] 50)); have d2 := (blk_cell ED.out 2).trans rfl; have d3 := (blk_cell ED.out 3).trans rfl; have d4 := (blk_cell ED.out 4).trans rfl; have d5 := (blk_cell ED.out 5).trans rfl; have q0 := (blk_cell (blk_below EAV.out HI.out) 0).trans rfl; have q1 := (blk_cell (blk_below EAV.out HI.out) 1).trans rfl; have q2 := (blk_cell (blk_below EAV.out HI.out) 2).trans rfl; have q3 := (blk_cell (blk_below EAV.out HI.out) 3).trans rfl; clear hb) | (go_at_call 39; refine (HPR.out _).mono ?_; rintro e w8 ⟨rfl, hb⟩; have hb2 := hb.below; have HJ := Lib.hid (below_step HJ.out hb2); have HI := Lib.hid (below_step HI.out hb2); clear hb hb2))
            go_roundg (tl - (i + 1))
            case measure => omega
            case rel => exact ⟨i + 1, hlt, Nat.le_refl _, by go_num, Lib.hid (by rw [HFF.out HLW.out]; exact HO1.out), HB1⟩
      · have hin : tl = i := by omega
        have hO := HO.out
        rw [← hin, ← HTLV.out, List.take_length] at hO
        obtain ⟨A2, c2, rfl, hc2, hR⟩ := OwnRow.reads hO
        have hCL := C50_of hR HV.out
        obtain ⟨low, hlow⟩ : ∃ l, l = tt.filter (lowB tt a) := ⟨_, rfl⟩
        rw [← hlow] at hCL hc2 ⊢
        have HLOW := Lib.hid hlow
        have HCL0 := Lib.hid hCL
        obtain ⟨W0, hW⟩ : ∃ W, W = wr := ⟨_, rfl⟩
        subst hW
        have EA0 := Lib.hid (blk_below EAV.out HV.out)
        clear hO hR hCL hlow HO
        subst hin
        go_wp2
        refine rb14 who w.heap.size u a _ _ _ _ _ _ _ _ _ _ _ _ _ _ _ _ _ _ _ _ _ _ _ _ _ _ _ _ _ _ _ _ _ _ _ _ _ _ _ _ _ _ _ _ _ _ _ _ _ _ _ _ _ _ _ _ _ _ _ _ _ _ _ _ _ _ _ _ _ _ _ _ _ _ _ _ _ _ _ _ _ _ _ _ _ _ _ _ _ _ _ _ _ _ _ _ _ _ _ _ _ _ _ _ _ _ _ _ _ _ _ _ _ _ _ _ _ _ _ _ _ _ _ _ _ _ _ _ _ _ _ _ _ _ _ _ _ _ _ _ _ _ _ _ _ _ _ _ _ _ _ _ _ _ _ _ _ _ _ _ _ _ _ _ _ _ _ _ W0 _ EA0.out HU.out ?_
        intro g5 V2 t82 t83 t84 t85 hG hb
        have ES := Lib.hid hG
        have HCL := Lib.hid (Kd.C_below HCL0.out hb)
        have HCT := Lib.hid (Kd.C_below HCV.out (below_step HV.out hb))
        have HBX := Lib.hid (below_step HBV.out (below_step HV.out hb))
        have HEX := Lib.hid (Kd.C_below HEP.out HBX.out)
        clear hG hb HCL0 HV EA0
        go_wp2
        go_loopg [21] 40 (fun k s21 wr => ∃ i : Nat, i ≤ 40 ∧ 40 - i ≤ k ∧ s21 = .int .i64 i ∧ Hid (Below V2.heap.size V2 wr))
        case atStart => exact ⟨0, Nat.zero_le _, Nat.le_refl _, rfl, Lib.hid (Below.refl _ _)⟩
        case round =>
          obtain ⟨i, hi4, hik4, rfl, HI⟩ := hrel
          by_cases hcd : (i : Int) < wrap64 ((tl : Int) + (paths.length : Int))
          · have HIX := Lib.hid (show i < tl ∨ i - tl < paths.length by have h := HPL.out; unfold wrap64 at hcd; omega)
            by_cases h40 : i < 40
            · by_cases hit : i < tl
              · have hitt : i < tt.length := by have := HTLV.out; omega
                obtain ⟨ad2, A6, c6, A11, c11, hA2, hcs, _⟩ := at50 HCT.out HI.out i hitt
                obtain rfl := Option.some.inj hA2
                have h0 := hcs.1
                obtain ⟨ns, hok, hp⟩ := tree_path HTV.out (List.getElem_mem (l := tt) (n := i) hitt)
                have HOK := Lib.hid hok
                clear hcs hA2 hok
                generalize (tt[i]'hitt).f0 = p at h0 hp
                have HPP := Lib.hid hp.symm
                clear hp
                obtain ⟨x, hx⟩ : ∃ x, (mayR tt a u ns (IntKind.i64.wrap (1 + (k7 : Int)))).1 = x := ⟨_, rfl⟩
                obtain ⟨e1, he1⟩ : ∃ x, (mayR tt a u ns (IntKind.i64.wrap (1 + (k7 : Int)))).2 = x := ⟨_, rfl⟩
                have HMX := Lib.hid (show mayR tt a u ns (IntKind.i64.wrap (1 + (k7 : Int))) = (x, e1) by rw [← hx, ← he1])
                obtain ⟨y, e2, hchg⟩ := chg_two HTV.out a u ns HOK.out
                have HCHG := Lib.hid hchg
                clear hx he1 hchg
                have HMT := Lib.hid fun w1 (hb : Below V2.heap.size V2 w1) => (show Calls Tryd.prog 35 #[.slice (some ad) tl cg, .agg #[.string u, .int .i64 a.f0, .int .i64 a.f1, .int .i64 a.f2, .int .i64 a.f3], .string p, .int .i64 (IntKind.i64.wrap (1 + (k7 : Int)))] w1 fun e w' => ∃ X6 x6 X11 x11, e = .returned (.tuple #[.agg #[.string x.f0, .bool x.f1, .int .i64 x.f2.f0, .int .i64 x.f2.f1, .int .i64 x.f2.f2, .int .i64 x.f2.f3, .slice X6 x.f3.length x6, .int .i64 x.f4.f0, .int .i64 x.f4.f1, .int .i64 x.f4.f2, .int .i64 x.f4.f3, .slice X11 x.f5.length x11, .int .i64 x.f6.f0, .int .i64 x.f6.f1, .int .i64 x.f6.f2, .int .i64 x.f6.f3], .int .i64 e1]) ∧ k50.FK w' (fun k => w1.heap.size ≤ k) x [.string x.f0, .bool x.f1, .int .i64 x.f2.f0, .int .i64 x.f2.f1, .int .i64 x.f2.f2, .int .i64 x.f2.f3, .slice X6 x.f3.length x6, .int .i64 x.f4.f0, .int .i64 x.f4.f1, .int .i64 x.f4.f2, .int .i64 x.f4.f3, .slice X11 x.f5.length x11, .int .i64 x.f6.f0, .int .i64 x.f6.f1, .int .i64 x.f6.f2, .int .i64 x.f6.f3] ∧ Below w1.heap.size w1 w' from by
                  have h := may_c tt u a ns (IntKind.i64.wrap (1 + (k7 : Int))) (some ad) cg w1 (Kd.C_below HCT.out hb) (by have := HTLV.out; omega) (tree_srch HTV.out) (tree_acls HTV.out) HOK.out.1 HOK.out.2
                  rw [HMX.out, HTLV.out, HPP.out] at h
                  refine h.mono ?_
                  rintro e w' ⟨cs, rfl, hK, hB⟩
                  obtain ⟨P6, p6, P11, p11, rfl, _⟩ := k50_open (Foot.now hK)
                  exact ⟨P6, p6, P11, p11, rfl, hK, hB⟩)
                have HML := Lib.hid fun w1 (hb : Below V2.heap.size V2 w1) => (show Calls Tryd.prog 35 #[.slice A2 low.length c2, .agg #[.string u, .int .i64 a.f0, .int .i64 a.f1, .int .i64 a.f2, .int .i64 a.f3], .string p, .int .i64 (IntKind.i64.wrap (1 + (k7 : Int)))] w1 fun e w' => ∃ X6 x6 X11 x11, e = .returned (.tuple #[.agg #[.string x.f0, .bool x.f1, .int .i64 x.f2.f0, .int .i64 x.f2.f1, .int .i64 x.f2.f2, .int .i64 x.f2.f3, .slice X6 x.f3.length x6, .int .i64 x.f4.f0, .int .i64 x.f4.f1, .int .i64 x.f4.f2, .int .i64 x.f4.f3, .slice X11 x.f5.length x11, .int .i64 x.f6.f0, .int .i64 x.f6.f1, .int .i64 x.f6.f2, .int .i64 x.f6.f3], .int .i64 e1]) ∧ k50.FK w' (fun k => w1.heap.size ≤ k) x [.string x.f0, .bool x.f1, .int .i64 x.f2.f0, .int .i64 x.f2.f1, .int .i64 x.f2.f2, .int .i64 x.f2.f3, .slice X6 x.f3.length x6, .int .i64 x.f4.f0, .int .i64 x.f4.f1, .int .i64 x.f4.f2, .int .i64 x.f4.f3, .slice X11 x.f5.length x11, .int .i64 x.f6.f0, .int .i64 x.f6.f1, .int .i64 x.f6.f2, .int .i64 x.f6.f3] ∧ Below w1.heap.size w1 w' from by
                  have h := may_c low u a ns (IntKind.i64.wrap (1 + (k7 : Int))) A2 c2 w1 (Kd.C_below HCL.out hb) hc2 (by rw [HLOW.out]; exact (low_srch HTV.out a).1) (by rw [HLOW.out]; exact (low_srch HTV.out a).2) HOK.out.1 HOK.out.2
                  rw [show mayR low a u ns (IntKind.i64.wrap (1 + (k7 : Int))) = (x, e1) by rw [HLOW.out, low_may HTV.out a u ns HOK.out.1, HMX.out], HPP.out] at h
                  refine h.mono ?_
                  rintro e w' ⟨cs, rfl, hK, hB⟩
                  obtain ⟨P6, p6, P11, p11, rfl, _⟩ := k50_open (Foot.now hK)
                  exact ⟨P6, p6, P11, p11, rfl, hK, hB⟩)
                have HCY := Lib.hid fun w1 (hb : Below V2.heap.size V2 w1) => (show Calls Tryd.prog 46 #[.slice (some ad) tl cg, .agg #[.string u, .int .i64 a.f0, .int .i64 a.f1, .int .i64 a.f2, .int .i64 a.f3], .string p] w1 fun e w' => ∃ Y6 y6 Y11 y11, e = .returned (.tuple #[.agg #[.string y.f0, .bool y.f1, .int .i64 y.f2.f0, .int .i64 y.f2.f1, .int .i64 y.f2.f2, .int .i64 y.f2.f3, .slice Y6 y.f3.length y6, .int .i64 y.f4.f0, .int .i64 y.f4.f1, .int .i64 y.f4.f2, .int .i64 y.f4.f3, .slice Y11 y.f5.length y11, .int .i64 y.f6.f0, .int .i64 y.f6.f1, .int .i64 y.f6.f2, .int .i64 y.f6.f3], .int .i64 e2]) ∧ k50.K w' y [.string y.f0, .bool y.f1, .int .i64 y.f2.f0, .int .i64 y.f2.f1, .int .i64 y.f2.f2, .int .i64 y.f2.f3, .slice Y6 y.f3.length y6, .int .i64 y.f4.f0, .int .i64 y.f4.f1, .int .i64 y.f4.f2, .int .i64 y.f4.f3, .slice Y11 y.f5.length y11, .int .i64 y.f6.f0, .int .i64 y.f6.f1, .int .i64 y.f6.f2, .int .i64 y.f6.f3] ∧ Below w1.heap.size w1 w' from by
                  have h := HCHG.out tt (Or.inl rfl) (some ad) cg w1 (Kd.C_below HCT.out hb) (by have := HTLV.out; omega)
                  rw [HTLV.out, HPP.out] at h
                  refine h.mono ?_
                  rintro e w' ⟨cs, rfl, hK, hB⟩
                  obtain ⟨P6, p6, P11, p11, rfl, _⟩ := k50_open (Foot.now hK)
                  exact ⟨P6, p6, P11, p11, rfl, Foot.now hK, hB⟩)
                have HCZ := Lib.hid fun w1 (hb : Below V2.heap.size V2 w1) => (show Calls Tryd.prog 46 #[.slice A2 low.length c2, .agg #[.string u, .int .i64 a.f0, .int .i64 a.f1, .int .i64 a.f2, .int .i64 a.f3], .string p] w1 fun e w' => ∃ Z6 z6 Z11 z11, e = .returned (.tuple #[.agg #[.string y.f0, .bool y.f1, .int .i64 y.f2.f0, .int .i64 y.f2.f1, .int .i64 y.f2.f2, .int .i64 y.f2.f3, .slice Z6 y.f3.length z6, .int .i64 y.f4.f0, .int .i64 y.f4.f1, .int .i64 y.f4.f2, .int .i64 y.f4.f3, .slice Z11 y.f5.length z11, .int .i64 y.f6.f0, .int .i64 y.f6.f1, .int .i64 y.f6.f2, .int .i64 y.f6.f3], .int .i64 e2]) ∧ k50.K w' y [.string y.f0, .bool y.f1, .int .i64 y.f2.f0, .int .i64 y.f2.f1, .int .i64 y.f2.f2, .int .i64 y.f2.f3, .slice Z6 y.f3.length z6, .int .i64 y.f4.f0, .int .i64 y.f4.f1, .int .i64 y.f4.f2, .int .i64 y.f4.f3, .slice Z11 y.f5.length z11, .int .i64 y.f6.f0, .int .i64 y.f6.f1, .int .i64 y.f6.f2, .int .i64 y.f6.f3] ∧ Below w1.heap.size w1 w' from by
                  have h := HCHG.out low (Or.inr HLOW.out) A2 c2 w1 (Kd.C_below HCL.out hb) hc2
                  rw [HPP.out] at h
                  refine h.mono ?_
                  rintro e w' ⟨cs, rfl, hK, hB⟩
                  obtain ⟨P6, p6, P11, p11, rfl, _⟩ := k50_open (Foot.now hK)
                  exact ⟨P6, p6, P11, p11, rfl, Foot.now hK, hB⟩)
                clear HCHG
                go_wp2
                refine rb22 (some ad) tl cg g5 p u mode (k7 : Int) a x e1 _ _ _ _ _ _ _ _ _ _ _ _ _ _ _ _ _ _ _ _ _ _ _ _ _ _ _ _ _ _ _ _ _ _ _ _ _ _ _ _ _ _ _ _ _ _ _ _ _ _ _ _ _ _ _ _ _ _ _ _ _ _ _ _ _ _ _ _ _ _ _ _ _ _ _ _ _ _ _ _ _ _ _ _ _ _ _ _ _ _ _ _ _ _ _ _ _ _ _ _ _ _ _ _ _ _ _ _ _ _ _ _ _ _ _ _ _ _ _ _ _ _ _ _ _ _ _ _ _ _ _ _ _ _ _ _ _ _ _ _ _ _ _ _ _ _ _ _ _ _ _ _ _ _ _ _ _ _ _ _ _ _ _ _ _ _ wr _ (blk_below ES.out HI.out) HW7.out (fun w1 hb => HMT.out w1 (below_step HI.out hb)) ?_
                intro gE E6 E11 ce6 ce11 wE t116 t117 t118 t119 t120 t121 t122 t123 t124 t125 hG hK hb
                have HI := Lib.hid (below_step HI.out hb)
                have HKE := Lib.hid hK
                have BE := Lib.hid hG
                clear hG hK hb
                go_wp2
                refine rb23 A2 low.length c2 g5 p u mode (k7 : Int) a x e1 _ _ _ _ _ _ _ _ _ _ _ _ _ _ _ _ _ _ _ _ _ _ _ _ _ _ _ _ _ _ _ _ _ _ _ _ _ _ _ _ _ _ _ _ _ _ _ _ _ _ _ _ _ _ _ _ _ _ _ _ _ _ _ _ _ _ _ _ _ _ _ _ _ _ _ _ _ _ _ _ _ _ _ _ _ _ _ _ _ _ _ _ _ _ _ _ _ _ _ _ _ _ _ _ _ _ _ _ _ _ _ _ _ _ _ _ _ _ _ _ _ _ _ _ _ _ _ _ _ _ _ _ _ _ _ _ _ _ _ _ _ _ _ _ _ _ _ _ _ _ _ _ _ _ _ _ _ _ _ _ _ _ _ _ _ _ wE _ (blk_below ES.out HI.out) HW7.out (fun w1 hb => HML.out w1 (below_step HI.out hb)) ?_
                intro gF F6 F11 cf6 cf11 wF t126 t127 t128 t129 t130 t131 t132 t133 t134 t135 hG hK hb
                have HI := Lib.hid (below_step HI.out hb)
                have HKE := Lib.hid (k50.K_below hb HKE.out)
                have BE := Lib.hid (blk_below BE.out hb)
                have HKF := Lib.hid hK
                have BF := Lib.hid hG
                have BS := Lib.hid (blk_below ES.out HI.out)
                have s0 := (blk_cell BS.out 0).trans rfl
                have s1 := (blk_cell BS.out 1).trans rfl
                have s2 := (blk_cell BS.out 2).trans rfl
                have s3 := (blk_cell BS.out 3).trans rfl
                have s4 := (blk_cell BS.out 4).trans rfl
                clear hG hK hb
                go_wp2_with (first | (go_at_call 42; have hg := HS1.out; clear hg; refine (same_t y _ _ _ HKY.out HKZ.out).mono ?_; rintro e ws2 ⟨rfl, hb⟩; have HI := Lib.hid (below_step HI.out hb); clear hb) | (go_at_call 42; refine (same_t x _ _ _ HKE.out HKF.out).mono ?_; rintro e ws1 ⟨rfl, hb⟩; have HI := Lib.hid (below_step HI.out hb); have HS1 := HI; have HKY := Lib.hid (k50.K_below hb HKY.out); have HKZ := Lib.hid (k50.K_below hb HKZ.out); have rdY := rd50_blk (blk_below BY.out hb) rfl; have rdZ := rd50_blk (blk_below BZ.out hb) rfl; clear hb) | (go_at_call 46; have hg := HKY.out; clear hg; refine (HCZ.out _ HI.out).mono ?_; rintro e wz ⟨Z6, z6, Z11, z11, rfl, hK, hb⟩; have HI := Lib.hid (below_alloc (below_step HI.out hb) (.cells #[.string y.f0, .bool y.f1, .int .i64 y.f2.f0, .int .i64 y.f2.f1, .int .i64 y.f2.f2, .int .i64 y.f2.f3, .slice Z6 y.f3.length z6, .int .i64 y.f4.f0, .int .i64 y.f4.f1, .int .i64 y.f4.f2, .int .i64 y.f4.f3, .slice Z11 y.f5.length z11, .int .i64 y.f6.f0, .int .i64 y.f6.f1, .int .i64 y.f6.f2, .int .i64 y.f6.f3] 50)); have BS := Lib.hid (blk_alloc (blk_below BS.out hb) (.cells #[.string y.f0, .bool y.f1, .int .i64 y.f2.f0, .int .i64 y.f2.f1, .int .i64 y.f2.f2, .int .i64 y.f2.f3, .slice Z6 y.f3.length z6, .int .i64 y.f4.f0, .int .i64 y.f4.f1, .int .i64 y.f4.f2, .int .i64 y.f4.f3, .slice Z11 y.f5.length z11, .int .i64 y.f6.f0, .int .i64 y.f6.f1, .int .i64 y.f6.f2, .int .i64 y.f6.f3] 50)); have HKE := Lib.hid (k50.K_below (below_alloc hb (.cells #[.string y.f0, .bool y.f1, .int .i64 y.f2.f0, .int .i64 y.f2.f1, .int .i64 y.f2.f2, .int .i64 y.f2.f3, .slice Z6 y.f3.length z6, .int .i64 y.f4.f0, .int .i64 y.f4.f1, .int .i64 y.f4.f2, .int .i64 y.f4.f3, .slice Z11 y.f5.length z11, .int .i64 y.f6.f0, .int .i64 y.f6.f1, .int .i64 y.f6.f2, .int .i64 y.f6.f3] 50)) HKE.out); have BE := Lib.hid (blk_alloc (blk_below BE.out hb) (.cells #[.string y.f0, .bool y.f1, .int .i64 y.f2.f0, .int .i64 y.f2.f1, .int .i64 y.f2.f2, .int .i64 y.f2.f3, .slice Z6 y.f3.length z6, .int .i64 y.f4.f0, .int .i64 y.f4.f1, .int .i64 y.f4.f2, .int .i64 y.f4.f3, .slice Z11 y.f5.length z11, .int .i64 y.f6.f0, .int .i64 y.f6.f1, .int .i64 y.f6.f2, .int .i64 y.f6.f3] 50)); have HKF := Lib.hid (k50.K_below (below_alloc hb (.cells #[.string y.f0, .bool y.f1, .int .i64 y.f2.f0, .int .i64 y.f2.f1, .int .i64 y.f2.f2, .int .i64 y.f2.f3, .slice Z6 y.f3.length z6, .int .i64 y.f4.f0, .int .i64 y.f4.f1, .int .i64 y.f4.f2, .int .i64 y.f4.f3, .slice Z11 y.f5.length z11, .int .i64 y.f6.f0, .int .i64 y.f6.f1, .int .i64 y.f6.f2, .int .i64 y.f6.f3] 50)) HKF.out); have BF := Lib.hid (blk_alloc (blk_below BF.out hb) (.cells #[.string y.f0, .bool y.f1, .int .i64 y.f2.f0, .int .i64 y.f2.f1, .int .i64 y.f2.f2, .int .i64 y.f2.f3, .slice Z6 y.f3.length z6, .int .i64 y.f4.f0, .int .i64 y.f4.f1, .int .i64 y.f4.f2, .int .i64 y.f4.f3, .slice Z11 y.f5.length z11, .int .i64 y.f6.f0, .int .i64 y.f6.f1, .int .i64 y.f6.f2, .int .i64 y.f6.f3] 50)); have HKY := Lib.hid (k50.K_below (below_alloc hb (.cells #[.string y.f0, .bool y.f1, .int .i64 y.f2.f0, .int .i64 y.f2.f1, .int .i64 y.f2.f2, .int .i64 y.f2.f3, .slice Z6 y.f3.length z6, .int .i64 y.f4.f0, .int .i64 y.f4.f1, .int .i64 y.f4.f2, .int .i64 y.f4.f3, .slice Z11 y.f5.length z11, .int .i64 y.f6.f0, .int .i64 y.f6.f1, .int .i64 y.f6.f2, .int .i64 y.f6.f3] 50)) HKY.out); have BY := Lib.hid (blk_alloc (blk_below BY.out hb) (.cells #[.string y.f0, .bool y.f1, .int .i64 y.f2.f0, .int .i64 y.f2.f1, .int .i64 y.f2.f2, .int .i64 y.f2.f3, .slice Z6 y.f3.length z6, .int .i64 y.f4.f0, .int .i64 y.f4.f1, .int .i64 y.f4.f2, .int .i64 y.f4.f3, .slice Z11 y.f5.length z11, .int .i64 y.f6.f0, .int .i64 y.f6.f1, .int .i64 y.f6.f2, .int .i64 y.f6.f3] 50)); have HKZ := Lib.hid (k50.K_below (below_alloc (Below.refl wz.heap.size wz) (.cells #[.string y.f0, .bool y.f1, .int .i64 y.f2.f0, .int .i64 y.f2.f1, .int .i64 y.f2.f2, .int .i64 y.f2.f3, .slice Z6 y.f3.length z6, .int .i64 y.f4.f0, .int .i64 y.f4.f1, .int .i64 y.f4.f2, .int .i64 y.f4.f3, .slice Z11 y.f5.length z11, .int .i64 y.f6.f0, .int .i64 y.f6.f1, .int .i64 y.f6.f2, .int .i64 y.f6.f3] 50)) hK); have BZ := Lib.hid (blk_new wz (.cells #[.string y.f0, .bool y.f1, .int .i64 y.f2.f0, .int .i64 y.f2.f1, .int .i64 y.f2.f2, .int .i64 y.f2.f3, .slice Z6 y.f3.length z6, .int .i64 y.f4.f0, .int .i64 y.f4.f1, .int .i64 y.f4.f2, .int .i64 y.f4.f3, .slice Z11 y.f5.length z11, .int .i64 y.f6.f0, .int .i64 y.f6.f1, .int .i64 y.f6.f2, .int .i64 y.f6.f3] 50)); have s0 := (blk_cell BS.out 0).trans rfl; have s1 := (blk_cell BS.out 1).trans rfl; have s2 := (blk_cell BS.out 2).trans rfl; have s3 := (blk_cell BS.out 3).trans rfl; have s4 := (blk_cell BS.out 4).trans rfl; have rdE := rd50_blk BE.out rfl; have rdF := rd50_blk BF.out rfl; have rdY := rd50_blk BY.out rfl; have rdZ := rd50_blk BZ.out rfl; clear hK hb) | (go_at_call 46; refine (HCY.out _ HI.out).mono ?_; rintro e wy ⟨Y6, y6, Y11, y11, rfl, hK, hb⟩; have HI := Lib.hid (below_alloc (below_step HI.out hb) (.cells #[.string y.f0, .bool y.f1, .int .i64 y.f2.f0, .int .i64 y.f2.f1, .int .i64 y.f2.f2, .int .i64 y.f2.f3, .slice Y6 y.f3.length y6, .int .i64 y.f4.f0, .int .i64 y.f4.f1, .int .i64 y.f4.f2, .int .i64 y.f4.f3, .slice Y11 y.f5.length y11, .int .i64 y.f6.f0, .int .i64 y.f6.f1, .int .i64 y.f6.f2, .int .i64 y.f6.f3] 50)); have BS := Lib.hid (blk_alloc (blk_below BS.out hb) (.cells #[.string y.f0, .bool y.f1, .int .i64 y.f2.f0, .int .i64 y.f2.f1, .int .i64 y.f2.f2, .int .i64 y.f2.f3, .slice Y6 y.f3.length y6, .int .i64 y.f4.f0, .int .i64 y.f4.f1, .int .i64 y.f4.f2, .int .i64 y.f4.f3, .slice Y11 y.f5.length y11, .int .i64 y.f6.f0, .int .i64 y.f6.f1, .int .i64 y.f6.f2, .int .i64 y.f6.f3] 50)); have HKE := Lib.hid (k50.K_below (below_alloc hb (.cells #[.string y.f0, .bool y.f1, .int .i64 y.f2.f0, .int .i64 y.f2.f1, .int .i64 y.f2.f2, .int .i64 y.f2.f3, .slice Y6 y.f3.length y6, .int .i64 y.f4.f0, .int .i64 y.f4.f1, .int .i64 y.f4.f2, .int .i64 y.f4.f3, .slice Y11 y.f5.length y11, .int .i64 y.f6.f0, .int .i64 y.f6.f1, .int .i64 y.f6.f2, .int .i64 y.f6.f3] 50)) HKE.out); have BE := Lib.hid (blk_alloc (blk_below BE.out hb) (.cells #[.string y.f0, .bool y.f1, .int .i64 y.f2.f0, .int .i64 y.f2.f1, .int .i64 y.f2.f2, .int .i64 y.f2.f3, .slice Y6 y.f3.length y6, .int .i64 y.f4.f0, .int .i64 y.f4.f1, .int .i64 y.f4.f2, .int .i64 y.f4.f3, .slice Y11 y.f5.length y11, .int .i64 y.f6.f0, .int .i64 y.f6.f1, .int .i64 y.f6.f2, .int .i64 y.f6.f3] 50)); have HKF := Lib.hid (k50.K_below (below_alloc hb (.cells #[.string y.f0, .bool y.f1, .int .i64 y.f2.f0, .int .i64 y.f2.f1, .int .i64 y.f2.f2, .int .i64 y.f2.f3, .slice Y6 y.f3.length y6, .int .i64 y.f4.f0, .int .i64 y.f4.f1, .int .i64 y.f4.f2, .int .i64 y.f4.f3, .slice Y11 y.f5.length y11, .int .i64 y.f6.f0, .int .i64 y.f6.f1, .int .i64 y.f6.f2, .int .i64 y.f6.f3] 50)) HKF.out); have BF := Lib.hid (blk_alloc (blk_below BF.out hb) (.cells #[.string y.f0, .bool y.f1, .int .i64 y.f2.f0, .int .i64 y.f2.f1, .int .i64 y.f2.f2, .int .i64 y.f2.f3, .slice Y6 y.f3.length y6, .int .i64 y.f4.f0, .int .i64 y.f4.f1, .int .i64 y.f4.f2, .int .i64 y.f4.f3, .slice Y11 y.f5.length y11, .int .i64 y.f6.f0, .int .i64 y.f6.f1, .int .i64 y.f6.f2, .int .i64 y.f6.f3] 50)); have HKY := Lib.hid (k50.K_below (below_alloc (Below.refl wy.heap.size wy) (.cells #[.string y.f0, .bool y.f1, .int .i64 y.f2.f0, .int .i64 y.f2.f1, .int .i64 y.f2.f2, .int .i64 y.f2.f3, .slice Y6 y.f3.length y6, .int .i64 y.f4.f0, .int .i64 y.f4.f1, .int .i64 y.f4.f2, .int .i64 y.f4.f3, .slice Y11 y.f5.length y11, .int .i64 y.f6.f0, .int .i64 y.f6.f1, .int .i64 y.f6.f2, .int .i64 y.f6.f3] 50)) hK); have BY := Lib.hid (blk_new wy (.cells #[.string y.f0, .bool y.f1, .int .i64 y.f2.f0, .int .i64 y.f2.f1, .int .i64 y.f2.f2, .int .i64 y.f2.f3, .slice Y6 y.f3.length y6, .int .i64 y.f4.f0, .int .i64 y.f4.f1, .int .i64 y.f4.f2, .int .i64 y.f4.f3, .slice Y11 y.f5.length y11, .int .i64 y.f6.f0, .int .i64 y.f6.f1, .int .i64 y.f6.f2, .int .i64 y.f6.f3] 50)); have s0 := (blk_cell BS.out 0).trans rfl; have s1 := (blk_cell BS.out 1).trans rfl; have s2 := (blk_cell BS.out 2).trans rfl; have s3 := (blk_cell BS.out 3).trans rfl; have s4 := (blk_cell BS.out 4).trans rfl; clear hK hb))
                go_roundg (40 - (i + 1))
                case measure => omega
                case rel => exact ⟨i + 1, h40, Nat.le_refl _, by go_num, HI⟩
              · have hj : i - tl < paths.length := by rcases HIX.out with h | h <;> omega
                obtain ⟨ad9, cc, hA9, _, hK9, hc9⟩ := Kd.C_get (Kd.C_below HEX.out HI.out) ([] : List Int) ((i : Int) - (tl : Int)) (by omega) (by omega)
                obtain ⟨Aj, cj, rfl, hlj, hCj⟩ := hK9
                have h9 := hc9 0 _ rfl
                subst hA9
                simp only [show (Kd.slice 3 (Kd.int .i64)).sz = 1 from rfl, Nat.mul_one, Nat.add_zero] at h9
                have hn9 : ((i : Int) - (tl : Int)).toNat = i - tl := by omega
                rw [hn9] at h9 hlj hCj
                generalize paths.getD (i - tl) [] = lj at h9 hlj hCj
                clear hn9
                obtain ⟨ns, hok, hof⟩ := of_c lj hCj.2.1
                have HOK := Lib.hid hok
                obtain ⟨p, hp⟩ : ∃ p, pth ns = p := ⟨_, rfl⟩
                rw [hp] at hof
                have HPP := Lib.hid hp
                have HOFJ := Lib.hid fun w1 (hb : Below wr.heap.size wr w1) => hof Aj cj w1 (Kd.C_below hCj hb) hlj
                have HRR := Lib.hid (Below.refl wr.heap.size wr)
                have hj2 : (i : Int) - (tl : Int) < (paths.length : Int) := by omega
                have hj3 : 0 ≤ (i : Int) - (tl : Int) := by omega
                clear hc9 hCj hok hof hp
                obtain ⟨x, hx⟩ : ∃ x, (mayR tt a u ns (IntKind.i64.wrap (1 + (k7 : Int)))).1 = x := ⟨_, rfl⟩
                obtain ⟨e1, he1⟩ : ∃ x, (mayR tt a u ns (IntKind.i64.wrap (1 + (k7 : Int)))).2 = x := ⟨_, rfl⟩
                have HMX := Lib.hid (show mayR tt a u ns (IntKind.i64.wrap (1 + (k7 : Int))) = (x, e1) by rw [← hx, ← he1])
                obtain ⟨y, e2, hchg⟩ := chg_two HTV.out a u ns HOK.out
                have HCHG := Lib.hid hchg
                clear hx he1 hchg
                have HMT := Lib.hid fun w1 (hb : Below V2.heap.size V2 w1) => (show Calls Tryd.prog 35 #[.slice (some ad) tl cg, .agg #[.string u, .int .i64 a.f0, .int .i64 a.f1, .int .i64 a.f2, .int .i64 a.f3], .string p, .int .i64 (IntKind.i64.wrap (1 + (k7 : Int)))] w1 fun e w' => ∃ X6 x6 X11 x11, e = .returned (.tuple #[.agg #[.string x.f0, .bool x.f1, .int .i64 x.f2.f0, .int .i64 x.f2.f1, .int .i64 x.f2.f2, .int .i64 x.f2.f3, .slice X6 x.f3.length x6, .int .i64 x.f4.f0, .int .i64 x.f4.f1, .int .i64 x.f4.f2, .int .i64 x.f4.f3, .slice X11 x.f5.length x11, .int .i64 x.f6.f0, .int .i64 x.f6.f1, .int .i64 x.f6.f2, .int .i64 x.f6.f3], .int .i64 e1]) ∧ k50.FK w' (fun k => w1.heap.size ≤ k) x [.string x.f0, .bool x.f1, .int .i64 x.f2.f0, .int .i64 x.f2.f1, .int .i64 x.f2.f2, .int .i64 x.f2.f3, .slice X6 x.f3.length x6, .int .i64 x.f4.f0, .int .i64 x.f4.f1, .int .i64 x.f4.f2, .int .i64 x.f4.f3, .slice X11 x.f5.length x11, .int .i64 x.f6.f0, .int .i64 x.f6.f1, .int .i64 x.f6.f2, .int .i64 x.f6.f3] ∧ Below w1.heap.size w1 w' from by
                  have h := may_c tt u a ns (IntKind.i64.wrap (1 + (k7 : Int))) (some ad) cg w1 (Kd.C_below HCT.out hb) (by have := HTLV.out; omega) (tree_srch HTV.out) (tree_acls HTV.out) HOK.out.1 HOK.out.2
                  rw [HMX.out, HTLV.out, HPP.out] at h
                  refine h.mono ?_
                  rintro e w' ⟨cs, rfl, hK, hB⟩
                  obtain ⟨P6, p6, P11, p11, rfl, _⟩ := k50_open (Foot.now hK)
                  exact ⟨P6, p6, P11, p11, rfl, hK, hB⟩)
                have HML := Lib.hid fun w1 (hb : Below V2.heap.size V2 w1) => (show Calls Tryd.prog 35 #[.slice A2 low.length c2, .agg #[.string u, .int .i64 a.f0, .int .i64 a.f1, .int .i64 a.f2, .int .i64 a.f3], .string p, .int .i64 (IntKind.i64.wrap (1 + (k7 : Int)))] w1 fun e w' => ∃ X6 x6 X11 x11, e = .returned (.tuple #[.agg #[.string x.f0, .bool x.f1, .int .i64 x.f2.f0, .int .i64 x.f2.f1, .int .i64 x.f2.f2, .int .i64 x.f2.f3, .slice X6 x.f3.length x6, .int .i64 x.f4.f0, .int .i64 x.f4.f1, .int .i64 x.f4.f2, .int .i64 x.f4.f3, .slice X11 x.f5.length x11, .int .i64 x.f6.f0, .int .i64 x.f6.f1, .int .i64 x.f6.f2, .int .i64 x.f6.f3], .int .i64 e1]) ∧ k50.FK w' (fun k => w1.heap.size ≤ k) x [.string x.f0, .bool x.f1, .int .i64 x.f2.f0, .int .i64 x.f2.f1, .int .i64 x.f2.f2, .int .i64 x.f2.f3, .slice X6 x.f3.length x6, .int .i64 x.f4.f0, .int .i64 x.f4.f1, .int .i64 x.f4.f2, .int .i64 x.f4.f3, .slice X11 x.f5.length x11, .int .i64 x.f6.f0, .int .i64 x.f6.f1, .int .i64 x.f6.f2, .int .i64 x.f6.f3] ∧ Below w1.heap.size w1 w' from by
                  have h := may_c low u a ns (IntKind.i64.wrap (1 + (k7 : Int))) A2 c2 w1 (Kd.C_below HCL.out hb) hc2 (by rw [HLOW.out]; exact (low_srch HTV.out a).1) (by rw [HLOW.out]; exact (low_srch HTV.out a).2) HOK.out.1 HOK.out.2
                  rw [show mayR low a u ns (IntKind.i64.wrap (1 + (k7 : Int))) = (x, e1) by rw [HLOW.out, low_may HTV.out a u ns HOK.out.1, HMX.out], HPP.out] at h
                  refine h.mono ?_
                  rintro e w' ⟨cs, rfl, hK, hB⟩
                  obtain ⟨P6, p6, P11, p11, rfl, _⟩ := k50_open (Foot.now hK)
                  exact ⟨P6, p6, P11, p11, rfl, hK, hB⟩)
                have HCY := Lib.hid fun w1 (hb : Below V2.heap.size V2 w1) => (show Calls Tryd.prog 46 #[.slice (some ad) tl cg, .agg #[.string u, .int .i64 a.f0, .int .i64 a.f1, .int .i64 a.f2, .int .i64 a.f3], .string p] w1 fun e w' => ∃ Y6 y6 Y11 y11, e = .returned (.tuple #[.agg #[.string y.f0, .bool y.f1, .int .i64 y.f2.f0, .int .i64 y.f2.f1, .int .i64 y.f2.f2, .int .i64 y.f2.f3, .slice Y6 y.f3.length y6, .int .i64 y.f4.f0, .int .i64 y.f4.f1, .int .i64 y.f4.f2, .int .i64 y.f4.f3, .slice Y11 y.f5.length y11, .int .i64 y.f6.f0, .int .i64 y.f6.f1, .int .i64 y.f6.f2, .int .i64 y.f6.f3], .int .i64 e2]) ∧ k50.K w' y [.string y.f0, .bool y.f1, .int .i64 y.f2.f0, .int .i64 y.f2.f1, .int .i64 y.f2.f2, .int .i64 y.f2.f3, .slice Y6 y.f3.length y6, .int .i64 y.f4.f0, .int .i64 y.f4.f1, .int .i64 y.f4.f2, .int .i64 y.f4.f3, .slice Y11 y.f5.length y11, .int .i64 y.f6.f0, .int .i64 y.f6.f1, .int .i64 y.f6.f2, .int .i64 y.f6.f3] ∧ Below w1.heap.size w1 w' from by
                  have h := HCHG.out tt (Or.inl rfl) (some ad) cg w1 (Kd.C_below HCT.out hb) (by have := HTLV.out; omega)
                  rw [HTLV.out, HPP.out] at h
                  refine h.mono ?_
                  rintro e w' ⟨cs, rfl, hK, hB⟩
                  obtain ⟨P6, p6, P11, p11, rfl, _⟩ := k50_open (Foot.now hK)
                  exact ⟨P6, p6, P11, p11, rfl, Foot.now hK, hB⟩)
                have HCZ := Lib.hid fun w1 (hb : Below V2.heap.size V2 w1) => (show Calls Tryd.prog 46 #[.slice A2 low.length c2, .agg #[.string u, .int .i64 a.f0, .int .i64 a.f1, .int .i64 a.f2, .int .i64 a.f3], .string p] w1 fun e w' => ∃ Z6 z6 Z11 z11, e = .returned (.tuple #[.agg #[.string y.f0, .bool y.f1, .int .i64 y.f2.f0, .int .i64 y.f2.f1, .int .i64 y.f2.f2, .int .i64 y.f2.f3, .slice Z6 y.f3.length z6, .int .i64 y.f4.f0, .int .i64 y.f4.f1, .int .i64 y.f4.f2, .int .i64 y.f4.f3, .slice Z11 y.f5.length z11, .int .i64 y.f6.f0, .int .i64 y.f6.f1, .int .i64 y.f6.f2, .int .i64 y.f6.f3], .int .i64 e2]) ∧ k50.K w' y [.string y.f0, .bool y.f1, .int .i64 y.f2.f0, .int .i64 y.f2.f1, .int .i64 y.f2.f2, .int .i64 y.f2.f3, .slice Z6 y.f3.length z6, .int .i64 y.f4.f0, .int .i64 y.f4.f1, .int .i64 y.f4.f2, .int .i64 y.f4.f3, .slice Z11 y.f5.length z11, .int .i64 y.f6.f0, .int .i64 y.f6.f1, .int .i64 y.f6.f2, .int .i64 y.f6.f3] ∧ Below w1.heap.size w1 w' from by
                  have h := HCHG.out low (Or.inr HLOW.out) A2 c2 w1 (Kd.C_below HCL.out hb) hc2
                  rw [HPP.out] at h
                  refine h.mono ?_
                  rintro e w' ⟨cs, rfl, hK, hB⟩
                  obtain ⟨P6, p6, P11, p11, rfl, _⟩ := k50_open (Foot.now hK)
                  exact ⟨P6, p6, P11, p11, rfl, Foot.now hK, hB⟩)
                clear HCHG
                go_wp2_with (go_at_call 25; refine (HOFJ.out _ HRR.out).mono ?_; rintro e w3 ⟨rfl, hb⟩; have HI := Lib.hid (below_step HI.out hb); clear hb)
                refine rb22 (some ad) tl cg g5 p u mode (k7 : Int) a x e1 _ _ _ _ _ _ _ _ _ _ _ _ _ _ _ _ _ _ _ _ _ _ _ _ _ _ _ _ _ _ _ _ _ _ _ _ _ _ _ _ _ _ _ _ _ _ _ _ _ _ _ _ _ _ _ _ _ _ _ _ _ _ _ _ _ _ _ _ _ _ _ _ _ _ _ _ _ _ _ _ _ _ _ _ _ _ _ _ _ _ _ _ _ _ _ _ _ _ _ _ _ _ _ _ _ _ _ _ _ _ _ _ _ _ _ _ _ _ _ _ _ _ _ _ _ _ _ _ _ _ _ _ _ _ _ _ _ _ _ _ _ _ _ _ _ _ _ _ _ _ _ _ _ _ _ _ _ _ _ _ _ _ _ _ _ _ w3 _ (blk_below ES.out HI.out) HW7.out (fun w1 hb => HMT.out w1 (below_step HI.out hb)) ?_
                intro gE E6 E11 ce6 ce11 wE t116 t117 t118 t119 t120 t121 t122 t123 t124 t125 hG hK hb
                have HI := Lib.hid (below_step HI.out hb)
                have HKE := Lib.hid hK
                have BE := Lib.hid hG
                clear hG hK hb
                go_wp2
                refine rb23 A2 low.length c2 g5 p u mode (k7 : Int) a x e1 _ _ _ _ _ _ _ _ _ _ _ _ _ _ _ _ _ _ _ _ _ _ _ _ _ _ _ _ _ _ _ _ _ _ _ _ _ _ _ _ _ _ _ _ _ _ _ _ _ _ _ _ _ _ _ _ _ _ _ _ _ _ _ _ _ _ _ _ _ _ _ _ _ _ _ _ _ _ _ _ _ _ _ _ _ _ _ _ _ _ _ _ _ _ _ _ _ _ _ _ _ _ _ _ _ _ _ _ _ _ _ _ _ _ _ _ _ _ _ _ _ _ _ _ _ _ _ _ _ _ _ _ _ _ _ _ _ _ _ _ _ _ _ _ _ _ _ _ _ _ _ _ _ _ _ _ _ _ _ _ _ _ _ _ _ _ wE _ (blk_below ES.out HI.out) HW7.out (fun w1 hb => HML.out w1 (below_step HI.out hb)) ?_
                intro gF F6 F11 cf6 cf11 wF t126 t127 t128 t129 t130 t131 t132 t133 t134 t135 hG hK hb
                have HI := Lib.hid (below_step HI.out hb)
                have HKE := Lib.hid (k50.K_below hb HKE.out)
                have BE := Lib.hid (blk_below BE.out hb)
                have HKF := Lib.hid hK
                have BF := Lib.hid hG
                have BS := Lib.hid (blk_below ES.out HI.out)
                have s0 := (blk_cell BS.out 0).trans rfl
                have s1 := (blk_cell BS.out 1).trans rfl
                have s2 := (blk_cell BS.out 2).trans rfl
                have s3 := (blk_cell BS.out 3).trans rfl
                have s4 := (blk_cell BS.out 4).trans rfl
                clear hG hK hb
                go_wp2_with (first | (go_at_call 42; have hg := HS1.out; clear hg; refine (same_t y _ _ _ HKY.out HKZ.out).mono ?_; rintro e ws2 ⟨rfl, hb⟩; have HI := Lib.hid (below_step HI.out hb); clear hb) | (go_at_call 42; refine (same_t x _ _ _ HKE.out HKF.out).mono ?_; rintro e ws1 ⟨rfl, hb⟩; have HI := Lib.hid (below_step HI.out hb); have HS1 := HI; have HKY := Lib.hid (k50.K_below hb HKY.out); have HKZ := Lib.hid (k50.K_below hb HKZ.out); have rdY := rd50_blk (blk_below BY.out hb) rfl; have rdZ := rd50_blk (blk_below BZ.out hb) rfl; clear hb) | (go_at_call 46; have hg := HKY.out; clear hg; refine (HCZ.out _ HI.out).mono ?_; rintro e wz ⟨Z6, z6, Z11, z11, rfl, hK, hb⟩; have HI := Lib.hid (below_alloc (below_step HI.out hb) (.cells #[.string y.f0, .bool y.f1, .int .i64 y.f2.f0, .int .i64 y.f2.f1, .int .i64 y.f2.f2, .int .i64 y.f2.f3, .slice Z6 y.f3.length z6, .int .i64 y.f4.f0, .int .i64 y.f4.f1, .int .i64 y.f4.f2, .int .i64 y.f4.f3, .slice Z11 y.f5.length z11, .int .i64 y.f6.f0, .int .i64 y.f6.f1, .int .i64 y.f6.f2, .int .i64 y.f6.f3] 50)); have BS := Lib.hid (blk_alloc (blk_below BS.out hb) (.cells #[.string y.f0, .bool y.f1, .int .i64 y.f2.f0, .int .i64 y.f2.f1, .int .i64 y.f2.f2, .int .i64 y.f2.f3, .slice Z6 y.f3.length z6, .int .i64 y.f4.f0, .int .i64 y.f4.f1, .int .i64 y.f4.f2, .int .i64 y.f4.f3, .slice Z11 y.f5.length z11, .int .i64 y.f6.f0, .int .i64 y.f6.f1, .int .i64 y.f6.f2, .int .i64 y.f6.f3] 50)); have HKE := Lib.hid (k50.K_below (below_alloc hb (.cells #[.string y.f0, .bool y.f1, .int .i64 y.f2.f0, .int .i64 y.f2.f1, .int .i64 y.f2.f2, .int .i64 y.f2.f3, .slice Z6 y.f3.length z6, .int .i64 y.f4.f0, .int .i64 y.f4.f1, .int .i64 y.f4.f2, .int .i64 y.f4.f3, .slice Z11 y.f5.length z11, .int .i64 y.f6.f0, .int .i64 y.f6.f1, .int .i64 y.f6.f2, .int .i64 y.f6.f3] 50)) HKE.out); have BE := Lib.hid (blk_alloc (blk_below BE.out hb) (.cells #[.string y.f0, .bool y.f1, .int .i64 y.f2.f0, .int .i64 y.f2.f1, .int .i64 y.f2.f2, .int .i64 y.f2.f3, .slice Z6 y.f3.length z6, .int .i64 y.f4.f0, .int .i64 y.f4.f1, .int .i64 y.f4.f2, .int .i64 y.f4.f3, .slice Z11 y.f5.length z11, .int .i64 y.f6.f0, .int .i64 y.f6.f1, .int .i64 y.f6.f2, .int .i64 y.f6.f3] 50)); have HKF := Lib.hid (k50.K_below (below_alloc hb (.cells #[.string y.f0, .bool y.f1, .int .i64 y.f2.f0, .int .i64 y.f2.f1, .int .i64 y.f2.f2, .int .i64 y.f2.f3, .slice Z6 y.f3.length z6, .int .i64 y.f4.f0, .int .i64 y.f4.f1, .int .i64 y.f4.f2, .int .i64 y.f4.f3, .slice Z11 y.f5.length z11, .int .i64 y.f6.f0, .int .i64 y.f6.f1, .int .i64 y.f6.f2, .int .i64 y.f6.f3] 50)) HKF.out); have BF := Lib.hid (blk_alloc (blk_below BF.out hb) (.cells #[.string y.f0, .bool y.f1, .int .i64 y.f2.f0, .int .i64 y.f2.f1, .int .i64 y.f2.f2, .int .i64 y.f2.f3, .slice Z6 y.f3.length z6, .int .i64 y.f4.f0, .int .i64 y.f4.f1, .int .i64 y.f4.f2, .int .i64 y.f4.f3, .slice Z11 y.f5.length z11, .int .i64 y.f6.f0, .int .i64 y.f6.f1, .int .i64 y.f6.f2, .int .i64 y.f6.f3] 50)); have HKY := Lib.hid (k50.K_below (below_alloc hb (.cells #[.string y.f0, .bool y.f1, .int .i64 y.f2.f0, .int .i64 y.f2.f1, .int .i64 y.f2.f2, .int .i64 y.f2.f3, .slice Z6 y.f3.length z6, .int .i64 y.f4.f0, .int .i64 y.f4.f1, .int .i64 y.f4.f2, .int .i64 y.f4.f3, .slice Z11 y.f5.length z11, .int .i64 y.f6.f0, .int .i64 y.f6.f1, .int .i64 y.f6.f2, .int .i64 y.f6.f3] 50)) HKY.out); have BY := Lib.hid (blk_alloc (blk_below BY.out hb) (.cells #[.string y.f0, .bool y.f1, .int .i64 y.f2.f0, .int .i64 y.f2.f1, .int .i64 y.f2.f2, .int .i64 y.f2.f3, .slice Z6 y.f3.length z6, .int .i64 y.f4.f0, .int .i64 y.f4.f1, .int .i64 y.f4.f2, .int .i64 y.f4.f3, .slice Z11 y.f5.length z11, .int .i64 y.f6.f0, .int .i64 y.f6.f1, .int .i64 y.f6.f2, .int .i64 y.f6.f3] 50)); have HKZ := Lib.hid (k50.K_below (below_alloc (Below.refl wz.heap.size wz) (.cells #[.string y.f0, .bool y.f1, .int .i64 y.f2.f0, .int .i64 y.f2.f1, .int .i64 y.f2.f2, .int .i64 y.f2.f3, .slice Z6 y.f3.length z6, .int .i64 y.f4.f0, .int .i64 y.f4.f1, .int .i64 y.f4.f2, .int .i64 y.f4.f3, .slice Z11 y.f5.length z11, .int .i64 y.f6.f0, .int .i64 y.f6.f1, .int .i64 y.f6.f2, .int .i64 y.f6.f3] 50)) hK); have BZ := Lib.hid (blk_new wz (.cells #[.string y.f0, .bool y.f1, .int .i64 y.f2.f0, .int .i64 y.f2.f1, .int .i64 y.f2.f2, .int .i64 y.f2.f3, .slice Z6 y.f3.length z6, .int .i64 y.f4.f0, .int .i64 y.f4.f1, .int .i64 y.f4.f2, .int .i64 y.f4.f3, .slice Z11 y.f5.length z11, .int .i64 y.f6.f0, .int .i64 y.f6.f1, .int .i64 y.f6.f2, .int .i64 y.f6.f3] 50)); have s0 := (blk_cell BS.out 0).trans rfl; have s1 := (blk_cell BS.out 1).trans rfl; have s2 := (blk_cell BS.out 2).trans rfl; have s3 := (blk_cell BS.out 3).trans rfl; have s4 := (blk_cell BS.out 4).trans rfl; have rdE := rd50_blk BE.out rfl; have rdF := rd50_blk BF.out rfl; have rdY := rd50_blk BY.out rfl; have rdZ := rd50_blk BZ.out rfl; clear hK hb) | (go_at_call 46; refine (HCY.out _ HI.out).mono ?_; rintro e wy ⟨Y6, y6, Y11, y11, rfl, hK, hb⟩; have HI := Lib.hid (below_alloc (below_step HI.out hb) (.cells #[.string y.f0, .bool y.f1, .int .i64 y.f2.f0, .int .i64 y.f2.f1, .int .i64 y.f2.f2, .int .i64 y.f2.f3, .slice Y6 y.f3.length y6, .int .i64 y.f4.f0, .int .i64 y.f4.f1, .int .i64 y.f4.f2, .int .i64 y.f4.f3, .slice Y11 y.f5.length y11, .int .i64 y.f6.f0, .int .i64 y.f6.f1, .int .i64 y.f6.f2, .int .i64 y.f6.f3] 50)); have BS := Lib.hid (blk_alloc (blk_below BS.out hb) (.cells #[.string y.f0, .bool y.f1, .int .i64 y.f2.f0, .int .i64 y.f2.f1, .int .i64 y.f2.f2, .int .i64 y.f2.f3, .slice Y6 y.f3.length y6, .int .i64 y.f4.f0, .int .i64 y.f4.f1, .int .i64 y.f4.f2, .int .i64 y.f4.f3, .slice Y11 y.f5.length y11, .int .i64 y.f6.f0, .int .i64 y.f6.f1, .int .i64 y.f6.f2, .int .i64 y.f6.f3] 50)); have HKE := Lib.hid (k50.K_below (below_alloc hb (.cells #[.string y.f0, .bool y.f1, .int .i64 y.f2.f0, .int .i64 y.f2.f1, .int .i64 y.f2.f2, .int .i64 y.f2.f3, .slice Y6 y.f3.length y6, .int .i64 y.f4.f0, .int .i64 y.f4.f1, .int .i64 y.f4.f2, .int .i64 y.f4.f3, .slice Y11 y.f5.length y11, .int .i64 y.f6.f0, .int .i64 y.f6.f1, .int .i64 y.f6.f2, .int .i64 y.f6.f3] 50)) HKE.out); have BE := Lib.hid (blk_alloc (blk_below BE.out hb) (.cells #[.string y.f0, .bool y.f1, .int .i64 y.f2.f0, .int .i64 y.f2.f1, .int .i64 y.f2.f2, .int .i64 y.f2.f3, .slice Y6 y.f3.length y6, .int .i64 y.f4.f0, .int .i64 y.f4.f1, .int .i64 y.f4.f2, .int .i64 y.f4.f3, .slice Y11 y.f5.length y11, .int .i64 y.f6.f0, .int .i64 y.f6.f1, .int .i64 y.f6.f2, .int .i64 y.f6.f3] 50)); have HKF := Lib.hid (k50.K_below (below_alloc hb (.cells #[.string y.f0, .bool y.f1, .int .i64 y.f2.f0, .int .i64 y.f2.f1, .int .i64 y.f2.f2, .int .i64 y.f2.f3, .slice Y6 y.f3.length y6, .int .i64 y.f4.f0, .int .i64 y.f4.f1, .int .i64 y.f4.f2, .int .i64 y.f4.f3, .slice Y11 y.f5.length y11, .int .i64 y.f6.f0, .int .i64 y.f6.f1, .int .i64 y.f6.f2, .int .i64 y.f6.f3] 50)) HKF.out); have BF := Lib.hid (blk_alloc (blk_below BF.out hb) (.cells #[.string y.f0, .bool y.f1, .int .i64 y.f2.f0, .int .i64 y.f2.f1, .int .i64 y.f2.f2, .int .i64 y.f2.f3, .slice Y6 y.f3.length y6, .int .i64 y.f4.f0, .int .i64 y.f4.f1, .int .i64 y.f4.f2, .int .i64 y.f4.f3, .slice Y11 y.f5.length y11, .int .i64 y.f6.f0, .int .i64 y.f6.f1, .int .i64 y.f6.f2, .int .i64 y.f6.f3] 50)); have HKY := Lib.hid (k50.K_below (below_alloc (Below.refl wy.heap.size wy) (.cells #[.string y.f0, .bool y.f1, .int .i64 y.f2.f0, .int .i64 y.f2.f1, .int .i64 y.f2.f2, .int .i64 y.f2.f3, .slice Y6 y.f3.length y6, .int .i64 y.f4.f0, .int .i64 y.f4.f1, .int .i64 y.f4.f2, .int .i64 y.f4.f3, .slice Y11 y.f5.length y11, .int .i64 y.f6.f0, .int .i64 y.f6.f1, .int .i64 y.f6.f2, .int .i64 y.f6.f3] 50)) hK); have BY := Lib.hid (blk_new wy (.cells #[.string y.f0, .bool y.f1, .int .i64 y.f2.f0, .int .i64 y.f2.f1, .int .i64 y.f2.f2, .int .i64 y.f2.f3, .slice Y6 y.f3.length y6, .int .i64 y.f4.f0, .int .i64 y.f4.f1, .int .i64 y.f4.f2, .int .i64 y.f4.f3, .slice Y11 y.f5.length y11, .int .i64 y.f6.f0, .int .i64 y.f6.f1, .int .i64 y.f6.f2, .int .i64 y.f6.f3] 50)); have s0 := (blk_cell BS.out 0).trans rfl; have s1 := (blk_cell BS.out 1).trans rfl; have s2 := (blk_cell BS.out 2).trans rfl; have s3 := (blk_cell BS.out 3).trans rfl; have s4 := (blk_cell BS.out 4).trans rfl; clear hK hb))
                go_roundg (40 - (i + 1))
                case measure => omega
                case rel => exact ⟨i + 1, h40, Nat.le_refl _, by go_num, HI⟩
            · go_wp2
              go_ret
              exact ⟨rfl, below_step HBX.out HI.out⟩
          · go_wp2
            go_ret
            exact ⟨rfl, below_step HBX.out HI.out⟩
end Go.Proofs.YtmndeoncbocplaaDoor.C
end
