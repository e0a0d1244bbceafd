/- TreePlays: in a tree nodes are found, put, dropped, and told by directories, as the document says; the tree ahead stays as it was: the walk. -/
import Derived.Test.YtmndeoncbocplaaDoorZL2
import Derived.Test.YtmndeoncbocplaaDoorZF
import Derived.Test.YtmndeoncbocplaaDoorZL
import Derived.Test.YtmndeoncbocplaaDoorZU
import Derived.Test.YtmndeoncbocplaaDoorZK
import Derived.Test.YtmndeoncbocplaaDoorZR
import Derived.Deep.RegionHeldLaw
import Derived.Deep.RegionHeld3
import Derived.Deep.LoopGhost
set_option linter.unusedVariables false
set_option linter.unusedSimpArgs false
section
set_option linter.unusedVariables false
set_option linter.unusedSimpArgs false
namespace Go.Proofs.YtmndeoncbocplaaDoor.C
open Go.RowKit Go.Proofs.YtmndeoncbocplaaDoor.Q Go.Proofs.YtmndeoncbocplaaDoorW.PrintWords Go.Proofs.YtmndeoncbocplaaDoorW.PrintLast Go.Proofs.YtmndeoncbocplaaDoorW.PrintMore
attribute [local go_sem ↓] rd_at50 wr_at50 al_at50
attribute [local go_sem] rd50_new wr50_new al50
theorem plays_par {t : List S50} (PL : Plays t) : ∀ n ∈ t, ∃ q, P.path_Parent.f n.f0 = some q := by
  intro n hn
  obtain ⟨ns, hok, hp⟩ := PL.path n hn
  have hz := check_len hok.2
  exact ⟨_, by rw [hp]; exact YtmndeoncbocplaaDoor.P.parent_f (pth ns) (by rw [pth_size]; omega) ns (pth_data ns) hok.1⟩
theorem plays_last {t : List S50} (PL : Plays t) : ∀ n ∈ t, ∃ q, P.path_Last.f n.f0 = some q := by
  intro n hn
  obtain ⟨ns, hok, hp⟩ := PL.path n hn
  have hz := check_len hok.2
  exact ⟨_, by rw [hp]; exact YtmndeoncbocplaaDoor.P.last_f (pth ns) (by rw [pth_size]; omega) ns (pth_data ns) hok.1⟩
theorem tfind_p {t : List S50} (PL : Plays t) {dn : S50} (hd : dn ∈ t) (A : Option Addr) (c : Nat) (w : World) (hC : Kd.C k50 w A t.length t) (hc : t.length ≤ c) (hn : t.length < 1000000) :
    Calls Tryd.prog 53 #[.slice A t.length c, .string dn.f0] w fun e w' => ∃ D6 d6 D11 d11, e = .returned (.tuple #[.agg #[.string dn.f0, .bool dn.f1, .int .i64 dn.f2.f0, .int .i64 dn.f2.f1, .int .i64 dn.f2.f2, .int .i64 dn.f2.f3, .slice D6 dn.f3.length d6, .int .i64 dn.f4.f0, .int .i64 dn.f4.f1, .int .i64 dn.f4.f2, .int .i64 dn.f4.f3, .slice D11 dn.f5.length d11, .int .i64 dn.f6.f0, .int .i64 dn.f6.f1, .int .i64 dn.f6.f2, .int .i64 dn.f6.f3], .bool true]) ∧ k50.K w' dn [.string dn.f0, .bool dn.f1, .int .i64 dn.f2.f0, .int .i64 dn.f2.f1, .int .i64 dn.f2.f2, .int .i64 dn.f2.f3, .slice D6 dn.f3.length d6, .int .i64 dn.f4.f0, .int .i64 dn.f4.f1, .int .i64 dn.f4.f2, .int .i64 dn.f4.f3, .slice D11 dn.f5.length d11, .int .i64 dn.f6.f0, .int .i64 dn.f6.f1, .int .i64 dn.f6.f2, .int .i64 dn.f6.f3] ∧ Below w.heap.size w w' := by
  obtain ⟨i1, i2⟩ := is_at PL.asc hd
  refine (tfind t dn.f0 A c w hC hc hn (asc_rising PL.asc _) PL.fits).mono ?_
  rintro e w' ⟨cs, rfl, hK, hb⟩
  rw [i2] at hK
  rw [i1]
  have hk := Kd.FK_now hK
  obtain ⟨D6, d6, D11, d11, rfl, _⟩ := k50_open hk
  exact ⟨D6, d6, D11, d11, rfl, hk, hb⟩
theorem nosuch {t : List S50} (PL : Plays t) : isN t ⟨#[47, 110, 111, 47, 115, 117, 99, 104]⟩ = false ∧ nodeN t ⟨#[47, 110, 111, 47, 115, 117, 99, 104]⟩ = z50 := by
  have h := not_in PL.fine PL.asc (p := ⟨#[47, 110, 111, 47, 115, 117, 99, 104]⟩) (b := 110) (by rw [Lib.toList_data]; decide) not_fine_n
  exact ⟨h, by unfold nodeN; rw [h]; rfl⟩
attribute [local go_sem ↓] rd_at80 wr_at80 al_at80
attribute [local go_sem] al80 wr80_new
set_option maxHeartbeats 16000000 in
set_option maxRecDepth 100000 in
theorem plays_c (terms : List S41) (makes more : List S80) (drops : List Int) (A B E G : Option Addr) (c d ce cg0 : Nat) (w : World) (hC : Kd.C k41 w A terms.length terms) (hc : terms.length ≤ c) (hD : Kd.C k80 w B makes.length makes) (hd : makes.length ≤ d) (hE : Kd.C k80 w E more.length more) (he : more.length ≤ ce) (hG : Kd.C (Kd.int .i64) w G drops.length drops) (hg : drops.length ≤ cg0) :
    Calls Tryd.prog 19 #[.slice A terms.length c, .slice B makes.length d, .slice E more.length ce, .slice G drops.length cg0] w fun e w' => e = .returned (.bool true) ∧ Below w.heap.size w w' := by
  have HGR := Lib.hid fun w1 (hb : Below w.heap.size w w1) => grow_c3 terms makes A B c d w1 (Kd.C_below hC hb) hc (Kd.C_below hD hb) hd
  have HE := Lib.hid hE
  have HGD := Lib.hid hG
  have hem := hE.2.1
  have hgm := hG.2.1
  clear hC hD hE hG
  go_enter Tryd.func19, Tryd.ntmps19
  go_wp2_with (first | (go_at_call 32; have hg := HB1.out; clear hg; go_loud (refine (HGR.out _ HB1.out).mono ?_; rintro e w2 ⟨Ag0, t0, cg1, rfl, hT, hF, h19, hl, hCt, hb⟩; have HP0 := Lib.hid (tree_plays hT hF); have HC0 := Lib.hid hCt; have HB2 := Lib.hid (below_step HB1.out hb); clear hb hT hF hCt)) | (go_at_call 48; go_loud (refine (known11_c _).mono ?_; rintro e w1 ⟨rfl, hb⟩; have HB1 := Lib.hid hb; clear hb)))
  go_loopg [9, 10] 12 (fun k s9 s10 wr => ∃ (i : Nat) (t : List S50) (Ag : Option Addr) (cg : Nat), i ≤ 12 ∧ 12 - i ≤ k ∧ s9 = .slice Ag t.length cg ∧ s10 = .int .i64 i ∧ t.length ≤ cg ∧ t.length ≤ 19 + i ∧ Hid (Plays t) ∧ Hid (Kd.C k50 wr Ag t.length t) ∧ Hid (Below w.heap.size w wr))
  case atStart => exact ⟨0, t0, Ag0, cg1, Nat.zero_le _, Nat.le_refl _, rfl, rfl, hl, h19, HP0, HC0, HB2⟩
  case round =>
    clear HP0 HC0 HB2 HGR
    obtain ⟨i, t, Ag, cg, hi, hik, rfl, rfl, hcg, htl, HP, HCt, HB⟩ := hrel
    obtain ⟨V1, hV⟩ : ∃ V, V = wr := ⟨_, rfl⟩
    subst hV
    by_cases hcond : i < more.length ∧ i < 12
    · obtain ⟨hlt, h12⟩ := hcond
      obtain ⟨v1, W1, hap, ⟨A1, c1, hv1, hc1, hC1⟩, hb1⟩ := app50 t Ag cg V1 V1 HCt.out (Below.refl _ _) (by omega)
      subst hv1
      have HB1 := Lib.hid (below_step HB.out hb1)
      have HCT1 := Lib.hid (Kd.C_below HCt.out hb1)
      have HCW1 := Lib.hid hC1
      clear hb1 hC1
      obtain ⟨adm, cs, hAm, hK, hld⟩ := row_load z80 HE.out HB1.out i hlt
      subst hAm
      obtain ⟨A0, c0, A6, c6, A11, c11, rfl, l0, g0, l6, g6, l11, g11⟩ := k80_open hK
      have r80 := rd80_of (show (loadCellsFrom (adm.add (i * 16)) 0 16 #[]).run Tryd.prog W1 = .ok _ W1 from hld)
      clear hK hld
      generalize more[i]'hlt = m at l0 g0 l6 g6 l11 g11 r80
      obtain ⟨ns, hok, hfn, hof⟩ := of_c2 m.f0 g0.2.1
      have HG0 := Lib.hid g0
      have HG6 := Lib.hid g6
      have HOF := Lib.hid hof
      have HOK := Lib.hid hok
      have HFNs := Lib.hid hfn
      clear g0 g6 g11 hof hok hfn
      go_wp2_with (at_builtin; go_loud (refine Lib.wpList_append_run _ rfl _ _ _ _ rfl _ _ rfl rfl _ _ hap ?_))
      have EM4 := blk_new W1 (.cells #[.slice A0 m.f0.length c0, .bool m.f1, .int .i64 m.f2.f0, .int .i64 m.f2.f1, .int .i64 m.f2.f2, .int .i64 m.f2.f3, .slice A6 m.f3.length c6, .int .i64 m.f4.f0, .int .i64 m.f4.f1, .int .i64 m.f4.f2, .int .i64 m.f4.f3, .slice A11 m.f5.length c11, .int .i64 m.f6.f0, .int .i64 m.f6.f1, .int .i64 m.f6.f2, .int .i64 m.f6.f3] 80)
      have HI4 := Lib.hid (below_alloc (Below.refl W1.heap.size W1) (.cells #[.slice A0 m.f0.length c0, .bool m.f1, .int .i64 m.f2.f0, .int .i64 m.f2.f1, .int .i64 m.f2.f2, .int .i64 m.f2.f3, .slice A6 m.f3.length c6, .int .i64 m.f4.f0, .int .i64 m.f4.f1, .int .i64 m.f4.f2, .int .i64 m.f4.f3, .slice A11 m.f5.length c11, .int .i64 m.f6.f0, .int .i64 m.f6.f1, .int .i64 m.f6.f2, .int .i64 m.f6.f3] 80))
      obtain ⟨W4, hW4⟩ : ∃ W, W = W1.alloc (.cells #[.slice A0 m.f0.length c0, .bool m.f1, .int .i64 m.f2.f0, .int .i64 m.f2.f1, .int .i64 m.f2.f2, .int .i64 m.f2.f3, .slice A6 m.f3.length c6, .int .i64 m.f4.f0, .int .i64 m.f4.f1, .int .i64 m.f4.f2, .int .i64 m.f4.f3, .slice A11 m.f5.length c11, .int .i64 m.f6.f0, .int .i64 m.f6.f1, .int .i64 m.f6.f2, .int .i64 m.f6.f3] 80) := ⟨_, rfl⟩
      rw [← hW4] at EM4 HI4 ⊢
      clear hW4
      refine rp9 W1.heap.size m (pth ns) A0 A6 A11 c0 c6 c11 _ _ _ _ _ _ _ _ _ _ _ _ _ _ _ _ _ _ _ _ _ _ _ _ _ _ _ _ _ _ _ _ _ _ _ _ _ _ _ _ _ _ _ _ _ _ _ _ _ _ _ _ _ _ _ _ _ _ _ _ _ _ _ _ _ _ _ _ _ _ _ _ _ _ _ _ _ _ _ _ _ _ _ _ _ _ _ _ _ _ _ _ _ _ _ _ _ _ _ _ _ _ _ _ _ _ _ _ _ _ _ _ _ _ _ _ _ _ _ _ _ _ _ _ _ _ _ _ _ _ _ _ _ _ _ _ _ _ _ _ _ _ _ _ _ _ _ _ _ _ _ _ _ _ _ _ _ _ _ _ _ _ _ _ _ _ _ _ _ _ _ _ _ _ _ _ _ _ _ _ _ _ _ _ _ _ _ _ _ _ W4 _ EM4 (fun w1 hb => HOF.out A0 c0 w1 (Kd.C_below HG0.out (below_step HI4.out hb)) l0) (fun w1 => good_c m.f2 w1) (fun w1 hb => acl_c m.f3 A6 c6 w1 (Kd.C_below HG6.out (below_step HI4.out hb)) l6) (fun w1 => good_c m.f6 w1) ?_
      intro gn W5 up yb A8 c8 xs t46 t47 t48 t49 t50 t51 t52 t53 t54 t55 t56 t57 t58 t59 t60 hLu hLy hGA hc8 hC8 hEN hge hb5
      have HEN := Lib.hid hEN
      have HI5 := Lib.hid (below_step HI4.out hb5)
      have HB5 := Lib.hid (below_step HB1.out HI5.out)
      have HCT5 := Lib.hid (Kd.C_below HCT1.out HI5.out)
      have HCW5 := Lib.hid (Kd.C_below HCW1.out HI5.out)
      have r9 := rd50_blk hEN rfl
      have hKn : k50.K W5 ⟨pth ns, m.f1, up, xs, z47, [], yb⟩ [.string (pth ns), .bool m.f1, .int .i64 up.f0, .int .i64 up.f1, .int .i64 up.f2, .int .i64 up.f3, .slice A8 xs.length c8, .int .i64 0, .int .i64 0, .int .i64 0, .int .i64 0, .slice none 0 0, .int .i64 yb.f0, .int .i64 yb.f1, .int .i64 yb.f2, .int .i64 yb.f3] := k50_mk W5 ⟨pth ns, m.f1, up, xs, z47, [], yb⟩ (c6 := c8) hc8 hC8 (A11 := none) (c11 := 0) (Nat.le_refl _) (Kd.C_nil (Kd.int .i64) W5)
      have hfits : Fits ⟨pth ns, m.f1, up, xs, z47, [], yb⟩ := ⟨by have := acl_len hGA; show xs.length ≤ 1000; omega, Nat.zero_le _⟩
      have HPUT0 := fun (w1 : World) (hb : Below W5.heap.size W5 w1) => tput_c t ⟨pth ns, m.f1, up, xs, z47, [], yb⟩ [.string (pth ns), .bool m.f1, .int .i64 up.f0, .int .i64 up.f1, .int .i64 up.f2, .int .i64 up.f3, .slice A8 xs.length c8, .int .i64 0, .int .i64 0, .int .i64 0, .int .i64 0, .slice none 0 0, .int .i64 yb.f0, .int .i64 yb.f1, .int .i64 yb.f2, .int .i64 yb.f3] Ag cg w1 (Kd.C_below HCT5.out hb) hcg (by omega) (asc_rising HP.out.asc _) HP.out.fits (k50.K_below hb hKn) hfits
      rw [put_eq HP.out.asc ⟨pth ns, m.f1, up, xs, z47, [], yb⟩] at HPUT0
      have HRP0 := fun (w1 : World) (hb : Below W5.heap.size W5 w1) => put_c t ⟨pth ns, m.f1, up, xs, z47, [], yb⟩ [.string (pth ns), .bool m.f1, .int .i64 up.f0, .int .i64 up.f1, .int .i64 up.f2, .int .i64 up.f3, .slice A8 xs.length c8, .int .i64 0, .int .i64 0, .int .i64 0, .int .i64 0, .slice none 0 0, .int .i64 yb.f0, .int .i64 yb.f1, .int .i64 yb.f2, .int .i64 yb.f3] A1 c1 W5 w1 HCW5.out hb hc1 (by omega) hKn
      have HP2 := Lib.hid (plays_put HP.out hfits ⟨ns, HOK.out, rfl⟩ HFNs.out)
      have ht2 := put_len t ⟨pth ns, m.f1, up, xs, z47, [], yb⟩
      have ht20 : 0 < (putN t ⟨pth ns, m.f1, up, xs, z47, [], yb⟩).length := List.length_pos_of_mem (mem_put.2 (Or.inl rfl))
      generalize putN t ⟨pth ns, m.f1, up, xs, z47, [], yb⟩ = t2 at HPUT0 HRP0 HP2 ht2 ht20
      have HPUT := Lib.hid HPUT0
      have HRP := Lib.hid HRP0
      clear HPUT0 HRP0 hKn hfits hEN hb5 EM4 hGA hC8 r80 hap
      by_cases hdr : i < drops.length
      · obtain ⟨adg, hG', hdi0⟩ := int_at HGD.out HB5.out i hdr
        subst hG'
        generalize drops.getD i 0 = dv at hdi0
        have HDI := Lib.hid hdi0
        clear hdi0
        go_wp2_with (first | (go_at_call 57; have hg := HB8.out; clear hg; go_loud (refine (same57_c t Ag A1 cg c1 _ (Kd.C_below HCT5.out HI8.out) (Kd.C_below HCW5.out HI8.out)).mono ?_; rintro e W9 ⟨rfl, hb⟩; have HX9 := Lib.hid (Kd.C_below HX8.out hb); have HI9 := Lib.hid (below_step HI8.out hb); have HB9 := Lib.hid (below_step HB8.out hb); have hdi := pw_cell_below HI9.out HDI.out; clear hb)) | (go_at_call 57; have hg := HB7.out; clear hg; go_loud (refine (same57_c t2 A2 A3 c2 c3 _ HX7.out HR7.out).mono ?_; rintro e W8 ⟨rfl, hb⟩; have HX8 := Lib.hid (Kd.C_below HX7.out hb); have HI8 := Lib.hid (below_step HI7.out hb); have HB8 := Lib.hid (below_step HB7.out hb); clear hb)) | (go_at_call 47; go_loud (refine (HRP.out _ HI6.out).mono ?_; rintro e W7 ⟨v, rfl, hO, hb⟩; obtain ⟨A3, c3, rfl, hc3, hR3⟩ := OwnRow.reads hO; have HX7 := Lib.hid (Kd.C_below HX6.out hb); have HR7 := Lib.hid (C50_of hR3 (below_step HI6.out hb)); have HI7 := Lib.hid (below_step HI6.out hb); have HB7 := Lib.hid (below_step HB6.out hb); clear hO hb hR3)) | (go_at_call 55; go_loud (refine (HPUT.out _ (Below.refl W5.heap.size W5)).mono ?_; rintro e W6 ⟨A2, c2, rfl, hc2, hC2, hb⟩; have HX6 := Lib.hid hC2; have HI6 := Lib.hid hb; have HB6 := Lib.hid (below_step HB5.out hb); have r9 := rd50_blk (blk_below HEN.out hb) rfl; clear hb hC2)))
        refine (wit_calls _ (t2.length : Int) _ (by omega) (by omega)).mono ?_
        rintro e W10 ⟨kz, hkz0, hkz1, rfl, hdr10⟩
        obtain ⟨kk, rfl⟩ := Int.eq_ofNat_of_zero_le hkz0
        have hkk2 : kk < t2.length := by omega
        have hb10 := hdr10.below
        obtain ⟨ad2, D6, d6, D11, d11, hA2, hcs2, _⟩ := at50 HX9.out hb10 kk hkk2
        have HM2 := Lib.hid (List.getElem_mem (l := t2) (n := kk) hkk2)
        subst hA2
        generalize (t2[kk]'hkk2) = dm at hcs2 HM2
        have hpd0 := hcs2.1
        have HX10 := Lib.hid (Kd.C_below HX9.out hb10)
        have HB10 := Lib.hid (below_step HB9.out hb10)
        clear hcs2 hb10 hdr10
        obtain ⟨v4, W11, hap4, ⟨A4, c4, hv4, hc4, hC4⟩, hb11⟩ := app50 t2 (some ad2) c2 W10 W10 HX10.out (Below.refl _ _) (by omega)
        subst hv4
        have HX11 := Lib.hid (Kd.C_below HX10.out hb11)
        have HW11 := Lib.hid hC4
        have HB11 := Lib.hid (below_step HB10.out hb11)
        clear hb11 hC4
        have HTD := Lib.hid fun (w1 : World) (hb : Below W11.heap.size W11 w1) => tdrop_c t2 dm.f0 (some ad2) c2 w1 (Kd.C_below HX11.out hb) hc2 (by omega) (asc_rising HP2.out.asc _) HP2.out.fits
        have HRD := Lib.hid fun (w1 : World) (hb : Below W11.heap.size W11 w1) => drop_c t2 dm.f0 A4 c4 w1 w1 (Kd.C_below HW11.out hb) (Below.refl _ _) hc4 (by omega)
        rw [drop_eq HP2.out.asc dm.f0] at HTD
        have HP3 := Lib.hid (plays_drop HP2.out dm.f0)
        have ht3 : (t2.filter (keepN dm.f0)).length ≤ t2.length := List.length_filter_le _ _
        generalize t2.filter (keepN dm.f0) = t3 at HTD HRD HP3 ht3
        go_wp2_with (first | (at_builtin; go_loud (refine Lib.wpList_append_run _ rfl _ _ _ _ rfl _ _ rfl rfl _ _ hap4 ?_)) | (go_at_call 57; have hg := HB14.out; clear hg; go_loud (refine (same57_c t2 (some ad2) A4 c2 c4 _ (Kd.C_below HX11.out HI14.out) (Kd.C_below HW11.out HI14.out)).mono ?_; rintro e W15 ⟨rfl, hb⟩; have HX15 := Lib.hid (Kd.C_below HX14.out hb); have HB15 := Lib.hid (below_step HB14.out hb); clear hb)) | (go_at_call 57; have hg := HB13.out; clear hg; go_loud (refine (same57_c t3 A5 A6d c5 c6d _ HX13.out HR13.out).mono ?_; rintro e W14 ⟨rfl, hb⟩; have HX14 := Lib.hid (Kd.C_below HX13.out hb); have HI14 := Lib.hid (below_step HI13.out hb); have HB14 := Lib.hid (below_step HB13.out hb); clear hb)) | (go_at_call 59; go_loud (refine (HRD.out _ HI12.out).mono ?_; rintro e W13 ⟨v, rfl, hO, hb⟩; obtain ⟨A6d, c6d, rfl, hc6d, hR6⟩ := OwnRow.reads hO; have HX13 := Lib.hid (Kd.C_below HX12.out hb); have HR13 := Lib.hid (C50_of hR6 hb); have HI13 := Lib.hid (below_step HI12.out hb); have HB13 := Lib.hid (below_step HB12.out hb); clear hO hb hR6)) | (go_at_call 58; go_loud (refine (HTD.out _ (Below.refl W11.heap.size W11)).mono ?_; rintro e W12 ⟨A5, c5, rfl, hc5, hC5, hb⟩; have HX12 := Lib.hid hC5; have HI12 := Lib.hid hb; have HB12 := Lib.hid (below_step HB11.out hb); clear hb hC5)))
        obtain ⟨WX, hWX⟩ : ∃ W, W = W15 := ⟨_, rfl⟩
        subst hWX
        go_loopg [16] t3.length (fun kk s16 wr => ∃ k : Nat, k ≤ t3.length ∧ t3.length - k ≤ kk ∧ s16 = .int .i64 k ∧ Hid (Below WX.heap.size WX wr))
        case atStart => exact ⟨0, Nat.zero_le _, Nat.le_refl _, rfl, Lib.hid (Below.refl _ _)⟩
        case round =>
          obtain ⟨k, hk, hkk, rfl, HK⟩ := hrel
          obtain ⟨Y0, hY⟩ : ∃ W, W = wr := ⟨_, rfl⟩
          subst hY
          by_cases hkl : k < t3.length
          · obtain ⟨adk, E6, g6x, E11, g11x, hA9, hcs, HKK⟩ := at50 HX15.out HK.out k hkl
            subst hA9
            have HMk := Lib.hid (List.getElem_mem (l := t3) (n := k) hkl)
            generalize (t3[k]'hkl) = dn at hcs HKK HMk
            obtain ⟨ds, hod, hpd⟩ := HP3.out.path dn HMk.out
            have hpk := hcs.1
            have HCS := Lib.hid hcs
            have HFN := Lib.hid fun w1 (hb : Below WX.heap.size WX w1) => tfind_p HP3.out HMk.out (some adk) c5 w1 (Kd.C_below HX15.out hb) (by omega) (by omega)
            have hul : (under t3 dn.f0).length = (kids t3 dn.f0).length := kids_len _ _
            have hue : (under t3 dn.f0).map bytesOf = kids t3 dn.f0 := by rw [hpd]; exact under_eq HP3.out hod
            have HUN := Lib.hid (fun (w1 : World) (hb : Below WX.heap.size WX w1) => (by
              have h := under_c t3 dn.f0 (some adk) c5 w1 (Kd.C_below HX15.out hb) (by omega) (by omega) (plays_par HP3.out) (plays_last HP3.out)
              rw [hul, hue] at h
              exact h : Calls Tryd.prog 52 #[.slice (some adk) t3.length c5, .string dn.f0] w1 fun e w' => ∃ U cu, e = .returned (.slice U (kids t3 dn.f0).length cu) ∧ (kids t3 dn.f0).length ≤ cu ∧ Kd.C Kd.string w' U (kids t3 dn.f0).length (kids t3 dn.f0) ∧ Below w1.heap.size w1 w'))
            have HRU := Lib.hid (fun (w1 : World) (hb : Below WX.heap.size WX w1) => runder_c t3 dn.f0 (some adk) c5 w1 (Kd.C_below HX15.out hb) (by omega) (by omega) HP3.out.path)
            clear hcs hul hue hod hpd
            generalize kids t3 dn.f0 = ks at HUN HRU
            go_wp2_with (go_at_call 53; go_loud (refine (HFN.out _ HK.out).mono ?_; rintro e Y1 ⟨F6, f6, F11, f11, rfl, hKF, hb⟩; have EA1 := Lib.hid (blk_new Y1 (.cells #[.string dn.f0, .bool dn.f1, .int .i64 dn.f2.f0, .int .i64 dn.f2.f1, .int .i64 dn.f2.f2, .int .i64 dn.f2.f3, .slice F6 dn.f3.length f6, .int .i64 dn.f4.f0, .int .i64 dn.f4.f1, .int .i64 dn.f4.f2, .int .i64 dn.f4.f3, .slice F11 dn.f5.length f11, .int .i64 dn.f6.f0, .int .i64 dn.f6.f1, .int .i64 dn.f6.f2, .int .i64 dn.f6.f3] 50)); have HY1 := Lib.hid (below_alloc hb (.cells #[.string dn.f0, .bool dn.f1, .int .i64 dn.f2.f0, .int .i64 dn.f2.f1, .int .i64 dn.f2.f2, .int .i64 dn.f2.f3, .slice F6 dn.f3.length f6, .int .i64 dn.f4.f0, .int .i64 dn.f4.f1, .int .i64 dn.f4.f2, .int .i64 dn.f4.f3, .slice F11 dn.f5.length f11, .int .i64 dn.f6.f0, .int .i64 dn.f6.f1, .int .i64 dn.f6.f2, .int .i64 dn.f6.f3] 50)); have HKF := Lib.hid (k50.K_below (below_alloc (Below.refl Y1.heap.size Y1) (.cells #[.string dn.f0, .bool dn.f1, .int .i64 dn.f2.f0, .int .i64 dn.f2.f1, .int .i64 dn.f2.f2, .int .i64 dn.f2.f3, .slice F6 dn.f3.length f6, .int .i64 dn.f4.f0, .int .i64 dn.f4.f1, .int .i64 dn.f4.f2, .int .i64 dn.f4.f3, .slice F11 dn.f5.length f11, .int .i64 dn.f6.f0, .int .i64 dn.f6.f1, .int .i64 dn.f6.f2, .int .i64 dn.f6.f3] 50)) hKF); clear hb hKF))
            obtain ⟨Y2, hY2⟩ : ∃ W, W = Y1.alloc (.cells #[.string dn.f0, .bool dn.f1, .int .i64 dn.f2.f0, .int .i64 dn.f2.f1, .int .i64 dn.f2.f2, .int .i64 dn.f2.f3, .slice F6 dn.f3.length f6, .int .i64 dn.f4.f0, .int .i64 dn.f4.f1, .int .i64 dn.f4.f2, .int .i64 dn.f4.f3, .slice F11 dn.f5.length f11, .int .i64 dn.f6.f0, .int .i64 dn.f6.f1, .int .i64 dn.f6.f2, .int .i64 dn.f6.f3] 50) := ⟨_, rfl⟩
            rw [← hY2] at EA1 HY1 HKF ⊢
            clear hY2
            have HK2 := Lib.hid (below_step HK.out HY1.out)
            refine rp25 adk t3.length c5 k dn.f0 ks _ _ _ _ _ _ _ _ _ _ _ _ _ _ _ _ _ _ _ _ _ _ _ _ _ _ _ _ _ _ _ _ _ _ _ _ _ _ _ _ _ _ _ _ _ _ _ _ _ _ _ _ _ _ _ _ _ _ _ _ _ _ _ _ _ _ _ _ _ _ _ _ _ _ _ _ _ _ _ _ _ _ _ _ _ _ _ _ _ _ _ _ _ _ _ _ _ _ _ _ _ _ _ _ _ _ _ _ _ _ _ _ _ _ _ _ _ _ _ _ _ _ _ _ _ _ _ _ _ _ _ _ _ _ _ _ _ _ _ _ _ _ _ _ _ _ _ _ _ _ _ _ _ _ _ _ _ _ _ _ _ _ _ _ _ _ _ _ _ _ _ _ _ _ _ _ _ _ _ _ _ _ _ _ _ _ _ _ _ Y2 _ hkl (pw_cell_below HY1.out hpk) (fun w1 hb => HUN.out w1 (below_step HK2.out hb)) (fun w1 hb => HRU.out w1 (below_step HK2.out hb)) ?_
            intro Y3 U cu V cv t132 t133 t134 t135 t136 t137 t138 t139 t140 t141 t142 t143 t144 t145 hcu hcv hCU hCV hb3
            have HY3 := Lib.hid (below_step HY1.out hb3)
            have EA3 := Lib.hid (blk_below EA1.out hb3)
            have HKF3 := Lib.hid (k50.K_below hb3 HKF.out)
            have HK3 := Lib.hid (below_step HK2.out hb3)
            have HCU := Lib.hid hCU
            have HCV := Lib.hid hCV
            clear hb3 hCU hCV
            go_wp2
            refine rp26 adk U V t3.length c5 k _ ks.length cu cv _ _ _ _ _ _ _ _ _ _ _ _ _ _ _ _ _ _ _ _ _ _ _ _ _ _ _ _ _ _ _ _ _ _ _ _ _ _ _ _ _ _ _ _ _ _ _ _ _ _ _ _ _ _ _ _ _ _ _ _ _ _ _ _ _ _ _ _ _ _ _ _ _ _ _ _ _ _ _ _ _ _ _ _ _ _ _ _ _ _ _ _ _ _ _ _ _ _ _ _ _ _ _ _ _ _ _ _ _ _ _ _ _ _ _ _ _ _ _ _ _ _ _ _ _ _ _ _ _ _ _ _ _ _ _ _ _ _ _ _ _ _ _ _ _ _ _ _ _ _ _ _ _ _ _ _ _ _ _ _ _ _ _ _ _ _ _ _ _ _ _ _ _ _ _ _ _ _ _ _ _ _ _ _ _ _ _ Y3 _ hkl (fun W1 hb => rd50_blk (blk_below EA3.out hb) rfl) (fun W1 hb => rd50_of (loadC50 (P := Tryd.prog) (c16_below (below_step HY3.out hb) HCS.out))) (fun w1 hb => same_t dn _ _ w1 (k50.K_below hb HKF3.out) (k50.K_below (below_step HK3.out hb) HKK.out)) ?_
            intro Y4 t146 t147 t148 t149 t150 t151 t152 t153 t154 t155 t156 t157 t158 t159 t160 t161 t162 hb4
            have HK4 := Lib.hid (below_step HK3.out hb4)
            have HCU4 := Lib.hid (Kd.C_below HCU.out hb4)
            have HCV4 := Lib.hid (Kd.C_below HCV.out hb4)
            clear hb4
            have hksm := HCU4.out.2.1
            go_wp2
            go_loopg [21] ks.length (fun kq s21 wr => ∃ j : Nat, j ≤ ks.length ∧ ks.length - j ≤ kq ∧ s21 = .int .i64 j ∧ Hid (Below Y4.heap.size Y4 wr))
            case atStart => exact ⟨0, Nat.zero_le _, Nat.le_refl _, rfl, Lib.hid (Below.refl _ _)⟩
            case round =>
              obtain ⟨j, hj, hjk, rfl, HJ⟩ := hrel
              obtain ⟨Z0, hZ⟩ : ∃ W, W = wr := ⟨_, rfl⟩
              subst hZ
              by_cases hjl : j < ks.length
              · obtain ⟨au, hAu, hsu⟩ := str_at HCU4.out rfl HJ.out j hjl
                obtain ⟨av, hAv, hsv⟩ := str_at HCV4.out rfl HJ.out j hjl
                subst hAu hAv
                go_wp2
                refine rp31 au av ks.length cu cv j _ _ _ _ _ _ _ _ _ _ _ _ _ _ _ _ _ _ _ _ _ _ _ _ _ _ _ _ _ _ _ _ _ _ _ _ _ _ _ _ _ _ _ _ _ _ _ _ _ _ _ _ _ _ _ _ _ _ _ _ _ _ _ _ _ _ _ _ _ _ _ _ _ _ _ _ _ _ _ _ _ _ _ _ _ _ _ _ _ _ _ _ _ _ _ _ _ _ _ _ _ _ _ _ _ _ _ _ _ _ _ _ _ _ _ _ _ _ _ _ _ _ _ _ _ _ _ _ _ _ _ _ _ _ _ _ _ _ _ _ _ _ _ _ _ _ _ _ _ _ _ _ _ _ _ _ _ _ _ _ _ _ _ _ _ _ _ _ _ _ _ _ _ _ _ _ _ _ _ _ _ _ _ _ _ _ _ _ _ Z0 _ hjl hsu hsv ?_
                intro Z1 t170 t171 t172 t173 t174 t175 t176 t177 hbz
                have HJ1 := Lib.hid (below_step HJ.out hbz)
                clear hbz hsu hsv
                go_wp2
                go_roundg (ks.length - (j + 1))
                case measure => omega
                case rel => exact ⟨j + 1, hjl, Nat.le_refl _, by go_num, HJ1⟩
              · obtain rfl : j = ks.length := by omega
                go_wp2
                go_roundg (t3.length - (k + 1))
                case measure => omega
                case rel => exact ⟨k + 1, hkl, Nat.le_refl _, by go_num, Lib.hid (below_step HK4.out HJ.out)⟩
          · obtain rfl : k = t3.length := by omega
            go_wp2
            go_roundg (12 - (i + 1))
            case measure => omega
            case rel => exact ⟨i + 1, t3, _, _, h12, Nat.le_refl _, rfl, by go_num, by omega, by omega, HP3, Lib.hid (Kd.C_below HX15.out HK.out), Lib.hid (below_step HB15.out HK.out)⟩
      · go_wp2_with (first | (go_at_call 57; have hg := HB8.out; clear hg; go_loud (refine (same57_c t Ag A1 cg c1 _ (Kd.C_below HCT5.out HI8.out) (Kd.C_below HCW5.out HI8.out)).mono ?_; rintro e W9 ⟨rfl, hb⟩; have HX9 := Lib.hid (Kd.C_below HX8.out hb); have HI9 := Lib.hid (below_step HI8.out hb); have HB9 := Lib.hid (below_step HB8.out hb); clear hb)) | (go_at_call 57; have hg := HB7.out; clear hg; go_loud (refine (same57_c t2 A2 A3 c2 c3 _ HX7.out HR7.out).mono ?_; rintro e W8 ⟨rfl, hb⟩; have HX8 := Lib.hid (Kd.C_below HX7.out hb); have HI8 := Lib.hid (below_step HI7.out hb); have HB8 := Lib.hid (below_step HB7.out hb); clear hb)) | (go_at_call 47; go_loud (refine (HRP.out _ HI6.out).mono ?_; rintro e W7 ⟨v, rfl, hO, hb⟩; obtain ⟨A3, c3, rfl, hc3, hR3⟩ := OwnRow.reads hO; have HX7 := Lib.hid (Kd.C_below HX6.out hb); have HR7 := Lib.hid (C50_of hR3 (below_step HI6.out hb)); have HI7 := Lib.hid (below_step HI6.out hb); have HB7 := Lib.hid (below_step HB6.out hb); clear hO hb hR3)) | (go_at_call 55; go_loud (refine (HPUT.out _ (Below.refl W5.heap.size W5)).mono ?_; rintro e W6 ⟨A2, c2, rfl, hc2, hC2, hb⟩; have HX6 := Lib.hid hC2; have HI6 := Lib.hid hb; have HB6 := Lib.hid (below_step HB5.out hb); have r9 := rd50_blk (blk_below HEN.out hb) rfl; clear hb hC2)))
        obtain ⟨WX, hWX⟩ : ∃ W, W = W9 := ⟨_, rfl⟩
        subst hWX
        go_loopg [16] t2.length (fun kk s16 wr => ∃ k : Nat, k ≤ t2.length ∧ t2.length - k ≤ kk ∧ s16 = .int .i64 k ∧ Hid (Below WX.heap.size WX wr))
        case atStart => exact ⟨0, Nat.zero_le _, Nat.le_refl _, rfl, Lib.hid (Below.refl _ _)⟩
        case round =>
          obtain ⟨k, hk, hkk, rfl, HK⟩ := hrel
          obtain ⟨Y0, hY⟩ : ∃ W, W = wr := ⟨_, rfl⟩
          subst hY
          by_cases hkl : k < t2.length
          · obtain ⟨adk, E6, g6x, E11, g11x, hA9, hcs, HKK⟩ := at50 HX9.out HK.out k hkl
            subst hA9
            have HMk := Lib.hid (List.getElem_mem (l := t2) (n := k) hkl)
            generalize (t2[k]'hkl) = dn at hcs HKK HMk
            obtain ⟨ds, hod, hpd⟩ := HP2.out.path dn HMk.out
            have hpk := hcs.1
            have HCS := Lib.hid hcs
            have HFN := Lib.hid fun w1 (hb : Below WX.heap.size WX w1) => tfind_p HP2.out HMk.out (some adk) c2 w1 (Kd.C_below HX9.out hb) (by omega) (by omega)
            have hul : (under t2 dn.f0).length = (kids t2 dn.f0).length := kids_len _ _
            have hue : (under t2 dn.f0).map bytesOf = kids t2 dn.f0 := by rw [hpd]; exact under_eq HP2.out hod
            have HUN := Lib.hid (fun (w1 : World) (hb : Below WX.heap.size WX w1) => (by
              have h := under_c t2 dn.f0 (some adk) c2 w1 (Kd.C_below HX9.out hb) (by omega) (by omega) (plays_par HP2.out) (plays_last HP2.out)
              rw [hul, hue] at h
              exact h : Calls Tryd.prog 52 #[.slice (some adk) t2.length c2, .string dn.f0] w1 fun e w' => ∃ U cu, e = .returned (.slice U (kids t2 dn.f0).length cu) ∧ (kids t2 dn.f0).length ≤ cu ∧ Kd.C Kd.string w' U (kids t2 dn.f0).length (kids t2 dn.f0) ∧ Below w1.heap.size w1 w'))
            have HRU := Lib.hid (fun (w1 : World) (hb : Below WX.heap.size WX w1) => runder_c t2 dn.f0 (some adk) c2 w1 (Kd.C_below HX9.out hb) (by omega) (by omega) HP2.out.path)
            clear hcs hul hue hod hpd
            generalize kids t2 dn.f0 = ks at HUN HRU
            go_wp2_with (go_at_call 53; go_loud (refine (HFN.out _ HK.out).mono ?_; rintro e Y1 ⟨F6, f6, F11, f11, rfl, hKF, hb⟩; have EA1 := Lib.hid (blk_new Y1 (.cells #[.string dn.f0, .bool dn.f1, .int .i64 dn.f2.f0, .int .i64 dn.f2.f1, .int .i64 dn.f2.f2, .int .i64 dn.f2.f3, .slice F6 dn.f3.length f6, .int .i64 dn.f4.f0, .int .i64 dn.f4.f1, .int .i64 dn.f4.f2, .int .i64 dn.f4.f3, .slice F11 dn.f5.length f11, .int .i64 dn.f6.f0, .int .i64 dn.f6.f1, .int .i64 dn.f6.f2, .int .i64 dn.f6.f3] 50)); have HY1 := Lib.hid (below_alloc hb (.cells #[.string dn.f0, .bool dn.f1, .int .i64 dn.f2.f0, .int .i64 dn.f2.f1, .int .i64 dn.f2.f2, .int .i64 dn.f2.f3, .slice F6 dn.f3.length f6, .int .i64 dn.f4.f0, .int .i64 dn.f4.f1, .int .i64 dn.f4.f2, .int .i64 dn.f4.f3, .slice F11 dn.f5.length f11, .int .i64 dn.f6.f0, .int .i64 dn.f6.f1, .int .i64 dn.f6.f2, .int .i64 dn.f6.f3] 50)); have HKF := Lib.hid (k50.K_below (below_alloc (Below.refl Y1.heap.size Y1) (.cells #[.string dn.f0, .bool dn.f1, .int .i64 dn.f2.f0, .int .i64 dn.f2.f1, .int .i64 dn.f2.f2, .int .i64 dn.f2.f3, .slice F6 dn.f3.length f6, .int .i64 dn.f4.f0, .int .i64 dn.f4.f1, .int .i64 dn.f4.f2, .int .i64 dn.f4.f3, .slice F11 dn.f5.length f11, .int .i64 dn.f6.f0, .int .i64 dn.f6.f1, .int .i64 dn.f6.f2, .int .i64 dn.f6.f3] 50)) hKF); clear hb hKF))
            obtain ⟨Y2, hY2⟩ : ∃ W, W = Y1.alloc (.cells #[.string dn.f0, .bool dn.f1, .int .i64 dn.f2.f0, .int .i64 dn.f2.f1, .int .i64 dn.f2.f2, .int .i64 dn.f2.f3, .slice F6 dn.f3.length f6, .int .i64 dn.f4.f0, .int .i64 dn.f4.f1, .int .i64 dn.f4.f2, .int .i64 dn.f4.f3, .slice F11 dn.f5.length f11, .int .i64 dn.f6.f0, .int .i64 dn.f6.f1, .int .i64 dn.f6.f2, .int .i64 dn.f6.f3] 50) := ⟨_, rfl⟩
            rw [← hY2] at EA1 HY1 HKF ⊢
            clear hY2
            have HK2 := Lib.hid (below_step HK.out HY1.out)
            refine rp25 adk t2.length c2 k dn.f0 ks _ _ _ _ _ _ _ _ _ _ _ _ _ _ _ _ _ _ _ _ _ _ _ _ _ _ _ _ _ _ _ _ _ _ _ _ _ _ _ _ _ _ _ _ _ _ _ _ _ _ _ _ _ _ _ _ _ _ _ _ _ _ _ _ _ _ _ _ _ _ _ _ _ _ _ _ _ _ _ _ _ _ _ _ _ _ _ _ _ _ _ _ _ _ _ _ _ _ _ _ _ _ _ _ _ _ _ _ _ _ _ _ _ _ _ _ _ _ _ _ _ _ _ _ _ _ _ _ _ _ _ _ _ _ _ _ _ _ _ _ _ _ _ _ _ _ _ _ _ _ _ _ _ _ _ _ _ _ _ _ _ _ _ _ _ _ _ _ _ _ _ _ _ _ _ _ _ _ _ _ _ _ _ _ _ _ _ _ _ Y2 _ hkl (pw_cell_below HY1.out hpk) (fun w1 hb => HUN.out w1 (below_step HK2.out hb)) (fun w1 hb => HRU.out w1 (below_step HK2.out hb)) ?_
            intro Y3 U cu V cv t132 t133 t134 t135 t136 t137 t138 t139 t140 t141 t142 t143 t144 t145 hcu hcv hCU hCV hb3
            have HY3 := Lib.hid (below_step HY1.out hb3)
            have EA3 := Lib.hid (blk_below EA1.out hb3)
            have HKF3 := Lib.hid (k50.K_below hb3 HKF.out)
            have HK3 := Lib.hid (below_step HK2.out hb3)
            have HCU := Lib.hid hCU
            have HCV := Lib.hid hCV
            clear hb3 hCU hCV
            go_wp2
            refine rp26 adk U V t2.length c2 k _ ks.length cu cv _ _ _ _ _ _ _ _ _ _ _ _ _ _ _ _ _ _ _ _ _ _ _ _ _ _ _ _ _ _ _ _ _ _ _ _ _ _ _ _ _ _ _ _ _ _ _ _ _ _ _ _ _ _ _ _ _ _ _ _ _ _ _ _ _ _ _ _ _ _ _ _ _ _ _ _ _ _ _ _ _ _ _ _ _ _ _ _ _ _ _ _ _ _ _ _ _ _ _ _ _ _ _ _ _ _ _ _ _ _ _ _ _ _ _ _ _ _ _ _ _ _ _ _ _ _ _ _ _ _ _ _ _ _ _ _ _ _ _ _ _ _ _ _ _ _ _ _ _ _ _ _ _ _ _ _ _ _ _ _ _ _ _ _ _ _ _ _ _ _ _ _ _ _ _ _ _ _ _ _ _ _ _ _ _ _ _ Y3 _ hkl (fun W1 hb => rd50_blk (blk_below EA3.out hb) rfl) (fun W1 hb => rd50_of (loadC50 (P := Tryd.prog) (c16_below (below_step HY3.out hb) HCS.out))) (fun w1 hb => same_t dn _ _ w1 (k50.K_below hb HKF3.out) (k50.K_below (below_step HK3.out hb) HKK.out)) ?_
            intro Y4 t146 t147 t148 t149 t150 t151 t152 t153 t154 t155 t156 t157 t158 t159 t160 t161 t162 hb4
            have HK4 := Lib.hid (below_step HK3.out hb4)
            have HCU4 := Lib.hid (Kd.C_below HCU.out hb4)
            have HCV4 := Lib.hid (Kd.C_below HCV.out hb4)
            clear hb4
            have hksm := HCU4.out.2.1
            go_wp2
            go_loopg [21] ks.length (fun kq s21 wr => ∃ j : Nat, j ≤ ks.length ∧ ks.length - j ≤ kq ∧ s21 = .int .i64 j ∧ Hid (Below Y4.heap.size Y4 wr))
            case atStart => exact ⟨0, Nat.zero_le _, Nat.le_refl _, rfl, Lib.hid (Below.refl _ _)⟩
            case round =>
              obtain ⟨j, hj, hjk, rfl, HJ⟩ := hrel
              obtain ⟨Z0, hZ⟩ : ∃ W, W = wr := ⟨_, rfl⟩
              subst hZ
              by_cases hjl : j < ks.length
              · obtain ⟨au, hAu, hsu⟩ := str_at HCU4.out rfl HJ.out j hjl
                obtain ⟨av, hAv, hsv⟩ := str_at HCV4.out rfl HJ.out j hjl
                subst hAu hAv
                go_wp2
                refine rp31 au av ks.length cu cv j _ _ _ _ _ _ _ _ _ _ _ _ _ _ _ _ _ _ _ _ _ _ _ _ _ _ _ _ _ _ _ _ _ _ _ _ _ _ _ _ _ _ _ _ _ _ _ _ _ _ _ _ _ _ _ _ _ _ _ _ _ _ _ _ _ _ _ _ _ _ _ _ _ _ _ _ _ _ _ _ _ _ _ _ _ _ _ _ _ _ _ _ _ _ _ _ _ _ _ _ _ _ _ _ _ _ _ _ _ _ _ _ _ _ _ _ _ _ _ _ _ _ _ _ _ _ _ _ _ _ _ _ _ _ _ _ _ _ _ _ _ _ _ _ _ _ _ _ _ _ _ _ _ _ _ _ _ _ _ _ _ _ _ _ _ _ _ _ _ _ _ _ _ _ _ _ _ _ _ _ _ _ _ _ _ _ _ _ _ Z0 _ hjl hsu hsv ?_
                intro Z1 t170 t171 t172 t173 t174 t175 t176 t177 hbz
                have HJ1 := Lib.hid (below_step HJ.out hbz)
                clear hbz hsu hsv
                go_wp2
                go_roundg (ks.length - (j + 1))
                case measure => omega
                case rel => exact ⟨j + 1, hjl, Nat.le_refl _, by go_num, HJ1⟩
              · obtain rfl : j = ks.length := by omega
                go_wp2
                go_roundg (t2.length - (k + 1))
                case measure => omega
                case rel => exact ⟨k + 1, hkl, Nat.le_refl _, by go_num, Lib.hid (below_step HK4.out HJ.out)⟩
          · obtain rfl : k = t2.length := by omega
            go_wp2
            go_roundg (12 - (i + 1))
            case measure => omega
            case rel => exact ⟨i + 1, t2, _, _, h12, Nat.le_refl _, rfl, by go_num, by omega, by omega, HP2, Lib.hid (Kd.C_below HX9.out HK.out), Lib.hid (below_step HB9.out HK.out)⟩
    · have hor : ¬ i < more.length ∨ (i < more.length ∧ ¬ i < 12) := by omega
      obtain ⟨hno, hnz⟩ := nosuch HP.out
      have hfd := fun w1 (hb : Below V1.heap.size V1 w1) => tfind t ⟨#[47, 110, 111, 47, 115, 117, 99, 104]⟩ Ag cg w1 (Kd.C_below HCt.out hb) hcg (by omega) (asc_rising HP.out.asc _) HP.out.fits
      rw [hno, hnz] at hfd
      have HFD := Lib.hid hfd
      clear hfd hno hnz
      rcases hor with hor | ⟨hor1, hor2⟩
      all_goals
        go_wp2_with (first | (go_at_call 42; go_loud (refine (same_t z50 _ _ _ HKZ.out (z50_K _)).mono ?_; rintro e W7 ⟨rfl, hb⟩; have HB7 := Lib.hid (below_step HB6.out hb); clear hb)) | (go_at_call 53; go_loud (refine (HFD.out _ (Below.refl _ _)).mono ?_; rintro e W6 ⟨cs, rfl, hFK, hb⟩; have hKz := Kd.FK_now hFK; obtain ⟨D6, d6, D11, d11, rfl, _⟩ := k50_open hKz; have HKZ := Lib.hid (k50.K_below (below_alloc (Below.refl W6.heap.size W6) (.cells #[.string z50.f0, .bool z50.f1, .int .i64 z50.f2.f0, .int .i64 z50.f2.f1, .int .i64 z50.f2.f2, .int .i64 z50.f2.f3, .slice D6 z50.f3.length d6, .int .i64 z50.f4.f0, .int .i64 z50.f4.f1, .int .i64 z50.f4.f2, .int .i64 z50.f4.f3, .slice D11 z50.f5.length d11, .int .i64 z50.f6.f0, .int .i64 z50.f6.f1, .int .i64 z50.f6.f2, .int .i64 z50.f6.f3] 50)) hKz); have HB6 := Lib.hid (below_alloc (below_step HB.out hb) (.cells #[.string z50.f0, .bool z50.f1, .int .i64 z50.f2.f0, .int .i64 z50.f2.f1, .int .i64 z50.f2.f2, .int .i64 z50.f2.f3, .slice D6 z50.f3.length d6, .int .i64 z50.f4.f0, .int .i64 z50.f4.f1, .int .i64 z50.f4.f2, .int .i64 z50.f4.f3, .slice D11 z50.f5.length d11, .int .i64 z50.f6.f0, .int .i64 z50.f6.f1, .int .i64 z50.f6.f2, .int .i64 z50.f6.f3] 50)); clear hb hFK hKz)))
        go_ret
        exact ⟨rfl, HB7.out⟩
end Go.Proofs.YtmndeoncbocplaaDoor.C
end
