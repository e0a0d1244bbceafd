/- ProcMakes: a process makes a child just if the lists let it: the walk. -/
import Derived.Test.YteilkbookcmndaaGreatDoorKZ8
import Derived.Deep.RegionHeldLaw
import Derived.Deep.RegionHeld3
import Derived.Deep.LoopGhost
import Derived.Test.YteilkbookcmndaaGreatDoorKB2
import Derived.Test.YteilkbookcmndaaGreatDoorKY6
set_option linter.unusedVariables false
set_option linter.unusedSimpArgs false
section
namespace Go.Proofs.YteilkbookcmndaaGreatDoor.C
open Go.RowKit Go.Proofs.YteilkbookcmndaaGreatDoor.Q Go.Proofs.YteilkbookcmndaaGreatDoorW.PrintWords Go.Proofs.YteilkbookcmndaaGreatDoorW.PrintLast Go.Proofs.YteilkbookcmndaaGreatDoorW.PrintMore
attribute [local go_sem ↓] rd_at50 wr_at50 al_at50
attribute [local go_sem] rd50_new wr50_new al50
attribute [local go_sem ↓] rd_at45 wr_at45 rd_at47b wr_at47b rd_at55 wr_at55 rd_at57 wr_at57 rd_at42 wr_at42
attribute [local go_sem] rd45_new wr45_new wr47b_new wr57_new
theorem node_lab {w : World} {A : Option Addr} {t : List S50} (h : Kd.C k50 w A t.length t) (j : Nat) (hj : j < t.length) : ∃ ad, A = some ad ∧ w.cell? ⟨(ad.add (j * 16)).block, (ad.add (j * 16)).off + 2, none⟩ = some (.int .i64 (t.getD j z50).f2.f0) ∧ w.cell? ⟨(ad.add (j * 16)).block, (ad.add (j * 16)).off + 3, none⟩ = some (.int .i64 (t.getD j z50).f2.f1) ∧ w.cell? ⟨(ad.add (j * 16)).block, (ad.add (j * 16)).off + 4, none⟩ = some (.int .i64 (t.getD j z50).f2.f2) ∧ w.cell? ⟨(ad.add (j * 16)).block, (ad.add (j * 16)).off + 5, none⟩ = some (.int .i64 (t.getD j z50).f2.f3) ∧ t.getD j z50 ∈ t := by
 obtain ⟨ad, A6, c6, A11, c11, hA, _, _, q2, q3, q4, q5, _⟩ := at_T50 h (j : Int) (by omega) (by omega)
 unfold rd_T50 at q2 q3 q4 q5
 rw [Int.toNat_natCast] at q2 q3 q4 q5
 refine ⟨ad, hA, q2, q3, q4, q5, ?_⟩
 rw [List.getD_eq_getElem?_getD, List.getElem?_eq_getElem hj]
 exact List.getElem_mem hj
theorem node_path {w : World} {A : Option Addr} {t : List S50} (h : Kd.C k50 w A t.length t) (j : Nat) (hj : j < t.length) : ∃ ad, A = some ad ∧ w.cell? (ad.add (j * 16)) = some (.string (t.getD j z50).f0) := by
 obtain ⟨ad, A6, c6, A11, c11, hA, q0, _⟩ := at_T50 h (j : Int) (by omega) (by omega)
 unfold rd_T50 at q0
 rw [Int.toNat_natCast] at q0
 exact ⟨ad, hA, q0⟩
theorem who_ok (k : Int) (h0 : 0 ≤ k) (h5 : k < 5) : IntKind.u8.wrap (97 + k) = 97 + k ∧ strOfNums [97 + k] ≠ star := by
 have : k = 0 ∨ k = 1 ∨ k = 2 ∨ k = 3 ∨ k = 4 := by omega
 rcases this with rfl | rfl | rfl | rfl | rfl <;> exact ⟨by decide +kernel, by decide +kernel⟩
theorem inf9 : (Tryz.prog.info? 9).map (fun i => (i.zero, i.size, i.bytes)) = some (some (.string (⟨#[]⟩ : ByteArray)), 1, 16) := by kernel_rfl
theorem ownS_C {W : World} {base n c : Nat} {A : Option Addr} {xs : List ByteArray} (h : OwnRow (fun (x : ByteArray) l => l = [.string x]) 9 1 W base (.slice A n c) xs) : Kd.C Kd.string W A xs.length xs := by
 obtain ⟨A2, c2, hv, hc, hr⟩ := OwnRow.reads h
 injection hv with hA _ _
 subst hA
 exact hr
set_option maxHeartbeats 16000000 in
set_option maxRecDepth 1000000 in
theorem makes_c (hkn : ∀ w : World, Calls Tryz.prog 9 #[] w fun e w' => e = .returned (.bool true) ∧ Below w.heap.size w w') (terms : List S41) (makes : List S80) (ps : List (List S77)) (ms ks : List Int) (who pick : Int) (raw : ByteArray) (At Am Ap Ao Ak : Option Addr) (ct cm cp co ck : Nat) (w : World) (hT : Kd.C k41 w At terms.length terms) (hct : terms.length ≤ ct) (hM : Kd.C k80 w Am makes.length makes) (hcm : makes.length ≤ cm) (hP : Kd.C (Kd.slice 77 k77) w Ap ps.length ps) (hcp : ps.length ≤ cp) (hO : Kd.C (Kd.int .i64) w Ao ms.length ms) (hco : ms.length ≤ co) (hK : Kd.C (Kd.int .i64) w Ak ks.length ks) (hck : ks.length ≤ ck) :
  Calls Tryz.prog 3 #[.slice At terms.length ct, .slice Am makes.length cm, .slice Ap ps.length cp, .slice Ao ms.length co, .int .i64 who, .int .i64 pick, .slice Ak ks.length ck, .string raw] w fun e w' => e = .returned (.bool true) ∧ Below w.heap.size w w' := by
 have hmaxk := hK.2.1
 have HT := Lib.hid hT
 have HM := Lib.hid hM
 have HP := Lib.hid hP
 have HO := Lib.hid hO
 have HK := Lib.hid hK
 have HCT := Lib.hid hct
 have HCM := Lib.hid hcm
 have HCP := Lib.hid hcp
 have HCO := Lib.hid hco
 clear hT hM hP hO hK hct hcm hcp hco
 by_cases hr : 300 < raw.size
 ·have hri : (300 : Int) < (raw.size : Int) := by omega
  go_enter Tryz.func3, Tryz.ntmps3
  go_wp2_with (go_at_call 9; refine (hkn _).mono ?_; rintro e w1 ⟨rfl, hb⟩; have HB1 := Lib.hid hb; have HT := Lib.hid (Kd.C_below HT.out hb); have HM := Lib.hid (Kd.C_below HM.out hb); have HP := Lib.hid (Kd.C_below HP.out hb); have HO := Lib.hid (Kd.C_below HO.out hb); have HK := Lib.hid (Kd.C_below HK.out hb); clear hb)
  go_ret
  exact ⟨rfl, HB1.out⟩
 have hri : ¬ ((300 : Int) < (raw.size : Int)) := by omega
 by_cases hk20 : 20 < ks.length
 ·have hki : (20 : Int) < (ks.length : Int) := by omega
  go_enter Tryz.func3, Tryz.ntmps3
  go_wp2_with (go_at_call 9; refine (hkn _).mono ?_; rintro e w1 ⟨rfl, hb⟩; have HB1 := Lib.hid hb; have HT := Lib.hid (Kd.C_below HT.out hb); have HM := Lib.hid (Kd.C_below HM.out hb); have HP := Lib.hid (Kd.C_below HP.out hb); have HO := Lib.hid (Kd.C_below HO.out hb); have HK := Lib.hid (Kd.C_below HK.out hb); clear hb)
  go_ret
  exact ⟨rfl, HB1.out⟩
 have hki : ¬ ((20 : Int) < (ks.length : Int)) := by omega
 obtain ⟨k, hwho, hk0, hk5⟩ := within17 who 5 (by decide) (by decide)
 obtain ⟨hu8, hust⟩ := who_ok k hk0 hk5
 have HWHO := Lib.hid hwho
 have HUST := Lib.hid hust
 clear hwho hust
 go_enter Tryz.func3, Tryz.ntmps3
 go_wp2_with (first
  | (go_at_call 11; have hgate := HQ1.out; clear hgate; refine (PProcLimits.donjonlaw17_within.calls who 5 k _ HWHO.out).mono ?_; rintro e w4 ⟨rfl, hd⟩; have hb := drawn_below hd; have HB4 := Lib.hid (below_step HQ1.out hb); have HC := Lib.hid (Kd.C_below HC.out hb); have HK := Lib.hid (Kd.C_below HK.out hb); have E30 := Lib.hid (blk_below E30.out hb); have hcv := conv_blk (x := 97 + k) (blk_new w4 (.cells #[.int .u8 (97 + k)] 5)); clear hd hb)
  | (go_at_call 11; obtain ⟨j0, hj, hj0, hjl⟩ := within17 pick (t.length : Int) (by have := HPOS.out; omega) (by have := HLEN.out; omega); obtain ⟨j, rfl⟩ : ∃ j : Nat, j0 = (j : Int) := ⟨j0.toNat, by omega⟩; refine (PProcLimits.donjonlaw17_within.calls pick (t.length : Int) (j : Int) _ hj).mono ?_; rintro e w3 ⟨rfl, hd⟩; have hb := drawn_below hd; have HC := Lib.hid (Kd.C_below HC.out hb); have HK := Lib.hid (Kd.C_below HK.out hb); have HBB := Lib.hid (below_step HB2.out hb); obtain ⟨ad, hAe, q2, q3, q4, q5, hmem⟩ := node_lab HC.out j (by omega); subst hAe; generalize t.getD j z50 = nd at q2 q3 q4 q5 hmem; have HND := Lib.hid hmem; have HQ1 := Lib.hid (below_alloc HBB.out (.cells #[.int .i64 nd.f2.f0, .int .i64 nd.f2.f1, .int .i64 nd.f2.f2, .int .i64 nd.f2.f3] 30)); have HC := Lib.hid (Kd.C_below HC.out (below_alloc (Below.refl _ _) (.cells #[.int .i64 nd.f2.f0, .int .i64 nd.f2.f1, .int .i64 nd.f2.f2, .int .i64 nd.f2.f3] 30))); have HK := Lib.hid (Kd.C_below HK.out (below_alloc (Below.refl _ _) (.cells #[.int .i64 nd.f2.f0, .int .i64 nd.f2.f1, .int .i64 nd.f2.f2, .int .i64 nd.f2.f3] 30))); have E30 := Lib.hid (blk_new w3 (.cells #[.int .i64 nd.f2.f0, .int .i64 nd.f2.f1, .int .i64 nd.f2.f2, .int .i64 nd.f2.f3] 30)); clear hd hb hj hj0 hmem)
  | (go_at_call 10; go_loud (refine (made_c terms makes ps ms At Am Ap Ao ct cm cp co w1 HT.out HCT.out HM.out HCM.out HP.out HCP.out HO.out HCO.out).mono ?_; rintro e w2 ⟨A1, c1, t, rfl, hTr, h29, hpos, hc1, hC, hb⟩; have HTR := Lib.hid hTr; have HLEN := Lib.hid h29; have HPOS := Lib.hid hpos; have HC := Lib.hid hC; have HCL := Lib.hid hc1; have HB2 := Lib.hid (below_step HB1.out hb); have HK := Lib.hid (Kd.C_below HK.out hb); clear hb hC hTr h29 hpos hc1))
  | (go_at_call 9; refine (hkn _).mono ?_; rintro e w1 ⟨rfl, hb⟩; have HB1 := Lib.hid hb; have HT := Lib.hid (Kd.C_below HT.out hb); have HM := Lib.hid (Kd.C_below HM.out hb); have HP := Lib.hid (Kd.C_below HP.out hb); have HO := Lib.hid (Kd.C_below HO.out hb); have HK := Lib.hid (Kd.C_below HK.out hb); clear hb))
 have hkl : ks.length ≤ 20 := by omega
 have HU8 := Lib.hid hu8
 clear hcv hu8 q2 q3 q4 q5
 obtain ⟨V, hV⟩ : ∃ V, V = w4.alloc (.cells #[.int .u8 (97 + k)] 5) := ⟨_, rfl⟩
 have HBV := Lib.hid (show Below w.heap.size w V by rw [hV]; exact below_alloc HB4.out _)
 have HC := Lib.hid (show Kd.C k50 V (some ad) t.length t by rw [hV]; exact Kd.C_below HC.out (below_alloc (Below.refl _ _) _))
 have HK := Lib.hid (show Kd.C (Kd.int .i64) V Ak ks.length ks by rw [hV]; exact Kd.C_below HK.out (below_alloc (Below.refl _ _) _))
 have E30 := Lib.hid (show V.heap[w3.heap.size]? = some (.cells #[.int .i64 nd.f2.f0, .int .i64 nd.f2.f1, .int .i64 nd.f2.f2, .int .i64 nd.f2.f3] 30 (0, 0)) by rw [hV]; exact blk_alloc E30.out _)
 rw [← hV]
 clear hV
 go_loopg [20, 21] ks.length (fun kk s20 s21 wr => ∃ (i : Nat) (bs : List ByteArray), i ≤ ks.length ∧ ks.length - i ≤ kk ∧ bs.length = i ∧ s21 = .int .i64 (i : Int) ∧ Hid (OwnRow (fun (x : ByteArray) l => l = [.string x]) 9 1 wr V.heap.size s20 bs) ∧ Hid (Below V.heap.size V wr))
 case atStart => exact ⟨0, [], Nat.zero_le _, Nat.le_refl _, rfl, rfl, Lib.hid (OwnRow.none_ _ _ _ _ _), Lib.hid (Below.refl _ _)⟩
 case round =>
  obtain ⟨i, bs, hi, hik, hbl, rfl, HOW, HB⟩ := hrel
  subst hbl
  obtain ⟨Ab, cb, rfl, hcb, _⟩ := OwnRow.reads HOW.out
  have HBw := Lib.hid (below_step HBV.out HB.out)
  have E30 := Lib.hid (blk_below E30.out HB.out)
  have hVw : V.heap.size ≤ wr.heap.size := HB.out.size
  by_cases hlt : bs.length < ks.length
  ·have hlti : (bs.length : Int) < (ks.length : Int) := by omega
   have hb0 : (0 : Int) ≤ (bs.length : Int) := by omega
   obtain ⟨ak, hAk, hkc⟩ := word_at HK.out bs.length hlt
   subst hAk
   generalize ks.getD bs.length 0 = kv at hkc
   have HKV := Lib.hid hkc
   have mc0 := pw_cell_below HB.out hkc
   obtain ⟨j0, hj, hj0, hjl⟩ := within17 kv (t.length : Int) (by have := HPOS.out; omega) (by have := HLEN.out; omega)
   obtain ⟨j2, rfl⟩ : ∃ j2 : Nat, j0 = (j2 : Int) := ⟨j0.toNat, by omega⟩
   have HJ := Lib.hid hj
   have hj2 : j2 < t.length := by omega
   clear hj hj0 hkc
   by_cases h10 : kv.tmod 11 = 10
   ·go_wp2_with (first
     | (at_builtin; refine OwnRow.append V.heap.size rfl _ _ 39 9 (.string (⟨#[]⟩ : ByteArray)) 1 16 rfl Tryz.underlying39 inf9 rfl (by decide) (by decide) (.slice Ab bs.length cb) bs p [.string p] rfl rfl rfl rfl (by simp [Value.oneCell']) HO5.out HB5.out HB5.out.size (by omega) ?_; intro v1 w6 hO hB hgr hat; obtain ⟨bs2, hbs2⟩ : ∃ b, bs ++ [p] = b := ⟨_, rfl⟩; rw [hbs2] at hO; have hl2 : bs2.length = bs.length + 1 := (by rw [← hbs2]; simp); obtain ⟨A6, c6, rfl, hc6, _⟩ := OwnRow.reads hO; have hi2 : (bs.length : Int) < (bs2.length : Int) := (by omega); obtain ⟨g9, hA6, hg9, hcell, hfr, hO7⟩ := own_str_set hO bs.length (by omega) raw; subst hA6; have HO6 := Lib.hid hO; have HO7 := Lib.hid hO7; have HB6 := Lib.hid hB; have mc := pw_cell_below hB HKV.out; have c9 := hcell; have z9 := hfr; have HL2 := Lib.hid hl2; have HG9 := Lib.hid hg9; clear hO hB hgr hat hcell hfr hO7 hbs2 hl2 hg9)
     | (go_at_call 11; refine (PProcLimits.donjonlaw17_within.calls kv (t.length : Int) (j2 : Int) _ HJ.out).mono ?_; rintro e w5 ⟨rfl, hd⟩; have hb := drawn_below hd; obtain ⟨ad2, hA2, hpc⟩ := node_path (Kd.C_below HC.out (below_step HB.out hb)) j2 hj2; injection hA2 with hA2; subst hA2; generalize (t.getD j2 z50).f0 = p at hpc; have HB5 := Lib.hid (below_step HB.out hb); have HO5 := Lib.hid (OwnRow.below HOW.out hb); clear hd hb))
    go_roundg (ks.length - (bs.length + 1))
    case measure => omega
    case rel => exact ⟨bs.length + 1, bs2.set bs.length raw, hlt, Nat.le_refl _, by rw [List.length_set]; exact HL2.out, by go_num, HO7, Lib.hid (below_put HB6.out HG9.out)⟩
   ·go_wp2_with (first
     | (at_builtin; refine OwnRow.append V.heap.size rfl _ _ 39 9 (.string (⟨#[]⟩ : ByteArray)) 1 16 rfl Tryz.underlying39 inf9 rfl (by decide) (by decide) (.slice Ab bs.length cb) bs p [.string p] rfl rfl rfl rfl (by simp [Value.oneCell']) HO5.out HB5.out HB5.out.size (by omega) ?_; intro v1 w6 hO hB hgr hat; obtain ⟨bs2, hbs2⟩ : ∃ b, bs ++ [p] = b := ⟨_, rfl⟩; rw [hbs2] at hO; have hl2 : bs2.length = bs.length + 1 := (by rw [← hbs2]; simp); obtain ⟨A6, c6, rfl, hc6, _⟩ := OwnRow.reads hO; have hi2 : (bs.length : Int) < (bs2.length : Int) := (by omega); obtain ⟨g9, hA6, hg9, hcell, hfr, hO7⟩ := own_str_set hO bs.length (by omega) raw; subst hA6; have HO6 := Lib.hid hO; have HO7 := Lib.hid hO7; have HB6 := Lib.hid hB; have mc := pw_cell_below hB HKV.out; have c9 := hcell; have z9 := hfr; have HL2 := Lib.hid hl2; have HG9 := Lib.hid hg9; clear hO hB hgr hat hcell hfr hO7 hbs2 hl2 hg9)
     | (go_at_call 11; refine (PProcLimits.donjonlaw17_within.calls kv (t.length : Int) (j2 : Int) _ HJ.out).mono ?_; rintro e w5 ⟨rfl, hd⟩; have hb := drawn_below hd; obtain ⟨ad2, hA2, hpc⟩ := node_path (Kd.C_below HC.out (below_step HB.out hb)) j2 hj2; injection hA2 with hA2; subst hA2; generalize (t.getD j2 z50).f0 = p at hpc; have HB5 := Lib.hid (below_step HB.out hb); have HO5 := Lib.hid (OwnRow.below HOW.out hb); clear hd hb))
    go_roundg (ks.length - (bs.length + 1))
    case measure => omega
    case rel => exact ⟨bs.length + 1, bs2, hlt, Nat.le_refl _, HL2.out, by go_num, HO6, HB6⟩
  ·have hlti : ¬ ((bs.length : Int) < (ks.length : Int)) := by omega
   have hL : Lab nd.f2 := (HTR.out.ok nd HND.out).1
   have hpair := mk_pair HTR.out (strOfNums [97 + k]) HUST.out nd.f2 hL bs (some ad) Ab c1 cb wr (Kd.C_below HC.out HB.out) HCL.out (ownS_C HOW.out) hcb
   clear hL
   rcases hpair with ⟨x, hx⟩ | hx
   ·have HX := Lib.hid hx
    clear hx
    have e0 := (blk_cell E30.out 0).trans rfl
    have e1 := (blk_cell E30.out 1).trans rfl
    have e2 := (blk_cell E30.out 2).trans rfl
    have e3 := (blk_cell E30.out 3).trans rfl
    go_wp2_with (first
     | (go_at_call 13; have hgate := E47.out; clear hgate; refine ((HX.out _ HBx.out).2).mono ?_; rintro e w8 ⟨rfl, hb⟩; have E47 := Lib.hid (blk_alloc (blk_below E47.out hb) (.cells #[.slice none 0 0, .int .i64 0, .int .i64 0, .int .i64 0, .int .i64 0, .int .i64 0, .int .i64 0, .int .i64 0, .int .i64 0, .int .i64 0, .int .i64 0, .int .i64 0, .int .i64 0, .int .i64 0, .int .i64 0, .int .i64 0, .int .i64 0, .slice none 0 0, .bool false] 57)); have E57 := Lib.hid (blk_new w8 (.cells #[.slice none 0 0, .int .i64 0, .int .i64 0, .int .i64 0, .int .i64 0, .int .i64 0, .int .i64 0, .int .i64 0, .int .i64 0, .int .i64 0, .int .i64 0, .int .i64 0, .int .i64 0, .int .i64 0, .int .i64 0, .int .i64 0, .int .i64 0, .slice none 0 0, .bool false] 57)); have HBy := Lib.hid (below_alloc (below_step HBx.out hb) (.cells #[.slice none 0 0, .int .i64 0, .int .i64 0, .int .i64 0, .int .i64 0, .int .i64 0, .int .i64 0, .int .i64 0, .int .i64 0, .int .i64 0, .int .i64 0, .int .i64 0, .int .i64 0, .int .i64 0, .int .i64 0, .int .i64 0, .int .i64 0, .slice none 0 0, .bool false] 57)); clear hb)
     | (go_at_call 12; refine ((HX.out _ (Below.refl _ _)).1).mono ?_; rintro e w7 ⟨rfl, hb⟩; have HBx := Lib.hid (below_alloc hb (.cells #[.slice none 0 0, .int .i64 0, .int .i64 0, .int .i64 0, .int .i64 0, .int .i64 0, .int .i64 0, .int .i64 0, .int .i64 0, .int .i64 0, .int .i64 0, .int .i64 0, .int .i64 0, .int .i64 0, .int .i64 0, .int .i64 0, .int .i64 0, .slice none 0 0, .bool false] 47)); have E30 := Lib.hid (blk_below E30.out HBx.out); have E47 := Lib.hid (blk_new w7 (.cells #[.slice none 0 0, .int .i64 0, .int .i64 0, .int .i64 0, .int .i64 0, .int .i64 0, .int .i64 0, .int .i64 0, .int .i64 0, .int .i64 0, .int .i64 0, .int .i64 0, .int .i64 0, .int .i64 0, .int .i64 0, .int .i64 0, .int .i64 0, .slice none 0 0, .bool false] 47)); have e0 := (blk_cell E30.out 0).trans rfl; have e1 := (blk_cell E30.out 1).trans rfl; have e2 := (blk_cell E30.out 2).trans rfl; have e3 := (blk_cell E30.out 3).trans rfl; clear hb))
    refine pm17 w7.heap.size w8.heap.size x #[.slice none 0 0, .int .i64 0, .int .i64 0, .int .i64 0, .int .i64 0, .int .i64 0, .int .i64 0, .int .i64 0, .int .i64 0, .int .i64 0, .int .i64 0, .int .i64 0, .int .i64 0, .int .i64 0, .int .i64 0, .int .i64 0, .int .i64 0, .slice none 0 0, .bool false] #[.slice none 0 0, .int .i64 0, .int .i64 0, .int .i64 0, .int .i64 0, .int .i64 0, .int .i64 0, .int .i64 0, .int .i64 0, .int .i64 0, .int .i64 0, .int .i64 0, .int .i64 0, .int .i64 0, .int .i64 0, .int .i64 0, .int .i64 0, .slice none 0 0, .bool false] #[.slice none 0 0, .int .i64 0, .int .i64 0, .int .i64 0, .int .i64 0, .int .i64 0, .int .i64 0, .int .i64 0, .int .i64 0, .int .i64 0, .int .i64 0, .int .i64 0, .int .i64 0, .int .i64 0, .int .i64 0, .int .i64 0, .int .i64 0, .slice none 0 0, .bool false] _ _ _ _ _ _ _ _ _ _ _ _ _ _ _ _ _ _ _ _ _ _ _ _ _ _ _ _ _ _ _ _ _ _ _ _ _ _ _ _ _ _ _ _ _ _ _ _ _ _ _ _ _ _ _ _ _ _ _ _ _ _ _ _ _ _ _ _ _ _ _ _ _ _ _ _ _ _ _ _ _ _ _ _ _ _ _ _ _ _ _ _ _ _ _ _ _ _ _ _ _ _ _ _ _ _ _ _ _ _ E47.out rfl E57.out rfl (fun w1 hb1 => state_c 0 0 none 0 0 0 0 0 0 0 0 0 0 0 0 0 0 0 0 false w1) (fun w1 hb1 => same_z [] none none 0 0 w1 (C_nil _ _ _) (Nat.le_refl _) (C_nil _ _ _) (Nat.le_refl _)) ?_
    intro w9 t103 t104 t105 t106 t107 t108 t109 t110 t111 hb9
    have HB9 := Lib.hid (below_step (below_step HBw.out HBy.out) hb9)
    clear hb9
    go_wp2
    go_ret
    exact ⟨rfl, HB9.out⟩
   ·have HX := Lib.hid hx
    clear hx
    have e0 := (blk_cell E30.out 0).trans rfl
    have e1 := (blk_cell E30.out 1).trans rfl
    have e2 := (blk_cell E30.out 2).trans rfl
    have e3 := (blk_cell E30.out 3).trans rfl
    go_wp2_with (first
     | (go_at_call 13; have hgate := E47.out; clear hgate; refine ((HX.out _ HBx.out).2).mono ?_; rintro e w8 ⟨B8, b8, rfl, hb8, hC8, hb⟩; have E47 := Lib.hid (blk_alloc (blk_below E47.out hb) (.cells #[.slice B8 bs.length b8, .int .i64 0, .int .i64 0, .int .i64 4, .int .i64 0, .int .i64 0, .int .i64 0, .int .i64 4, .int .i64 1, .int .i64 0, .int .i64 4, .int .i64 2, .int .i64 0, .int .i64 4, .int .i64 3, .int .i64 0, .int .i64 4, .slice none 0 0, .bool false] 57)); have E57 := Lib.hid (blk_new w8 (.cells #[.slice B8 bs.length b8, .int .i64 0, .int .i64 0, .int .i64 4, .int .i64 0, .int .i64 0, .int .i64 0, .int .i64 4, .int .i64 1, .int .i64 0, .int .i64 4, .int .i64 2, .int .i64 0, .int .i64 4, .int .i64 3, .int .i64 0, .int .i64 4, .slice none 0 0, .bool false] 57)); have HBy := Lib.hid (below_alloc (below_step HBx.out hb) (.cells #[.slice B8 bs.length b8, .int .i64 0, .int .i64 0, .int .i64 4, .int .i64 0, .int .i64 0, .int .i64 0, .int .i64 4, .int .i64 1, .int .i64 0, .int .i64 4, .int .i64 2, .int .i64 0, .int .i64 4, .int .i64 3, .int .i64 0, .int .i64 4, .slice none 0 0, .bool false] 57)); have HC7 := Lib.hid (Kd.C_below HC7.out (below_alloc hb (.cells #[.slice B8 bs.length b8, .int .i64 0, .int .i64 0, .int .i64 4, .int .i64 0, .int .i64 0, .int .i64 0, .int .i64 4, .int .i64 1, .int .i64 0, .int .i64 4, .int .i64 2, .int .i64 0, .int .i64 4, .int .i64 3, .int .i64 0, .int .i64 4, .slice none 0 0, .bool false] 57))); have HC8 := Lib.hid (Kd.C_below hC8 (below_alloc (Below.refl _ _) (.cells #[.slice B8 bs.length b8, .int .i64 0, .int .i64 0, .int .i64 4, .int .i64 0, .int .i64 0, .int .i64 0, .int .i64 4, .int .i64 1, .int .i64 0, .int .i64 4, .int .i64 2, .int .i64 0, .int .i64 4, .int .i64 3, .int .i64 0, .int .i64 4, .slice none 0 0, .bool false] 57))); have HL8 := Lib.hid hb8; clear hC8 hb8; clear hb)
     | (go_at_call 12; refine ((HX.out _ (Below.refl _ _)).1).mono ?_; rintro e w7 ⟨B7, b7, rfl, hb7, hC7, hb⟩; have HBx := Lib.hid (below_alloc hb (.cells #[.slice B7 bs.length b7, .int .i64 0, .int .i64 0, .int .i64 4, .int .i64 0, .int .i64 0, .int .i64 0, .int .i64 4, .int .i64 1, .int .i64 0, .int .i64 4, .int .i64 2, .int .i64 0, .int .i64 4, .int .i64 3, .int .i64 0, .int .i64 4, .slice none 0 0, .bool false] 47)); have E30 := Lib.hid (blk_below E30.out HBx.out); have E47 := Lib.hid (blk_new w7 (.cells #[.slice B7 bs.length b7, .int .i64 0, .int .i64 0, .int .i64 4, .int .i64 0, .int .i64 0, .int .i64 0, .int .i64 4, .int .i64 1, .int .i64 0, .int .i64 4, .int .i64 2, .int .i64 0, .int .i64 4, .int .i64 3, .int .i64 0, .int .i64 4, .slice none 0 0, .bool false] 47)); have e0 := (blk_cell E30.out 0).trans rfl; have e1 := (blk_cell E30.out 1).trans rfl; have e2 := (blk_cell E30.out 2).trans rfl; have e3 := (blk_cell E30.out 3).trans rfl; have HC7 := Lib.hid (Kd.C_below hC7 (below_alloc (Below.refl _ _) (.cells #[.slice B7 bs.length b7, .int .i64 0, .int .i64 0, .int .i64 4, .int .i64 0, .int .i64 0, .int .i64 0, .int .i64 4, .int .i64 1, .int .i64 0, .int .i64 4, .int .i64 2, .int .i64 0, .int .i64 4, .int .i64 3, .int .i64 0, .int .i64 4, .slice none 0 0, .bool false] 47))); have HL7 := Lib.hid hb7; clear hC7 hb7; clear hb))
    refine pm17 w7.heap.size w8.heap.size 0 #[.slice B7 bs.length b7, .int .i64 0, .int .i64 0, .int .i64 4, .int .i64 0, .int .i64 0, .int .i64 0, .int .i64 4, .int .i64 1, .int .i64 0, .int .i64 4, .int .i64 2, .int .i64 0, .int .i64 4, .int .i64 3, .int .i64 0, .int .i64 4, .slice none 0 0, .bool false] #[.slice B8 bs.length b8, .int .i64 0, .int .i64 0, .int .i64 4, .int .i64 0, .int .i64 0, .int .i64 0, .int .i64 4, .int .i64 1, .int .i64 0, .int .i64 4, .int .i64 2, .int .i64 0, .int .i64 4, .int .i64 3, .int .i64 0, .int .i64 4, .slice none 0 0, .bool false] #[.slice B7 bs.length b7, .int .i64 0, .int .i64 0, .int .i64 4, .int .i64 0, .int .i64 0, .int .i64 0, .int .i64 4, .int .i64 1, .int .i64 0, .int .i64 4, .int .i64 2, .int .i64 0, .int .i64 4, .int .i64 3, .int .i64 0, .int .i64 4, .slice none 0 0, .bool false] _ _ _ _ _ _ _ _ _ _ _ _ _ _ _ _ _ _ _ _ _ _ _ _ _ _ _ _ _ _ _ _ _ _ _ _ _ _ _ _ _ _ _ _ _ _ _ _ _ _ _ _ _ _ _ _ _ _ _ _ _ _ _ _ _ _ _ _ _ _ _ _ _ _ _ _ _ _ _ _ _ _ _ _ _ _ _ _ _ _ _ _ _ _ _ _ _ _ _ _ _ _ _ _ _ _ _ _ _ _ E47.out rfl E57.out rfl (fun w1 hb1 => state_c bs.length b7 B7 0 0 4 0 0 0 4 1 0 4 2 0 4 3 0 4 false w1) (fun w1 hb1 => same_n bs B7 B8 b7 b8 w1 (Kd.C_below HC7.out hb1) HL7.out (Kd.C_below HC8.out hb1) HL8.out) ?_
    intro w9 t103 t104 t105 t106 t107 t108 t109 t110 t111 hb9
    have HB9 := Lib.hid (below_step (below_step HBw.out HBy.out) hb9)
    clear hb9
    go_wp2
    go_ret
    exact ⟨rfl, HB9.out⟩
end Go.Proofs.YteilkbookcmndaaGreatDoor.C
end
section
namespace Go.Proofs.YteilkbookcmndaaGreatDoor.C
open Go.RowKit Go.Proofs.YteilkbookcmndaaGreatDoor.Q Go.Proofs.YteilkbookcmndaaGreatDoorW.PrintWords Go.Proofs.YteilkbookcmndaaGreatDoorW.PrintLast Go.Proofs.YteilkbookcmndaaGreatDoorW.PrintMore
attribute [local go_sem ↓] rd_at50 wr_at50 al_at50
attribute [local go_sem] rd50_new wr50_new al50
open Go.ChangeShapes Go.WideShapes
section
variable {H : Type} {enc : TypeId × Value → H} {w : World} {base : Nat} {spare : Nat → Bool} {held : Bool}
set_option maxRecDepth 100000 in
theorem opens77 : Opens enc Tryz.prog w base spare held k77 77 := by
 refine opens_iso (fun y : Int × Int × Int => (⟨y.1, y.2.1, y.2.2⟩ : S77)) (fun _ => rfl) ⟨by kernel_rfl, fun n cs x h => ?_⟩
 obtain ⟨xs, m, _, _, hl, hx, hf⟩ := DataW.trod_struct Tryz.underlying77 h
 have h4 : cs.length = 3 := hl.trans (by kernel_rfl)
 have hx4 : xs.length = 3 := hx
 have key : ∃ y, (Kd.pair (Kd.int .i64) (Kd.pair (Kd.int .i64) (Kd.int .i64))).K w y (cs.drop 0) :=
  fields_pair opens_i3 rfl h4 (some_lt (by omega)) (hf 0 _ rfl) fun _ =>
  fields_pair opens_i3 rfl h4 (some_lt (by omega)) (hf 1 _ rfl) fun _ =>
  fields_one opens_i3 rfl h4 (some_lt (by omega)) (hf 2 _ rfl)
 exact key
theorem opens78 : Opens enc Tryz.prog w base spare held (Kd.slice 77 k77) 78 :=
 letI : Inhabited S77 := ⟨z77⟩
 opens_slice 77 Tryz.underlying78 (by kernel_rfl) opens77
set_option maxRecDepth 100000 in
theorem opens94 : Opens enc Tryz.prog w base spare held (Kd.slice 77 k77) 94 := by
 refine ⟨by kernel_rfl, fun n cs x h => ?_⟩
 obtain ⟨xs, m, _, _, hl, hx, hf⟩ := DataW.trod_struct Tryz.underlying94 h
 have h4 : cs.length = 1 := hl.trans (by kernel_rfl)
 have hx4 : xs.length = 1 := hx
 have key : ∃ y, (Kd.slice 77 k77).K w y (cs.drop 0) := fields_one opens78 rfl h4 (some_lt (by omega)) (hf 0 _ rfl)
 exact key
theorem rows24 {n : Nat} {v : Value} {x : DataW H × List MemPlace} (h : DataW.trod enc Tryz.prog w base spare held n 24 v.cells.toList = some x) (hv : ∃ A l c, v = .slice A l c) : ∃ A xs c, v = .slice A xs.length c ∧ xs.length ≤ c ∧ Kd.C (Kd.slice 77 k77) w A xs.length xs := by
 obtain ⟨A, l, c, rfl⟩ := hv
 obtain ⟨A', xs, c', e, h1, h2⟩ := opens_cells Tryz.underlying24 opens94 h
 have e' : Value.slice A l c = Value.slice A' xs.length c' := by simpa [Value.cells] using e
 exact ⟨A', xs, c', e', h1, h2⟩
end
theorem makes_f (terms : List S41) (makes : List S80) (ps : List (List S77)) (ms ks : List Int) (who pick : Int) (raw : ByteArray) (At Am Ap Ao Ak : Option Addr) (ct cm cp co ck : Nat) (w : World) (hT : Kd.C k41 w At terms.length terms) (hct : terms.length ≤ ct) (hM : Kd.C k80 w Am makes.length makes) (hcm : makes.length ≤ cm) (hP : Kd.C (Kd.slice 77 k77) w Ap ps.length ps) (hcp : ps.length ≤ cp) (hO : Kd.C (Kd.int .i64) w Ao ms.length ms) (hco : ms.length ≤ co) (hK : Kd.C (Kd.int .i64) w Ak ks.length ks) (hck : ks.length ≤ ck) :
  Calls Tryz.prog 3 #[.slice At terms.length ct, .slice Am makes.length cm, .slice Ap ps.length cp, .slice Ao ms.length co, .int .i64 who, .int .i64 pick, .slice Ak ks.length ck, .string raw] w fun e w' => e = .returned (.bool true) ∧ Below w.heap.size w w' :=
 makes_c known_c terms makes ps ms ks who pick raw At Am Ap Ao Ak ct cm cp co ck w hT hct hM hcm hP hcp hO hco hK hck
end Go.Proofs.YteilkbookcmndaaGreatDoor.C
end
