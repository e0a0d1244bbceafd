/- TreeUnders: in a tree each node but the root lies under one directory, and is told there once; names rise: the walk. -/
import Derived.Test.YtmndeoncbocplaaDoorVR
import Derived.Test.YtmndeoncbocplaaDoorVK
import Derived.Test.YtmndeoncbocplaaDoorVT4
import Derived.Deep.RegionHeldLaw
import Derived.Deep.RegionHeld3
import Derived.Deep.LoopGhost
set_option linter.unusedVariables false
set_option linter.unusedSimpArgs false
section
set_option linter.unusedVariables false
set_option linter.unusedSimpArgs false
namespace Go.Proofs.YtmndeoncbocplaaDoor.C
open Go.RowKit Go.Proofs.YtmndeoncbocplaaDoor.Q Go.Proofs.YtmndeoncbocplaaDoorW.PrintWords Go.Proofs.YtmndeoncbocplaaDoorW.PrintLast Go.Proofs.YtmndeoncbocplaaDoorW.PrintMore
attribute [local go_sem ↓] rd_at50 wr_at50 al_at50
attribute [local go_sem] wr50_new al50
theorem str_at {w W : World} {A : Option Addr} {n : Nat} {xs : List ByteArray} (hC : Kd.C Kd.string w A n xs) (hn : n = xs.length) (hb : Below w.heap.size w W) (i : Nat) (hi : i < xs.length) : ∃ ad, A = some ad ∧ W.cell? (ad.add i) = some (.string (xs[i]'hi)) := by
  subst hn
  obtain ⟨ad, e, h⟩ := Kd.at_string hC (i : Int) (by omega) (by omega)
  refine ⟨ad, e, pw_cell_below hb ?_⟩
  rw [Int.toNat_natCast] at h
  rw [h]
  unfold rdOf
  rw [Int.toNat_natCast, List.getD_eq_getElem?_getD, List.getElem?_eq_getElem hi]
  rfl
set_option maxHeartbeats 8000000 in
set_option maxRecDepth 100000 in
theorem unders_c (terms : List S41) (makes : List S80) (A B : Option Addr) (c d : Nat) (w : World) (hC : Kd.C k41 w A terms.length terms) (hc : terms.length ≤ c) (hD : Kd.C k80 w B makes.length makes) (hd : makes.length ≤ d) :
    Calls Tryd.prog 16 #[.slice A terms.length c, .slice B makes.length d] w fun e w' => e = .returned (.bool true) ∧ Below w.heap.size w w' := by
  have HG := Lib.hid fun w1 (hb : Below w.heap.size w w1) => grow_c terms makes A B c d w1 (Kd.C_below hC hb) hc (Kd.C_below hD hb) hd
  clear hC hD
  go_enter Tryd.func16, Tryd.ntmps16
  go_wp2_with (first | (go_at_call 32; have hg := HB1.out; clear hg; refine (HG.out _ HB1.out).mono ?_; rintro e w2 ⟨Ag, tt, cg, rfl, hT, hl, hCt, hb⟩; have HT := Lib.hid hT; have HC := Lib.hid hCt; have HB2 := Lib.hid (below_step HB1.out hb); clear hb hT hCt) | (go_at_call 48; refine (known11_c _).mono ?_; rintro e w1 ⟨rfl, hb⟩; have HB1 := Lib.hid hb; clear hb))
  obtain ⟨V, hV⟩ : ∃ V, V = w2 := ⟨_, rfl⟩
  subst hV
  clear HB1 HG
  have htl := HT.out.len
  go_loopg [6, 7] tt.length (fun k s6 s7 wr => ∃ i : Nat, i ≤ tt.length ∧ tt.length - i ≤ k ∧ s6 = .int .i64 ((1 + told tt i : Nat) : Int) ∧ s7 = .int .i64 i ∧ Hid (Below V.heap.size V wr))
  case atStart => exact ⟨0, Nat.zero_le _, Nat.le_refl _, by rw [told_zero]; rfl, rfl, Lib.hid (Below.refl _ _)⟩
  case round =>
    obtain ⟨i, hi, hik, rfl, rfl, HV⟩ := hrel
    by_cases hlt : i < tt.length
    · obtain ⟨W0, hW⟩ : ∃ W, W = wr := ⟨_, rfl⟩
      subst hW
      obtain ⟨ad, B6, e6, B11, e11, hA, hcs, _⟩ := at50 HC.out HV.out i hlt
      subst hA
      have HM := Lib.hid (List.getElem_mem (l := tt) (n := i) hlt)
      have HTS := Lib.hid (told_succ tt i hlt)
      have htle := told_le HT.out i hlt
      have hp0 := hcs.1
      have hp1 := hcs.2.1
      clear hcs
      generalize (tt[i]'hlt) = n at hp0 hp1 HM HTS htle
      obtain ⟨ds, hok, hp⟩ := tree_path HT.out HM.out
      have HOK := Lib.hid hok
      have HPP := Lib.hid hp
      clear hok hp
      have HUN := Lib.hid (under_c tt n.f0 (some ad) cg W0 (Kd.C_below HC.out HV.out) hl (by omega) (tree_par HT.out) (tree_last HT.out))
      have HMEM := Lib.hid (fun (x : List UInt8) (hx : x ∈ under tt n.f0) => under_mem HT.out HM.out HOK.out HPP.out hx)
      have HRISE := Lib.hid (fun a b hab hb => under_rise HT.out HM.out a b hab hb)
      have HP0 := Lib.hid hp0
      have HP1 := Lib.hid hp1
      clear hp0 hp1
      obtain ⟨ul, hul⟩ : ∃ ul, (under tt n.f0).length = ul := ⟨_, rfl⟩
      have HUL := Lib.hid hul
      rw [hul] at HUN HTS htle
      clear hul
      obtain ⟨s, hs⟩ : ∃ s, told tt i = s := ⟨_, rfl⟩
      rw [hs] at HTS htle ⊢
      clear hs
      have hq0 : W0.cell? (ad.add (i * 16)) = some (.string n.f0) := HP0.out
      have HNP := Lib.hid (fun (ns : List (List UInt8)) (hns : ns ≠ []) (hno : Okp ns) => rparent_f ns hno.1 hns hno.2 2000 (by omega))
      by_cases h0 : 0 < ul
      · have hdir : n.f1 = true := by
          obtain ⟨_, _, _, _, h⟩ := HMEM.out _ (List.getElem_mem (l := under tt n.f0) (n := 0) (by rw [HUL.out]; exact h0))
          exact h
        have hp1 := HP1.out
        rw [hdir] at hp1
        clear hdir HP1
        have hd0 : decide (0 < ul) = true := decide_eq_true h0
        go_wp2_with (go_at_call 52; refine HUN.out.mono ?_; rintro e w3 ⟨U, cu, rfl, hcu, hU, hb⟩; have HU := Lib.hid hU; have HB3 := Lib.hid (below_step HV.out hb); have HW3 := Lib.hid hb; have q1 := pw_cell_below hb hp1; clear hb hU)
        have hUl : ul = ((under tt n.f0).map bytesOf).length := by rw [List.length_map]; exact HUL.out.symm
        have HUL2 := Lib.hid hUl
        clear hUl
        go_loopg [6, 9] ul (fun kq s6 s9 wr => ∃ k : Nat, k ≤ ul ∧ ul - k ≤ kq ∧ s6 = .int .i64 ((1 + s + k : Nat) : Int) ∧ s9 = .int .i64 k ∧ Hid (Below w3.heap.size w3 wr))
        case atStart => exact ⟨0, Nat.zero_le _, Nat.le_refl _, rfl, rfl, Lib.hid (Below.refl _ _)⟩
        case round =>
          obtain ⟨k, hk, hkk, rfl, rfl, HI⟩ := hrel
          obtain ⟨W1, hW⟩ : ∃ W, W = wr := ⟨_, rfl⟩
          subst hW
          by_cases hkl : k < ul
          · have hku : k < (under tt n.f0).length := by rw [HUL.out]; exact hkl
            obtain ⟨x, hx, hx0, hxo, _⟩ := HMEM.out _ (List.getElem_mem (l := under tt n.f0) (n := k) hku)
            obtain ⟨au, hAu, hsk⟩ := str_at HU.out HUL2.out HI.out k (by rw [← HUL2.out]; exact hkl)
            subst hAu
            have hbk : ((under tt n.f0).map bytesOf)[k]'(by rw [← HUL2.out]; exact hkl) = bytesOf ((under tt n.f0)[k]'hku) := List.getElem_map _
            rw [hbk] at hsk
            clear hbk
            obtain ⟨nm, hnm⟩ : ∃ nm, (under tt n.f0)[k]'hku = nm := ⟨_, rfl⟩
            have HNM := Lib.hid hnm
            rw [hnm] at hx0 hxo hsk
            clear hnm
            have hlast : (ds ++ [nm]).dropLast = ds := List.dropLast_concat
            have hJo : ∀ w1 : World, Calls Tryd.prog 45 #[.string n.f0, .string (bytesOf nm)] w1 fun e w' => e = .returned (.string x.f0) ∧ Below w1.heap.size w1 w' := fun w1 => by
              have hz := check_len hxo.2
              have hz2 := check_len HOK.out.2
              have hnl : nm.length ≤ 1000 := by
                have h1 := render_le (ds ++ [nm])
                have h2 := flat_le (ds ++ [nm])
                rw [L.flat_snoc, List.length_append, List.length_cons] at h2
                omega
              rw [HPP.out, hx0]
              exact (donjonref7_Join.calls (pth ds) (bytesOf nm) (pth (ds ++ [nm])) w1 (rjoin_f ds nm HOK.out.1 (by omega) hnl)).mono fun e w' h => ⟨h.1, h.2.below⟩
            have hFi : ∀ w1 : World, Below W1.heap.size W1 w1 → Calls Tryd.prog 53 #[.slice (some ad) tt.length cg, .string x.f0] w1 fun e w' => ∃ D6 d6 D11 d11, e = .returned (.tuple #[.agg #[.string x.f0, .bool x.f1, .int .i64 x.f2.f0, .int .i64 x.f2.f1, .int .i64 x.f2.f2, .int .i64 x.f2.f3, .slice D6 x.f3.length d6, .int .i64 x.f4.f0, .int .i64 x.f4.f1, .int .i64 x.f4.f2, .int .i64 x.f4.f3, .slice D11 x.f5.length d11, .int .i64 x.f6.f0, .int .i64 x.f6.f1, .int .i64 x.f6.f2, .int .i64 x.f6.f3], .bool true]) ∧ Below w1.heap.size w1 w' := fun w1 hb => tfind_d HT.out hx (some ad) cg w1 (Kd.C_below HC.out (below_step HB3.out (below_step HI.out hb))) hl
            have hPr : ∀ w1 : World, Calls Tryd.prog 39 #[.string x.f0] w1 fun e w' => e = .returned (.string n.f0) ∧ Below w1.heap.size w1 w' := fun w1 => by
              have h := HNP.out (ds ++ [nm]) (by simp) hxo
              rw [hlast] at h
              rw [hx0, HPP.out]
              exact (donjonref7_Parent.calls 2000 _ _ w1 h).mono fun e w' h => ⟨h.1, h.2.below⟩
            have HJo := Lib.hid hJo
            have HFi := Lib.hid hFi
            have HPr := Lib.hid hPr
            have HSK := Lib.hid hsk
            clear hJo hFi hPr hsk hlast hx0 hxo hx
            have hsum : 1 + s + k + 1 ≤ 1000 := by omega
            go_wp2
            refine ru14 ad au tt.length cg ul cu i k n.f0 (bytesOf nm) x.f0 x _ _ _ _ _ _ _ _ _ _ _ _ _ _ _ _ _ _ _ _ _ _ _ _ _ _ _ _ _ _ _ _ _ _ _ _ _ _ _ _ _ _ _ _ _ _ _ _ _ _ _ _ _ _ _ _ _ _ _ _ _ _ _ _ _ _ _ _ _ _ _ _ _ _ _ _ _ _ _ _ _ _ _ _ _ _ _ _ _ _ _ _ _ W1 _ hlt hkl (pw_cell_below (below_step HW3.out HI.out) HP0.out) HSK.out HJo.out HFi.out ?_
            intro g w4 t47 t48 t49 t50 t51 t52 t53 t54 t55 t56 t57 t58 t59 t60 t61 D6 d6 D11 d11 hgx hb4
            have hg0 := (blk_cell hgx 0).trans rfl
            have HI4 := Lib.hid (below_step HI.out hb4)
            have hp4 : w4.cell? (ad.add (i * 16)) = some (.string n.f0) := pw_cell_below (below_step HW3.out HI4.out) HP0.out
            have hs4 : w4.cell? (au.add k) = some (.string (bytesOf nm)) := pw_cell_below hb4 HSK.out
            clear hgx
            go_wp2
            have hn2 : ∀ l : List UInt8, (bytesOf l).toList = l := fun l => by rw [Lib.toList_data]; rfl
            by_cases hk0 : 0 < k
            · have hkp : k - 1 < (under tt n.f0).length := by omega
              obtain ⟨au', hAu', hsj⟩ := str_at HU.out HUL2.out (below_step HI.out hb4) (k - 1) (by rw [← HUL2.out]; omega)
              obtain rfl := Option.some.inj hAu'
              have hbk : ((under tt n.f0).map bytesOf)[k - 1]'(by rw [← HUL2.out]; omega) = bytesOf ((under tt n.f0)[k - 1]'hkp) := List.getElem_map _
              rw [hbk] at hsj
              have hri := HRISE.out (k - 1) k (by omega) hku
              rw [HNM.out] at hri
              have hb1 : Op.bytesLess (bytesOf nm).toList (bytesOf ((under tt n.f0)[k - 1]'hkp)).toList = false := by
                have h := less_asym (a := bytesOf ((under tt n.f0)[k - 1]'hkp)) (b := bytesOf nm) (by unfold less; rw [hn2, hn2]; exact hri)
                exact h
              have hb2 : ((bytesOf nm).toList == (bytesOf ((under tt n.f0)[k - 1]'hkp)).toList) = false := beq_eq_false_iff_ne.2 (fun e => by
                rw [hn2, hn2] at e
                rw [e] at hri
                rw [bl_irr] at hri
                cases hri)
              refine ru15b ad au tt.length cg ul cu i k (k - 1) g n.f0 x.f0 (bytesOf nm) (bytesOf ((under tt n.f0)[k - 1]'hkp)) _ _ _ _ _ _ _ _ _ _ _ _ _ _ _ _ _ _ _ _ _ _ _ _ _ _ _ _ _ _ _ _ _ _ _ _ _ _ _ _ _ _ _ _ _ _ _ _ _ _ _ _ _ _ _ _ _ _ _ _ _ _ _ _ _ _ _ _ _ _ _ _ _ _ _ _ _ _ _ _ _ _ _ _ _ _ _ _ _ _ _ w4 _ hlt hg0 hp4 hk0 hkl (by omega) (by rw [show (k : Int) - 1 = ((k - 1 : Nat) : Int) by omega]; exact Lib.wrap_i64_small _ (by omega)) hs4 hsj hb1 hb2 HPr.out ?_
              intro w5 s62 s63 s64 s65 s66 s67 s68 s69 s70 s71 s72 s73 s74 s75 s76 s77 s78 s79 s80 s81 s82 s83 s84 s85 s86 s87 s88 s89 hb5
              have HI5 := Lib.hid (below_step HI4.out hb5)
              clear hb5 hsj hb1 hb2 hri hbk
              go_wp2
              go_roundg (ul - (k + 1))
              case measure => omega
              case rel => exact ⟨k + 1, hkl, Nat.le_refl _, by go_num, by go_num, HI5⟩
            · refine ru15a ad (some au) tt.length cg ul cu i k g n.f0 x.f0 _ _ _ _ _ _ _ _ _ _ _ _ _ _ _ _ _ _ _ _ _ _ _ _ _ _ _ _ _ _ _ _ _ _ _ _ _ _ _ _ _ _ _ _ _ _ _ _ _ _ _ _ _ _ _ _ _ _ _ _ _ _ _ _ _ _ _ _ _ _ _ _ _ _ _ _ _ _ _ _ _ _ _ _ _ _ _ _ _ _ _ w4 _ hlt hg0 hp4 hk0 HPr.out ?_
              intro w5 s62 s63 s64 s65 s66 s67 s68 s69 s70 s71 s72 s73 s74 s75 s76 s77 s78 s79 s80 s81 s82 s83 s84 s85 s86 s87 s88 s89 hb5
              have HI5 := Lib.hid (below_step HI4.out hb5)
              clear hb5
              go_wp2
              go_roundg (ul - (k + 1))
              case measure => omega
              case rel => exact ⟨k + 1, hkl, Nat.le_refl _, by go_num, by go_num, HI5⟩
          · obtain rfl : k = ul := by omega
            have hts : told tt (i + 1) = s + k := HTS.out
            go_wp2
            go_roundg (tt.length - (i + 1))
            case measure => omega
            case rel => exact ⟨i + 1, hlt, Nat.le_refl _, by rw [hts, Nat.add_assoc], by go_num, Lib.hid (below_step HB3.out HI.out)⟩
      · obtain rfl : ul = 0 := by omega
        have hts : told tt (i + 1) = s + 0 := HTS.out
        go_wp2_with (go_at_call 52; refine HUN.out.mono ?_; rintro e w3 ⟨U, cu, rfl, hcu, hU, hb⟩; have HU := Lib.hid hU; have HB3 := Lib.hid (below_step HV.out hb); have HW3 := Lib.hid hb; clear hb hU)
        go_loopg [6, 9] 0 (fun kq s6 s9 wr => s6 = .int .i64 ((1 + s : Nat) : Int) ∧ s9 = .int .i64 0 ∧ Hid (Below w3.heap.size w3 wr))
        case atStart => exact ⟨rfl, rfl, Lib.hid (Below.refl _ _)⟩
        case round =>
          obtain ⟨rfl, rfl, HI⟩ := hrel
          go_wp2
          go_roundg (tt.length - (i + 1))
          case measure => omega
          case rel => exact ⟨i + 1, hlt, Nat.le_refl _, by rw [hts, Nat.add_zero], by go_num, Lib.hid (below_step HB3.out HI.out)⟩
    · obtain rfl : i = tt.length := by omega
      have hta := told_all HT.out
      have hn : ((1 + told tt tt.length : Nat) : Int) = (tt.length : Int) := by omega
      rw [hn]
      go_wp2
      go_ret
      exact ⟨rfl, below_step HB2.out HV.out⟩
end Go.Proofs.YtmndeoncbocplaaDoor.C
end
