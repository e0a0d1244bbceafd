/- Texts that the claim's law stands on, cut down to what it reaches. -/
import Derived.Test.YteilkbookcmndaaGreatDoorKZ3
import Derived.Deep.RegionHeldLaw
import Derived.Deep.RegionHeld3
import Derived.Deep.LoopGhost
import Derived.Test.YteilkbookcmndaaGreatDoorKR
set_option linter.unusedVariables false
set_option linter.unusedSimpArgs false
section
namespace Go.Proofs.YteilkbookcmndaaGreatDoor.C
open Go.RowKit Go.Proofs.YteilkbookcmndaaGreatDoor.Q Go.Proofs.YteilkbookcmndaaGreatDoorW.PrintWords Go.Proofs.YteilkbookcmndaaGreatDoorW.PrintLast Go.Proofs.YteilkbookcmndaaGreatDoorW.PrintMore
attribute [local go_sem ↓] rd_at50 wr_at50 al_at50
attribute [local go_sem] rd50_new wr50_new al50
attribute [local go_sem ↓] rd_at45 wr_at45 rd_at150 wr_at150 rd_at47b wr_at47b rd_at77 wr_at77
attribute [local go_sem] rd45_new wr45_new rd150_new wr150_new wr47b_new wr77_new
attribute [local go_sem] max_two
def pjP (dq : UInt8) (j : Nat) : ByteArray := pth [[108, dq], [112, UInt8.ofNat (48 + j)]]
theorem pj_ok (dq : UInt8) (h : dq = 48 ∨ dq = 49) (i : Nat) (hi : i < 5) : Okp [[108, dq], [112, UInt8.ofNat (48 + i)]] ∧ (⟨#[47, 108, dq]⟩ : ByteArray) ++ ⟨#[47, 112]⟩ ++ strOfNums [48 + (i : Int)] = pjP dq i ∧ pth [[108, dq]] = ⟨#[47, 108, dq]⟩ := by
 have hs : i = 0 ∨ i = 1 ∨ i = 2 ∨ i = 3 ∨ i = 4 := by omega
 rcases h with rfl | rfl <;> rcases hs with rfl | rfl | rfl | rfl | rfl
 all_goals
  refine ⟨⟨fun x hx => ?_, by decide +kernel⟩, by decide +kernel, rfl⟩
  have hx2 : x ∈ [[108, _], [112, _]] := hx
  rcases List.mem_cons.1 hx2 with rfl | hx3
  ·exact L.name_nm (by decide +kernel)
  ·rw [List.mem_singleton.1 hx3]; exact L.name_nm (by decide +kernel)
theorem pj_inj (dq : UInt8) (h : dq = 48 ∨ dq = 49) (i j : Nat) (hi : i < 5) (hj : j < 5) (he : pjP dq i = pjP dq j) : i = j := by
 have hs : i = 0 ∨ i = 1 ∨ i = 2 ∨ i = 3 ∨ i = 4 := by omega
 have ht : j = 0 ∨ j = 1 ∨ j = 2 ∨ j = 3 ∨ j = 4 := by omega
 revert he
 rcases h with rfl | rfl <;> rcases hs with rfl | rfl | rfl | rfl | rfl <;> rcases ht with rfl | rfl | rfl | rfl | rfl <;> first | (intro _; rfl) | (intro he; exact absurd he (by decide +kernel))
structure PutI (F : List S50) (dq : UInt8) (i : Nat) (t : List S50) : Prop where
 T : Tree t
 len : t.length ≤ F.length + i
 mem : ∀ n ∈ t, n ∈ F ∨ ∃ j, j < i ∧ n.f0 = pjP dq j
 old : ∀ n ∈ F, n ∈ t
theorem puti_step {F t : List S50} {dq : UInt8} (hq : dq = 48 ∨ dq = 49) {i : Nat} (hi : i < 5) (hF : F.length ≤ 500) (hno : ∀ n ∈ F, ∀ j, j < 5 → n.f0 ≠ pjP dq j) (P : PutI F dq i t) (dn : S50) (hd : dn ∈ F) (hd0 : dn.f0 = ⟨#[47, 108, dq]⟩) (hd1 : dn.f1 = true) (acl : List S96) (ha : GoodAcl 5 acl) (ws : List Int) (hw : ws.length ≤ 16) (n : S50) (hn : n = ⟨pjP dq i, false, dn.f2, acl, ⟨4, 4, 4, 0⟩, ws, ⟨0, 0, 0, 0⟩⟩) : PutI F dq (i + 1) (putN t n) := by
 obtain ⟨hok, _, hdp⟩ := pj_ok dq hq i hi
 have hL : Lab dn.f2 := (P.T.ok dn (P.old dn hd)).1
 have hn0 : n.f0 = pth [[108, dq], [112, UInt8.ofNat (48 + i)]] := by rw [hn]; rfl
 have hno2 : isN t (pth [[108, dq], [112, UInt8.ofNat (48 + i)]]) = false := by
  cases hb : isN t (pth [[108, dq], [112, UInt8.ofNat (48 + i)]]) with
  | false => rfl
  | true =>
   obtain ⟨m1, m2⟩ := is_mem hb
   rcases P.mem _ m1 with h | ⟨j, hj, h⟩
   ·exact absurd m2 (hno _ h i hi)
   ·rw [m2] at h
    have := pj_inj dq hq i j hi (by omega) h
    omega
 have hN : NodeOk n := by
  rw [hn]
  exact ⟨hL, lab_zz, ha, hw, (fun h => by cases h), by show (0 : Int) ≤ 4 ∧ (4 : Int) ≤ 4 ∧ (4 : Int) ≤ 4 ∧ (4 : Int) < 8 ∧ (0 : Int) ≤ 0 ∧ (0 : Int) < 17; decide⟩
 have hlen := P.len
 refine ⟨tree_put P.T (by omega) n hN _ hok hn0 (by simp) hno2 dn (P.old dn hd) (by rw [hd0, ← hdp]; rfl) hd1 (by rw [hn]; exact lover_refl hL) (fun _ => by rw [hn]), Nat.le_trans (put_len t n) (by omega), fun x hx => ?_, fun x hx => ?_⟩
 ·rcases mem_put.1 hx with rfl | ⟨h, _⟩
  ·exact Or.inr ⟨i, Nat.lt_succ_self _, hn0⟩
  ·rcases P.mem x h with h | ⟨j, hj, h⟩
   ·exact Or.inl h
   ·exact Or.inr ⟨j, by omega, h⟩
 ·exact mem_put.2 (Or.inr ⟨P.old x hx, by rw [hn0]; exact hno x hx i hi⟩)
set_option maxHeartbeats 16000000 in
set_option maxRecDepth 1000000 in
theorem put_g (F : List S50) (dq : UInt8) (hdq : dq = 48 ∨ dq = 49) (hT : Tree F) (hlen : F.length ≤ 500) (hno : ∀ n ∈ F, ∀ j, j < 5 → n.f0 ≠ pjP dq j) (ps : List (List S77)) (ms : List Int) (A Ap Am : Option Addr) (c cp cm : Nat) (w : World) (hC : Kd.C k50 w A F.length F) (hc : F.length ≤ c) (hP : Kd.C (Kd.slice 77 k77) w Ap ps.length ps) (hcp : ps.length ≤ cp) (hM : Kd.C (Kd.int .i64) w Am ms.length ms) (hcm : ms.length ≤ cm) :
  Calls Tryz.prog 25 #[.slice A F.length c, .string (⟨#[47, 108, dq]⟩ : ByteArray), .slice Ap ps.length cp, .slice Am ms.length cm, .slice none 0 0] w fun e w' => ∃ A' c' t, e = .returned (.slice A' (List.length t) c') ∧ (∃ i, i ≤ 5 ∧ PutI F dq i t) ∧ t.length ≤ c' ∧ Kd.C k50 w' A' t.length t ∧ Below w.heap.size w w' := by
 have hPI0 : PutI F dq 0 F := ⟨hT, Nat.le_refl _, fun n h => Or.inl h, fun n h => h⟩
 have hmaxp := hP.2.1
 have hmaxm := hM.2.1
 obtain ⟨dn, hdn⟩ : ∃ dn, nodeN F (⟨#[47, 108, dq]⟩ : ByteArray) = dn := ⟨_, rfl⟩
 obtain ⟨db, hdb⟩ : ∃ db, isN F (⟨#[47, 108, dq]⟩ : ByteArray) = db := ⟨_, rfl⟩
 have HFI := Lib.hid (find_t hT (⟨#[47, 108, dq]⟩ : ByteArray) A c w hC hc dn db hdn hdb)
 have HC := Lib.hid hC
 have HCL := Lib.hid hc
 have HP := Lib.hid hP
 have HM := Lib.hid hM
 have HPI0 := Lib.hid hPI0
 have HLEN := Lib.hid hlen
 have HNO := Lib.hid hno
 have HT := Lib.hid hT
 have HDM0 := Lib.hid (fun (h : db = true) => by
  have h1 : isN F (⟨#[47, 108, dq]⟩ : ByteArray) = true := hdb.trans h
  have h2 := is_mem h1
  rw [hdn] at h2
  exact h2 : db = true → dn ∈ F ∧ dn.f0 = (⟨#[47, 108, dq]⟩ : ByteArray))
 clear hC hc hP hM hPI0 hlen hno hT hdn hdb
 obtain ⟨d1, hd1e⟩ : ∃ d1, dn.f1 = d1 := ⟨_, rfl⟩
 have HD1 := Lib.hid hd1e
 clear hd1e
 cases db with
 | false =>
  go_enter Tryz.func25, Tryz.ntmps25
  go_wp2_with (go_at_call 16; refine (HFI.out).mono ?_; rintro e w1 ⟨D6, d6, D11, d11, rfl, hb⟩; have HB1 := Lib.hid (below_alloc hb (.cells #[.string dn.f0, .bool dn.f1, .int .i64 dn.f2.f0, .int .i64 dn.f2.f1, .int .i64 dn.f2.f2, .int .i64 dn.f2.f3, .slice D6 dn.f3.length d6, .int .i64 dn.f4.f0, .int .i64 dn.f4.f1, .int .i64 dn.f4.f2, .int .i64 dn.f4.f3, .slice D11 dn.f5.length d11, .int .i64 dn.f6.f0, .int .i64 dn.f6.f1, .int .i64 dn.f6.f2, .int .i64 dn.f6.f3] 36)); have HC := Lib.hid (Kd.C_below HC.out HB1.out); clear hb)
  go_ret
  exact ⟨A, c, F, rfl, ⟨0, by omega, HPI0.out⟩, HCL.out, HC.out, HB1.out⟩
 | true =>
  obtain ⟨hdm, hd0⟩ := HDM0.out rfl
  have HDM := Lib.hid hdm
  have HX0 := Lib.hid hd0
  clear hdm hd0
  cases d1 with
  | false =>
   go_enter Tryz.func25, Tryz.ntmps25
   go_wp2_with (go_at_call 16; refine (HFI.out).mono ?_; rintro e w1 ⟨D6, d6, D11, d11, rfl, hb⟩; have HB1 := Lib.hid (below_alloc hb (.cells #[.string dn.f0, .bool dn.f1, .int .i64 dn.f2.f0, .int .i64 dn.f2.f1, .int .i64 dn.f2.f2, .int .i64 dn.f2.f3, .slice D6 dn.f3.length d6, .int .i64 dn.f4.f0, .int .i64 dn.f4.f1, .int .i64 dn.f4.f2, .int .i64 dn.f4.f3, .slice D11 dn.f5.length d11, .int .i64 dn.f6.f0, .int .i64 dn.f6.f1, .int .i64 dn.f6.f2, .int .i64 dn.f6.f3] 36)); have HC := Lib.hid (Kd.C_below HC.out HB1.out); have e1 := (blk_cell (blk_new w1 (.cells #[.string dn.f0, .bool dn.f1, .int .i64 dn.f2.f0, .int .i64 dn.f2.f1, .int .i64 dn.f2.f2, .int .i64 dn.f2.f3, .slice D6 dn.f3.length d6, .int .i64 dn.f4.f0, .int .i64 dn.f4.f1, .int .i64 dn.f4.f2, .int .i64 dn.f4.f3, .slice D11 dn.f5.length d11, .int .i64 dn.f6.f0, .int .i64 dn.f6.f1, .int .i64 dn.f6.f2, .int .i64 dn.f6.f3] 36)) 1).trans (congrArg (fun b => some (Value.bool b)) HD1.out); clear hb)
   go_ret
   exact ⟨A, c, F, rfl, ⟨0, by omega, HPI0.out⟩, HCL.out, HC.out, HB1.out⟩
  | true =>
   have HX1 := HD1
   go_enter Tryz.func25, Tryz.ntmps25
   go_wp2_with (go_at_call 16; refine (HFI.out).mono ?_; rintro e w1 ⟨D6, d6, D11, d11, rfl, hb⟩; have HB1 := Lib.hid (below_alloc hb (.cells #[.string dn.f0, .bool dn.f1, .int .i64 dn.f2.f0, .int .i64 dn.f2.f1, .int .i64 dn.f2.f2, .int .i64 dn.f2.f3, .slice D6 dn.f3.length d6, .int .i64 dn.f4.f0, .int .i64 dn.f4.f1, .int .i64 dn.f4.f2, .int .i64 dn.f4.f3, .slice D11 dn.f5.length d11, .int .i64 dn.f6.f0, .int .i64 dn.f6.f1, .int .i64 dn.f6.f2, .int .i64 dn.f6.f3] 36)); have HC := Lib.hid (Kd.C_below HC.out HB1.out); have HP := Lib.hid (Kd.C_below HP.out HB1.out); have HM := Lib.hid (Kd.C_below HM.out HB1.out); have ED := Lib.hid (blk_new w1 (.cells #[.string dn.f0, .bool dn.f1, .int .i64 dn.f2.f0, .int .i64 dn.f2.f1, .int .i64 dn.f2.f2, .int .i64 dn.f2.f3, .slice D6 dn.f3.length d6, .int .i64 dn.f4.f0, .int .i64 dn.f4.f1, .int .i64 dn.f4.f2, .int .i64 dn.f4.f3, .slice D11 dn.f5.length d11, .int .i64 dn.f6.f0, .int .i64 dn.f6.f1, .int .i64 dn.f6.f2, .int .i64 dn.f6.f3] 36)); have e1 := (blk_cell ED.out 1).trans (congrArg (fun b => some (Value.bool b)) HX1.out); clear hb)
   obtain ⟨V, hV⟩ : ∃ V, V = w1.alloc (.cells #[.string dn.f0, .bool dn.f1, .int .i64 dn.f2.f0, .int .i64 dn.f2.f1, .int .i64 dn.f2.f2, .int .i64 dn.f2.f3, .slice D6 dn.f3.length d6, .int .i64 dn.f4.f0, .int .i64 dn.f4.f1, .int .i64 dn.f4.f2, .int .i64 dn.f4.f3, .slice D11 dn.f5.length d11, .int .i64 dn.f6.f0, .int .i64 dn.f6.f1, .int .i64 dn.f6.f2, .int .i64 dn.f6.f3] 36) := ⟨_, rfl⟩
   rw [← hV] at HC HP HM ED HB1 ⊢
   clear hV e1
   have hd0 := HX0.out
   have hd1 := HX1.out
   go_loopg [0, 13] 6 (fun kk s0 s13 wr => ∃ (i : Nat) (t : List S50) (A1 : Option Addr) (c1 : Nat), i ≤ 5 ∧ i ≤ ps.length ∧ 6 - i ≤ kk ∧ s13 = .int .i64 (i : Int) ∧ s0 = .slice A1 t.length c1 ∧ Hid (PutI F dq i t) ∧ Hid (t.length ≤ c1) ∧ Hid (Kd.C k50 wr A1 t.length t) ∧ Hid (Below V.heap.size V wr))
   case atStart => exact ⟨0, F, A, c, by omega, by omega, by omega, rfl, rfl, HPI0, HCL, HC, Lib.hid (Below.refl _ _)⟩
   case round =>
    obtain ⟨i, t, A1, c1, hi, hip, hik, rfl, rfl, HPI, HCL, HC, HB⟩ := hrel
    by_cases hlt : i < ps.length ∧ i < 5
    ·have hi5 : i < 5 := hlt.2
     have hl1 : (i : Int) < (ps.length : Int) := by omega
     have hl2 : (i : Int) < 5 := by omega
     obtain ⟨pd, iA, ic, rfl, hpc, hic, hkc⟩ := at_P77 (Kd.C_below HP.out HB.out) i hlt.1
     have HKC := Lib.hid hkc
     have HPC := Lib.hid hpc
     generalize ps.getD i [] = xi at hic HKC HPC
     clear hkc hpc
     go_wp2
     refine pt7 w1.heap.size ps.length cp i pd (⟨#[47, 108, dq]⟩ : ByteArray) dn D6 D11 d6 d11 iA xi.length ic (48 + (i : Int)) _ _ _ _ _ _ _ _ _ _ _ _ _ _ _ _ _ _ _ _ _ _ _ _ _ _ _ _ _ _ _ _ _ _ _ _ _ _ _ _ _ _ _ _ _ _ _ _ _ _ _ _ _ _ _ _ _ _ _ _ _ _ _ _ _ _ _ _ _ _ _ _ _ _ _ _ _ _ _ _ _ _ _ _ _ _ _ _ _ wr _ (blk_below ED.out HB.out) HPC.out hlt.1 hcp (by have : i = 0 ∨ i = 1 ∨ i = 2 ∨ i = 3 ∨ i = 4 := (by omega); rcases this with rfl | rfl | rfl | rfl | rfl <;> decide +kernel) (by have : i = 0 ∨ i = 1 ∨ i = 2 ∨ i = 3 ∨ i = 4 := (by omega); rcases this with rfl | rfl | rfl | rfl | rfl <;> decide +kernel) (by show 3 ≤ 1000; decide) (fun w2 hb2 => words_c xi iA ic w2 (Kd.C_below HKC.out hb2) hic) ?_
     intro gn ga w3 A11 c11 ws t39 t40 t41 t42 t43 t44 t45 t46 t47 t48 t49 t50 t51 t52 t53 t54 t55 t56 t57 hws hwc hF hX hG hne hgn hga hb3
     have HX := Lib.hid (show w3.heap[gn]? = some (.cells #[.string ((⟨#[47, 108, dq]⟩ : ByteArray) ++ ⟨#[47, 112]⟩ ++ strOfNums [48 + (i : Int)]), .bool false, .int .i64 dn.f2.f0, .int .i64 dn.f2.f1, .int .i64 dn.f2.f2, .int .i64 dn.f2.f3, .slice (some ⟨ga, 0, none⟩) 1 1, .int .i64 4, .int .i64 4, .int .i64 4, .int .i64 0, .slice A11 ws.length c11, .int .i64 0, .int .i64 0, .int .i64 0, .int .i64 0] 36 (0, 0)) from hX)
     have HG := Lib.hid hG
     have HBr := Lib.hid hb3
     have HF := Lib.hid hF
     have hrd := rd50_blk HX.out rfl
     clear hX hG hb3 hF
     clear hd0 hd1
     by_cases hm1 : i < ms.length
     ·obtain ⟨am, rfl, hmc⟩ := word_at (Kd.C_below HM.out HB.out) i hm1
      have ham := World.block_lt_of_cell? wr (am.add i) hmc
      rw [add_block] at ham
      have HMC := Lib.hid (pw_cell_below HBr.out hmc)
      obtain ⟨m, hmw, hm0, hm8⟩ := within17 (ms.getD i 0) 8 (by decide) (by decide)
      generalize ms.getD i 0 = mv at hmc HMC hmw
      have HMW := Lib.hid hmw
      have HM8 := Lib.hid hm8
      have hml1 : (i : Int) < (ms.length : Int) := by omega
      have hi0 : (0 : Int) ≤ (i : Int) := by omega
      have mc := HMC.out
      clear hmc hmw hm8
      by_cases hmz : m = 0
      ·subst hmz
       go_wp2_with (go_at_call 11; refine (PProcLimits.donjonlaw17_within.calls mv 8 0 _ HMW.out).mono ?_; rintro e w4 ⟨rfl, hd⟩; have hb := drawn_below hd; have HBr := Lib.hid (below_step HBr.out hb); have HG := Lib.hid (blk_below HG.out hb); have HX := Lib.hid (blk_below HX.out hb); have HF := Lib.hid (Kd.F_below HF.out hb); have hrd := rd50_blk HX.out rfl; clear hd hb)
       have hK : k50.K w4 (⟨(⟨#[47, 108, dq]⟩ : ByteArray) ++ ⟨#[47, 112]⟩ ++ strOfNums [48 + (i : Int)], false, dn.f2, [⟨⟨#[42]⟩, 7⟩], ⟨4, 4, 4, 0⟩, ws, ⟨0, 0, 0, 0⟩⟩ : S50) [.string ((⟨#[47, 108, dq]⟩ : ByteArray) ++ ⟨#[47, 112]⟩ ++ strOfNums [48 + (i : Int)]), .bool false, .int .i64 dn.f2.f0, .int .i64 dn.f2.f1, .int .i64 dn.f2.f2, .int .i64 dn.f2.f3, .slice (some ⟨ga, 0, none⟩) 1 1, .int .i64 4, .int .i64 4, .int .i64 4, .int .i64 0, .slice A11 ws.length c11, .int .i64 0, .int .i64 0, .int .i64 0, .int .i64 0] := k50_mk w4 (⟨(⟨#[47, 108, dq]⟩ : ByteArray) ++ ⟨#[47, 112]⟩ ++ strOfNums [48 + (i : Int)], false, dn.f2, [⟨⟨#[42]⟩, 7⟩], ⟨4, 4, 4, 0⟩, ws, ⟨0, 0, 0, 0⟩⟩ : S50) (A6 := some ⟨ga, 0, none⟩) (c6 := 1) (Nat.le_refl _) (grantC HG.out) (A11 := A11) (c11 := c11) hwc (Kd.F_now HF.out)
       have hCw := Kd.C_below HC.out HBr.out
       have hlen : t.length ≤ 1000 := by have h1 := HPI.out.len; have h2 := HLEN.out; omega
       go_wp2_with (fail)
       have hput := putC t _ _ A1 c1 w4 hCw HCL.out hlen hK
       with_reducible refine hput.mono ?_
       rintro e w9 ⟨A', c', rfl, hc', hC', hb4⟩
       have hPI := puti_step hdq hi5 HLEN.out HNO.out HPI.out dn HDM.out HX0.out HX1.out [⟨⟨#[42]⟩, 7⟩] good_all ws hws.1 (⟨(⟨#[47, 108, dq]⟩ : ByteArray) ++ ⟨#[47, 112]⟩ ++ strOfNums [48 + (i : Int)], false, dn.f2, [⟨⟨#[42]⟩, 7⟩], ⟨4, 4, 4, 0⟩, ws, ⟨0, 0, 0, 0⟩⟩ : S50) (by rw [(pj_ok dq hdq i hi5).2.1])
       obtain ⟨t2, ht2⟩ : ∃ t2, putN t (⟨(⟨#[47, 108, dq]⟩ : ByteArray) ++ ⟨#[47, 112]⟩ ++ strOfNums [48 + (i : Int)], false, dn.f2, [⟨⟨#[42]⟩, 7⟩], ⟨4, 4, 4, 0⟩, ws, ⟨0, 0, 0, 0⟩⟩ : S50) = t2 := ⟨_, rfl⟩
       rw [ht2] at hPI hc' hC' ⊢
       have HPI2 := Lib.hid hPI
       have HC' := Lib.hid hC'
       have HL' := Lib.hid hc'
       have HB9 := Lib.hid (below_step (below_step HB.out HBr.out) hb4)
       clear hb4 hC' hc' hK hCw hPI ht2 hlen hput
       go_wp2
       go_roundg (6 - (i + 1))
       case measure => omega
       case rel => exact ⟨i + 1, t2, A', c', by omega, by omega, Nat.le_refl _, by go_num, rfl, HPI2, HL', HC', HB9⟩
      ·have hmp : 0 < m := by omega
       go_wp2_with (go_at_call 11; refine (PProcLimits.donjonlaw17_within.calls mv 8 m _ HMW.out).mono ?_; rintro e w4 ⟨rfl, hd⟩; have hb := drawn_below hd; have HBr := Lib.hid (below_step HBr.out hb); have HG := Lib.hid (blk_below HG.out hb); have HX := Lib.hid (blk_below HX.out hb); have HF := Lib.hid (Kd.F_below HF.out hb); have HMC := Lib.hid (pw_cell_below hb HMC.out); clear hd hb)
       refine pt9 gn ga ms.length cm i am mv m _ _ _ _ _ _ _ _ _ _ _ _ _ _ _ _ _ _ _ _ _ _ _ _ _ _ _ _ _ _ _ _ _ _ _ _ _ _ _ _ _ _ _ _ _ _ _ _ _ _ _ _ _ _ _ _ _ _ _ _ _ _ _ _ _ _ _ _ _ _ _ _ _ _ _ _ _ _ _ _ _ _ _ _ _ _ _ _ _ _ _ w4 _ HX.out rfl HG.out hne HMC.out hm1 hcm (by omega) HMW.out ?_
       intro w5 r70 r71 r72 r73 r74 r75 r76 r77 r78 hG5 hX5 hg5
       have HG := Lib.hid hG5
       have HX := Lib.hid (show w5.heap[gn]? = some (.cells #[.string ((⟨#[47, 108, dq]⟩ : ByteArray) ++ ⟨#[47, 112]⟩ ++ strOfNums [48 + (i : Int)]), .bool false, .int .i64 dn.f2.f0, .int .i64 dn.f2.f1, .int .i64 dn.f2.f2, .int .i64 dn.f2.f3, .slice (some ⟨ga, 0, none⟩) 1 1, .int .i64 4, .int .i64 4, .int .i64 4, .int .i64 0, .slice A11 ws.length c11, .int .i64 0, .int .i64 0, .int .i64 0, .int .i64 0] 36 (0, 0)) from hX5)
       have HF := Lib.hid (Kd.F_grown HF.out hg5 (fun k hk e => hk.2.2 (Option.some.inj e)))
       have HBr := Lib.hid (Below.grown HBr.out hg5 HBr.out.size (fun k hk => by have := Option.some.inj hk; omega))
       have hrd := rd50_blk HX.out rfl
       clear hG5 hX5 hg5
       go_wp2_with (fail)
       have hK : k50.K w5 (⟨(⟨#[47, 108, dq]⟩ : ByteArray) ++ ⟨#[47, 112]⟩ ++ strOfNums [48 + (i : Int)], false, dn.f2, [⟨⟨#[42]⟩, m⟩], ⟨4, 4, 4, 0⟩, ws, ⟨0, 0, 0, 0⟩⟩ : S50) [.string ((⟨#[47, 108, dq]⟩ : ByteArray) ++ ⟨#[47, 112]⟩ ++ strOfNums [48 + (i : Int)]), .bool false, .int .i64 dn.f2.f0, .int .i64 dn.f2.f1, .int .i64 dn.f2.f2, .int .i64 dn.f2.f3, .slice (some ⟨ga, 0, none⟩) 1 1, .int .i64 4, .int .i64 4, .int .i64 4, .int .i64 0, .slice A11 ws.length c11, .int .i64 0, .int .i64 0, .int .i64 0, .int .i64 0] := k50_mk w5 (⟨(⟨#[47, 108, dq]⟩ : ByteArray) ++ ⟨#[47, 112]⟩ ++ strOfNums [48 + (i : Int)], false, dn.f2, [⟨⟨#[42]⟩, m⟩], ⟨4, 4, 4, 0⟩, ws, ⟨0, 0, 0, 0⟩⟩ : S50) (A6 := some ⟨ga, 0, none⟩) (c6 := 1) (Nat.le_refl _) (grantC HG.out) (A11 := A11) (c11 := c11) hwc (Kd.F_now HF.out)
       have hCw := Kd.C_below HC.out HBr.out
       have hlen : t.length ≤ 1000 := by have h1 := HPI.out.len; have h2 := HLEN.out; omega
       go_wp2_with (fail)
       have hput := putC t _ _ A1 c1 w5 hCw HCL.out hlen hK
       with_reducible refine hput.mono ?_
       rintro e w9 ⟨A', c', rfl, hc', hC', hb4⟩
       have hPI := puti_step hdq hi5 HLEN.out HNO.out HPI.out dn HDM.out HX0.out HX1.out [⟨⟨#[42]⟩, m⟩] (good_star m (by omega) (by have := HM8.out; omega)) ws hws.1 (⟨(⟨#[47, 108, dq]⟩ : ByteArray) ++ ⟨#[47, 112]⟩ ++ strOfNums [48 + (i : Int)], false, dn.f2, [⟨⟨#[42]⟩, m⟩], ⟨4, 4, 4, 0⟩, ws, ⟨0, 0, 0, 0⟩⟩ : S50) (by rw [(pj_ok dq hdq i hi5).2.1])
       obtain ⟨t2, ht2⟩ : ∃ t2, putN t (⟨(⟨#[47, 108, dq]⟩ : ByteArray) ++ ⟨#[47, 112]⟩ ++ strOfNums [48 + (i : Int)], false, dn.f2, [⟨⟨#[42]⟩, m⟩], ⟨4, 4, 4, 0⟩, ws, ⟨0, 0, 0, 0⟩⟩ : S50) = t2 := ⟨_, rfl⟩
       rw [ht2] at hPI hc' hC' ⊢
       have HPI2 := Lib.hid hPI
       have HC' := Lib.hid hC'
       have HL' := Lib.hid hc'
       have HB9 := Lib.hid (below_step (below_step HB.out HBr.out) hb4)
       clear hb4 hC' hc' hK hCw hPI ht2 hlen hput
       go_wp2
       go_roundg (6 - (i + 1))
       case measure => omega
       case rel => exact ⟨i + 1, t2, A', c', by omega, by omega, Nat.le_refl _, by go_num, rfl, HPI2, HL', HC', HB9⟩
     ·have hml1 : ¬ ((i : Int) < (ms.length : Int)) := by omega
      go_wp2_with (fail)
      have hK : k50.K w3 (⟨(⟨#[47, 108, dq]⟩ : ByteArray) ++ ⟨#[47, 112]⟩ ++ strOfNums [48 + (i : Int)], false, dn.f2, [⟨⟨#[42]⟩, 7⟩], ⟨4, 4, 4, 0⟩, ws, ⟨0, 0, 0, 0⟩⟩ : S50) [.string ((⟨#[47, 108, dq]⟩ : ByteArray) ++ ⟨#[47, 112]⟩ ++ strOfNums [48 + (i : Int)]), .bool false, .int .i64 dn.f2.f0, .int .i64 dn.f2.f1, .int .i64 dn.f2.f2, .int .i64 dn.f2.f3, .slice (some ⟨ga, 0, none⟩) 1 1, .int .i64 4, .int .i64 4, .int .i64 4, .int .i64 0, .slice A11 ws.length c11, .int .i64 0, .int .i64 0, .int .i64 0, .int .i64 0] := k50_mk w3 (⟨(⟨#[47, 108, dq]⟩ : ByteArray) ++ ⟨#[47, 112]⟩ ++ strOfNums [48 + (i : Int)], false, dn.f2, [⟨⟨#[42]⟩, 7⟩], ⟨4, 4, 4, 0⟩, ws, ⟨0, 0, 0, 0⟩⟩ : S50) (A6 := some ⟨ga, 0, none⟩) (c6 := 1) (Nat.le_refl _) (grantC HG.out) (A11 := A11) (c11 := c11) hwc (Kd.F_now HF.out)
      have hCw := Kd.C_below HC.out HBr.out
      have hlen : t.length ≤ 1000 := by have h1 := HPI.out.len; have h2 := HLEN.out; omega
      go_wp2_with (fail)
      have hput := putC t _ _ A1 c1 w3 hCw HCL.out hlen hK
      with_reducible refine hput.mono ?_
      rintro e w9 ⟨A', c', rfl, hc', hC', hb4⟩
      have hPI := puti_step hdq hi5 HLEN.out HNO.out HPI.out dn HDM.out HX0.out HX1.out [⟨⟨#[42]⟩, 7⟩] good_all ws hws.1 (⟨(⟨#[47, 108, dq]⟩ : ByteArray) ++ ⟨#[47, 112]⟩ ++ strOfNums [48 + (i : Int)], false, dn.f2, [⟨⟨#[42]⟩, 7⟩], ⟨4, 4, 4, 0⟩, ws, ⟨0, 0, 0, 0⟩⟩ : S50) (by rw [(pj_ok dq hdq i hi5).2.1])
      obtain ⟨t2, ht2⟩ : ∃ t2, putN t (⟨(⟨#[47, 108, dq]⟩ : ByteArray) ++ ⟨#[47, 112]⟩ ++ strOfNums [48 + (i : Int)], false, dn.f2, [⟨⟨#[42]⟩, 7⟩], ⟨4, 4, 4, 0⟩, ws, ⟨0, 0, 0, 0⟩⟩ : S50) = t2 := ⟨_, rfl⟩
      rw [ht2] at hPI hc' hC' ⊢
      have HPI2 := Lib.hid hPI
      have HC' := Lib.hid hC'
      have HL' := Lib.hid hc'
      have HB9 := Lib.hid (below_step (below_step HB.out HBr.out) hb4)
      clear hb4 hC' hc' hK hCw hPI ht2 hlen hput
      go_wp2
      go_roundg (6 - (i + 1))
      case measure => omega
      case rel => exact ⟨i + 1, t2, A', c', by omega, by omega, Nat.le_refl _, by go_num, rfl, HPI2, HL', HC', HB9⟩
    ·by_cases h1 : i < ps.length
     ·have h2 : ¬ ((i : Int) < 5) := by omega
      have h3 : (i : Int) < (ps.length : Int) := by omega
      go_wp2
      go_ret
      exact ⟨A1, c1, t, rfl, ⟨i, hi, HPI.out⟩, HCL.out, HC.out, below_step HB1.out HB.out⟩
     ·have h3 : ¬ ((i : Int) < (ps.length : Int)) := by omega
      go_wp2
      go_ret
      exact ⟨A1, c1, t, rfl, ⟨i, hi, HPI.out⟩, HCL.out, HC.out, below_step HB1.out HB.out⟩
theorem P_drop {w : World} {ad : Addr} {cp : Nat} {ps : List (List S77)} (h : Kd.C (Kd.slice 77 k77) w (some ad) ps.length ps) (h1 : 1 ≤ ps.length) (hc : ps.length ≤ cp) (hcp : cp ≠ 1) : Kd.C (Kd.slice 77 k77) w (some ⟨ad.block, ad.off + 1, none⟩) (ps.drop 1).length (ps.drop 1) := by
 have h2 := Kd.C_drop h h1 hc
 rw [if_neg hcp] at h2
 have e : ad.add (1 * (Kd.slice 77 k77).sz) = ⟨ad.block, ad.off + 1, none⟩ := by show ad.add 1 = _; unfold Addr.add; rw [if_neg (by decide)]
 have e2 : (some ad).map (fun x : Addr => x.add (1 * (Kd.slice 77 k77).sz)) = some ⟨ad.block, ad.off + 1, none⟩ := by rw [Option.map_some, e]
 rw [e2] at h2
 exact h2
theorem pj_notfine (dq : UInt8) (h : dq = 48 ∨ dq = 49) (j : Nat) (hj : j < 5) : ¬ FineP (pjP dq j) := by
 intro hf
 have hm : (112 : UInt8) ∈ (pjP dq j).toList := by
  rw [Lib.toList_data]
  have hs : j = 0 ∨ j = 1 ∨ j = 2 ∨ j = 3 ∨ j = 4 := by omega
  rcases h with rfl | rfl <;> rcases hs with rfl | rfl | rfl | rfl | rfl <;> decide +kernel
 have := hf _ hm
 revert this
 unfold FineB
 decide
theorem pj_apart (j k : Nat) (hj : j < 5) (hk : k < 5) : pjP 48 j ≠ pjP 49 k := by
 have hs : j = 0 ∨ j = 1 ∨ j = 2 ∨ j = 3 ∨ j = 4 := by omega
 have ht : k = 0 ∨ k = 1 ∨ k = 2 ∨ k = 3 ∨ k = 4 := by omega
 rcases hs with rfl | rfl | rfl | rfl | rfl <;> rcases ht with rfl | rfl | rfl | rfl | rfl <;> (intro he; have h2 := congrArg (fun b : ByteArray => b.data.toList) he; revert h2; decide +kernel)
theorem no_fine {F : List S50} (hF : Fine F) (dq : UInt8) (h : dq = 48 ∨ dq = 49) : ∀ n ∈ F, ∀ j, j < 5 → n.f0 ≠ pjP dq j := fun n hn j hj e => pj_notfine dq h j hj (e ▸ hF n hn)
theorem no_second {F t : List S50} {i : Nat} (hi : i ≤ 5) (hF : Fine F) (P : PutI F 48 i t) : ∀ n ∈ t, ∀ j, j < 5 → n.f0 ≠ pjP 49 j := fun n hn j hj e => by
 rcases P.mem n hn with h | ⟨k, hk, h⟩
 ·exact no_fine hF 49 (Or.inr rfl) n h j hj e
 ·exact pj_apart k j (by omega) hj (h.symm.trans e)
set_option maxHeartbeats 16000000 in
set_option maxRecDepth 1000000 in
theorem made_c (terms : List S41) (makes : List S80) (ps : List (List S77)) (ms : List Int) (At Am Ap Ao : Option Addr) (ct cm cp co : Nat) (w : World) (hT : Kd.C k41 w At terms.length terms) (hct : terms.length ≤ ct) (hM : Kd.C k80 w Am makes.length makes) (hcm : makes.length ≤ cm) (hP : Kd.C (Kd.slice 77 k77) w Ap ps.length ps) (hcp : ps.length ≤ cp) (hO : Kd.C (Kd.int .i64) w Ao ms.length ms) (hco : ms.length ≤ co) :
  Calls Tryz.prog 10 #[.slice At terms.length ct, .slice Am makes.length cm, .slice Ap ps.length cp, .slice Ao ms.length co, .slice none 0 0] w fun e w' => ∃ A' c' t, e = .returned (.slice A' (List.length t) c') ∧ Tree t ∧ t.length ≤ 29 ∧ 0 < t.length ∧ t.length ≤ c' ∧ Kd.C k50 w' A' t.length t ∧ Below w.heap.size w w' := by
 have hmaxp := hP.2.1
 have HGR := Lib.hid (grow_c3 terms makes At Am ct cm w hT hct hM hcm)
 have HP := Lib.hid hP
 have HO := Lib.hid hO
 have HCP := Lib.hid hcp
 have HCO := Lib.hid hco
 clear hT hM hP hO hct hcm hco
 by_cases h2 : 2 < ps.length
 ·have h2i : (2 : Int) < (ps.length : Int) := by omega
  have hdl : (ps.drop 1).length = ps.length - 1 := List.length_drop
  have HD := Lib.hid (fun (w1 : World) (hb : Below w.heap.size w w1) => (by
   obtain ⟨ad, _, _, h, _⟩ := at_P77 HP.out 0 (by omega)
   have h2 := HP.out
   rw [h] at h2 ⊢
   exact P_drop (Kd.C_below h2 hb) (by omega) HCP.out (by have := HCP.out; omega) : Kd.C (Kd.slice 77 k77) w1 (Option.map (fun x : Addr => (⟨x.block, x.off + 1, none⟩ : Addr)) Ap) (ps.drop 1).length (ps.drop 1)))
  have HDL := Lib.hid hdl
  clear hdl
  go_enter Tryz.func10, Tryz.ntmps10
  go_wp2_with (fail)
  refine (HGR.out).mono ?_
  rintro e w1 ⟨A0, t0, c0, rfl, hT0, hf, h19, hc0, hC0, hb⟩
  have HT0 := Lib.hid hT0
  have HI0 := Lib.hid hf
  have HC := Lib.hid hC0
  have HCL := Lib.hid hc0
  have HB := Lib.hid hb
  have H19 := Lib.hid h19
  clear hT0 hf hC0 hc0 hb h19
  go_wp2_with (fail)
  refine (put_g t0 48 (Or.inl rfl) HT0.out (by have := H19.out; omega) (no_fine HI0.out 48 (Or.inl rfl)) ps ms A0 Ap Ao c0 cp co _ HC.out HCL.out (Kd.C_below HP.out HB.out) HCP.out (Kd.C_below HO.out HB.out) HCO.out).mono ?_
  rintro e w2 ⟨A1, c1, t1, rfl, ⟨i1, hi1, hPI⟩, hc1, hC1, hb⟩
  have HI1 := Lib.hid hPI
  have HL1 := Lib.hid hi1
  have HC1 := Lib.hid hC1
  have HCL1 := Lib.hid hc1
  have HB2 := Lib.hid (below_step HB.out hb)
  clear hb hC1 hc1 hPI hi1
  go_wp2_with (fail)
  have hput := put_g t1 49 (Or.inr rfl) HI1.out.T (by have h1 := HI1.out.len; have h2 := HL1.out; have h3 := H19.out; omega) (no_second HL1.out HI0.out HI1.out) (ps.drop 1) ms A1 (Option.map (fun x : Addr => (⟨x.block, x.off + 1, none⟩ : Addr)) Ap) Ao c1 (cp - 1) co w2 HC1.out HCL1.out (HD.out w2 HB2.out) (by have := HDL.out; have := HCP.out; omega) (Kd.C_below HO.out HB2.out) HCO.out
  rw [HDL.out] at hput
  refine hput.mono ?_
  rintro e w3 ⟨A2, c2, t2, rfl, ⟨i2, hi2, hPI2⟩, hc2, hC2, hb3⟩
  have HI2 := Lib.hid hPI2
  have HL2 := Lib.hid hi2
  have HC2 := Lib.hid hC2
  have HCL2 := Lib.hid hc2
  have HB3 := Lib.hid (below_step HB2.out hb3)
  clear hput hb3 hC2 hc2 hPI2 hi2
  trace_state
  go_wp2_with (fail)
  trace_state
  go_ret
  exact ⟨A2, c2, t2, rfl, HI2.out.T, by have h0 := HI2.out.len; have h1 := HI1.out.len; have h2 := HL1.out; have h3 := H19.out; have h4 := HL2.out; omega, tree_ne HI2.out.T, HCL2.out, HC2.out, HB3.out⟩
 ·have h2i : ¬ ((2 : Int) < (ps.length : Int)) := by omega
  go_enter Tryz.func10, Tryz.ntmps10
  go_wp2_with (fail)
  refine (HGR.out).mono ?_
  rintro e w1 ⟨A0, t0, c0, rfl, hT0, hf, h19, hc0, hC0, hb⟩
  have HT0 := Lib.hid hT0
  have HI0 := Lib.hid hf
  have HC := Lib.hid hC0
  have HCL := Lib.hid hc0
  have HB := Lib.hid hb
  have H19 := Lib.hid h19
  clear hT0 hf hC0 hc0 hb h19
  go_wp2_with (fail)
  refine (put_g t0 48 (Or.inl rfl) HT0.out (by have := H19.out; omega) (no_fine HI0.out 48 (Or.inl rfl)) ps ms A0 Ap Ao c0 cp co _ HC.out HCL.out (Kd.C_below HP.out HB.out) HCP.out (Kd.C_below HO.out HB.out) HCO.out).mono ?_
  rintro e w2 ⟨A1, c1, t1, rfl, ⟨i1, hi1, hPI⟩, hc1, hC1, hb⟩
  have HI1 := Lib.hid hPI
  have HL1 := Lib.hid hi1
  have HC1 := Lib.hid hC1
  have HCL1 := Lib.hid hc1
  have HB2 := Lib.hid (below_step HB.out hb)
  clear hb hC1 hc1 hPI hi1
  go_wp2
  go_ret
  exact ⟨A1, c1, t1, rfl, HI1.out.T, by have h1 := HI1.out.len; have h2 := HL1.out; have h3 := H19.out; omega, tree_ne HI1.out.T, HCL1.out, HC1.out, HB2.out⟩
end Go.Proofs.YteilkbookcmndaaGreatDoor.C
end
