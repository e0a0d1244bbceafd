/- Texts that the claim's law stands on, cut down to what it reaches. -/
import Derived.Test.YteilkbookcmndaaGreatDoorKY3
import Derived.Test.YteilkbookcmndaaGreatDoorKY5
import Derived.Deep.RegionHeldLaw
import Derived.Deep.RegionHeld3
import Derived.Deep.LoopGhost
import Derived.Test.YteilkbookcmndaaGreatDoorKY4
set_option linter.unusedVariables false
set_option linter.unusedSimpArgs false
section
namespace Go.Proofs.YteilkbookcmndaaGreatDoor.C
open Go.RowKit Go.Proofs.YteilkbookcmndaaGreatDoor.Q Go.Proofs.YteilkbookcmndaaGreatDoorW.PrintWords Go.Proofs.YteilkbookcmndaaGreatDoorW.PrintLast Go.Proofs.YteilkbookcmndaaGreatDoorW.PrintMore
attribute [local go_sem ↓] rd_at50 wr_at50 al_at50
attribute [local go_sem] rd50_new wr50_new al50
attribute [local go_sem ↓] rd_at45 wr_at45 rd_at150 wr_at150 rd_at47b wr_at47b rd_at77 wr_at77
attribute [local go_sem] rd45_new wr45_new rd150_new wr150_new wr47b_new wr77_new
attribute [local go_sem] max_two
theorem words_none (w : World) : Calls Tryz.prog 39 #[.agg #[.slice none 0 0]] w fun e w' => e = .returned (.slice none 0 0) ∧ Below w.heap.size w w' := by
 have HB := Lib.hid (below_alloc (Below.refl w.heap.size w) (.cells #[.slice none 0 0] 94))
 have E := Lib.hid (blk_new w (.cells #[.slice none 0 0] 94))
 obtain ⟨V, hV⟩ : ∃ V, V = w.alloc (.cells #[.slice none 0 0] 94) := ⟨_, rfl⟩
 go_enter Tryz.func39, Tryz.ntmps39
 go_wp2
 rw [← hV] at HB E ⊢
 clear hV
 go_loopg [3, 4] 0 (fun kk s3 s4 wr => s3 = .slice none 0 0 ∧ s4 = .int .i64 0 ∧ wr = V)
 case atStart => exact ⟨rfl, rfl, rfl⟩
 case round =>
  obtain ⟨rfl, rfl, rfl⟩ := hrel
  have e0 : wr.cell? ⟨w.heap.size, 0, none⟩ = some (.slice none 0 0) := (blk_cell E.out 0).trans rfl
  go_wp2
  go_ret
  exact ⟨rfl, HB.out⟩
def l0B : ByteArray := ⟨#[47, 108, 48]⟩
def l0p0 : ByteArray := ⟨#[47, 108, 48, 47, 112, 48]⟩
def nK (ws : List Int) : S50 := ⟨l0p0, false, botS, allG, ⟨4, 4, 4, 0⟩, ws, ⟨0, 0, 0, 0⟩⟩
def dL0 : S50 := dirN l0B botS
set_option maxHeartbeats 16000000 in
set_option maxRecDepth 1000000 in
theorem put_known (F : List S50) (dir : ByteArray) (np : S50) (g : Nat) (A : Option Addr) (c : Nat) (w : World) (hC : Kd.C k50 w A F.length F) (hc : F.length ≤ c) (hFl : F.length ≤ 900) (hg : w.heap[g]? = some (.cells #[.slice none 0 0] 94 (0, 0))) (hdir : dir.size ≤ 1000)
  (hfind : Calls Tryz.prog 16 #[.slice A F.length c, .string dir] w fun e w' => ∃ D6 d6 D11 d11, e = .returned (.tuple #[.agg #[.string dir, .bool true, .int .i64 0, .int .i64 0, .int .i64 3, .int .i64 255, .slice D6 1 d6, .int .i64 0, .int .i64 0, .int .i64 0, .int .i64 0, .slice D11 0 d11, .int .i64 0, .int .i64 0, .int .i64 3, .int .i64 255], .bool true]) ∧ Below w.heap.size w w')
  (hnp : np = ⟨dir ++ ⟨#[47, 112]⟩ ++ strOfNums [48], false, botS, allG, ⟨4, 4, 4, 0⟩, [], ⟨0, 0, 0, 0⟩⟩) :
  Calls Tryz.prog 25 #[.slice A F.length c, .string dir, .slice (some ⟨g, 0, none⟩) 1 1, .slice none 0 0, .slice none 0 0] w fun e w' => ∃ A' c', e = .returned (.slice A' (putN F np).length c') ∧ (putN F np).length ≤ c' ∧ Kd.C k50 w' A' (putN F np).length (putN F np) ∧ Below w.heap.size w w' := by
 have HC := Lib.hid hC
 have EG := Lib.hid hg
 have HCL := Lib.hid hc
 have HFI := Lib.hid hfind
 have HNP := Lib.hid hnp
 have HFL := Lib.hid hFl
 clear hC hg hc hfind hnp hFl
 go_enter Tryz.func25, Tryz.ntmps25
 go_wp2_with (go_at_call 16; refine (HFI.out).mono ?_; rintro e w1 ⟨D6, d6, D11, d11, rfl, hb⟩; have HC := Lib.hid (Kd.C_below HC.out (below_alloc hb (.cells #[.string dir, .bool true, .int .i64 0, .int .i64 0, .int .i64 3, .int .i64 255, .slice D6 1 d6, .int .i64 0, .int .i64 0, .int .i64 0, .int .i64 0, .slice D11 0 d11, .int .i64 0, .int .i64 0, .int .i64 3, .int .i64 255] 36))); have EG := Lib.hid (blk_alloc (blk_below EG.out hb) (.cells #[.string dir, .bool true, .int .i64 0, .int .i64 0, .int .i64 3, .int .i64 255, .slice D6 1 d6, .int .i64 0, .int .i64 0, .int .i64 0, .int .i64 0, .slice D11 0 d11, .int .i64 0, .int .i64 0, .int .i64 3, .int .i64 255] 36)); have ED := Lib.hid (blk_new w1 (.cells #[.string dir, .bool true, .int .i64 0, .int .i64 0, .int .i64 3, .int .i64 255, .slice D6 1 d6, .int .i64 0, .int .i64 0, .int .i64 0, .int .i64 0, .slice D11 0 d11, .int .i64 0, .int .i64 0, .int .i64 3, .int .i64 255] 36)); have HB1 := Lib.hid (below_alloc hb (.cells #[.string dir, .bool true, .int .i64 0, .int .i64 0, .int .i64 3, .int .i64 255, .slice D6 1 d6, .int .i64 0, .int .i64 0, .int .i64 0, .int .i64 0, .slice D11 0 d11, .int .i64 0, .int .i64 0, .int .i64 3, .int .i64 255] 36)); clear hb)
 obtain ⟨V, hV⟩ : ∃ V, V = w1.alloc (.cells #[.string dir, .bool true, .int .i64 0, .int .i64 0, .int .i64 3, .int .i64 255, .slice D6 1 d6, .int .i64 0, .int .i64 0, .int .i64 0, .int .i64 0, .slice D11 0 d11, .int .i64 0, .int .i64 0, .int .i64 3, .int .i64 255] 36) := ⟨_, rfl⟩
 rw [← hV] at HC EG ED HB1 ⊢
 clear hV
 go_loopg [0, 13] 1 (fun kk s0 s13 wr => ∃ i : Nat, i ≤ 1 ∧ 1 - i ≤ kk ∧ s13 = .int .i64 (i : Int) ∧ Hid (Below V.heap.size V wr) ∧ ((i = 0 ∧ s0 = .slice A F.length c) ∨ (i = 1 ∧ ∃ A' c', s0 = .slice A' (putN F np).length c' ∧ Hid ((putN F np).length ≤ c') ∧ Hid (Kd.C k50 wr A' (putN F np).length (putN F np)))))
 case atStart => exact ⟨0, by omega, by omega, rfl, Lib.hid (Below.refl _ _), Or.inl ⟨rfl, rfl⟩⟩
 case round =>
  obtain ⟨i, hi, hik, rfl, HB, hor⟩ := hrel
  rcases hor with ⟨rfl, rfl⟩ | ⟨rfl, A', c', rfl, HL', HC'⟩
  ·go_wp2
   refine pt7 w1.heap.size 1 1 0 ⟨g, 0, none⟩ dir ⟨dir, true, botS, allG, z47, [], botS⟩ D6 D11 d6 d11 none 0 0 48 _ _ _ _ _ _ _ _ _ _ _ _ _ _ _ _ _ _ _ _ _ _ _ _ _ _ _ _ _ _ _ _ _ _ _ _ _ _ _ _ _ _ _ _ _ _ _ _ _ _ _ _ _ _ _ _ _ _ _ _ _ _ _ _ _ _ _ _ _ _ _ _ _ _ _ _ _ _ _ _ _ _ _ _ _ _ _ _ _ wr _ (blk_below ED.out HB.out) ((blk_cell (blk_below EG.out HB.out) 0).trans rfl) (by decide) (by decide) (by decide +kernel) (by decide +kernel) hdir (fun w2 hb2 => (words_none w2).mono fun e w' ⟨he, hb⟩ => ⟨none, 0, [], he, ⟨by decide, fun _ => rfl⟩, by decide, Kd.F_nil _ _ _, hb⟩) ?_
   intro gn ga w3 A11 c11 ws t39 t40 t41 t42 t43 t44 t45 t46 t47 t48 t49 t50 t51 t52 t53 t54 t55 t56 t57 hws hwc hF hX hG hne hgn hga hb3
   obtain rfl := hws.2 rfl
   have HX := Lib.hid (show w3.heap[gn]? = some (.cells #[.string (dir ++ ⟨#[47, 112]⟩ ++ strOfNums [48]), .bool false, .int .i64 0, .int .i64 0, .int .i64 3, .int .i64 255, .slice (some ⟨ga, 0, none⟩) 1 1, .int .i64 4, .int .i64 4, .int .i64 4, .int .i64 0, .slice A11 0 c11, .int .i64 0, .int .i64 0, .int .i64 0, .int .i64 0] 36 (0, 0)) from hX)
   have HG := Lib.hid hG
   have HB3 := Lib.hid (below_step HB.out hb3)
   have HF := Lib.hid hF
   have hrd := rd50_blk HX.out rfl
   clear hX hG hb3 hF hws
   have hK : k50.K w3 np [.string (dir ++ ⟨#[47, 112]⟩ ++ strOfNums [48]), .bool false, .int .i64 0, .int .i64 0, .int .i64 3, .int .i64 255, .slice (some ⟨ga, 0, none⟩) 1 1, .int .i64 4, .int .i64 4, .int .i64 4, .int .i64 0, .slice A11 0 c11, .int .i64 0, .int .i64 0, .int .i64 0, .int .i64 0] := by
    rw [HNP.out]
    exact k50_mk w3 (⟨dir ++ ⟨#[47, 112]⟩ ++ strOfNums [48], false, botS, allG, ⟨4, 4, 4, 0⟩, [], ⟨0, 0, 0, 0⟩⟩ : S50) (A6 := some ⟨ga, 0, none⟩) (c6 := 1) (Nat.le_refl _) (grantC HG.out) (A11 := A11) (c11 := c11) hwc (Kd.F_now HF.out)
   have hCw := Kd.C_below HC.out HB3.out
   have hlen : F.length ≤ 1000 := Nat.le_trans HFL.out (by decide)
   go_wp2_with (fail)
   have hput := putC F np _ A c w3 hCw HCL.out hlen hK
   with_reducible refine hput.mono ?_
   rintro e w4 ⟨A', c', rfl, hc', hC', hb4⟩
   have HC' := Lib.hid hC'
   have HL' := Lib.hid hc'
   have HB4 := Lib.hid (below_step HB3.out hb4)
   clear hb4 hC' hc' hK hCw
   go_wp2
   go_roundg 0
   case measure => omega
   case rel => exact ⟨1, by omega, by omega, rfl, HB4, Or.inr ⟨rfl, A', c', rfl, HL', HC'⟩⟩
  ·go_wp2
   go_ret
   exact ⟨A', c', rfl, HL'.out, HC'.out, below_step HB1.out HB.out⟩
def tK : List S50 := putN (putN (firstT [botS]) (nK [])) (nK [0])
theorem okp_lp : Okp [[108, 48], [112, 48]] := by
 refine ⟨fun x hx => ?_, by decide +kernel⟩
 rcases List.mem_cons.1 hx with rfl | hx
 ·exact L.name_nm (by decide +kernel)
 ·rw [List.mem_singleton.1 hx]; exact L.name_nm (by decide +kernel)
structure SimK (t : List S50) : Prop where
 T : Tree t
 see : seeR t botS [] [[108, 48], [112, 48]] = (nK [0], 0)
 may : mayR t botS uA [[108, 48], [112, 48]] 4 = (nK [0], 0)
 mo : moA (fun md => (mayR t botS uA [[108, 48], [112, 48]] md).2) 3 = 7
 no : isN t ⟨#[]⟩ = false
theorem see_k : seeR tK botS [] [[108, 48], [112, 48]] = (nK [0], 0) := by kernel_rfl
theorem may_k1 : mayR tK botS uA [[108, 48], [112, 48]] 1 = (nK [0], 0) := by kernel_rfl
theorem may_k2 : mayR tK botS uA [[108, 48], [112, 48]] 2 = (nK [0], 0) := by kernel_rfl
theorem may_k4 : mayR tK botS uA [[108, 48], [112, 48]] 4 = (nK [0], 0) := by kernel_rfl
theorem tree_k : Tree tK := by
 have e : tK = putN (firstT [botS]) (nK [0]) := by kernel_rfl
 rw [e]
 exact (put_tree tree_1 (by decide) [[108, 48], [112, 48]] okp_lp (by simp) dL0 (by kernel_rfl) (by kernel_rfl) rfl (by kernel_rfl) (nK [0]) (by kernel_rfl) lab_bot lab_zz good_all (by decide) (fun h => by cases h) (by show (0 : Int) ≤ 4 ∧ (4 : Int) ≤ 4 ∧ (4 : Int) ≤ 4 ∧ (4 : Int) < 8 ∧ (0 : Int) ≤ 0 ∧ (0 : Int) < 17; decide) (by show lover botS botS = true; decide +kernel) (fun _ => rfl)).1
theorem sim_k : SimK tK := ⟨tree_k, see_k, may_k4, by
 show (if (mayR tK botS uA [[108, 48], [112, 48]] 4).2 = 0 then bits .or .i64 (if (mayR tK botS uA [[108, 48], [112, 48]] 2).2 = 0 then bits .or .i64 (if (mayR tK botS uA [[108, 48], [112, 48]] 1).2 = 0 then bits .or .i64 0 1 else 0) 2 else (if (mayR tK botS uA [[108, 48], [112, 48]] 1).2 = 0 then bits .or .i64 0 1 else 0)) 4 else _) = 7
 rw [may_k1, may_k2, may_k4]
 kernel_rfl, by kernel_rfl⟩
def kS (n : Nat) : (Nat → Int) × Bool := (fun i => match i with | 1 => (if n = 0 then 0 else 1) | 2 => 4 | 6 => 4 | 7 => 1 | 9 => 4 | 10 => 2 | 12 => 4 | 13 => 3 | 15 => 4 | _ => 0, decide (n ≠ 0))
theorem k_np : nK [] = ⟨l0B ++ ⟨#[47, 112]⟩ ++ strOfNums [48], false, botS, allG, ⟨4, 4, 4, 0⟩, [], ⟨0, 0, 0, 0⟩⟩ := by kernel_rfl
theorem k_find1 : (findL (firstT [botS]) l0B).isSome = true ∧ (findL (firstT [botS]) l0B).getD z50 = dL0 := ⟨by kernel_rfl, by kernel_rfl⟩
theorem k_find2 : (findL (putN (firstT [botS]) (nK [])) l0p0).isSome = true ∧ (findL (putN (firstT [botS]) (nK [])) l0p0).getD z50 = nK [] := ⟨by kernel_rfl, by kernel_rfl⟩
theorem dec_0 : PProcLimits.isa_Decode.f (([0] : List Int).getD 0 0) = some (0, 0, 0, 0) := by kernel_rfl
theorem me_4k : PProcLimits.ring_MayExec.f 4 4 4 0 4 = some true := by kernel_rfl
theorem find_l0 (A : Option Addr) (c : Nat) (w : World) (hC : Kd.C k50 w A (firstT [botS]).length (firstT [botS])) (hc : (firstT [botS]).length ≤ c) :
  Calls Tryz.prog 16 #[.slice A (firstT [botS]).length c, .string l0B] w fun e w' => ∃ D6 d6 D11 d11, e = .returned (.tuple #[.agg #[.string l0B, .bool true, .int .i64 0, .int .i64 0, .int .i64 3, .int .i64 255, .slice D6 1 d6, .int .i64 0, .int .i64 0, .int .i64 0, .int .i64 0, .slice D11 0 d11, .int .i64 0, .int .i64 0, .int .i64 3, .int .i64 255], .bool true]) ∧ Below w.heap.size w w' := by
 refine (find_c (firstT [botS]) l0B A c w hC hc).mono ?_
 rintro e w' ⟨cs, rfl, hK, hb⟩
 rw [k_find1.2] at hK
 rw [k_find1.1]
 obtain ⟨D6, d6, D11, d11, rfl, _⟩ := k50_open hK
 exact ⟨D6, d6, D11, d11, rfl, hb⟩
theorem find_p0 (A : Option Addr) (c : Nat) (w : World) (hC : Kd.C k50 w A (putN (firstT [botS]) (nK [])).length (putN (firstT [botS]) (nK []))) (hc : (putN (firstT [botS]) (nK [])).length ≤ c) :
  Calls Tryz.prog 16 #[.slice A (putN (firstT [botS]) (nK [])).length c, .string l0p0] w fun e w' => ∃ D6 d6 D11 d11, e = .returned (.tuple #[.agg #[.string l0p0, .bool false, .int .i64 0, .int .i64 0, .int .i64 3, .int .i64 255, .slice D6 1 d6, .int .i64 4, .int .i64 4, .int .i64 4, .int .i64 0, .slice D11 0 d11, .int .i64 0, .int .i64 0, .int .i64 0, .int .i64 0], .bool true]) ∧ 1 ≤ d6 ∧ Kd.C k96 w' D6 1 allG ∧ Below w.heap.size w w' := by
 refine (find_c (putN (firstT [botS]) (nK [])) l0p0 A c w hC hc).mono ?_
 rintro e w' ⟨cs, rfl, hK, hb⟩
 rw [k_find2.2] at hK
 rw [k_find2.1]
 obtain ⟨D6, d6, D11, d11, rfl, h1, h2, _⟩ := k50_open hK
 exact ⟨D6, d6, D11, d11, rfl, h1, h2, hb⟩
theorem k_step (gm : Nat) (W0 w1 : World) (hb : Below W0.heap.size W0 w1)
  (hS : ∀ w1 : World, Below W0.heap.size W0 w1 → Calls Tryz.prog 148 #[.pointer (some ⟨gm, 0, none⟩), .int .i64 0] w1 fun e w' => ∃ A11 c11, e = .returned (.tuple #[.agg #[.slice A11 ([0] : List Int).length c11, .int .i64 7, .int .i64 4, .int .i64 4, .int .i64 4, .int .i64 0], .bool true]) ∧ ([0] : List Int).length ≤ c11 ∧ Kd.F (Kd.int .i64) w' (fun j => w1.heap.size < j) A11 ([0] : List Int).length ([0] : List Int) ∧ Below w1.heap.size w1 w') :
  Calls Tryz.prog 34 #[.agg #[.int .i64 ((kS 0).1 0), .int .i64 ((kS 0).1 1), .int .i64 ((kS 0).1 2), .int .i64 ((kS 0).1 3), .int .i64 ((kS 0).1 4), .int .i64 ((kS 0).1 5), .int .i64 ((kS 0).1 6), .int .i64 ((kS 0).1 7), .int .i64 ((kS 0).1 8), .int .i64 ((kS 0).1 9), .int .i64 ((kS 0).1 10), .int .i64 ((kS 0).1 11), .int .i64 ((kS 0).1 12), .int .i64 ((kS 0).1 13), .int .i64 ((kS 0).1 14), .int .i64 ((kS 0).1 15), .slice none 0 0, .bool false], .iface 103 (.pointer (some ⟨gm, 0, none⟩))] w1 fun e w' => e = .returned (.tuple #[.agg #[.int .i64 ((kS 1).1 0), .int .i64 ((kS 1).1 1), .int .i64 ((kS 1).1 2), .int .i64 ((kS 1).1 3), .int .i64 ((kS 1).1 4), .int .i64 ((kS 1).1 5), .int .i64 ((kS 1).1 6), .int .i64 ((kS 1).1 7), .int .i64 ((kS 1).1 8), .int .i64 ((kS 1).1 9), .int .i64 ((kS 1).1 10), .int .i64 ((kS 1).1 11), .int .i64 ((kS 1).1 12), .int .i64 ((kS 1).1 13), .int .i64 ((kS 1).1 14), .int .i64 ((kS 1).1 15), .slice none 0 0, .bool (kS 1).2], .int .i64 0, .bool false, .int .i64 0]) ∧ Below w1.heap.size w1 w' := by
 exact st_halt gm 0 7 4 4 4 0 0 0 [0] 0 4 0 0 0 4 1 0 4 2 0 4 3 0 4 W0 w1 hb hS (by decide +kernel) me_4k (by decide) (by decide) dec_0
theorem outs_k : outs (fun _ => false) (fun _ => 0) 1 = [] := by kernel_rfl
theorem put_k (A2 D6 : Option Addr) (c2 d6 g : Nat) (w : World) (hC : Kd.C k50 w A2 (putN (firstT [botS]) (nK [])).length (putN (firstT [botS]) (nK []))) (hc : (putN (firstT [botS]) (nK [])).length ≤ c2) (h6 : 1 ≤ d6) (g6 : Kd.C k96 w D6 1 allG) (hg : w.heap[g]? = some (.cells #[.int .i64 0] 2 (0, 0))) :
  Calls Tryz.prog 24 #[.slice A2 (putN (firstT [botS]) (nK [])).length c2, .agg #[.string l0p0, .bool false, .int .i64 0, .int .i64 0, .int .i64 3, .int .i64 255, .slice D6 1 d6, .int .i64 4, .int .i64 4, .int .i64 4, .int .i64 0, .slice (some ⟨g, 0, none⟩) 1 1, .int .i64 0, .int .i64 0, .int .i64 0, .int .i64 0]] w fun e w' => ∃ A' c', e = .returned (.slice A' tK.length c') ∧ tK.length ≤ c' ∧ Kd.C k50 w' A' tK.length tK ∧ Below w.heap.size w w' := by
 have hK : k50.K w (nK [0]) [.string l0p0, .bool false, .int .i64 0, .int .i64 0, .int .i64 3, .int .i64 255, .slice D6 1 d6, .int .i64 4, .int .i64 4, .int .i64 4, .int .i64 0, .slice (some ⟨g, 0, none⟩) 1 1, .int .i64 0, .int .i64 0, .int .i64 0, .int .i64 0] :=
  k50_mk w (nK [0]) (A6 := D6) (c6 := d6) h6 g6 (A11 := some ⟨g, 0, none⟩) (c11 := 1) (Nat.le_refl _) (cellsC (d := Kd.int .i64) (x := (0 : Int)) (cs := [.int .i64 0]) hg rfl rfl)
 exact putC (putN (firstT [botS]) (nK [])) (nK [0]) _ A2 c2 w hC hc (by decide +kernel) hK
set_option maxHeartbeats 16000000 in
set_option maxRecDepth 1000000 in
theorem known_c (w : World) : Calls Tryz.prog 9 #[] w fun e w' => e = .returned (.bool true) ∧ Below w.heap.size w w' := by
  go_enter Tryz.func9, Tryz.ntmps9
  go_wp2_with (first
    | (go_at_call 17; have hgate := HBM.out; clear hgate; go_loud (refine (run_c tK.length c3 b2 5 1 A3 B2 uA botS tK [l0p0] kS (fun _ => false) (fun _ => 0) _ (by decide) (by decide) (fun k hk => by (obtain rfl : k = 0 := (by omega)); rfl) (Or.inr rfl) (fun w1 hb => tdrop0_cF tK ⟨#[]⟩ A3 c3 w1 (Kd.C_below HC.out (below_step (below_alloc (Below.refl _ _) (.cells #[.slice B2 1 b2, .int .i64 0, .int .i64 0, .int .i64 4, .int .i64 0, .int .i64 0, .int .i64 0, .int .i64 4, .int .i64 1, .int .i64 0, .int .i64 4, .int .i64 2, .int .i64 0, .int .i64 4, .int .i64 3, .int .i64 0, .int .i64 4, .slice none 0 0, .bool false] 47)) hb)) HCL.out (by have := sim_k.T.len; omega) (asc_rising sim_k.T.asc _) (fun m hm => node_fits (sim_k.T.ok m hm)) sim_k.no) (Kd.C_below HBM.out (below_alloc (Below.refl _ _) (.cells #[.slice B2 1 b2, .int .i64 0, .int .i64 0, .int .i64 4, .int .i64 0, .int .i64 0, .int .i64 0, .int .i64 4, .int .i64 1, .int .i64 0, .int .i64 4, .int .i64 2, .int .i64 0, .int .i64 4, .int .i64 3, .int .i64 0, .int .i64 4, .slice none 0 0, .bool false] 47))) (by decide) (fun gm W0 A1' c1' B1' b1' hm hc hC hb hB k hk w hb2 => by (obtain rfl : k = 0 := (by omega)); exact k_step gm W0 w hb2 (mem_seg sim_k.T uA botS [[108, 48], [112, 48]] okp_lp (nK [0]) sim_k.see rfl [l0p0] 0 (by decide) rfl gm c1' b1' A1' B1' W0 hm hc hC hb hB 7 sim_k.mo))).mono ?_; rintro e w8 ⟨A8, c8, B8, b8, To, tc, he, _, _, _, _, _, _, hb⟩; rw [outs_k] at he; subst he; have HB8 := Lib.hid (below_step (below_alloc HB7.out (.cells #[.slice B2 1 b2, .int .i64 0, .int .i64 0, .int .i64 4, .int .i64 0, .int .i64 0, .int .i64 0, .int .i64 4, .int .i64 1, .int .i64 0, .int .i64 4, .int .i64 2, .int .i64 0, .int .i64 4, .int .i64 3, .int .i64 0, .int .i64 4, .slice none 0 0, .bool false] 47)) hb); have hk2 : (kS 1).2 = true := rfl; clear hb))
    | (go_at_call 12; have hgate := HE52.out; clear hgate; first
       | (refine (make_ok tK.length c3 1 1 A3 (some ⟨w6.heap.size + 1, 0, none⟩) uA botS [l0p0] (fun _ => nK [0]) (fun _ => 0) _ (by decide) (by decide) (by decide) (strC (by have h := blk_new (w6.alloc (.cells #[.string (⟨#[97]⟩ : ByteArray), .int .i64 0, .int .i64 0, .int .i64 3, .int .i64 255] 52)) (.cells #[.string l0p0] 9); simp only [World.size_alloc] at h; exact h)) (fun i hi => ⟨rfl, rfl⟩) rfl ?hM).mono ?_; (case hM => (intro i hi hl w1 hb; obtain rfl : i = 0 := (by have : i < 1 := hl; omega); refine (may_tF2 sim_k.T uA botS [[108, 48], [112, 48]] okp_lp l0p0 rfl 4 (nK [0]) 0 sim_k.may A3 c3 w1 (Kd.C_below HC.out (below_step (below_alloc (below_alloc (Below.refl _ _) (.cells #[.string (⟨#[97]⟩ : ByteArray), .int .i64 0, .int .i64 0, .int .i64 3, .int .i64 255] 52)) (.cells #[.string l0p0] 9)) hb)) HCL.out).mono ?_; rintro e w' ⟨A6, c6, A11, c11, rfl, _, hb2⟩; exact ⟨A6, c6, A11, c11, rfl, hb2⟩)); rintro e w7 ⟨B2, b2, rfl, hb2, hCB, hb⟩; have HBM := Lib.hid hCB; have HBL := Lib.hid hb2; have HC := Lib.hid (Kd.C_below HC.out (below_step (below_alloc (below_alloc (Below.refl _ _) (.cells #[.string (⟨#[97]⟩ : ByteArray), .int .i64 0, .int .i64 0, .int .i64 3, .int .i64 255] 52)) (.cells #[.string l0p0] 9)) hb)); have HE52 := Lib.hid (blk_below HE52.out hb); have HB7 := Lib.hid (below_step (below_alloc (below_alloc HB6.out (.cells #[.string (⟨#[97]⟩ : ByteArray), .int .i64 0, .int .i64 0, .int .i64 3, .int .i64 255] 52)) (.cells #[.string l0p0] 9)) hb); have E52s := Lib.hid HE52.out; have hl52 := blk_lt E52s.out; have hrp := rd47b_blk (blk_new w7 (.cells #[.slice B2 1 b2, .int .i64 0, .int .i64 0, .int .i64 4, .int .i64 0, .int .i64 0, .int .i64 0, .int .i64 4, .int .i64 1, .int .i64 0, .int .i64 4, .int .i64 2, .int .i64 0, .int .i64 4, .int .i64 3, .int .i64 0, .int .i64 4, .slice none 0 0, .bool false] 47)) rfl; have g0 : w7.cell? ⟨w6.heap.size, 0, none⟩ = some (.string (⟨#[97]⟩ : ByteArray)) := (blk_cell E52s.out 0).trans rfl; have g1 : w7.cell? ⟨w6.heap.size, 1, none⟩ = some (.int .i64 0) := (blk_cell E52s.out 1).trans rfl; have g2 : w7.cell? ⟨w6.heap.size, 2, none⟩ = some (.int .i64 0) := (blk_cell E52s.out 2).trans rfl; have g3 : w7.cell? ⟨w6.heap.size, 3, none⟩ = some (.int .i64 3) := (blk_cell E52s.out 3).trans rfl; have g4 : w7.cell? ⟨w6.heap.size, 4, none⟩ = some (.int .i64 255) := (blk_cell E52s.out 4).trans rfl; clear hb hb2 hCB))
    | (go_at_call 22; have hgate := HC.out; clear hgate; refine (donjonref4_Bottom.calls 0 0 3 255 _ rfl).mono ?_; rintro e w6 ⟨rfl, hb⟩; have HC := Lib.hid (Kd.C_below HC.out hb); have HE52 := Lib.hid (blk_alloc (blk_new w6 (.cells #[.string (⟨#[97]⟩ : ByteArray), .int .i64 0, .int .i64 0, .int .i64 3, .int .i64 255] 52)) (.cells #[.string l0p0] 9)); have HB6 := Lib.hid (below_step HB5.out hb); clear hb)
    | (go_at_call 24; have hgate := HFD.out; clear hgate; refine (put_k A2 D6 c2 d6 (w4.heap.size + 1) _ (Kd.C_below HP1.out (below_alloc (below_alloc (Below.refl _ _) (.cells #[.string l0p0, .bool false, .int .i64 0, .int .i64 0, .int .i64 3, .int .i64 255, .slice D6 1 d6, .int .i64 4, .int .i64 4, .int .i64 4, .int .i64 0, .slice (some ⟨w4.heap.size + 1, 0, none⟩) 1 1, .int .i64 0, .int .i64 0, .int .i64 0, .int .i64 0] 36)) (.cells #[.int .i64 0] 2))) HL1.out HD6.out (Kd.C_below HFD.out (below_alloc (below_alloc (Below.refl _ _) (.cells #[.string l0p0, .bool false, .int .i64 0, .int .i64 0, .int .i64 3, .int .i64 255, .slice D6 1 d6, .int .i64 4, .int .i64 4, .int .i64 4, .int .i64 0, .slice (some ⟨w4.heap.size + 1, 0, none⟩) 1 1, .int .i64 0, .int .i64 0, .int .i64 0, .int .i64 0] 36)) (.cells #[.int .i64 0] 2))) HZ.out).mono ?_; rintro e w5 ⟨A3, c3, rfl, hc3, hC3, hb⟩; have HC := Lib.hid hC3; have HCL := Lib.hid hc3; have HB5 := Lib.hid (below_step (below_alloc (below_alloc HB4.out (.cells #[.string l0p0, .bool false, .int .i64 0, .int .i64 0, .int .i64 3, .int .i64 255, .slice D6 1 d6, .int .i64 4, .int .i64 4, .int .i64 4, .int .i64 0, .slice (some ⟨w4.heap.size + 1, 0, none⟩) 1 1, .int .i64 0, .int .i64 0, .int .i64 0, .int .i64 0] 36)) (.cells #[.int .i64 0] 2)) hb); clear hb hC3 hc3)
    | (go_at_call 16; have hgate := HP1.out; clear hgate; go_loud (refine (find_p0 A2 c2 _ HP1.out HL1.out).mono ?_; rintro e w4 ⟨D6, d6, D11, d11, rfl, hd6, hG6, hb⟩; have HFD := Lib.hid hG6; have HD6 := Lib.hid hd6; have HB4 := Lib.hid (below_step HB3.out hb); have HP1 := Lib.hid (Kd.C_below HP1.out hb); have hrd := rd50_blk (blk_alloc (blk_new w4 (.cells #[.string l0p0, .bool false, .int .i64 0, .int .i64 0, .int .i64 3, .int .i64 255, .slice D6 1 d6, .int .i64 4, .int .i64 4, .int .i64 4, .int .i64 0, .slice (some ⟨w4.heap.size + 1, 0, none⟩) 1 1, .int .i64 0, .int .i64 0, .int .i64 0, .int .i64 0] 36)) (.cells #[.int .i64 0] 2)) rfl; have HZ := Lib.hid (show ((w4.alloc (.cells #[.string l0p0, .bool false, .int .i64 0, .int .i64 0, .int .i64 3, .int .i64 255, .slice D6 1 d6, .int .i64 4, .int .i64 4, .int .i64 4, .int .i64 0, .slice (some ⟨w4.heap.size + 1, 0, none⟩) 1 1, .int .i64 0, .int .i64 0, .int .i64 0, .int .i64 0] 36)).alloc (.cells #[.int .i64 0] 2)).heap[w4.heap.size + 1]? = some (.cells #[.int .i64 0] 2 (0, 0)) from by have h := blk_new (w4.alloc (.cells #[.string l0p0, .bool false, .int .i64 0, .int .i64 0, .int .i64 3, .int .i64 255, .slice D6 1 d6, .int .i64 4, .int .i64 4, .int .i64 4, .int .i64 0, .slice (some ⟨w4.heap.size + 1, 0, none⟩) 1 1, .int .i64 0, .int .i64 0, .int .i64 0, .int .i64 0] 36)) (.cells #[.int .i64 0] 2); simp only [World.size_alloc] at h; exact h); clear hb hG6 hd6))
    | (go_at_call 25; have hgate := HC.out; clear hgate; go_loud (refine (put_known (firstT [botS]) l0B (nK []) w2.heap.size A1 c1 _ (Kd.C_below HC.out (below_alloc (Below.refl _ _) (.cells #[.slice none 0 0] 94))) HCL.out (by decide) (blk_new w2 (.cells #[.slice none 0 0] 94)) (by decide) (find_l0 A1 c1 _ (Kd.C_below HC.out (below_alloc (Below.refl _ _) (.cells #[.slice none 0 0] 94))) HCL.out) k_np).mono ?_; rintro e w3 ⟨A2, c2, rfl, hc2, hC2, hb⟩; have HP1 := Lib.hid hC2; have HL1 := Lib.hid hc2; have HB3 := Lib.hid (below_step (below_alloc HB2.out (.cells #[.slice none 0 0] 94)) hb); clear hb hC2 hc2 HC HCL))
    | (go_at_call 26; go_loud (refine (first_bot w1.heap.size _ (blk_new w1 (.cells #[.int .i64 0, .int .i64 0, .int .i64 3, .int .i64 255] 30))).mono ?_; rintro e w2 ⟨A1, c1, rfl, hc1, hC, hb⟩; have HC := Lib.hid hC; have HCL := Lib.hid hc1; have HB2 := Lib.hid (below_step (below_alloc HB1.out (.cells #[.int .i64 0, .int .i64 0, .int .i64 3, .int .i64 255] 30)) hb); clear hb hC hc1))
    | (go_at_call 22; refine (donjonref4_Bottom.calls 0 0 3 255 _ rfl).mono ?_; rintro e w1 ⟨rfl, hb⟩; have HB1 := Lib.hid hb; clear hb))
  refine bodyPost_ret (results_tmp rfl _ _ _) rfl ⟨rfl, below_alloc HB8.out _⟩
end Go.Proofs.YteilkbookcmndaaGreatDoor.C
end
