/- Texts that the claim's law stands on, cut down to what it reaches. -/
import Derived.Test.YteilkbookcmndaaGreatDoorKY2
import Derived.Deep.RegionHeldLaw
import Derived.Deep.RegionHeld3
import Derived.Deep.LoopGhost
set_option linter.unusedVariables false
set_option linter.unusedSimpArgs false
section
namespace Go.Proofs.YteilkbookcmndaaGreatDoor.C
open Go.RowKit Go.Proofs.YteilkbookcmndaaGreatDoor.Q Go.Proofs.YteilkbookcmndaaGreatDoorW.PrintWords Go.Proofs.YteilkbookcmndaaGreatDoorW.PrintLast Go.Proofs.YteilkbookcmndaaGreatDoorW.PrintMore
attribute [local go_sem ↓] rd_at50 wr_at50 al_at50
attribute [local go_sem] rd50_new wr50_new al50
attribute [local go_sem ↓] rd_at45 wr_at45 rd_at150 wr_at150 rd_at47b wr_at47b rd_at77 wr_at77
attribute [local go_sem] rd45_new wr45_new rd150_new wr150_new wr47b_new wr77_new
attribute [local go_sem] max_two
theorem see_tF {t : List S50} (T : Tree t) (u : ByteArray) (a : S41) (ns : List (List UInt8)) (hok : Okp ns) (p : ByteArray) (hp : pth ns = p) (nd : S50) (k : Int) (hn : seeR t a [] ns = (nd, k)) (A : Option Addr) (c : Nat) (w : World) (hC : Kd.C k50 w A t.length t) (hc : t.length ≤ c) :
  Calls Tryz.prog 35 #[.slice A t.length c, .agg #[.string u, .int .i64 a.f0, .int .i64 a.f1, .int .i64 a.f2, .int .i64 a.f3], .string p] w fun e w' => ∃ A6 c6 A11 c11, e = .returned (.tuple #[.agg #[.string nd.f0, .bool nd.f1, .int .i64 nd.f2.f0, .int .i64 nd.f2.f1, .int .i64 nd.f2.f2, .int .i64 nd.f2.f3, .slice A6 nd.f3.length c6, .int .i64 nd.f4.f0, .int .i64 nd.f4.f1, .int .i64 nd.f4.f2, .int .i64 nd.f4.f3, .slice A11 nd.f5.length c11, .int .i64 nd.f6.f0, .int .i64 nd.f6.f1, .int .i64 nd.f6.f2, .int .i64 nd.f6.f3], .int .i64 k]) ∧ k50.FK w' (fun k => w.heap.size ≤ k) nd [.string nd.f0, .bool nd.f1, .int .i64 nd.f2.f0, .int .i64 nd.f2.f1, .int .i64 nd.f2.f2, .int .i64 nd.f2.f3, .slice A6 nd.f3.length c6, .int .i64 nd.f4.f0, .int .i64 nd.f4.f1, .int .i64 nd.f4.f2, .int .i64 nd.f4.f3, .slice A11 nd.f5.length c11, .int .i64 nd.f6.f0, .int .i64 nd.f6.f1, .int .i64 nd.f6.f2, .int .i64 nd.f6.f3] ∧ Below w.heap.size w w' := by
 subst hp
 refine (see_c t u a ns A c w hC hc (tree_srch T) hok.1 hok.2).mono ?_
 rw [hn]
 rintro e w' ⟨cs, rfl, hF, hB⟩
 obtain ⟨A6, c6, A11, c11, rfl, _⟩ := k50_openF hF
 exact ⟨A6, c6, A11, c11, rfl, hF, hB⟩
theorem may_tF2 {t : List S50} (T : Tree t) (u : ByteArray) (a : S41) (ns : List (List UInt8)) (hok : Okp ns) (p : ByteArray) (hp : pth ns = p) (md : Int) (nd : S50) (k : Int) (hn : mayR t a u ns md = (nd, k)) (A : Option Addr) (c : Nat) (w : World) (hC : Kd.C k50 w A t.length t) (hc : t.length ≤ c) :
  Calls Tryz.prog 19 #[.slice A t.length c, .agg #[.string u, .int .i64 a.f0, .int .i64 a.f1, .int .i64 a.f2, .int .i64 a.f3], .string p, .int .i64 md] w fun e w' => ∃ A6 c6 A11 c11, e = .returned (.tuple #[.agg #[.string nd.f0, .bool nd.f1, .int .i64 nd.f2.f0, .int .i64 nd.f2.f1, .int .i64 nd.f2.f2, .int .i64 nd.f2.f3, .slice A6 nd.f3.length c6, .int .i64 nd.f4.f0, .int .i64 nd.f4.f1, .int .i64 nd.f4.f2, .int .i64 nd.f4.f3, .slice A11 nd.f5.length c11, .int .i64 nd.f6.f0, .int .i64 nd.f6.f1, .int .i64 nd.f6.f2, .int .i64 nd.f6.f3], .int .i64 k]) ∧ k50.FK w' (fun k => w.heap.size ≤ k) nd [.string nd.f0, .bool nd.f1, .int .i64 nd.f2.f0, .int .i64 nd.f2.f1, .int .i64 nd.f2.f2, .int .i64 nd.f2.f3, .slice A6 nd.f3.length c6, .int .i64 nd.f4.f0, .int .i64 nd.f4.f1, .int .i64 nd.f4.f2, .int .i64 nd.f4.f3, .slice A11 nd.f5.length c11, .int .i64 nd.f6.f0, .int .i64 nd.f6.f1, .int .i64 nd.f6.f2, .int .i64 nd.f6.f3] ∧ Below w.heap.size w w' := by
 subst hp
 refine (may_c t u a ns md A c w hC hc (tree_srch T) (tree_acls T) hok.1 hok.2).mono ?_
 rw [hn]
 rintro e w' ⟨cs, rfl, hF, hB⟩
 obtain ⟨A6, c6, A11, c11, rfl, _⟩ := k50_openF hF
 exact ⟨A6, c6, A11, c11, rfl, hF, hB⟩
theorem mem_seg {t : List S50} (T : Tree t) (u : ByteArray) (a : S41) (ns : List (List UInt8)) (hok : Okp ns) (nd : S50) (hsee : seeR t a [] ns = (nd, 0)) (hd : nd.f1 = false) (bs : List ByteArray) (k : Nat) (hk : k < bs.length) (hbk : bs.getD k ⟨#[]⟩ = pth ns) (gm c1 b1 : Nat) (A1 B1 : Option Addr) (W0 : World)
  (hm : W0.heap[gm]? = some (.cells #[.slice A1 t.length c1, .string u, .int .i64 a.f0, .int .i64 a.f1, .int .i64 a.f2, .int .i64 a.f3, .slice B1 bs.length b1] 105 (0, 0))) (hc1 : t.length ≤ c1) (hC : Kd.C k50 W0 A1 t.length t) (hb1 : bs.length ≤ b1) (hB : Kd.C Kd.string W0 B1 bs.length bs) (m : Int) (hmo : moA (fun md => (mayR t a u ns md).2) 3 = m) :
  ∀ w1 : World, Below W0.heap.size W0 w1 → Calls Tryz.prog 148 #[.pointer (some ⟨gm, 0, none⟩), .int .i64 (k : Int)] w1 fun e w' => ∃ A11 c11, e = .returned (.tuple #[.agg #[.slice A11 nd.f5.length c11, .int .i64 m, .int .i64 nd.f4.f0, .int .i64 nd.f4.f1, .int .i64 nd.f4.f2, .int .i64 nd.f4.f3], .bool true]) ∧ nd.f5.length ≤ c11 ∧ Kd.F (Kd.int .i64) w' (fun j => w1.heap.size < j) A11 nd.f5.length nd.f5 ∧ Below w1.heap.size w1 w' := by
 intro w1 hb
 obtain ⟨bd, hBd, hbc⟩ := str_get (Kd.C_below hB hb) k hk
 subst hBd
 rw [hbk] at hbc
 subst hmo
 exact seg_yes gm k t.length c1 bs.length b1 A1 bd u (pth ns) a nd (fun md => (mayR t a u ns md).2) (fun md => (mayR t a u ns md).1) w1 (blk_below hm hb) hbc hk hb1 hd (fun w2 hb2 => see_tF T u a ns hok _ rfl nd 0 hsee A1 c1 w2 (Kd.C_below hC (below_step hb hb2)) hc1) (fun md _ w2 hb2 => may_tF2 T u a ns hok _ rfl md _ _ rfl A1 c1 w2 (Kd.C_below hC (below_step hb hb2)) hc1)
set_option maxHeartbeats 16000000 in
set_option maxRecDepth 1000000 in
theorem st_halt (gm o : Nat) (m r1 r2 r3 r4 p nn : Int) (xs : List Int) (s0 s2 s3 s4 s5 s6 s7 s8 s9 s10 s11 s12 s13 s14 s15 : Int) (W0 w : World) (hb0 : Below W0.heap.size W0 w)
  (hS : ∀ w1 : World, Below W0.heap.size W0 w1 → Calls Tryz.prog 148 #[.pointer (some ⟨gm, 0, none⟩), .int .i64 s0] w1 fun e w' => ∃ A11 c11, e = .returned (.tuple #[.agg #[.slice A11 xs.length c11, .int .i64 m, .int .i64 r1, .int .i64 r2, .int .i64 r3, .int .i64 r4], .bool true]) ∧ xs.length ≤ c11 ∧ Kd.F (Kd.int .i64) w' (fun j => w1.heap.size < j) A11 xs.length xs ∧ Below w1.heap.size w1 w')
  (hm4 : bits .and .i64 m 4 = 4) (hme : PProcLimits.ring_MayExec.f r1 r2 r3 r4 s2 = some true) (ho : o < xs.length) (hxl : xs.length < 1000000) (hde : PProcLimits.isa_Decode.f (xs.getD o 0) = some (0, p, nn, 0)) :
  Calls Tryz.prog 34 #[.agg #[.int .i64 s0, .int .i64 (o : Int), .int .i64 s2, .int .i64 s3, .int .i64 s4, .int .i64 s5, .int .i64 s6, .int .i64 s7, .int .i64 s8, .int .i64 s9, .int .i64 s10, .int .i64 s11, .int .i64 s12, .int .i64 s13, .int .i64 s14, .int .i64 s15, .slice none 0 0, .bool false], .iface 103 (.pointer (some ⟨gm, 0, none⟩))] w fun e w' => e = .returned (.tuple #[.agg #[.int .i64 s0, .int .i64 ((o + 1 : Nat) : Int), .int .i64 s2, .int .i64 s3, .int .i64 s4, .int .i64 s5, .int .i64 s6, .int .i64 s7, .int .i64 s8, .int .i64 s9, .int .i64 s10, .int .i64 s11, .int .i64 s12, .int .i64 s13, .int .i64 s14, .int .i64 s15, .slice none 0 0, .bool true], .int .i64 0, .bool false, .int .i64 0]) ∧ Below w.heap.size w w' := by
 refine step_c gm 0 p nn #[.int .i64 s0, .int .i64 ((o + 1 : Nat) : Int), .int .i64 s2, .int .i64 s3, .int .i64 s4, .int .i64 s5, .int .i64 s6, .int .i64 s7, .int .i64 s8, .int .i64 s9, .int .i64 s10, .int .i64 s11, .int .i64 s12, .int .i64 s13, .int .i64 s14, .int .i64 s15, .slice none 0 0, .bool false, .iface 103 (.pointer (some ⟨gm, 0, none⟩)), .bool false, .int .i64 0] s0 (o : Int) s2 s3 s4 s5 s6 s7 s8 s9 s10 s11 s12 s13 s14 s15 (s0) (((o + 1 : Nat) : Int)) (s2) (s3) (s4) (s5) (s6) (s7) (s8) (s9) (s10) (s11) (s12) (s13) (s14) (s15) 0 none 0 0 true false w (fun gr w1 hb hg hr => ?_) (fun gr w1 hb hg hr => ?_)
 ·exact fetch_c gm o m r1 r2 r3 r4 0 p nn xs gr s0 s2 s3 s4 s5 s6 s7 s8 s9 s10 s11 s12 s13 s14 s15 none 0 0 false false 0 w1 hr (fun w2 hb2 hg2 => segment_yes gm s0 m r1 r2 r3 r4 xs gr s0 (o : Int) s2 s3 s4 s5 s6 s7 s8 s9 s10 s11 s12 s13 s14 s15 none 0 0 false false 0 w2 (hg2.trans hr) (fun w3 hb3 => hS w3 (below_join (below_join (below_step hb0 hb) hb2 (Nat.le_trans hb0.size hg)) hb3 (by have h1 := hb0.size; have h2 := hb.size; have h3 := hb2.size; have h4 := blk_lt hr; have h5 := blk_lt (hg2.trans hr); omega)))) hm4 hme ho hxl hde
 ·exact do_halt gm p nn gr s0 ((o + 1 : Nat) : Int) s2 s3 s4 s5 s6 s7 s8 s9 s10 s11 s12 s13 s14 s15 none 0 0 false false 0 w1 hr
def uA : ByteArray := ⟨#[97]⟩
theorem lab_bot : Lab botS := by unfold Lab botS; decide
theorem lab_zz : Lab ⟨0, 0, 0, 0⟩ := by unfold Lab; decide
theorem good_star (m : Int) (h1 : 1 ≤ m) (h7 : m ≤ 7) : GoodAcl 5 [⟨⟨#[42]⟩, m⟩] := by
 refine ⟨[0], by simp, by simp, by simp [nmA], fun x hx => ?_, by simp⟩
 rw [List.mem_singleton.1 hx]; exact ⟨h1, h7⟩
theorem good_all : GoodAcl 5 allG := good_star 7 (by decide) (by decide)
theorem tree_1 : Tree (firstT [botS]) := tree_first [botS] (by decide) (fun a ha => by rw [List.mem_singleton.1 ha]; exact lab_bot)
end Go.Proofs.YteilkbookcmndaaGreatDoor.C
end
