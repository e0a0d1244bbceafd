/- Texts that the claim's law stands on, cut down to what it reaches. -/
import Derived.Test.YteilkbookcmndaaGreatDoorKY2
import Derived.Test.YteilkbookcmndaaGreatDoorKY4
import Derived.Test.YteilkbookcmndaaGreatDoorKY9
import Derived.Deep.RegionHeldLaw
import Derived.Deep.RegionHeld3
import Derived.Deep.LoopGhost
import Derived.Test.YteilkbookcmndaaGreatDoorKY5
import Derived.Test.YteilkbookcmndaaGreatDoorKY6
set_option linter.unusedVariables false
set_option linter.unusedSimpArgs false
section
namespace Go.Proofs.YteilkbookcmndaaGreatDoor.C
open Go.RowKit Go.Proofs.YteilkbookcmndaaGreatDoor.Q Go.Proofs.YteilkbookcmndaaGreatDoorW.PrintWords Go.Proofs.YteilkbookcmndaaGreatDoorW.PrintLast Go.Proofs.YteilkbookcmndaaGreatDoorW.PrintMore
attribute [local go_sem ↓] rd_at50 wr_at50 al_at50
attribute [local go_sem] rd50_new wr50_new al50
attribute [local go_sem ↓] rd_at45 wr_at45 rd_at150 wr_at150 rd_at47b wr_at47b rd_at77 wr_at77
attribute [local go_sem] rd45_new wr45_new rd150_new wr150_new wr47b_new wr77_new
attribute [local go_sem] max_two
structure S77 where
 f0 : Int
 f1 : Int
 f2 : Int
def z77 : S77 := ⟨0, 0, 0⟩
def k77 : Kd S77 := Kd.iso (Kd.pair (Kd.int .i64) (Kd.pair (Kd.int .i64) (Kd.int .i64))) (fun x : S77 => (x.f0, x.f1, x.f2))
theorem k77_open {w : World} {x : S77} {cs : List Value} (h : k77.K w x cs) : cs = [.int .i64 x.f0, .int .i64 x.f1, .int .i64 x.f2] := by
 obtain ⟨_, _, rfl, rfl, ⟨_, _, rfl, rfl, rfl⟩⟩ := h
 exact rfl
theorem at_T77 {w : World} {A : Option Addr} {n : Nat} {xs : List S77} (h : Kd.C k77 w A n xs) (i : Int) (h0 : 0 ≤ i) (h1 : i < n) : ∃ ad, A = some ad ∧ w.cell? (ad.add (i.toNat * 3)) = some (.int .i64 (xs.getD i.toNat z77).f0) ∧ w.cell? ⟨(ad.add (i.toNat * 3)).block, (ad.add (i.toNat * 3)).off + 1, none⟩ = some (.int .i64 (xs.getD i.toNat z77).f1) ∧ w.cell? ⟨(ad.add (i.toNat * 3)).block, (ad.add (i.toNat * 3)).off + 2, none⟩ = some (.int .i64 (xs.getD i.toNat z77).f2) ∧ (rdS 77 (.pointer (some (ad.add (i.toNat * 3))))).run Tryz.prog w = .ok (.agg #[.int .i64 (xs.getD i.toNat z77).f0, .int .i64 (xs.getD i.toNat z77).f1, .int .i64 (xs.getD i.toNat z77).f2]) w := by
 obtain ⟨ad, c, e, _, hK, hc0⟩ := Kd.C_get h z77 i h0 h1
 have hc : ∀ j u, c[j]? = some u → w.cell? (ad.add (i.toNat * 3 + j)) = some u := hc0
 obtain rfl := k77_open hK
 refine ⟨ad, e, by have h := hc 0 _ rfl; rwa [Nat.add_zero] at h, by rw [← add_field _ _ 1 (by omega)]; exact hc 1 _ rfl, by rw [← add_field _ _ 2 (by omega)]; exact hc 2 _ rfl, ?_⟩
 rw [← rd_at]
 have hl : (loadCellsFrom (ad.add (i.toNat * 3)) 0 3 #[]).run Tryz.prog w = .ok #[.int .i64 (xs.getD i.toNat z77).f0, .int .i64 (xs.getD i.toNat z77).f1, .int .i64 (xs.getD i.toNat z77).f2] w := by
  refine load50 rfl fun j v hj => ?_
  have h2 := hc j v (by simpa using hj)
  rwa [← add_add] at h2
 have hag := Tryz.isAgg77 w
 have hsz := Tryz.sizeOf77 w
 simp only [Instr.loadAt, Instr.sureAddr, Sem.run_bind, Sem.run_pure, Result.andThen, loadVar, hag, hsz, if_true, loadCells, hl]
theorem at_P77 {w : World} {A : Option Addr} {n : Nat} {xs : List (List S77)} (h : Kd.C (Kd.slice 77 k77) w A n xs) (i : Nat) (h1 : i < n) : ∃ ad A0 c0, A = some ad ∧ w.cell? (ad.add i) = some (.slice A0 (xs.getD i []).length c0) ∧ (xs.getD i []).length ≤ c0 ∧ k77.C w A0 (xs.getD i []).length (xs.getD i []) := by
 obtain ⟨ad, c, e, _, hK, hc0⟩ := Kd.C_get h ([] : List S77) (i : Int) (by omega) (by omega)
 rw [Int.toNat_natCast] at hK hc0
 have hc : ∀ j u, c[j]? = some u → w.cell? (ad.add (i * 1 + j)) = some u := hc0
 obtain ⟨A0, c0, rfl, l0, g0⟩ := hK
 exact ⟨ad, A0, c0, e, by have hq := hc 0 _ rfl; rwa [Nat.mul_one, Nat.add_zero] at hq, l0, g0⟩
theorem enc_some (a b c : Int) : ∃ r1 r2, PProcLimits.donjonref15_Encode.f 100 a b c = some (r1, r2) := by
 have hj : ∀ (x : Bool) (a b c : Int), ∃ r1 r2, PProcLimits.donjonref15_Encode.j0 (99 + 1) x a b c = some (r1, r2) := by
  intro x a b c
  simp only [PProcLimits.donjonref15_Encode.j0]
  repeat' split
  all_goals exact ⟨_, _, rfl⟩
 unfold PProcLimits.donjonref15_Encode.f
 split
 ·exact hj _ _ _ _
 ·exact hj _ _ _ _
theorem within15 (a n : Int) (h0 : 0 < n) : ∃ t : Int, PProcLimits.donjonlaw15_within.f a n = some t := by
 unfold PProcLimits.donjonlaw15_within.f
 rw [if_neg (by omega)]
 split
 ·exact ⟨_, rfl⟩
 ·exact ⟨_, rfl⟩
theorem good_some (a b c : Int) : ∃ r1 r2 r3, PProcLimits.donjonlaw15_Good.f a b c = some (r1, r2, r3) := by
 obtain ⟨x, hx⟩ := within15 a 23 (by decide)
 obtain ⟨y, hy⟩ := within15 b 4 (by decide)
 obtain ⟨z, hz⟩ := within15 c 4294967296 (by decide)
 unfold PProcLimits.donjonlaw15_Good.f
 rw [hx, hy, hz]
 exact ⟨_, _, _, rfl⟩
theorem own_setC {α : Type} {R : α → List Value → Prop} {e t : TypeId} {size base : Nat} {w : World} {v : Value} {xs : List α} {g : Nat} {old : Array Value} (h : OwnRow R e size w base v xs) (hb : w.heap[g]? = some (.cells old t (0, 0))) (ht : e ≠ t) (j : Nat) (u : Value) : OwnRow R e size (w.setCell ⟨g, j, none⟩ u) base v xs :=
 OwnRow.other h (grown_put (Below.refl _ w) g j u) (Or.inr fun e2 => OwnRow.ne_block h hb ht e2.symm)
set_option maxHeartbeats 16000000 in
set_option maxRecDepth 1000000 in
theorem words_c (xs : List S77) (A : Option Addr) (c : Nat) (w : World) (hC : Kd.C k77 w A xs.length xs) (hc : xs.length ≤ c) :
  Calls Tryz.prog 39 #[.agg #[.slice A xs.length c]] w fun e w' => ∃ A11 c11 ws, e = .returned (.slice A11 (List.length ws) c11) ∧ ((ws : List Int).length ≤ 16 ∧ (xs.length = 0 → ws = [])) ∧ ws.length ≤ c11 ∧ Kd.F (Kd.int .i64) w' (fun k => w.heap.size ≤ k) A11 ws.length ws ∧ Below w.heap.size w w' := by
 have HC := Lib.hid hC
 have HB0 := Lib.hid (below_alloc (Below.refl w.heap.size w) (.cells #[.slice A xs.length c] 94))
 have E0 := Lib.hid (blk_new w (.cells #[.slice A xs.length c] 94))
 have hmax := hC.2.1
 clear hC
 obtain ⟨V, hV⟩ : ∃ V, V = w.alloc (.cells #[.slice A xs.length c] 94) := ⟨_, rfl⟩
 go_enter Tryz.func39, Tryz.ntmps39
 go_wp2
 rw [← hV] at HB0 E0 ⊢
 have hVz : V.heap.size = w.heap.size + 1 := by rw [hV, World.size_alloc]
 clear hV
 go_loopg [3, 4] 17 (fun kk s3 s4 wr => ∃ (i : Nat) (ws : List Int), i ≤ 16 ∧ i ≤ xs.length ∧ 17 - i ≤ kk ∧ ws.length = i ∧ s4 = .int .i64 (i : Int) ∧ Hid (OwnRow (fun (x : Int) l => l = [.int .i64 x]) 2 1 wr V.heap.size s3 ws) ∧ Hid (Below V.heap.size V wr))
 case atStart => exact ⟨0, [], by omega, by omega, by omega, rfl, rfl, Lib.hid (OwnRow.none_ _ _ _ _ _), Lib.hid (Below.refl _ _)⟩
 case round =>
  obtain ⟨i, ws, hi16, hix, hik, hwl, rfl, HO, HB⟩ := hrel
  subst hwl
  have HNIL := Lib.hid (fun h => List.eq_nil_of_length_eq_zero (by omega) : xs.length = 0 → ws = [])
  obtain ⟨Ao, co, rfl, hco, _⟩ := OwnRow.reads HO.out
  have e0 : wr.cell? ⟨w.heap.size, 0, none⟩ = some (.slice A xs.length c) := (blk_cell (blk_below E0.out HB.out) 0).trans rfl
  by_cases hlt : ws.length < xs.length ∧ ws.length < 16
  ·have hl1 : (ws.length : Int) < (xs.length : Int) := by omega
   have hl2 : (ws.length : Int) < 16 := by omega
   have hi0 : (0 : Int) ≤ (ws.length : Int) := by omega
   obtain ⟨ad, rfl, q0, q1, q2, hrd⟩ := at_T77 (Kd.C_below HC.out (below_step HB0.out HB.out)) (ws.length : Int) hi0 hl1
   rw [Int.toNat_natCast] at q0 q1 q2 hrd
   have HX2 := Lib.hid q2
   generalize xs.getD ws.length z77 = x at q0 q1 q2 hrd HX2
   obtain ⟨g1, g2, g3, hg⟩ := good_some x.f0 x.f1 x.f2
   obtain ⟨wt, hwt, _, _⟩ := within17 x.f2 10 (by decide) (by decide)
   obtain ⟨en, er, hen⟩ := enc_some g1 g2 ((wt - 2))
   have HG := Lib.hid hg
   have HWT := Lib.hid hwt
   have HEN := Lib.hid hen
   clear hg hwt hen q0 q1 q2
   have hwV : V.heap.size ≤ wr.heap.size := HB.out.size
   go_wp2_with (first
    | (at_builtin; refine OwnRow.append V.heap.size rfl _ _ 34 2 (.int .i64 0) 1 8 rfl Tryz.underlying34 inf2 rfl (by decide) (by decide) (.slice Ao ws.length co) ws en [.int .i64 en] rfl rfl rfl rfl (by simp [Value.oneCell']) HO3.out HB3.out HB3.out.size (by omega) ?_; intro v1 w4 hO hB hgr hat; have HO4 := Lib.hid hO; have HB4 := Lib.hid hB; clear hO hB hgr hat)
    | (go_at_call 61; refine (PProcLimits.donjonlaw15_Good.calls x.f0 x.f1 x.f2 g1 g2 g3 _ HG.out).mono ?_; rintro e w1 ⟨rfl, hb⟩; have hw1 : wr.heap.size ≤ w1.heap.size := hb.size; have HB1 := Lib.hid (below_alloc (below_step HB.out hb) (.cells #[.int .i64 g1, .int .i64 g2, .int .i64 g3] 77)); have HO1 := Lib.hid (OwnRow.below HO.out (below_alloc hb (.cells #[.int .i64 g1, .int .i64 g2, .int .i64 g3] 77))); have HXX := Lib.hid (pw_cell_below (below_alloc hb (.cells #[.int .i64 g1, .int .i64 g2, .int .i64 g3] 77)) HX2.out); have q2 := HXX.out; have e1 := (blk_cell (blk_below E0.out HB1.out) 0).trans rfl; have EB := Lib.hid (blk_new w1 (.cells #[.int .i64 g1, .int .i64 g2, .int .i64 g3] 77)); clear hb)
    | (go_at_call 11; refine (PProcLimits.donjonlaw17_within.calls x.f2 10 wt _ HWT.out).mono ?_; rintro e w2 ⟨rfl, hd⟩; have hb := drawn_below hd; have HB2 := Lib.hid (below_step HB1.out hb); have HO2 := Lib.hid (OwnRow.below HO1.out hb); have EB2 := Lib.hid (blk_below EB.out hb); have c2 := (blk_cell EB2.out 2).trans rfl; have z2 := blk_frozen EB2.out 2; have hrd2 := rd77_blk (cs := #[.int .i64 g1, .int .i64 g2, .int .i64 ((wt - 2))]) (blk_put EB2.out 2 (.int .i64 ((wt - 2))) rfl) rfl; clear hd hb)
    | (go_at_call 38; refine (PProcLimits.donjonref15_Encode.calls 100 g1 g2 ((wt - 2)) en er _ HEN.out).mono ?_; rintro e w3 ⟨rfl, hb⟩; have HB3 := Lib.hid (below_step (below_put HB2.out (g := w1.heap.size) (j := 2) (v := .int .i64 ((wt - 2))) (by omega)) hb); have HO3 := Lib.hid (OwnRow.below (own_setC HO2.out EB2.out (by decide) 2 (.int .i64 ((wt - 2)))) hb); clear hb))
   go_roundg (17 - (ws.length + 1))
   case measure => omega
   case rel => exact ⟨ws.length + 1, ws ++ [en], by omega, by omega, Nat.le_refl _, by simp, by go_num, HO4, HB4⟩
  ·have hF : Kd.F (Kd.int .i64) wr (fun k => w.heap.size ≤ k) Ao ws.length ws := Kd.R_F (show Kd.R (Kd.int .i64) 2 wr V.heap.size (fun k => w.heap.size ≤ k) (.slice Ao ws.length co) ws from ⟨fun k hk => by have h := own_base HO.out.choose_spec.1 k hk; omega, HO.out.imp_ fun _ _ h => h⟩)
   have HF := Lib.hid hF
   have hb := below_step HB0.out HB.out
   have HBZ := Lib.hid hb
   clear hF hb
   by_cases h1 : ws.length < xs.length
   ·have h2 : ¬ ((ws.length : Int) < 16) := by omega
    have h3 : (ws.length : Int) < (xs.length : Int) := by omega
    go_wp2
    go_ret
    exact ⟨Ao, co, ws, rfl, ⟨hi16, fun h => HNIL.out (by simp [h])⟩, hco, HF.out, HBZ.out⟩
   ·have h3 : ¬ ((ws.length : Int) < (xs.length : Int)) := by omega
    go_wp2
    go_ret
    exact ⟨Ao, co, ws, rfl, ⟨hi16, fun h => HNIL.out (by simp [h])⟩, hco, HF.out, HBZ.out⟩
theorem cell_far (W : World) (g j : Nat) (u : Value) (a : Addr) (h : a.block ≠ g) : (W.setCell ⟨g, j, none⟩ u).cell? a = W.cell? a := by
 unfold World.cell?
 rw [Below.heap_setCell W ⟨g, j, none⟩ u a.block h]
set_option maxHeartbeats 16000000 in
set_option maxRecDepth 1000000 in
theorem pt9 (gn ga ml cm i : Nat) (am : Addr) (mv m : Int) (cs : Array Value) (u0 u1 u2 u4 u5 u6 u7 u8 u9 u10 u11 u12 u15 u16 u17 u18 u19 u20 u21 u22 u23 u24 u25 u26 u27 u28 u29 u30 u31 u32 u33 u34 u35 u36 u37 u38 u39 u40 u41 u42 u43 u44 u45 u46 u47 u48 u49 u50 u51 u52 u53 u54 u55 u56 u57 u58 u59 u60 u61 u62 u63 u64 u65 u66 u67 u68 u69 u70 u71 u72 u73 u74 u75 u76 u77 u78 u79 u80 u81 u82 u83 u84 u85 u86 u87 u88 u89 u90 u91 u92 : Value) (W : World) (Q : Exit → Act → World → Prop)
  (hn : W.heap[gn]? = some (.cells cs 36 (0, 0))) (h6 : cs[6]? = some (.slice (some ⟨ga, 0, none⟩) 1 1)) (hg : W.heap[ga]? = some (.cells #[.string (⟨#[42]⟩ : ByteArray), .int .i64 7] 85 (0, 0))) (hne : gn ≠ ga) (hm : W.cell? (am.add i) = some (.int .i64 mv)) (hi : i < ml) (hml : ml ≤ cm) (ham : am.block ≠ ga)
  (hw : PProcLimits.donjonlaw17_within.f mv 8 = some m)
  (hpost : ∀ (w' : World) (t70 t71 t72 t73 t74 t75 t76 t77 t78 : Value), w'.heap[ga]? = some (.cells #[.string (⟨#[42]⟩ : ByteArray), .int .i64 m] 85 (0, 0)) → w'.heap[gn]? = some (.cells cs 36 (0, 0)) → W.grownBy w' (some ga) → Q .normal ⟨#[u0, u1, u2, .slice (some am) ml cm, u4, u5, u6, u7, u8, u9, u10, u11, u12, .int .i64 (i : Int), .pointer (some ⟨gn, 0, none⟩), u15, u16, u17, u18, u19, u20, u21, u22, u23, u24, u25, u26, u27, u28, u29, u30, u31, u32, u33, u34, u35, u36, u37, u38, u39, u40, u41, u42, u43, u44, u45, u46, u47, u48, u49, u50, u51, u52, u53, u54, u55, u56, u57, u58, u59, u60, u61, u62, u63, u64, u65, u66, u67, u68, u69, t70, t71, t72, t73, t74, t75, t76, t77, t78, u79, u80, u81, u82, u83, u84, u85, u86, u87, u88, u89, u90, u91, u92], []⟩ w') :
  Code.wp Tryz.prog (cReg Tryz.f25 9) Q ⟨#[u0, u1, u2, .slice (some am) ml cm, u4, u5, u6, u7, u8, u9, u10, u11, u12, .int .i64 (i : Int), .pointer (some ⟨gn, 0, none⟩), u15, u16, u17, u18, u19, u20, u21, u22, u23, u24, u25, u26, u27, u28, u29, u30, u31, u32, u33, u34, u35, u36, u37, u38, u39, u40, u41, u42, u43, u44, u45, u46, u47, u48, u49, u50, u51, u52, u53, u54, u55, u56, u57, u58, u59, u60, u61, u62, u63, u64, u65, u66, u67, u68, u69, u70, u71, u72, u73, u74, u75, u76, u77, u78, u79, u80, u81, u82, u83, u84, u85, u86, u87, u88, u89, u90, u91, u92], []⟩ W := by
 have HPO := Lib.hid hpost
 have EN := Lib.hid hn
 have EG := Lib.hid hg
 have HM := Lib.hid hm
 have HW := Lib.hid hw
 have hi0 : (0 : Int) ≤ (i : Int) := by omega
 have hi1 : (i : Int) < (ml : Int) := by omega
 clear hn hg hm hw hpost
 have HB := Lib.hid (below_drew1 (Below.refl W.heap.size W))
 have EN := Lib.hid (blk_drew EN.out)
 have EG := Lib.hid (blk_drew EG.out)
 have HM := Lib.hid (show W.drew.cell? (am.add i) = _ from HM.out)
 conv => arg 2; whnf
 refine wp_region_noPanic ?_
 refine wp_region_held_drew (S := fun W1 => W1.cell? ⟨gn, 6, none⟩ = some (.slice (some ⟨ga, 0, none⟩) 1 1) ∧ W1.cell? (am.add i) = some (.int .i64 mv)) (by kernel_rfl) ?_ (fun hHeld => ?_)
 focus ((try dsimp only); first | exact ⟨(blk_cell EY.out 6).trans h6, HM.out⟩ | exact ⟨(blk_cell EN.out 6).trans h6, HM.out⟩)
 refine tq 0 70 ?_ (by assumption)
 refine tq 1 71 ?_ (by assumption)
 refine tq 2 72 ?_ (by assumption)
 refine tq 3 73 ?_ (by assumption)
 refine tq 4 74 ?_ (by assumption)
 refine tq 5 75 ?_ (by assumption)
 refine wpAnyH_ready (rs := [6]) (by kernel_rfl) (by simp) ?_
 refine AllReadyH.cons rfl (fun K hK => ?_) ?_
 ·go_simp
  go_wp2_with (go_at_call 11; refine (PProcLimits.donjonlaw17_within.calls mv 8 m _ HW.out).mono ?_; rintro e wa ⟨rfl, hd⟩; have hb := drawn_below hd; have HB := Lib.hid (below_step HB.out hb); have EN := Lib.hid (blk_below EN.out hb); have EG := Lib.hid (blk_below EG.out hb); have HM := Lib.hid (pw_cell_below hb HM.out); clear hb hd)
  refine hK.out _ _ ?_ (fun hHeld => ?_)
  focus ((try dsimp only); first | exact ⟨(blk_cell EY.out 6).trans h6, HM.out⟩ | exact ⟨(blk_cell EN.out 6).trans h6, HM.out⟩)
  clear hK K
  refine tq 7 77 ?_ (by assumption)
  refine tq 8 78 ?_ (by assumption)
  refine wpAnyH_ready (rs := [9]) (by kernel_rfl) (by simp) ?_
  refine AllReadyH.cons rfl (fun K hK => ?_) ?_
  ·have c1 := (blk_cell EG.out 1).trans rfl
   have z1 := blk_frozen EG.out 1
   have EX := Lib.hid (blk_put EG.out 1 (.int .i64 m) rfl)
   have EY := Lib.hid (blk_far (p := ⟨ga, 1, none⟩) EN.out (by show gn ≠ ga; exact hne) (.int .i64 m))
   have HM := Lib.hid ((cell_far wa ga 1 (.int .i64 m) (am.add i) (by rw [add_block]; exact ham)).trans HM.out)
   have HG := Lib.hid (grown_put HB.out ga 1 (.int .i64 m))
   go_simp
   refine hK.out _ _ ?_ (fun hHeld => ?_)
   focus ((try dsimp only); first | exact ⟨(blk_cell EY.out 6).trans h6, HM.out⟩ | exact ⟨(blk_cell EN.out 6).trans h6, HM.out⟩)
   clear hK K
   refine wpAnyH_done (by kernel_rfl) ?_ _
   refine NoPanic.normal ?_
   exact HPO.out _ _ _ _ _ _ _ _ _ _ EX.out EY.out HG.out
  exact AllReadyH.nil
 exact AllReadyH.nil
end Go.Proofs.YteilkbookcmndaaGreatDoor.C
end
