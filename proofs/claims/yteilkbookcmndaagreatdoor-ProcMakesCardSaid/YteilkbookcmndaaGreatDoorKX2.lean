/- Texts that the claim's law stands on, cut down to what it reaches. -/
import Derived.Test.YteilkbookcmndaaGreatDoorKX1
import Derived.Deep.RegionHeldLaw
import Derived.Deep.RegionHeld3
import Derived.Deep.LoopGhost
import Derived.WalkSmall
set_option linter.unusedVariables false
set_option linter.unusedSimpArgs false
section
namespace Go.Proofs.YteilkbookcmndaaGreatDoor.C
open Go.RowKit Go.Proofs.YteilkbookcmndaaGreatDoor.Q Go.Proofs.YteilkbookcmndaaGreatDoorW.PrintWords Go.Proofs.YteilkbookcmndaaGreatDoorW.PrintLast Go.Proofs.YteilkbookcmndaaGreatDoorW.PrintMore
attribute [local go_sem ↓] rd_at50 wr_at50 al_at50
attribute [local go_sem] rd50_new wr50_new al50
attribute [local go_sem ↓] rd_at45 wr_at45 rd_at150 wr_at150 rd_at47b wr_at47b
attribute [local go_sem] rd45_new wr45_new rd150_new wr150_new wr47b_new
def mdn : Nat → Int | 0 => 1 | 1 => 2 | _ => 4
def moA (kf : Int → Int) : Nat → Int
 | 0 => 0
 | i + 1 => if kf (mdn i) = 0 then bits .or .i64 (moA kf i) (mdn i) else moA kf i
theorem mdn_or (i : Nat) : mdn i = 1 ∨ mdn i = 2 ∨ mdn i = 4 := by
 rcases i with _ | _ | i
 ·exact Or.inl rfl
 ·exact Or.inr (Or.inl rfl)
 ·exact Or.inr (Or.inr rfl)
set_option maxHeartbeats 16000000 in
set_option maxRecDepth 1000000 in
theorem seg_yes (gm k tl c nb cb : Nat) (A : Option Addr) (bd : Addr) (u p : ByteArray) (a : S41) (nd : S50) (kf : Int → Int) (ndm : Int → S50) (w : World) (hm : w.heap[gm]? = some (.cells #[.slice A tl c, .string u, .int .i64 a.f0, .int .i64 a.f1, .int .i64 a.f2, .int .i64 a.f3, .slice (some bd) nb cb] 105 (0, 0))) (hp : w.cell? (bd.add k) = some (.string p)) (hk : k < nb) (hnb : nb ≤ cb) (hd : nd.f1 = false)
  (hS : ∀ w1 : World, Below w.heap.size w w1 → Calls Tryz.prog 35 #[.slice A tl c, .agg #[.string u, .int .i64 a.f0, .int .i64 a.f1, .int .i64 a.f2, .int .i64 a.f3], .string p] w1 fun e w' => ∃ A6 c6 A11 c11, e = .returned (.tuple #[.agg #[.string nd.f0, .bool nd.f1, .int .i64 nd.f2.f0, .int .i64 nd.f2.f1, .int .i64 nd.f2.f2, .int .i64 nd.f2.f3, .slice A6 nd.f3.length c6, .int .i64 nd.f4.f0, .int .i64 nd.f4.f1, .int .i64 nd.f4.f2, .int .i64 nd.f4.f3, .slice A11 nd.f5.length c11, .int .i64 nd.f6.f0, .int .i64 nd.f6.f1, .int .i64 nd.f6.f2, .int .i64 nd.f6.f3], .int .i64 0]) ∧ k50.FK w' (fun k => w1.heap.size ≤ k) nd [.string nd.f0, .bool nd.f1, .int .i64 nd.f2.f0, .int .i64 nd.f2.f1, .int .i64 nd.f2.f2, .int .i64 nd.f2.f3, .slice A6 nd.f3.length c6, .int .i64 nd.f4.f0, .int .i64 nd.f4.f1, .int .i64 nd.f4.f2, .int .i64 nd.f4.f3, .slice A11 nd.f5.length c11, .int .i64 nd.f6.f0, .int .i64 nd.f6.f1, .int .i64 nd.f6.f2, .int .i64 nd.f6.f3] ∧ Below w1.heap.size w1 w')
  (hM : ∀ md : Int, (md = 1 ∨ md = 2 ∨ md = 4) → ∀ w1 : World, Below w.heap.size w w1 → Calls Tryz.prog 19 #[.slice A tl c, .agg #[.string u, .int .i64 a.f0, .int .i64 a.f1, .int .i64 a.f2, .int .i64 a.f3], .string p, .int .i64 md] w1 fun e w' => ∃ A6 c6 A11 c11, e = .returned (.tuple #[.agg #[.string (ndm md).f0, .bool (ndm md).f1, .int .i64 (ndm md).f2.f0, .int .i64 (ndm md).f2.f1, .int .i64 (ndm md).f2.f2, .int .i64 (ndm md).f2.f3, .slice A6 (ndm md).f3.length c6, .int .i64 (ndm md).f4.f0, .int .i64 (ndm md).f4.f1, .int .i64 (ndm md).f4.f2, .int .i64 (ndm md).f4.f3, .slice A11 (ndm md).f5.length c11, .int .i64 (ndm md).f6.f0, .int .i64 (ndm md).f6.f1, .int .i64 (ndm md).f6.f2, .int .i64 (ndm md).f6.f3], .int .i64 (kf md)]) ∧ k50.FK w' (fun k => w1.heap.size ≤ k) (ndm md) [.string (ndm md).f0, .bool (ndm md).f1, .int .i64 (ndm md).f2.f0, .int .i64 (ndm md).f2.f1, .int .i64 (ndm md).f2.f2, .int .i64 (ndm md).f2.f3, .slice A6 (ndm md).f3.length c6, .int .i64 (ndm md).f4.f0, .int .i64 (ndm md).f4.f1, .int .i64 (ndm md).f4.f2, .int .i64 (ndm md).f4.f3, .slice A11 (ndm md).f5.length c11, .int .i64 (ndm md).f6.f0, .int .i64 (ndm md).f6.f1, .int .i64 (ndm md).f6.f2, .int .i64 (ndm md).f6.f3] ∧ Below w1.heap.size w1 w') :
  Calls Tryz.prog 148 #[.pointer (some ⟨gm, 0, none⟩), .int .i64 (k : Int)] w fun e w' => ∃ A11 c11, e = .returned (.tuple #[.agg #[.slice A11 nd.f5.length c11, .int .i64 (moA kf 3), .int .i64 nd.f4.f0, .int .i64 nd.f4.f1, .int .i64 nd.f4.f2, .int .i64 nd.f4.f3], .bool true]) ∧ nd.f5.length ≤ c11 ∧ Kd.F (Kd.int .i64) w' (fun j => w.heap.size < j) A11 nd.f5.length nd.f5 ∧ Below w.heap.size w w' := by
 have HM := Lib.hid hM
 clear hM
 have HS := Lib.hid hS
 have HP := Lib.hid hp
 have EM := Lib.hid hm
 have m0 := (blk_cell hm 0).trans rfl
 have m6 := (blk_cell hm 6).trans rfl
 have hk0 : (0 : Int) ≤ (k : Int) := by omega
 have hk1 : (k : Int) < (nb : Int) := by omega
 clear hS hm hp
 go_enter Tryz.func148, Tryz.ntmps148
 have HB0 := Lib.hid (below_alloc (Below.refl w.heap.size w) (.cells #[.slice none 0 0, .int .i64 0, .int .i64 0, .int .i64 0, .int .i64 0, .int .i64 0] 150))
 have E0 := Lib.hid (blk_new w (.cells #[.slice none 0 0, .int .i64 0, .int .i64 0, .int .i64 0, .int .i64 0, .int .i64 0] 150))
 have m6 := pw_cell_below HB0.out m6
 go_wp2
 refine sg3 gm k tl c nb cb A bd u p a 0 nd _ _ _ _ _ _ _ _ _ _ _ _ _ _ _ _ _ _ _ _ _ _ _ _ _ _ _ _ _ _ _ _ _ _ _ _ _ _ _ _ _ _ _ _ _ _ _ _ _ _ _ _ _ _ _ _ _ _ _ _ _ _ _ _ _ _ _ _ _ _ _ _ _ _ _ _ _ _ _ _ _ _ _ _ _ _ _ _ _ _ _ (blk_below EM.out HB0.out) (pw_cell_below HB0.out HP.out) hk hnb (fun w1 hb => HS.out w1 (below_step HB0.out hb)) ?_
 intro g w3 A6 c6 A11 c11 t25 t26 t27 t28 t29 t30 t31 t32 t33 t34 t35 t36 t37 t38 t39 t40 t41 t42 t43 hFK hX hg hb
 have HFK := Lib.hid hFK
 have EX := Lib.hid hX
 have HB3 := Lib.hid (below_step HB0.out hb)
 have EZ := Lib.hid (blk_below E0.out hb)
 have HG := Lib.hid hg
 have n1 := (blk_cell hX 1).trans rfl
 have n7 := (blk_cell hX 7).trans rfl
 have n8 := (blk_cell hX 8).trans rfl
 have n9 := (blk_cell hX 9).trans rfl
 have n10 := (blk_cell hX 10).trans rfl
 have n11 := (blk_cell hX 11).trans rfl
 clear hFK hX hb hg
 rw [hd] at n1
 go_wp2
 go_loopg [58] 3 (fun kk s58 wr => ∃ i : Nat, i ≤ 3 ∧ 3 - i ≤ kk ∧ s58 = .int .i64 (i : Int) ∧ Hid (wr.heap[w3.heap.size]? = some (.cells #[.slice A11 nd.f5.length c11, .int .i64 (moA kf i), .int .i64 nd.f4.f0, .int .i64 nd.f4.f1, .int .i64 nd.f4.f2, .int .i64 nd.f4.f3] 150 (0, 0))) ∧ Hid (wr.heap[w3.heap.size + 1]? = some (.cells #[.int .i64 1, .int .i64 2, .int .i64 4] 3 (0, 0))) ∧ Hid (Below w3.heap.size w3 wr))
 case atStart => exact ⟨0, by omega, by omega, rfl, Lib.hid (blk_alloc (blk_new w3 _) _), Lib.hid (by have h := blk_new (w3.alloc (.cells #[.slice A11 nd.f5.length c11, .int .i64 0, .int .i64 nd.f4.f0, .int .i64 nd.f4.f1, .int .i64 nd.f4.f2, .int .i64 nd.f4.f3] 150)) (.cells #[.int .i64 1, .int .i64 2, .int .i64 4] 3); rwa [World.size_alloc] at h), Lib.hid (below_alloc (below_alloc (Below.refl _ _) _) _)⟩
 case round =>
  obtain ⟨i, hi, hik, rfl, HE, HQ, HB⟩ := hrel
  by_cases h3 : i < 3
  ·have hq : wr.cell? ⟨w3.heap.size + 1, i, none⟩ = some (.int .i64 (mdn i)) := by
    rcases i with _ | _ | _ | i
    ·exact (blk_cell HQ.out 0).trans rfl
    ·exact (blk_cell HQ.out 1).trans rfl
    ·exact (blk_cell HQ.out 2).trans rfl
    ·omega
   have hmd := mdn_or i
   have HI := Lib.hid (show moA kf (i + 1) = if kf (mdn i) = 0 then bits .or .i64 (moA kf i) (mdn i) else moA kf i from rfl)
   go_wp2
   refine sg10 gm k tl c nb cb A bd u p a (mdn i) (kf (mdn i)) (ndm (mdn i)) _ _ _ _ _ _ _ _ _ _ _ _ _ _ _ _ _ _ _ _ _ _ _ _ _ _ _ _ _ _ _ _ _ _ _ _ _ _ _ _ _ _ _ _ _ _ _ _ _ _ _ _ _ _ _ _ _ _ _ _ _ _ _ _ _ _ _ _ _ _ _ _ _ _ _ _ _ _ _ _ _ _ _ _ _ _ _ _ _ _ (blk_below (blk_below EM.out HB3.out) HB.out) (pw_cell_below HB.out (pw_cell_below HB3.out HP.out)) hk hnb (fun w1 hb => HM.out (mdn i) hmd w1 (below_step (below_step HB3.out HB.out) hb)) ?_
   intro g2 w4 X6 x6 X11 x11 t62 t63 t64 t65 t66 t67 t68 t69 t70 t71 t72 t73 t74 t75 t76 t77 t78 t79 t80 t81 hFK2 hX2 hg2 hb2
   have HE4 := Lib.hid (blk_below HE.out hb2)
   have HQ4 := Lib.hid (blk_below HQ.out hb2)
   have HB4 := Lib.hid (below_step HB.out hb2)
   clear hFK2 hX2 hg2 hb2 hq
   by_cases hkf : kf (mdn i) = 0
   ·rw [hkf]
    have e1 : w4.cell? ⟨w3.heap.size, 1, none⟩ = some (.int .i64 (moA kf i)) := (blk_cell HE4.out 1).trans rfl
    have f1 := blk_frozen HE4.out 1
    go_wp2
    go_roundg (3 - (i + 1))
    case measure => omega
    case rel => exact ⟨i + 1, by omega, Nat.le_refl _, by go_num, Lib.hid (by rw [HI.out, if_pos hkf]; exact blk_put HE4.out 1 _ rfl), Lib.hid (blk_far HQ4.out (by show w3.heap.size + 1 ≠ w3.heap.size; omega) _), Lib.hid (below_set HB4.out (Nat.le_refl _))⟩
   ·go_wp2
    go_roundg (3 - (i + 1))
    case measure => omega
    case rel => exact ⟨i + 1, by omega, Nat.le_refl _, by go_num, Lib.hid (by rw [HI.out, if_neg hkf]; exact HE4.out), HQ4, HB4⟩
  ·have : i = 3 := by omega
   subst this
   have hr := rd150_blk HE.out rfl
   have HZ := Lib.hid (blk_below EZ.out HB.out)
   have hs := wr150_blk (cs := #[.slice A11 nd.f5.length c11, .int .i64 (moA kf 3), .int .i64 nd.f4.f0, .int .i64 nd.f4.f1, .int .i64 nd.f4.f2, .int .i64 nd.f4.f3]) HZ.out rfl rfl (by simp [Value.oneCell'])
   have HZ2 := Lib.hid (setRow_heap _ _ _ (#[.slice A11 nd.f5.length c11, .int .i64 (moA kf 3), .int .i64 nd.f4.f0, .int .i64 nd.f4.f1, .int .i64 nd.f4.f2, .int .i64 nd.f4.f3] : Array Value) _ _ HZ.out)
   go_wp2
   refine bodyPost_ret (results_ct rfl _ _ w.heap.size 150 _ (0, 0) _ rfl HZ2.out Tryz.underlying150 rfl (by kernel_rfl)) rfl ?_
   have HFe := Kd.FK_step (W1 := wr.setRow w.heap.size (#[.slice A11 nd.f5.length c11, .int .i64 (moA kf 3), .int .i64 nd.f4.f0, .int .i64 nd.f4.f1, .int .i64 nd.f4.f2, .int .i64 nd.f4.f3] : Array Value)) HFK.out (fun k hk hlt => by
    have h2 := hk.2
    rw [World.size_alloc] at h2
    exact (setRow_other _ _ k _ (by omega)).trans (HB.out.block k hlt))
   obtain ⟨X6, x6, X11, x11, e1, l6, g6, l11, g11⟩ := k50_openF HFe
   simp only [List.cons.injEq, Value.slice.injEq, true_and, and_true] at e1
   obtain ⟨⟨rfl, rfl⟩, ⟨rfl, rfl⟩⟩ := e1
   exact ⟨A11, c11, rfl, l11, Kd.F_mono g11 (fun j hj => by have h2 := hj.2; rw [World.size_alloc] at h2; exact h2), below_setRow (below_step HB3.out HB.out) (Nat.le_refl _) _⟩
theorem meth_seg (gm : Nat) : ∀ w : World, (method 322 103 (.pointer (some ⟨gm, 0, none⟩)) "Segment").run Tryz.prog w = .ok (148, .pointer (some ⟨gm, 0, none⟩)) w := fun _ => by kernel_rfl
theorem must_t (x : Int) (w : World) : Calls Tryz.prog 77 #[.bool true, .int .i64 x] w fun e w' => e = .returned (.tuple #[]) ∧ w' = w := by
 go_enter Tryz.func77, Tryz.ntmps77
 go_wp2
 first | (go_end0) | (refine bodyPost_ret (results_none rfl _ _ _) rfl ?_)
 exact ⟨rfl, rfl⟩
set_option maxHeartbeats 16000000 in
set_option maxRecDepth 1000000 in
theorem segment_yes (gm : Nat) (k : Int) (m r1 r2 r3 r4 : Int) (xs : List Int) (gr : Nat) (s0 s1 s2 s3 s4 s5 s6 s7 s8 s9 s10 s11 s12 s13 s14 s15 : Int) (sA : Option Addr) (sn sc : Nat) (hl tb : Bool) (ov : Int) (w : World) (hr : w.heap[gr]? = some (.cells #[.int .i64 s0, .int .i64 s1, .int .i64 s2, .int .i64 s3, .int .i64 s4, .int .i64 s5, .int .i64 s6, .int .i64 s7, .int .i64 s8, .int .i64 s9, .int .i64 s10, .int .i64 s11, .int .i64 s12, .int .i64 s13, .int .i64 s14, .int .i64 s15, .slice sA sn sc, .bool hl, .iface 103 (.pointer (some ⟨gm, 0, none⟩)), .bool tb, .int .i64 ov] 134 (0, 0)))
  (hS : ∀ w1 : World, Below w.heap.size w w1 → Calls Tryz.prog 148 #[.pointer (some ⟨gm, 0, none⟩), .int .i64 k] w1 fun e w' => ∃ A11 c11, e = .returned (.tuple #[.agg #[.slice A11 xs.length c11, .int .i64 m, .int .i64 r1, .int .i64 r2, .int .i64 r3, .int .i64 r4], .bool true]) ∧ xs.length ≤ c11 ∧ Kd.F (Kd.int .i64) w' (fun j => w1.heap.size < j) A11 xs.length xs ∧ Below w1.heap.size w1 w') :
  Calls Tryz.prog 85 #[.pointer (some ⟨gr, 0, none⟩), .int .i64 k] w fun e w' => ∃ A11 c11, e = .returned (.agg #[.slice A11 xs.length c11, .int .i64 m, .int .i64 r1, .int .i64 r2, .int .i64 r3, .int .i64 r4]) ∧ xs.length ≤ c11 ∧ Kd.F (Kd.int .i64) w' (fun j => w.heap.size < j) A11 xs.length xs ∧ Below w.heap.size w w' := by
 have HS := Lib.hid hS
 have HR := Lib.hid hr
 clear hS hr
 go_enter Tryz.func85, Tryz.ntmps85
 have HB0 := Lib.hid (below_alloc (Below.refl w.heap.size w) (.cells #[.slice none 0 0, .int .i64 0, .int .i64 0, .int .i64 0, .int .i64 0, .int .i64 0] 150))
 have E0 := Lib.hid (blk_new w (.cells #[.slice none 0 0, .int .i64 0, .int .i64 0, .int .i64 0, .int .i64 0, .int .i64 0] 150))
 have hmt := meth_seg gm
 have m18 := (blk_cell (blk_below HR.out HB0.out) 18).trans rfl
 go_wp2_with (first | (go_at_call 77; refine (must_t 35 _).mono ?_; rintro e w2 ⟨rfl, rfl⟩; have hst := wr150_blk (cs := #[.slice A11 xs.length c11, .int .i64 m, .int .i64 r1, .int .i64 r2, .int .i64 r3, .int .i64 r4]) (blk_alloc EZ.out (.cells #[.slice A11 xs.length c11, .int .i64 m, .int .i64 r1, .int .i64 r2, .int .i64 r3, .int .i64 r4] 150)) rfl rfl (by simp [Value.oneCell'])) | (go_at_call 148; refine (HS.out _ HB0.out).mono ?_; rintro e w1 ⟨A11, c11, rfl, hc, hC, hb⟩; have HB1 := Lib.hid (below_step HB0.out hb); have EZ := Lib.hid (blk_below E0.out hb); have HC := Lib.hid hC; clear hb hC))
 have HZ2 := setRow_heap _ _ _ (#[.slice A11 xs.length c11, .int .i64 m, .int .i64 r1, .int .i64 r2, .int .i64 r3, .int .i64 r4] : Array Value) _ _ (blk_alloc EZ.out (.cells #[.slice A11 xs.length c11, .int .i64 m, .int .i64 r1, .int .i64 r2, .int .i64 r3, .int .i64 r4] 150))
 refine bodyPost_ret (results_cell_row rfl _ _ w.heap.size 150 _ (0, 0) _ rfl HZ2 Tryz.underlying150 rfl (by kernel_rfl)) rfl ?_
 exact ⟨A11, c11, rfl, hc, Kd.F_step (Kd.F_mono (Kd.F_alloc HC.out _) (fun j hj => by rw [World.size_alloc] at hj; omega)) (fun j hj _ => setRow_other _ _ j _ (by omega)), below_setRow (below_alloc HB1.out _) (Nat.le_refl _) _⟩
end Go.Proofs.YteilkbookcmndaaGreatDoor.C
end
