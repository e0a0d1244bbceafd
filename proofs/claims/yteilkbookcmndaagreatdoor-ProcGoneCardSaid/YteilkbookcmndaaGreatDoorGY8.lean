/- Texts that the claim's law stands on, cut down to what it reaches. -/
import Derived.Test.YteilkbookcmndaaGreatDoorGY7
import Derived.Deep.RegionHeldLaw
import Derived.Deep.RegionHeld3
import Derived.Deep.LoopGhost
set_option linter.unusedVariables false
set_option linter.unusedSimpArgs false
section
set_option linter.unusedVariables false
set_option linter.unusedSimpArgs false
namespace Go.Proofs.YteilkbookcmndaaGreatDoor.C
open Go.RowKit Go.Proofs.YteilkbookcmndaaGreatDoor.Q Go.Proofs.YteilkbookcmndaaGreatDoorW.PrintWords Go.Proofs.YteilkbookcmndaaGreatDoorW.PrintLast Go.Proofs.YteilkbookcmndaaGreatDoorW.PrintMore
attribute [local go_sem ↓] rd_at50 wr_at50 al_at50
attribute [local go_sem] rd50_new wr50_new al50
attribute [local go_sem ↓] rd_at45 wr_at45 rd_at150 wr_at150 rd_at47b wr_at47b rd_at77 wr_at77 rd_at41p wr_at41p
attribute [local go_sem] rd45_new wr45_new rd150_new wr150_new rd47b_new wr47b_new
attribute [local go_sem] max2_mx max_two
set_option maxHeartbeats 16000000 in
set_option maxRecDepth 1000000 in
theorem run_g (tn c cb n K : Nat) (A B : Option Addr) (u : ByteArray) (a : S41) (t : List S50) (bs : List ByteArray) (S : Nat → (Nat → Int) × Bool) (tb : Nat → Bool) (ov : Nat → Int) (w : World)
    (hn : n ≤ 100) (hKn : K ≤ n) (hh : ∀ k, k < K → (S k).2 = false) (hK : K = n ∨ (S K).2 = true)
    (hD : ∀ w1 : World, Below w.heap.size w w1 → Calls Tryz.prog 32 #[.slice A tn c, .string (⟨#[]⟩ : ByteArray)] w1 fun e w' => ∃ A' c', e = .returned (.slice A' t.length c') ∧ t.length ≤ c' ∧ Kd.F k50 w' (fun k => w1.heap.size ≤ k) A' t.length t ∧ Below w1.heap.size w1 w')
    (hC : Kd.C Kd.string w B bs.length bs) (hbs : bs.length ≤ 1000)
    (hstep : ∀ (gm : Nat) (W0 : World) (A1 : Option Addr) (c1 : Nat) (B1 : Option Addr) (b1 : Nat), W0.heap[gm]? = some (.cells #[.slice A1 t.length c1, .string u, .int .i64 a.f0, .int .i64 a.f1, .int .i64 a.f2, .int .i64 a.f3, .slice B1 bs.length b1] 105 (0, 0)) → t.length ≤ c1 → Kd.C k50 W0 A1 t.length t → bs.length ≤ b1 → Kd.C Kd.string W0 B1 bs.length bs → ∀ k, k < K → ∀ w1, Below W0.heap.size W0 w1 →
      Calls Tryz.prog 34 #[.agg #[.int .i64 ((S k).1 0), .int .i64 ((S k).1 1), .int .i64 ((S k).1 2), .int .i64 ((S k).1 3), .int .i64 ((S k).1 4), .int .i64 ((S k).1 5), .int .i64 ((S k).1 6), .int .i64 ((S k).1 7), .int .i64 ((S k).1 8), .int .i64 ((S k).1 9), .int .i64 ((S k).1 10), .int .i64 ((S k).1 11), .int .i64 ((S k).1 12), .int .i64 ((S k).1 13), .int .i64 ((S k).1 14), .int .i64 ((S k).1 15), .slice none 0 0, .bool false], .iface 103 (.pointer (some ⟨gm, 0, none⟩))] w1 fun e w' => e = .returned (.tuple #[.agg #[.int .i64 ((S (k + 1)).1 0), .int .i64 ((S (k + 1)).1 1), .int .i64 ((S (k + 1)).1 2), .int .i64 ((S (k + 1)).1 3), .int .i64 ((S (k + 1)).1 4), .int .i64 ((S (k + 1)).1 5), .int .i64 ((S (k + 1)).1 6), .int .i64 ((S (k + 1)).1 7), .int .i64 ((S (k + 1)).1 8), .int .i64 ((S (k + 1)).1 9), .int .i64 ((S (k + 1)).1 10), .int .i64 ((S (k + 1)).1 11), .int .i64 ((S (k + 1)).1 12), .int .i64 ((S (k + 1)).1 13), .int .i64 ((S (k + 1)).1 14), .int .i64 ((S (k + 1)).1 15), .slice none 0 0, .bool (S (k + 1)).2], .int .i64 (ov k), .bool (tb k), .int .i64 0]) ∧ Below w1.heap.size w1 w') :
    Calls Tryz.prog 17 #[.slice A tn c, .agg #[.string u, .int .i64 a.f0, .int .i64 a.f1, .int .i64 a.f2, .int .i64 a.f3], .agg #[.slice B bs.length cb, .int .i64 ((S 0).1 0), .int .i64 ((S 0).1 1), .int .i64 ((S 0).1 2), .int .i64 ((S 0).1 3), .int .i64 ((S 0).1 4), .int .i64 ((S 0).1 5), .int .i64 ((S 0).1 6), .int .i64 ((S 0).1 7), .int .i64 ((S 0).1 8), .int .i64 ((S 0).1 9), .int .i64 ((S 0).1 10), .int .i64 ((S 0).1 11), .int .i64 ((S 0).1 12), .int .i64 ((S 0).1 13), .int .i64 ((S 0).1 14), .int .i64 ((S 0).1 15), .slice none 0 0, .bool (S 0).2], .int .i64 (n : Int)] w fun e w' => ∃ A1 c1 B1 b1 To tc, e = .returned (.tuple #[.slice A1 t.length c1, .agg #[.slice B1 bs.length b1, .int .i64 ((S K).1 0), .int .i64 ((S K).1 1), .int .i64 ((S K).1 2), .int .i64 ((S K).1 3), .int .i64 ((S K).1 4), .int .i64 ((S K).1 5), .int .i64 ((S K).1 6), .int .i64 ((S K).1 7), .int .i64 ((S K).1 8), .int .i64 ((S K).1 9), .int .i64 ((S K).1 10), .int .i64 ((S K).1 11), .int .i64 ((S K).1 12), .int .i64 ((S K).1 13), .int .i64 ((S K).1 14), .int .i64 ((S K).1 15), .slice none 0 0, .bool (S K).2], .slice To (outs tb ov K).length tc, .bool (S K).2, .int .i64 0]) ∧ t.length ≤ c1 ∧ Kd.F k50 w' (fun j => w.heap.size ≤ j) A1 t.length t ∧ bs.length ≤ b1 ∧ Kd.F Kd.string w' (fun j => w.heap.size ≤ j) B1 bs.length bs ∧ (outs tb ov K).length ≤ tc ∧ Kd.C (Kd.int .i64) w' To (outs tb ov K).length (outs tb ov K) ∧ Below w.heap.size w w' := by
  have HD := Lib.hid hD
  have HC := Lib.hid hC
  have HST := Lib.hid hstep
  have HH := Lib.hid hh
  have HK := Lib.hid hK
  clear hD hC hstep hh hK
  have hn0 : (0 : Int) ≤ (n : Int) := by omega
  have hn1 : (n : Int) ≤ 100 := by omega
  have HB0 := Lib.hid (below_alloc (below_alloc (below_alloc (Below.refl w.heap.size w) (.cells #[.string u, .int .i64 a.f0, .int .i64 a.f1, .int .i64 a.f2, .int .i64 a.f3] 52)) (.cells #[.slice B bs.length cb, .int .i64 ((S 0).1 0), .int .i64 ((S 0).1 1), .int .i64 ((S 0).1 2), .int .i64 ((S 0).1 3), .int .i64 ((S 0).1 4), .int .i64 ((S 0).1 5), .int .i64 ((S 0).1 6), .int .i64 ((S 0).1 7), .int .i64 ((S 0).1 8), .int .i64 ((S 0).1 9), .int .i64 ((S 0).1 10), .int .i64 ((S 0).1 11), .int .i64 ((S 0).1 12), .int .i64 ((S 0).1 13), .int .i64 ((S 0).1 14), .int .i64 ((S 0).1 15), .slice none 0 0, .bool (S 0).2] 47)) (.cells #[.slice none 0 0, .int .i64 0, .int .i64 0, .int .i64 0, .int .i64 0, .int .i64 0, .int .i64 0, .int .i64 0, .int .i64 0, .int .i64 0, .int .i64 0, .int .i64 0, .int .i64 0, .int .i64 0, .int .i64 0, .int .i64 0, .int .i64 0, .slice none 0 0, .bool false] 47))
  have ES := Lib.hid (blk_alloc (blk_alloc (blk_new w (.cells #[.string u, .int .i64 a.f0, .int .i64 a.f1, .int .i64 a.f2, .int .i64 a.f3] 52)) (.cells #[.slice B bs.length cb, .int .i64 ((S 0).1 0), .int .i64 ((S 0).1 1), .int .i64 ((S 0).1 2), .int .i64 ((S 0).1 3), .int .i64 ((S 0).1 4), .int .i64 ((S 0).1 5), .int .i64 ((S 0).1 6), .int .i64 ((S 0).1 7), .int .i64 ((S 0).1 8), .int .i64 ((S 0).1 9), .int .i64 ((S 0).1 10), .int .i64 ((S 0).1 11), .int .i64 ((S 0).1 12), .int .i64 ((S 0).1 13), .int .i64 ((S 0).1 14), .int .i64 ((S 0).1 15), .slice none 0 0, .bool (S 0).2] 47)) (.cells #[.slice none 0 0, .int .i64 0, .int .i64 0, .int .i64 0, .int .i64 0, .int .i64 0, .int .i64 0, .int .i64 0, .int .i64 0, .int .i64 0, .int .i64 0, .int .i64 0, .int .i64 0, .int .i64 0, .int .i64 0, .int .i64 0, .int .i64 0, .slice none 0 0, .bool false] 47))
  have EP := Lib.hid (show (((w.alloc (.cells #[.string u, .int .i64 a.f0, .int .i64 a.f1, .int .i64 a.f2, .int .i64 a.f3] 52)).alloc (.cells #[.slice B bs.length cb, .int .i64 ((S 0).1 0), .int .i64 ((S 0).1 1), .int .i64 ((S 0).1 2), .int .i64 ((S 0).1 3), .int .i64 ((S 0).1 4), .int .i64 ((S 0).1 5), .int .i64 ((S 0).1 6), .int .i64 ((S 0).1 7), .int .i64 ((S 0).1 8), .int .i64 ((S 0).1 9), .int .i64 ((S 0).1 10), .int .i64 ((S 0).1 11), .int .i64 ((S 0).1 12), .int .i64 ((S 0).1 13), .int .i64 ((S 0).1 14), .int .i64 ((S 0).1 15), .slice none 0 0, .bool (S 0).2] 47)).alloc (.cells #[.slice none 0 0, .int .i64 0, .int .i64 0, .int .i64 0, .int .i64 0, .int .i64 0, .int .i64 0, .int .i64 0, .int .i64 0, .int .i64 0, .int .i64 0, .int .i64 0, .int .i64 0, .int .i64 0, .int .i64 0, .int .i64 0, .int .i64 0, .slice none 0 0, .bool false] 47)).heap[w.heap.size + 1]? = some (.cells #[.slice B bs.length cb, .int .i64 ((S 0).1 0), .int .i64 ((S 0).1 1), .int .i64 ((S 0).1 2), .int .i64 ((S 0).1 3), .int .i64 ((S 0).1 4), .int .i64 ((S 0).1 5), .int .i64 ((S 0).1 6), .int .i64 ((S 0).1 7), .int .i64 ((S 0).1 8), .int .i64 ((S 0).1 9), .int .i64 ((S 0).1 10), .int .i64 ((S 0).1 11), .int .i64 ((S 0).1 12), .int .i64 ((S 0).1 13), .int .i64 ((S 0).1 14), .int .i64 ((S 0).1 15), .slice none 0 0, .bool (S 0).2] 47) from blk_alloc (by have h := blk_new (w.alloc (.cells #[.string u, .int .i64 a.f0, .int .i64 a.f1, .int .i64 a.f2, .int .i64 a.f3] 52)) (.cells #[.slice B bs.length cb, .int .i64 ((S 0).1 0), .int .i64 ((S 0).1 1), .int .i64 ((S 0).1 2), .int .i64 ((S 0).1 3), .int .i64 ((S 0).1 4), .int .i64 ((S 0).1 5), .int .i64 ((S 0).1 6), .int .i64 ((S 0).1 7), .int .i64 ((S 0).1 8), .int .i64 ((S 0).1 9), .int .i64 ((S 0).1 10), .int .i64 ((S 0).1 11), .int .i64 ((S 0).1 12), .int .i64 ((S 0).1 13), .int .i64 ((S 0).1 14), .int .i64 ((S 0).1 15), .slice none 0 0, .bool (S 0).2] 47); simp only [World.size_alloc] at h; exact h) (.cells #[.slice none 0 0, .int .i64 0, .int .i64 0, .int .i64 0, .int .i64 0, .int .i64 0, .int .i64 0, .int .i64 0, .int .i64 0, .int .i64 0, .int .i64 0, .int .i64 0, .int .i64 0, .int .i64 0, .int .i64 0, .int .i64 0, .int .i64 0, .slice none 0 0, .bool false] 47))
  have E9 := Lib.hid (show (((w.alloc (.cells #[.string u, .int .i64 a.f0, .int .i64 a.f1, .int .i64 a.f2, .int .i64 a.f3] 52)).alloc (.cells #[.slice B bs.length cb, .int .i64 ((S 0).1 0), .int .i64 ((S 0).1 1), .int .i64 ((S 0).1 2), .int .i64 ((S 0).1 3), .int .i64 ((S 0).1 4), .int .i64 ((S 0).1 5), .int .i64 ((S 0).1 6), .int .i64 ((S 0).1 7), .int .i64 ((S 0).1 8), .int .i64 ((S 0).1 9), .int .i64 ((S 0).1 10), .int .i64 ((S 0).1 11), .int .i64 ((S 0).1 12), .int .i64 ((S 0).1 13), .int .i64 ((S 0).1 14), .int .i64 ((S 0).1 15), .slice none 0 0, .bool (S 0).2] 47)).alloc (.cells #[.slice none 0 0, .int .i64 0, .int .i64 0, .int .i64 0, .int .i64 0, .int .i64 0, .int .i64 0, .int .i64 0, .int .i64 0, .int .i64 0, .int .i64 0, .int .i64 0, .int .i64 0, .int .i64 0, .int .i64 0, .int .i64 0, .int .i64 0, .slice none 0 0, .bool false] 47)).heap[w.heap.size + 1 + 1]? = some (.cells #[.slice none 0 0, .int .i64 0, .int .i64 0, .int .i64 0, .int .i64 0, .int .i64 0, .int .i64 0, .int .i64 0, .int .i64 0, .int .i64 0, .int .i64 0, .int .i64 0, .int .i64 0, .int .i64 0, .int .i64 0, .int .i64 0, .int .i64 0, .slice none 0 0, .bool false] 47) from by have h := blk_new ((w.alloc (.cells #[.string u, .int .i64 a.f0, .int .i64 a.f1, .int .i64 a.f2, .int .i64 a.f3] 52)).alloc (.cells #[.slice B bs.length cb, .int .i64 ((S 0).1 0), .int .i64 ((S 0).1 1), .int .i64 ((S 0).1 2), .int .i64 ((S 0).1 3), .int .i64 ((S 0).1 4), .int .i64 ((S 0).1 5), .int .i64 ((S 0).1 6), .int .i64 ((S 0).1 7), .int .i64 ((S 0).1 8), .int .i64 ((S 0).1 9), .int .i64 ((S 0).1 10), .int .i64 ((S 0).1 11), .int .i64 ((S 0).1 12), .int .i64 ((S 0).1 13), .int .i64 ((S 0).1 14), .int .i64 ((S 0).1 15), .slice none 0 0, .bool (S 0).2] 47)) (.cells #[.slice none 0 0, .int .i64 0, .int .i64 0, .int .i64 0, .int .i64 0, .int .i64 0, .int .i64 0, .int .i64 0, .int .i64 0, .int .i64 0, .int .i64 0, .int .i64 0, .int .i64 0, .int .i64 0, .int .i64 0, .int .i64 0, .int .i64 0, .slice none 0 0, .bool false] 47); simp only [World.size_alloc] at h; exact h)
  go_enter Tryz.func17, Tryz.ntmps17
  go_wp2
  refine rn3 w.heap.size (w.heap.size + 1) tn c cb A B u a t bs _ _ _ _ _ _ _ _ _ _ _ _ _ _ _ _ _ _ _ _ _ _ _ _ _ _ _ _ _ _ _ _ _ _ _ _ _ _ _ _ _ _ _ _ _ _ _ _ _ _ _ _ _ _ _ _ _ _ _ _ _ _ _ _ _ _ _ _ _ _ _ _ _ _ _ _ _ _ _ _ _ _ _ _ _ _ _ _ _ _ _ _ _ _ ES.out EP.out rfl (fun w1 hb => HD.out w1 (below_step HB0.out hb)) (fun w1 hb => clone28 bs B cb w1 (Kd.C_below HC.out (below_step HB0.out hb)) (by omega)) ?_
  intro gm W0 A1 c1 B1 b1 t28 t29 t30 t31 t32 t33 t34 t35 hm hc1 hCt hb1 hCb hgm0 hb
  have EM := Lib.hid hm
  have HCT := Lib.hid hCt
  have HCB := Lib.hid hCb
  have E9 := Lib.hid (blk_below E9.out hb)
  have EP := Lib.hid (blk_below EP.out hb)
  have HBW := Lib.hid (below_step HB0.out hb)
  have hlt9 := blk_lt E9.out
  have hltm := blk_lt hm
  clear hm hCt hCb hb
  have hrd : (rdS 45 (.pointer (some ⟨w.heap.size + 1, 1, none⟩))).run Tryz.prog W0 = .ok (.agg #[.int .i64 ((S 0).1 0), .int .i64 ((S 0).1 1), .int .i64 ((S 0).1 2), .int .i64 ((S 0).1 3), .int .i64 ((S 0).1 4), .int .i64 ((S 0).1 5), .int .i64 ((S 0).1 6), .int .i64 ((S 0).1 7), .int .i64 ((S 0).1 8), .int .i64 ((S 0).1 9), .int .i64 ((S 0).1 10), .int .i64 ((S 0).1 11), .int .i64 ((S 0).1 12), .int .i64 ((S 0).1 13), .int .i64 ((S 0).1 14), .int .i64 ((S 0).1 15), .slice none 0 0, .bool (S 0).2]) W0 := rd_in (t := 45) (k := 18) EP.out Tryz.isAgg45 Tryz.sizeOf45 (by show 1 + 18 ≤ 19; omega)
  go_wp2_with (go_at_call 33; refine (clone33_nil _).mono ?_; rintro e w1 ⟨rfl, rfl⟩)
  have hgm : gm < W0.heap.size := hltm
  go_loopg [15, 16] K (fun kk s15 s16 wr => ∃ k : Nat, k ≤ K ∧ K - k ≤ kk ∧ s16 = .int .i64 (k : Int) ∧ Hid (OwnRow (fun (x : Int) l => l = [.int .i64 x]) 2 1 wr W0.heap.size s15 (outs tb ov k)) ∧ Hid (wr.heap[W0.heap.size]? = some (.cells #[.int .i64 ((S k).1 0), .int .i64 ((S k).1 1), .int .i64 ((S k).1 2), .int .i64 ((S k).1 3), .int .i64 ((S k).1 4), .int .i64 ((S k).1 5), .int .i64 ((S k).1 6), .int .i64 ((S k).1 7), .int .i64 ((S k).1 8), .int .i64 ((S k).1 9), .int .i64 ((S k).1 10), .int .i64 ((S k).1 11), .int .i64 ((S k).1 12), .int .i64 ((S k).1 13), .int .i64 ((S k).1 14), .int .i64 ((S k).1 15), .slice none 0 0, .bool (S k).2] 45 (0, 0))) ∧ Hid (Below W0.heap.size W0 wr))
  case atStart => exact ⟨0, Nat.zero_le _, Nat.le_refl _, rfl, Lib.hid (OwnRow.none_ _ _ _ _ _), Lib.hid (blk_new W0 _), Lib.hid (below_alloc (Below.refl _ _) _)⟩
  case round =>
    obtain ⟨k, hk, hkk, rfl, HO, HE, HB⟩ := hrel
    obtain ⟨Ao, co, rfl, hco, _⟩ := OwnRow.reads HO.out
    have hol := outs_len tb ov k
    by_cases hkK : k < K
    · have hkn : (k : Int) < (n : Int) := by omega
      have hs2 := HH.out k hkK
      have HE := Lib.hid (show wr.heap[W0.heap.size]? = some (.cells #[.int .i64 ((S k).1 0), .int .i64 ((S k).1 1), .int .i64 ((S k).1 2), .int .i64 ((S k).1 3), .int .i64 ((S k).1 4), .int .i64 ((S k).1 5), .int .i64 ((S k).1 6), .int .i64 ((S k).1 7), .int .i64 ((S k).1 8), .int .i64 ((S k).1 9), .int .i64 ((S k).1 10), .int .i64 ((S k).1 11), .int .i64 ((S k).1 12), .int .i64 ((S k).1 13), .int .i64 ((S k).1 14), .int .i64 ((S k).1 15), .slice none 0 0, .bool false] 45 (0, 0)) from by have h := HE.out; rw [hs2] at h; exact h)
      have q17 : wr.cell? ⟨W0.heap.size, 17, none⟩ = some (.bool false) := (blk_cell HE.out 17).trans rfl
      have hrk := rd45_blk HE.out rfl
      have HOUT := Lib.hid (show outs tb ov (k + 1) = outs tb ov k ++ (if tb k then [ov k] else []) from rfl)
      have HS := Lib.hid fun w1 hb => HST.out gm W0 A1 c1 B1 b1 EM.out hc1 (Kd.F_now HCT.out) hb1 (Kd.F_now HCB.out) k hkK w1 hb
      generalize hTB : tb k = tbk at HS HOUT
      have HT := Lib.hid hTB
      clear hTB
      generalize outs tb ov k = xs at HO HOUT hco hol ⊢
      cases tbk with
      | true =>
        go_wp2_with (first
          | (at_builtin; have hgate := HO1.out; clear hgate; refine OwnRow.append W0.heap.size rfl _ _ 34 2 (.int .i64 0) 1 8 rfl Tryz.underlying34 inf2 rfl (by decide) (by decide) (.slice Ao xs.length co) xs (ov k) [.int .i64 (ov k)] rfl (by rw [World.size_alloc]; rfl) rfl rfl (by simp [Value.oneCell']) HO1.out HB1.out (below_size HB1.out) (by omega) ?_; intro v1 w3 hO hB hg hat; have HO2 := Lib.hid hO; have HB2 := Lib.hid hB; have HE2 := Lib.hid (blk_grown HE1.out hg (OwnRow.ne_block HO1.out HE1.out (by decide))); have HX2 := Lib.hid (blk_grown HX1.out hg (OwnRow.ne_block HO1.out HX1.out (by decide))); have hrx := rd45_blk HX2.out rfl; have hst := wr45_blk (cs := #[.int .i64 ((S (k + 1)).1 0), .int .i64 ((S (k + 1)).1 1), .int .i64 ((S (k + 1)).1 2), .int .i64 ((S (k + 1)).1 3), .int .i64 ((S (k + 1)).1 4), .int .i64 ((S (k + 1)).1 5), .int .i64 ((S (k + 1)).1 6), .int .i64 ((S (k + 1)).1 7), .int .i64 ((S (k + 1)).1 8), .int .i64 ((S (k + 1)).1 9), .int .i64 ((S (k + 1)).1 10), .int .i64 ((S (k + 1)).1 11), .int .i64 ((S (k + 1)).1 12), .int .i64 ((S (k + 1)).1 13), .int .i64 ((S (k + 1)).1 14), .int .i64 ((S (k + 1)).1 15), .slice none 0 0, .bool (S (k + 1)).2]) HE2.out rfl rfl (by simp [Value.oneCell']); clear hO hB hg hat)
          | (go_at_call 34; refine (HS.out wr HB.out).mono ?_; rintro e w2 ⟨rfl, hb⟩; have HO1 := Lib.hid (OwnRow.below (OwnRow.below HO.out hb) (below_alloc (Below.refl _ _) (.cells #[.int .i64 ((S (k + 1)).1 0), .int .i64 ((S (k + 1)).1 1), .int .i64 ((S (k + 1)).1 2), .int .i64 ((S (k + 1)).1 3), .int .i64 ((S (k + 1)).1 4), .int .i64 ((S (k + 1)).1 5), .int .i64 ((S (k + 1)).1 6), .int .i64 ((S (k + 1)).1 7), .int .i64 ((S (k + 1)).1 8), .int .i64 ((S (k + 1)).1 9), .int .i64 ((S (k + 1)).1 10), .int .i64 ((S (k + 1)).1 11), .int .i64 ((S (k + 1)).1 12), .int .i64 ((S (k + 1)).1 13), .int .i64 ((S (k + 1)).1 14), .int .i64 ((S (k + 1)).1 15), .slice none 0 0, .bool (S (k + 1)).2] 45))); have HB1 := Lib.hid (below_alloc (below_step HB.out hb) (.cells #[.int .i64 ((S (k + 1)).1 0), .int .i64 ((S (k + 1)).1 1), .int .i64 ((S (k + 1)).1 2), .int .i64 ((S (k + 1)).1 3), .int .i64 ((S (k + 1)).1 4), .int .i64 ((S (k + 1)).1 5), .int .i64 ((S (k + 1)).1 6), .int .i64 ((S (k + 1)).1 7), .int .i64 ((S (k + 1)).1 8), .int .i64 ((S (k + 1)).1 9), .int .i64 ((S (k + 1)).1 10), .int .i64 ((S (k + 1)).1 11), .int .i64 ((S (k + 1)).1 12), .int .i64 ((S (k + 1)).1 13), .int .i64 ((S (k + 1)).1 14), .int .i64 ((S (k + 1)).1 15), .slice none 0 0, .bool (S (k + 1)).2] 45)); have HE1 := Lib.hid (blk_alloc (blk_below HE.out hb) (.cells #[.int .i64 ((S (k + 1)).1 0), .int .i64 ((S (k + 1)).1 1), .int .i64 ((S (k + 1)).1 2), .int .i64 ((S (k + 1)).1 3), .int .i64 ((S (k + 1)).1 4), .int .i64 ((S (k + 1)).1 5), .int .i64 ((S (k + 1)).1 6), .int .i64 ((S (k + 1)).1 7), .int .i64 ((S (k + 1)).1 8), .int .i64 ((S (k + 1)).1 9), .int .i64 ((S (k + 1)).1 10), .int .i64 ((S (k + 1)).1 11), .int .i64 ((S (k + 1)).1 12), .int .i64 ((S (k + 1)).1 13), .int .i64 ((S (k + 1)).1 14), .int .i64 ((S (k + 1)).1 15), .slice none 0 0, .bool (S (k + 1)).2] 45)); have HX1 := Lib.hid (blk_new w2 (.cells #[.int .i64 ((S (k + 1)).1 0), .int .i64 ((S (k + 1)).1 1), .int .i64 ((S (k + 1)).1 2), .int .i64 ((S (k + 1)).1 3), .int .i64 ((S (k + 1)).1 4), .int .i64 ((S (k + 1)).1 5), .int .i64 ((S (k + 1)).1 6), .int .i64 ((S (k + 1)).1 7), .int .i64 ((S (k + 1)).1 8), .int .i64 ((S (k + 1)).1 9), .int .i64 ((S (k + 1)).1 10), .int .i64 ((S (k + 1)).1 11), .int .i64 ((S (k + 1)).1 12), .int .i64 ((S (k + 1)).1 13), .int .i64 ((S (k + 1)).1 14), .int .i64 ((S (k + 1)).1 15), .slice none 0 0, .bool (S (k + 1)).2] 45)); clear hb))
        have HE3 := Lib.hid (setRow_heap _ _ _ (#[.int .i64 ((S (k + 1)).1 0), .int .i64 ((S (k + 1)).1 1), .int .i64 ((S (k + 1)).1 2), .int .i64 ((S (k + 1)).1 3), .int .i64 ((S (k + 1)).1 4), .int .i64 ((S (k + 1)).1 5), .int .i64 ((S (k + 1)).1 6), .int .i64 ((S (k + 1)).1 7), .int .i64 ((S (k + 1)).1 8), .int .i64 ((S (k + 1)).1 9), .int .i64 ((S (k + 1)).1 10), .int .i64 ((S (k + 1)).1 11), .int .i64 ((S (k + 1)).1 12), .int .i64 ((S (k + 1)).1 13), .int .i64 ((S (k + 1)).1 14), .int .i64 ((S (k + 1)).1 15), .slice none 0 0, .bool (S (k + 1)).2] : Array Value) _ _ HE2.out)
        have HO3 := Lib.hid (own_setRow HO2.out HE2.out (by decide) (#[.int .i64 ((S (k + 1)).1 0), .int .i64 ((S (k + 1)).1 1), .int .i64 ((S (k + 1)).1 2), .int .i64 ((S (k + 1)).1 3), .int .i64 ((S (k + 1)).1 4), .int .i64 ((S (k + 1)).1 5), .int .i64 ((S (k + 1)).1 6), .int .i64 ((S (k + 1)).1 7), .int .i64 ((S (k + 1)).1 8), .int .i64 ((S (k + 1)).1 9), .int .i64 ((S (k + 1)).1 10), .int .i64 ((S (k + 1)).1 11), .int .i64 ((S (k + 1)).1 12), .int .i64 ((S (k + 1)).1 13), .int .i64 ((S (k + 1)).1 14), .int .i64 ((S (k + 1)).1 15), .slice none 0 0, .bool (S (k + 1)).2] : Array Value))
        go_roundg (K - (k + 1))
        case measure => omega
        case rel => exact ⟨k + 1, hkK, Nat.le_refl _, by go_num, Lib.hid (by rw [HOUT.out]; exact HO3.out), HE3, Lib.hid (below_setRow HB2.out (Nat.le_refl _) _)⟩
      | false =>
        go_wp2_with (go_at_call 34; refine (HS.out wr HB.out).mono ?_; rintro e w2 ⟨rfl, hb⟩; have HO1 := Lib.hid (OwnRow.below (OwnRow.below HO.out hb) (below_alloc (Below.refl _ _) (.cells #[.int .i64 ((S (k + 1)).1 0), .int .i64 ((S (k + 1)).1 1), .int .i64 ((S (k + 1)).1 2), .int .i64 ((S (k + 1)).1 3), .int .i64 ((S (k + 1)).1 4), .int .i64 ((S (k + 1)).1 5), .int .i64 ((S (k + 1)).1 6), .int .i64 ((S (k + 1)).1 7), .int .i64 ((S (k + 1)).1 8), .int .i64 ((S (k + 1)).1 9), .int .i64 ((S (k + 1)).1 10), .int .i64 ((S (k + 1)).1 11), .int .i64 ((S (k + 1)).1 12), .int .i64 ((S (k + 1)).1 13), .int .i64 ((S (k + 1)).1 14), .int .i64 ((S (k + 1)).1 15), .slice none 0 0, .bool (S (k + 1)).2] 45))); have HB1 := Lib.hid (below_alloc (below_step HB.out hb) (.cells #[.int .i64 ((S (k + 1)).1 0), .int .i64 ((S (k + 1)).1 1), .int .i64 ((S (k + 1)).1 2), .int .i64 ((S (k + 1)).1 3), .int .i64 ((S (k + 1)).1 4), .int .i64 ((S (k + 1)).1 5), .int .i64 ((S (k + 1)).1 6), .int .i64 ((S (k + 1)).1 7), .int .i64 ((S (k + 1)).1 8), .int .i64 ((S (k + 1)).1 9), .int .i64 ((S (k + 1)).1 10), .int .i64 ((S (k + 1)).1 11), .int .i64 ((S (k + 1)).1 12), .int .i64 ((S (k + 1)).1 13), .int .i64 ((S (k + 1)).1 14), .int .i64 ((S (k + 1)).1 15), .slice none 0 0, .bool (S (k + 1)).2] 45)); have HE1 := Lib.hid (blk_alloc (blk_below HE.out hb) (.cells #[.int .i64 ((S (k + 1)).1 0), .int .i64 ((S (k + 1)).1 1), .int .i64 ((S (k + 1)).1 2), .int .i64 ((S (k + 1)).1 3), .int .i64 ((S (k + 1)).1 4), .int .i64 ((S (k + 1)).1 5), .int .i64 ((S (k + 1)).1 6), .int .i64 ((S (k + 1)).1 7), .int .i64 ((S (k + 1)).1 8), .int .i64 ((S (k + 1)).1 9), .int .i64 ((S (k + 1)).1 10), .int .i64 ((S (k + 1)).1 11), .int .i64 ((S (k + 1)).1 12), .int .i64 ((S (k + 1)).1 13), .int .i64 ((S (k + 1)).1 14), .int .i64 ((S (k + 1)).1 15), .slice none 0 0, .bool (S (k + 1)).2] 45)); have hst := wr45_blk (cs := #[.int .i64 ((S (k + 1)).1 0), .int .i64 ((S (k + 1)).1 1), .int .i64 ((S (k + 1)).1 2), .int .i64 ((S (k + 1)).1 3), .int .i64 ((S (k + 1)).1 4), .int .i64 ((S (k + 1)).1 5), .int .i64 ((S (k + 1)).1 6), .int .i64 ((S (k + 1)).1 7), .int .i64 ((S (k + 1)).1 8), .int .i64 ((S (k + 1)).1 9), .int .i64 ((S (k + 1)).1 10), .int .i64 ((S (k + 1)).1 11), .int .i64 ((S (k + 1)).1 12), .int .i64 ((S (k + 1)).1 13), .int .i64 ((S (k + 1)).1 14), .int .i64 ((S (k + 1)).1 15), .slice none 0 0, .bool (S (k + 1)).2]) HE1.out rfl rfl (by simp [Value.oneCell']); clear hb)
        have HE3 := Lib.hid (setRow_heap _ _ _ (#[.int .i64 ((S (k + 1)).1 0), .int .i64 ((S (k + 1)).1 1), .int .i64 ((S (k + 1)).1 2), .int .i64 ((S (k + 1)).1 3), .int .i64 ((S (k + 1)).1 4), .int .i64 ((S (k + 1)).1 5), .int .i64 ((S (k + 1)).1 6), .int .i64 ((S (k + 1)).1 7), .int .i64 ((S (k + 1)).1 8), .int .i64 ((S (k + 1)).1 9), .int .i64 ((S (k + 1)).1 10), .int .i64 ((S (k + 1)).1 11), .int .i64 ((S (k + 1)).1 12), .int .i64 ((S (k + 1)).1 13), .int .i64 ((S (k + 1)).1 14), .int .i64 ((S (k + 1)).1 15), .slice none 0 0, .bool (S (k + 1)).2] : Array Value) _ _ HE1.out)
        have HO3 := Lib.hid (own_setRow HO1.out HE1.out (by decide) (#[.int .i64 ((S (k + 1)).1 0), .int .i64 ((S (k + 1)).1 1), .int .i64 ((S (k + 1)).1 2), .int .i64 ((S (k + 1)).1 3), .int .i64 ((S (k + 1)).1 4), .int .i64 ((S (k + 1)).1 5), .int .i64 ((S (k + 1)).1 6), .int .i64 ((S (k + 1)).1 7), .int .i64 ((S (k + 1)).1 8), .int .i64 ((S (k + 1)).1 9), .int .i64 ((S (k + 1)).1 10), .int .i64 ((S (k + 1)).1 11), .int .i64 ((S (k + 1)).1 12), .int .i64 ((S (k + 1)).1 13), .int .i64 ((S (k + 1)).1 14), .int .i64 ((S (k + 1)).1 15), .slice none 0 0, .bool (S (k + 1)).2] : Array Value))
        go_roundg (K - (k + 1))
        case measure => omega
        case rel => exact ⟨k + 1, hkK, Nat.le_refl _, by go_num, Lib.hid (by rw [HOUT.out]; simpa using HO3.out), HE3, Lib.hid (below_setRow HB1.out (Nat.le_refl _) _)⟩
    · have hkK' : k = K := by omega
      subst hkK'
      have q17 : wr.cell? ⟨W0.heap.size, 17, none⟩ = some (.bool (S k).2) := (blk_cell HE.out 17).trans rfl
      obtain ⟨Ax, cx, hvx, hcx, hoC⟩ : ∃ A c, Value.slice Ao (outs tb ov k).length co = .slice A (outs tb ov k).length c ∧ (outs tb ov k).length ≤ c ∧ Kd.C (Kd.int .i64) wr A (outs tb ov k).length (outs tb ov k) := ownI_C rfl HO.out
      injection hvx with hA _ hcc
      subst hA hcc
      have hz3 : (((w.alloc (.cells #[.string u, .int .i64 a.f0, .int .i64 a.f1, .int .i64 a.f2, .int .i64 a.f3] 52)).alloc (.cells #[.slice B bs.length cb, .int .i64 ((S 0).1 0), .int .i64 ((S 0).1 1), .int .i64 ((S 0).1 2), .int .i64 ((S 0).1 3), .int .i64 ((S 0).1 4), .int .i64 ((S 0).1 5), .int .i64 ((S 0).1 6), .int .i64 ((S 0).1 7), .int .i64 ((S 0).1 8), .int .i64 ((S 0).1 9), .int .i64 ((S 0).1 10), .int .i64 ((S 0).1 11), .int .i64 ((S 0).1 12), .int .i64 ((S 0).1 13), .int .i64 ((S 0).1 14), .int .i64 ((S 0).1 15), .slice none 0 0, .bool (S 0).2] 47)).alloc (.cells #[.slice none 0 0, .int .i64 0, .int .i64 0, .int .i64 0, .int .i64 0, .int .i64 0, .int .i64 0, .int .i64 0, .int .i64 0, .int .i64 0, .int .i64 0, .int .i64 0, .int .i64 0, .int .i64 0, .int .i64 0, .int .i64 0, .int .i64 0, .slice none 0 0, .bool false] 47)).heap.size = w.heap.size + 1 + 1 + 1 := by simp only [World.size_alloc]
      rw [hz3] at HCT HCB hgm0
      rcases HK.out with hKe | hKe
      · subst hKe
        go_wp2
        refine rn16 (w.heap.size + 1 + 1) gm W0.heap.size t.length c1 bs.length b1 A1 B1 u a ((S k).1 0) ((S k).1 1) ((S k).1 2) ((S k).1 3) ((S k).1 4) ((S k).1 5) ((S k).1 6) ((S k).1 7) ((S k).1 8) ((S k).1 9) ((S k).1 10) ((S k).1 11) ((S k).1 12) ((S k).1 13) ((S k).1 14) ((S k).1 15) none 0 0 (S k).2 (.slice Ao (outs tb ov k).length co) _ _ _ _ _ _ _ _ _ _ _ _ _ _ _ _ _ _ _ _ _ _ _ _ _ _ _ _ _ _ _ _ _ _ _ _ _ _ _ _ _ _ _ _ _ _ _ _ _ _ _ _ _ _ _ _ _ _ _ _ _ _ _ _ _ _ _ _ _ _ _ _ _ _ _ _ _ _ _ _ _ _ _ _ _ _ _ _ _ _ _ wr _ (blk_below EM.out HB.out) HE.out (blk_below E9.out HB.out) rfl ⟨by omega, by omega⟩ ?_
        intro r81 r82 r83 r84 r85 r86 r87 r88 r89 r90 r91 r92 r93 hX
        go_wp2
        refine bodyPost_ret (results_tcttt rfl _ _ (w.heap.size + 1 + 1) 47 _ (0, 0) _ rfl hX rfl Tryz.underlying47 (by kernel_rfl)) rfl ?_
        refine ⟨A1, c1, B1, b1, Ao, co, rfl, hc1, Kd.F_mono (Kd.F_step HCT.out (fun j hj hlt => (setRow_other _ _ j _ (by omega)).trans (HB.out.block j hlt))) (fun j hj => Nat.le_trans (by omega) hj.1), hb1, Kd.F_mono (Kd.F_step HCB.out (fun j hj hlt => (setRow_other _ _ j _ (by omega)).trans (HB.out.block j hlt))) (fun j hj => Nat.le_trans (by omega) hj.1), hco, ?_, below_setRow (below_drew1 (below_step HBW.out HB.out)) (by omega) _⟩
        obtain ⟨Ay, cy, hvy, hcy, hoC2⟩ := ownI_C rfl (own_setRow (OwnRow.below HO.out (below_drew1 (Below.refl _ _))) (blk_drew (blk_below E9.out HB.out)) (by decide) (#[.slice B1 bs.length b1, .int .i64 ((S k).1 0), .int .i64 ((S k).1 1), .int .i64 ((S k).1 2), .int .i64 ((S k).1 3), .int .i64 ((S k).1 4), .int .i64 ((S k).1 5), .int .i64 ((S k).1 6), .int .i64 ((S k).1 7), .int .i64 ((S k).1 8), .int .i64 ((S k).1 9), .int .i64 ((S k).1 10), .int .i64 ((S k).1 11), .int .i64 ((S k).1 12), .int .i64 ((S k).1 13), .int .i64 ((S k).1 14), .int .i64 ((S k).1 15), .slice none 0 0, .bool (S k).2] : Array Value))
        injection hvy with hAy _ hcy2
        subst hAy hcy2
        exact hoC2
      · by_cases hkn2 : (k : Int) < (n : Int)
        · rw [hKe] at q17
          go_wp2
          refine rn16 (w.heap.size + 1 + 1) gm W0.heap.size t.length c1 bs.length b1 A1 B1 u a ((S k).1 0) ((S k).1 1) ((S k).1 2) ((S k).1 3) ((S k).1 4) ((S k).1 5) ((S k).1 6) ((S k).1 7) ((S k).1 8) ((S k).1 9) ((S k).1 10) ((S k).1 11) ((S k).1 12) ((S k).1 13) ((S k).1 14) ((S k).1 15) none 0 0 true (.slice Ao (outs tb ov k).length co) _ _ _ _ _ _ _ _ _ _ _ _ _ _ _ _ _ _ _ _ _ _ _ _ _ _ _ _ _ _ _ _ _ _ _ _ _ _ _ _ _ _ _ _ _ _ _ _ _ _ _ _ _ _ _ _ _ _ _ _ _ _ _ _ _ _ _ _ _ _ _ _ _ _ _ _ _ _ _ _ _ _ _ _ _ _ _ _ _ _ _ wr _ (blk_below EM.out HB.out) (by have h := HE.out; rw [hKe] at h; exact h) (blk_below E9.out HB.out) rfl ⟨by omega, by omega⟩ ?_
          intro r81 r82 r83 r84 r85 r86 r87 r88 r89 r90 r91 r92 r93 hX
          go_wp2
          refine bodyPost_ret (results_tcttt rfl _ _ (w.heap.size + 1 + 1) 47 _ (0, 0) _ rfl hX rfl Tryz.underlying47 (by kernel_rfl)) rfl ?_
          rw [hKe]
          refine ⟨A1, c1, B1, b1, Ao, co, rfl, hc1, Kd.F_mono (Kd.F_step HCT.out (fun j hj hlt => (setRow_other _ _ j _ (by omega)).trans (HB.out.block j hlt))) (fun j hj => Nat.le_trans (by omega) hj.1), hb1, Kd.F_mono (Kd.F_step HCB.out (fun j hj hlt => (setRow_other _ _ j _ (by omega)).trans (HB.out.block j hlt))) (fun j hj => Nat.le_trans (by omega) hj.1), hco, ?_, below_setRow (below_drew1 (below_step HBW.out HB.out)) (by omega) _⟩
          obtain ⟨Ay, cy, hvy, hcy, hoC2⟩ := ownI_C rfl (own_setRow (OwnRow.below HO.out (below_drew1 (Below.refl _ _))) (blk_drew (blk_below E9.out HB.out)) (by decide) (#[.slice B1 bs.length b1, .int .i64 ((S k).1 0), .int .i64 ((S k).1 1), .int .i64 ((S k).1 2), .int .i64 ((S k).1 3), .int .i64 ((S k).1 4), .int .i64 ((S k).1 5), .int .i64 ((S k).1 6), .int .i64 ((S k).1 7), .int .i64 ((S k).1 8), .int .i64 ((S k).1 9), .int .i64 ((S k).1 10), .int .i64 ((S k).1 11), .int .i64 ((S k).1 12), .int .i64 ((S k).1 13), .int .i64 ((S k).1 14), .int .i64 ((S k).1 15), .slice none 0 0, .bool true] : Array Value))
          injection hvy with hAy _ hcy2
          subst hAy hcy2
          exact hoC2
        · go_wp2
          refine rn16 (w.heap.size + 1 + 1) gm W0.heap.size t.length c1 bs.length b1 A1 B1 u a ((S k).1 0) ((S k).1 1) ((S k).1 2) ((S k).1 3) ((S k).1 4) ((S k).1 5) ((S k).1 6) ((S k).1 7) ((S k).1 8) ((S k).1 9) ((S k).1 10) ((S k).1 11) ((S k).1 12) ((S k).1 13) ((S k).1 14) ((S k).1 15) none 0 0 (S k).2 (.slice Ao (outs tb ov k).length co) _ _ _ _ _ _ _ _ _ _ _ _ _ _ _ _ _ _ _ _ _ _ _ _ _ _ _ _ _ _ _ _ _ _ _ _ _ _ _ _ _ _ _ _ _ _ _ _ _ _ _ _ _ _ _ _ _ _ _ _ _ _ _ _ _ _ _ _ _ _ _ _ _ _ _ _ _ _ _ _ _ _ _ _ _ _ _ _ _ _ _ wr _ (blk_below EM.out HB.out) HE.out (blk_below E9.out HB.out) rfl ⟨by omega, by omega⟩ ?_
          intro r81 r82 r83 r84 r85 r86 r87 r88 r89 r90 r91 r92 r93 hX
          go_wp2
          refine bodyPost_ret (results_tcttt rfl _ _ (w.heap.size + 1 + 1) 47 _ (0, 0) _ rfl hX rfl Tryz.underlying47 (by kernel_rfl)) rfl ?_
          refine ⟨A1, c1, B1, b1, Ao, co, rfl, hc1, Kd.F_mono (Kd.F_step HCT.out (fun j hj hlt => (setRow_other _ _ j _ (by omega)).trans (HB.out.block j hlt))) (fun j hj => Nat.le_trans (by omega) hj.1), hb1, Kd.F_mono (Kd.F_step HCB.out (fun j hj hlt => (setRow_other _ _ j _ (by omega)).trans (HB.out.block j hlt))) (fun j hj => Nat.le_trans (by omega) hj.1), hco, ?_, below_setRow (below_drew1 (below_step HBW.out HB.out)) (by omega) _⟩
          obtain ⟨Ay, cy, hvy, hcy, hoC2⟩ := ownI_C rfl (own_setRow (OwnRow.below HO.out (below_drew1 (Below.refl _ _))) (blk_drew (blk_below E9.out HB.out)) (by decide) (#[.slice B1 bs.length b1, .int .i64 ((S k).1 0), .int .i64 ((S k).1 1), .int .i64 ((S k).1 2), .int .i64 ((S k).1 3), .int .i64 ((S k).1 4), .int .i64 ((S k).1 5), .int .i64 ((S k).1 6), .int .i64 ((S k).1 7), .int .i64 ((S k).1 8), .int .i64 ((S k).1 9), .int .i64 ((S k).1 10), .int .i64 ((S k).1 11), .int .i64 ((S k).1 12), .int .i64 ((S k).1 13), .int .i64 ((S k).1 14), .int .i64 ((S k).1 15), .slice none 0 0, .bool (S k).2] : Array Value))
          injection hvy with hAy _ hcy2
          subst hAy hcy2
          exact hoC2
def wsG : List Int := [72339069014638592, 1585267068834414592, 1008806316530991104]
theorem decG1 : PProcLimits.isa_Decode.f (wsG.getD 0 0) = some (1, 1, 0, 0) := by kernel_rfl
theorem decG2 : PProcLimits.isa_Decode.f (wsG.getD 1 0) = some (22, 0, 0, 0) := by kernel_rfl
theorem decG3 : PProcLimits.isa_Decode.f (wsG.getD 2 0) = some (14, 0, 0, 0) := by kernel_rfl
theorem mr_4 : PProcLimits.ring_MayRead.f 4 4 4 0 (mx 4 4) = some true := by kernel_rfl
def gR (off a : Int) : Nat → Int := fun i => match i with | 1 => off | 2 => 4 | 3 => a | 6 => 4 | 7 => 1 | 9 => 4 | 10 => 2 | 12 => 4 | 13 => 3 | 15 => 4 | _ => 0
def gS (a0 w : Int) (n : Nat) : (Nat → Int) × Bool := (gR ((n % 3 : Nat) : Int) (if n = 0 then a0 else w), false)
def gT (k : Nat) : Bool := decide (k % 3 = 1)
def gO (w : Int) (k : Nat) : Int := if k % 3 = 1 then w else 0
theorem g_outs (w : Int) : ∀ K, (outs gT (gO w) K).length = (K + 1) / 3
  | 0 => rfl
  | K + 1 => by
    have h := g_outs w K
    show (outs gT (gO w) K ++ _).length = _
    rw [List.length_append, h]
    by_cases hj : K % 3 = 1
    · have e : gT K = true := decide_eq_true hj
      rw [if_pos e]
      simp only [List.length_singleton]
      omega
    · have e : ¬ gT K = true := by simp [gT, hj]
      rw [if_neg e]
      simp only [List.length_nil]
      omega
theorem g_outs3 (w : Int) : outs gT (gO w) 3 = [w] := rfl
theorem g_mod (a0 w w2 : Int) (f : Nat) : gS a0 w (3 * f) = gS (if f = 0 then a0 else w) w2 0 := by
  unfold gS
  rw [show 3 * f % 3 = 0 by omega, if_pos (show (0 : Nat) = 0 from rfl)]
  by_cases hf : f = 0
  · rw [if_pos hf, if_pos (show 3 * f = 0 by omega)]
  · rw [if_neg hf, if_neg (show ¬ 3 * f = 0 by omega)]
set_option maxHeartbeats 16000000 in
set_option maxRecDepth 1000000 in
theorem gl_step (a0 x : Int) (k gm : Nat) (W0 w1 : World) (hb : Below W0.heap.size W0 w1)
    (hS : ∀ w1 : World, Below W0.heap.size W0 w1 → Calls Tryz.prog 148 #[.pointer (some ⟨gm, 0, none⟩), .int .i64 0] w1 fun e w' => ∃ A11 c11, e = .returned (.tuple #[.agg #[.slice A11 wsG.length c11, .int .i64 7, .int .i64 4, .int .i64 4, .int .i64 4, .int .i64 0], .bool true]) ∧ wsG.length ≤ c11 ∧ Kd.F (Kd.int .i64) w' (fun j => w1.heap.size < j) A11 wsG.length wsG ∧ Below w1.heap.size w1 w')
    (hS2 : ∀ w1 : World, Below W0.heap.size W0 w1 → Calls Tryz.prog 148 #[.pointer (some ⟨gm, 0, none⟩), .int .i64 1] w1 fun e w' => ∃ A11 c11, e = .returned (.tuple #[.agg #[.slice A11 ([x] : List Int).length c11, .int .i64 7, .int .i64 4, .int .i64 4, .int .i64 4, .int .i64 0], .bool true]) ∧ ([x] : List Int).length ≤ c11 ∧ Kd.F (Kd.int .i64) w' (fun j => w1.heap.size < j) A11 ([x] : List Int).length ([x] : List Int) ∧ Below w1.heap.size w1 w') :
    Calls Tryz.prog 34 #[.agg #[.int .i64 ((gS a0 x k).1 0), .int .i64 ((gS a0 x k).1 1), .int .i64 ((gS a0 x k).1 2), .int .i64 ((gS a0 x k).1 3), .int .i64 ((gS a0 x k).1 4), .int .i64 ((gS a0 x k).1 5), .int .i64 ((gS a0 x k).1 6), .int .i64 ((gS a0 x k).1 7), .int .i64 ((gS a0 x k).1 8), .int .i64 ((gS a0 x k).1 9), .int .i64 ((gS a0 x k).1 10), .int .i64 ((gS a0 x k).1 11), .int .i64 ((gS a0 x k).1 12), .int .i64 ((gS a0 x k).1 13), .int .i64 ((gS a0 x k).1 14), .int .i64 ((gS a0 x k).1 15), .slice none 0 0, .bool false], .iface 103 (.pointer (some ⟨gm, 0, none⟩))] w1 fun e w' => e = .returned (.tuple #[.agg #[.int .i64 ((gS a0 x (k + 1)).1 0), .int .i64 ((gS a0 x (k + 1)).1 1), .int .i64 ((gS a0 x (k + 1)).1 2), .int .i64 ((gS a0 x (k + 1)).1 3), .int .i64 ((gS a0 x (k + 1)).1 4), .int .i64 ((gS a0 x (k + 1)).1 5), .int .i64 ((gS a0 x (k + 1)).1 6), .int .i64 ((gS a0 x (k + 1)).1 7), .int .i64 ((gS a0 x (k + 1)).1 8), .int .i64 ((gS a0 x (k + 1)).1 9), .int .i64 ((gS a0 x (k + 1)).1 10), .int .i64 ((gS a0 x (k + 1)).1 11), .int .i64 ((gS a0 x (k + 1)).1 12), .int .i64 ((gS a0 x (k + 1)).1 13), .int .i64 ((gS a0 x (k + 1)).1 14), .int .i64 ((gS a0 x (k + 1)).1 15), .slice none 0 0, .bool (gS a0 x (k + 1)).2], .int .i64 (gO x k), .bool (gT k), .int .i64 0]) ∧ Below w1.heap.size w1 w' := by
  show Calls Tryz.prog 34 #[.agg #[.int .i64 0, .int .i64 ((k % 3 : Nat) : Int), .int .i64 4, .int .i64 (if k = 0 then a0 else x), .int .i64 0, .int .i64 0, .int .i64 4, .int .i64 1, .int .i64 0, .int .i64 4, .int .i64 2, .int .i64 0, .int .i64 4, .int .i64 3, .int .i64 0, .int .i64 4, .slice none 0 0, .bool false], .iface 103 (.pointer (some ⟨gm, 0, none⟩))] w1 fun e w' => e = .returned (.tuple #[.agg #[.int .i64 0, .int .i64 (((k + 1) % 3 : Nat) : Int), .int .i64 4, .int .i64 (if k + 1 = 0 then a0 else x), .int .i64 0, .int .i64 0, .int .i64 4, .int .i64 1, .int .i64 0, .int .i64 4, .int .i64 2, .int .i64 0, .int .i64 4, .int .i64 3, .int .i64 0, .int .i64 4, .slice none 0 0, .bool false], .int .i64 (if k % 3 = 1 then x else 0), .bool (decide (k % 3 = 1)), .int .i64 0]) ∧ Below w1.heap.size w1 w'
  rw [if_neg (show ¬ k + 1 = 0 by omega)]
  have hm : k % 3 = 0 ∨ k % 3 = 1 ∨ k % 3 = 2 := by omega
  rcases hm with hm | hm | hm
  · have hm2 : (k + 1) % 3 = 1 := by omega
    rw [hm, hm2]
    exact st_lda1 gm 0 7 4 4 4 0 0 wsG 0 4 _ 0 0 4 1 0 4 2 0 4 3 0 4 W0 w1 hb hS (by decide +kernel) me_4 (by decide) (by decide) decG1 7 4 4 4 0 x [x] 0 hS2 (by decide +kernel) (by decide +kernel) mr_4 (by simp) rfl (by simp)
  · have hm2 : (k + 1) % 3 = 2 := by omega
    rw [hm, hm2, if_neg (show ¬ k = 0 by omega)]
    exact st_out gm 1 7 4 4 4 0 0 0 wsG 0 4 x 0 0 4 1 0 4 2 0 4 3 0 4 W0 w1 hb hS (by decide +kernel) me_4 (by decide) (by decide) decG2
  · have hm2 : (k + 1) % 3 = 0 := by omega
    rw [hm, hm2, if_neg (show ¬ k = 0 by omega)]
    exact st_jmp gm 2 7 4 4 4 0 0 0 wsG 0 4 x 0 0 4 1 0 4 2 0 4 3 0 4 W0 w1 hb hS (by decide +kernel) me_4 (by decide) (by decide) decG3
set_option maxHeartbeats 16000000 in
set_option maxRecDepth 1000000 in
theorem st_ldan1 (gm o : Nat) (m r1 r2 r3 r4 nn : Int) (xs : List Int) (s0 s2 s3 s4 s5 s6 s7 s8 s9 s10 s11 s12 s13 s14 s15 : Int) (W0 w : World) (hb0 : Below W0.heap.size W0 w)
    (hS : ∀ w1 : World, Below W0.heap.size W0 w1 → Calls Tryz.prog 148 #[.pointer (some ⟨gm, 0, none⟩), .int .i64 s0] w1 fun e w' => ∃ A11 c11, e = .returned (.tuple #[.agg #[.slice A11 xs.length c11, .int .i64 m, .int .i64 r1, .int .i64 r2, .int .i64 r3, .int .i64 r4], .bool true]) ∧ xs.length ≤ c11 ∧ Kd.F (Kd.int .i64) w' (fun j => w1.heap.size < j) A11 xs.length xs ∧ Below w1.heap.size w1 w')
    (hm4 : bits .and .i64 m 4 = 4) (hme : PProcLimits.ring_MayExec.f r1 r2 r3 r4 s2 = some true) (ho : o < xs.length) (hxl : xs.length < 1000000) (hde : PProcLimits.isa_Decode.f (xs.getD o 0) = some (1, 1, nn, 0))
    (hS2 : ∀ w1 : World, Below W0.heap.size W0 w1 → Calls Tryz.prog 148 #[.pointer (some ⟨gm, 0, none⟩), .int .i64 s7] w1 fun e w' => e = .returned (.tuple #[.agg #[.slice none 0 0, .int .i64 0, .int .i64 0, .int .i64 0, .int .i64 0, .int .i64 0], .bool false]) ∧ Below w1.heap.size w1 w') :
    Calls Tryz.prog 34 #[.agg #[.int .i64 s0, .int .i64 (o : Int), .int .i64 s2, .int .i64 s3, .int .i64 s4, .int .i64 s5, .int .i64 s6, .int .i64 s7, .int .i64 s8, .int .i64 s9, .int .i64 s10, .int .i64 s11, .int .i64 s12, .int .i64 s13, .int .i64 s14, .int .i64 s15, .slice none 0 0, .bool false], .iface 103 (.pointer (some ⟨gm, 0, none⟩))] w fun e w' => e = .returned (.tuple #[.agg #[.int .i64 0, .int .i64 0, .int .i64 0, .int .i64 0, .int .i64 0, .int .i64 0, .int .i64 0, .int .i64 0, .int .i64 0, .int .i64 0, .int .i64 0, .int .i64 0, .int .i64 0, .int .i64 0, .int .i64 0, .int .i64 0, .slice none 0 0, .bool false], .int .i64 0, .bool false, .int .i64 35]) ∧ Below w.heap.size w w' := by
  refine step_f gm 1 1 nn 35 #[.int .i64 s0, .int .i64 ((o + 1 : Nat) : Int), .int .i64 s2, .int .i64 s3, .int .i64 s4, .int .i64 s5, .int .i64 s6, .int .i64 s7, .int .i64 s8, .int .i64 s9, .int .i64 s10, .int .i64 s11, .int .i64 s12, .int .i64 s13, .int .i64 s14, .int .i64 s15, .slice none 0 0, .bool false, .iface 103 (.pointer (some ⟨gm, 0, none⟩)), .bool false, .int .i64 0] s0 (o : Int) s2 s3 s4 s5 s6 s7 s8 s9 s10 s11 s12 s13 s14 s15 w (fun gr w1 hb hg hr => ?_) (fun gr w1 hb hg hr => ?_)
  · exact fetch_c gm o m r1 r2 r3 r4 1 1 nn xs gr s0 s2 s3 s4 s5 s6 s7 s8 s9 s10 s11 s12 s13 s14 s15 none 0 0 false false 0 w1 hr (fun w2 hb2 hg2 => segment_yes gm s0 m r1 r2 r3 r4 xs gr s0 (o : Int) s2 s3 s4 s5 s6 s7 s8 s9 s10 s11 s12 s13 s14 s15 none 0 0 false false 0 w2 (hg2.trans hr) (fun w3 hb3 => hS w3 (below_join (below_join (below_step hb0 hb) hb2 (Nat.le_trans hb0.size hg)) hb3 (by have h1 := hb0.size; have h2 := hb.size; have h3 := hb2.size; have h4 := blk_lt hr; have h5 := blk_lt (hg2.trans hr); omega)))) hm4 hme ho hxl hde
  · exact do_ldan1 gm nn 35 gr s0 ((o + 1 : Nat) : Int) s2 s3 s4 s5 s6 s7 s8 s9 s10 s11 s12 s13 s14 s15 none 0 0 false false 0 w1 hr (fun w2 hb2 hg2 => segment_no gm s7 gr s0 ((o + 1 : Nat) : Int) s2 s3 s4 s5 s6 s7 s8 s9 s10 s11 s12 s13 s14 s15 none 0 0 false false 0 w2 (hg2.trans hr) (fun w3 hb3 => hS2 w3 (below_join (below_join (below_step hb0 hb) hb2 (Nat.le_trans hb0.size hg)) hb3 (by have h1 := hb0.size; have h2 := hb.size; have h3 := hb2.size; have h4 := blk_lt hr; have h5 := blk_lt (hg2.trans hr); omega))))
def tP : List S50 := putN (firstT [botS]) (nPs wsG)
theorem good_a : GoodAcl 5 [⟨⟨#[97]⟩, 7⟩] := by
  refine ⟨[1], by simp, by simp, by simp [nmA], fun x hx => ?_, by simp⟩
  rw [List.mem_singleton.1 hx]; exact ⟨by decide, by decide⟩
theorem tree_p : Tree tP := by
  have h1 := put_tree tree_1 (by decide) [[112]] okp_p (by simp) (dirN ⟨#[47]⟩ botS) (by kernel_rfl) (by kernel_rfl) rfl (by kernel_rfl) (nPs wsG) (by kernel_rfl) lab_bot lab_zz good_all (by decide) (fun h => by cases h) (by show (0 : Int) ≤ 4 ∧ (4 : Int) ≤ 4 ∧ (4 : Int) ≤ 4 ∧ (4 : Int) < 8 ∧ (0 : Int) ≤ 0 ∧ (0 : Int) < 17; decide) (by show lover botS botS = true; decide +kernel) (fun _ => rfl)
  exact h1.1
theorem drop_d (ds : List Int) (acl : List S96) : (tS wsG ds acl).filter (keepN ⟨#[47, 100]⟩) = tP := by kernel_rfl
theorem see_pp : seeR tP botS [] [[112]] = (nPs wsG, 0) := by kernel_rfl
theorem may_pp1 : mayR tP botS uA [[112]] 1 = (nPs wsG, 0) := by kernel_rfl
theorem may_pp2 : mayR tP botS uA [[112]] 2 = (nPs wsG, 0) := by kernel_rfl
theorem may_pp4 : mayR tP botS uA [[112]] 4 = (nPs wsG, 0) := by kernel_rfl
theorem see_pd : decide ((seeR tP botS [] [[100]]).2 = 0) = false := by kernel_rfl
theorem no_rootp : isN tP ⟨#[]⟩ = false := by kernel_rfl
theorem mo_pp  : moA (fun md => (mayR tP botS uA [[112]] md).2) 3 = 7 := by
  show (if (mayR tP botS uA [[112]] 4).2 = 0 then bits .or .i64 (if (mayR tP botS uA [[112]] 2).2 = 0 then bits .or .i64 (if (mayR tP botS uA [[112]] 1).2 = 0 then bits .or .i64 0 1 else 0) 2 else (if (mayR tP botS uA [[112]] 1).2 = 0 then bits .or .i64 0 1 else 0)) 4 else _) = 7
  rw [may_pp1, may_pp2, may_pp4]
  kernel_rfl
theorem may_d1 (ws ds : List Int) : mayR (tS ws ds allG) botS uA [[100]] 1 = (nDs ds allG, 0) := by kernel_rfl
theorem may_d2 (ws ds : List Int) : mayR (tS ws ds allG) botS uA [[100]] 2 = (nDs ds allG, 0) := by kernel_rfl
theorem may_d4 (ws ds : List Int) : mayR (tS ws ds allG) botS uA [[100]] 4 = (nDs ds allG, 0) := by kernel_rfl
theorem may_a1 (ws ds : List Int) : mayR (tS ws ds [⟨⟨#[97]⟩, 7⟩]) botS uA [[100]] 1 = (nDs ds [⟨⟨#[97]⟩, 7⟩], 0) := by kernel_rfl
theorem may_a2 (ws ds : List Int) : mayR (tS ws ds [⟨⟨#[97]⟩, 7⟩]) botS uA [[100]] 2 = (nDs ds [⟨⟨#[97]⟩, 7⟩], 0) := by kernel_rfl
theorem may_a4 (ws ds : List Int) : mayR (tS ws ds [⟨⟨#[97]⟩, 7⟩]) botS uA [[100]] 4 = (nDs ds [⟨⟨#[97]⟩, 7⟩], 0) := by kernel_rfl
theorem mo_d (ws ds : List Int) : moA (fun md => (mayR (tS ws ds allG) botS uA [[100]] md).2) 3 = 7 := by
  show (if (mayR (tS ws ds allG) botS uA [[100]] 4).2 = 0 then bits .or .i64 (if (mayR (tS ws ds allG) botS uA [[100]] 2).2 = 0 then bits .or .i64 (if (mayR (tS ws ds allG) botS uA [[100]] 1).2 = 0 then bits .or .i64 0 1 else 0) 2 else (if (mayR (tS ws ds allG) botS uA [[100]] 1).2 = 0 then bits .or .i64 0 1 else 0)) 4 else _) = 7
  rw [may_d1, may_d2, may_d4]
  kernel_rfl
theorem mo_a (ws ds : List Int) : moA (fun md => (mayR (tS ws ds [⟨⟨#[97]⟩, 7⟩]) botS uA [[100]] md).2) 3 = 7 := by
  show (if (mayR (tS ws ds [⟨⟨#[97]⟩, 7⟩]) botS uA [[100]] 4).2 = 0 then bits .or .i64 (if (mayR (tS ws ds [⟨⟨#[97]⟩, 7⟩]) botS uA [[100]] 2).2 = 0 then bits .or .i64 (if (mayR (tS ws ds [⟨⟨#[97]⟩, 7⟩]) botS uA [[100]] 1).2 = 0 then bits .or .i64 0 1 else 0) 2 else (if (mayR (tS ws ds [⟨⟨#[97]⟩, 7⟩]) botS uA [[100]] 1).2 = 0 then bits .or .i64 0 1 else 0)) 4 else _) = 7
  rw [may_a1, may_a2, may_a4]
  kernel_rfl
/-- What is kept of a tree with a program and a word. -/
structure SimG (t : List S50) (x : Int) (acl : List S96) : Prop where
  T : Tree t
  see : seeR t botS [] [[112]] = (nPs wsG, 0)
  mo : moA (fun md => (mayR t botS uA [[112]] md).2) 3 = 7
  seed : seeR t botS [] [[100]] = (nDs [x] acl, 0)
  mod : moA (fun md => (mayR t botS uA [[100]] md).2) 3 = 7
  no : isN t ⟨#[]⟩ = false
  may : mayR t botS uA [[112]] 4 = (nPs wsG, 0)
  mayd : mayR t botS uA [[100]] 1 = (nDs [x] acl, 0)
  drop : t.filter (keepN ⟨#[47, 100]⟩) = tP
  len : t.length ≤ 1000
theorem sim_d (x : Int) : SimG (tS wsG [x] allG) x allG := ⟨tree_s _ _ _ (by simp [wsG]) (by simp) good_all, see_p _ _ _, mo_p _ _ _, see_d _ _ _, mo_d _ _, no_root _ _ _, may_p4 _ _ _, may_d1 _ _, drop_d _ _, by have := (tree_s wsG [x] allG (by simp [wsG]) (by simp) good_all).len; omega⟩
theorem sim_a (x : Int) : SimG (tS wsG [x] [⟨⟨#[97]⟩, 7⟩]) x [⟨⟨#[97]⟩, 7⟩] := ⟨tree_s _ _ _ (by simp [wsG]) (by simp) good_a, see_p _ _ _, mo_p _ _ _, see_d _ _ _, mo_a _ _, no_root _ _ _, may_p4 _ _ _, may_a1 _ _, drop_d _ _, by have := (tree_s wsG [x] [⟨⟨#[97]⟩, 7⟩] (by simp [wsG]) (by simp) good_a).len; omega⟩
/-- What is kept of the tree without the word. -/
structure SimP (t : List S50) : Prop where
  T : Tree t
  see : seeR t botS [] [[112]] = (nPs wsG, 0)
  mo : moA (fun md => (mayR t botS uA [[112]] md).2) 3 = 7
  seed : (seeR t botS [] [[100]]).2 ≠ 0
  no : isN t ⟨#[]⟩ = false
theorem sim_pp : SimP tP := ⟨tree_p, see_pp, mo_pp, of_decide_eq_false see_pd, no_rootp⟩
theorem dropC (l : List S50) (p : ByteArray) (A : Option Addr) (c : Nat) (w : World) (hC : Kd.C k50 w A l.length l) (hc : l.length ≤ c) (hn : l.length ≤ 1000) (l2 : List S50) (hl2 : l.filter (keepN p) = l2) :
    Calls Tryz.prog 23 #[.slice A l.length c, .string p] w fun e w' => ∃ A' c', e = .returned (.slice A' l2.length c') ∧ l2.length ≤ c' ∧ Kd.C k50 w' A' l2.length l2 ∧ Below w.heap.size w w' := by
  subst hl2
  refine (drop_c l p A c w w hC (Below.refl _ _) hc hn).mono ?_
  rintro e w' ⟨v, rfl, hO, hb⟩
  obtain ⟨A', c', rfl, hc', hr⟩ := OwnRow.reads hO
  exact ⟨A', c', rfl, hc', C50_of' hr hb, hb⟩
theorem nd_K {W : World} {a b : Nat} (x : Int) (ha : W.heap[a]? = some (.cells #[.string (⟨#[97]⟩ : ByteArray), .int .i64 7] 85 (0, 0))) (hg : W.heap[b]? = some (.cells #[.int .i64 x] 2 (0, 0))) : k50.K W (nDs [x] [⟨⟨#[97]⟩, 7⟩]) [.string (⟨#[47, 100]⟩ : ByteArray), .bool false, .int .i64 0, .int .i64 0, .int .i64 3, .int .i64 255, .slice (some ⟨a, 0, none⟩) 1 1, .int .i64 4, .int .i64 4, .int .i64 4, .int .i64 0, .slice (some ⟨b, 0, none⟩) 1 1, .int .i64 0, .int .i64 0, .int .i64 0, .int .i64 0] :=
  k50_mk W (nDs [x] [⟨⟨#[97]⟩, 7⟩]) (A6 := some ⟨a, 0, none⟩) (c6 := 1) (Nat.le_refl _) (grantC ha) (A11 := some ⟨b, 0, none⟩) (c11 := 1) (Nat.le_refl _) (cellsC (d := Kd.int .i64) (x := x) (cs := [.int .i64 x]) hg rfl rfl)
end Go.Proofs.YteilkbookcmndaaGreatDoor.C
end
