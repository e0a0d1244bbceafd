/- Texts that the claim's law stands on, cut down to what it reaches. -/
import Derived.Test.YteilkbookcmndaaGreatDoorKY1
import Derived.Deep.RegionHeldLaw
import Derived.Deep.RegionHeld3
import Derived.Deep.LoopGhost
set_option linter.unusedVariables false
set_option linter.unusedSimpArgs false
section
namespace Go.Proofs.YteilkbookcmndaaGreatDoor.C
open Go.RowKit Go.Proofs.YteilkbookcmndaaGreatDoor.Q Go.Proofs.YteilkbookcmndaaGreatDoorW.PrintWords Go.Proofs.YteilkbookcmndaaGreatDoorW.PrintLast Go.Proofs.YteilkbookcmndaaGreatDoorW.PrintMore
attribute [local go_sem ↓] rd_at50 wr_at50 al_at50
attribute [local go_sem] rd50_new wr50_new al50
attribute [local go_sem ↓] rd_at45 wr_at45 rd_at150 wr_at150 rd_at47b wr_at47b rd_at77 wr_at77
attribute [local go_sem] rd45_new wr45_new rd150_new wr150_new wr47b_new wr77_new
attribute [local go_sem] max_two
set_option maxHeartbeats 16000000 in
set_option maxRecDepth 1000000 in
theorem make_bad (tn c cb K : Nat) (A B : Option Addr) (u : ByteArray) (a : S41) (bs : List ByteArray) (nd : Nat → S50) (ke : Nat → Int) (w : World) (hb1 : 1 ≤ bs.length) (hb4 : bs.length ≤ 4) (hcb : bs.length ≤ cb) (hC : Kd.C Kd.string w B bs.length bs) (hok : ∀ i, i < K → ke i = 0 ∧ (nd i).f1 = false) (hK : K < bs.length) (hne : ke K ≠ 0)
  (hM : ∀ i, i ≤ K → i < bs.length → ∀ w1 : World, Below w.heap.size w w1 → Calls Tryz.prog 19 #[.slice A tn c, .agg #[.string u, .int .i64 a.f0, .int .i64 a.f1, .int .i64 a.f2, .int .i64 a.f3], .string (bs.getD i ⟨#[]⟩), .int .i64 (if i = 0 then 4 else 1)] w1 fun e w' => ∃ A6 c6 A11 c11, e = .returned (.tuple #[.agg #[.string (nd i).f0, .bool (nd i).f1, .int .i64 (nd i).f2.f0, .int .i64 (nd i).f2.f1, .int .i64 (nd i).f2.f2, .int .i64 (nd i).f2.f3, .slice A6 (nd i).f3.length c6, .int .i64 (nd i).f4.f0, .int .i64 (nd i).f4.f1, .int .i64 (nd i).f4.f2, .int .i64 (nd i).f4.f3, .slice A11 (nd i).f5.length c11, .int .i64 (nd i).f6.f0, .int .i64 (nd i).f6.f1, .int .i64 (nd i).f6.f2, .int .i64 (nd i).f6.f3], .int .i64 (ke i)]) ∧ Below w1.heap.size w1 w') :
  Calls Tryz.prog 12 #[.slice A tn c, .agg #[.string u, .int .i64 a.f0, .int .i64 a.f1, .int .i64 a.f2, .int .i64 a.f3], .slice B bs.length cb] w fun e w' => e = .returned (.tuple #[.agg #[.slice none 0 0, .int .i64 0, .int .i64 0, .int .i64 0, .int .i64 0, .int .i64 0, .int .i64 0, .int .i64 0, .int .i64 0, .int .i64 0, .int .i64 0, .int .i64 0, .int .i64 0, .int .i64 0, .int .i64 0, .int .i64 0, .int .i64 0, .slice none 0 0, .bool false], .int .i64 (ke K)]) ∧ Below w.heap.size w w' := by
 have HC := Lib.hid hC
 have HM := Lib.hid hM
 have HOK := Lib.hid hok
 have HNE := Lib.hid hne
 clear hC hM hok hne
 have hbi1 : ¬ ((bs.length : Int) < 1) := by omega
 have hbi4 : ¬ (4 < (bs.length : Int)) := by omega
 have HB0 := Lib.hid (below_alloc (below_alloc (Below.refl w.heap.size w) (.cells #[.string u, .int .i64 a.f0, .int .i64 a.f1, .int .i64 a.f2, .int .i64 a.f3] 52)) (.cells #[.slice none 0 0, .int .i64 0, .int .i64 0, .int .i64 0, .int .i64 0, .int .i64 0, .int .i64 0, .int .i64 0, .int .i64 0, .int .i64 0, .int .i64 0, .int .i64 0, .int .i64 0, .int .i64 0, .int .i64 0, .int .i64 0, .int .i64 0, .slice none 0 0, .bool false] 47))
 have ES := Lib.hid (blk_alloc (blk_new w (.cells #[.string u, .int .i64 a.f0, .int .i64 a.f1, .int .i64 a.f2, .int .i64 a.f3] 52)) (.cells #[.slice none 0 0, .int .i64 0, .int .i64 0, .int .i64 0, .int .i64 0, .int .i64 0, .int .i64 0, .int .i64 0, .int .i64 0, .int .i64 0, .int .i64 0, .int .i64 0, .int .i64 0, .int .i64 0, .int .i64 0, .int .i64 0, .int .i64 0, .slice none 0 0, .bool false] 47))
 have E6 := Lib.hid (show ((w.alloc (.cells #[.string u, .int .i64 a.f0, .int .i64 a.f1, .int .i64 a.f2, .int .i64 a.f3] 52)).alloc (.cells #[.slice none 0 0, .int .i64 0, .int .i64 0, .int .i64 0, .int .i64 0, .int .i64 0, .int .i64 0, .int .i64 0, .int .i64 0, .int .i64 0, .int .i64 0, .int .i64 0, .int .i64 0, .int .i64 0, .int .i64 0, .int .i64 0, .int .i64 0, .slice none 0 0, .bool false] 47)).heap[w.heap.size + 1]? = some (.cells #[.slice none 0 0, .int .i64 0, .int .i64 0, .int .i64 0, .int .i64 0, .int .i64 0, .int .i64 0, .int .i64 0, .int .i64 0, .int .i64 0, .int .i64 0, .int .i64 0, .int .i64 0, .int .i64 0, .int .i64 0, .int .i64 0, .int .i64 0, .slice none 0 0, .bool false] 47) from by have h := blk_new (w.alloc (.cells #[.string u, .int .i64 a.f0, .int .i64 a.f1, .int .i64 a.f2, .int .i64 a.f3] 52)) (.cells #[.slice none 0 0, .int .i64 0, .int .i64 0, .int .i64 0, .int .i64 0, .int .i64 0, .int .i64 0, .int .i64 0, .int .i64 0, .int .i64 0, .int .i64 0, .int .i64 0, .int .i64 0, .int .i64 0, .int .i64 0, .int .i64 0, .int .i64 0, .slice none 0 0, .bool false] 47); simp only [World.size_alloc] at h; exact h)
 obtain ⟨V, hV⟩ : ∃ V, V = (w.alloc (.cells #[.string u, .int .i64 a.f0, .int .i64 a.f1, .int .i64 a.f2, .int .i64 a.f3] 52)).alloc (.cells #[.slice none 0 0, .int .i64 0, .int .i64 0, .int .i64 0, .int .i64 0, .int .i64 0, .int .i64 0, .int .i64 0, .int .i64 0, .int .i64 0, .int .i64 0, .int .i64 0, .int .i64 0, .int .i64 0, .int .i64 0, .int .i64 0, .int .i64 0, .slice none 0 0, .bool false] 47) := ⟨_, rfl⟩
 go_enter Tryz.func12, Tryz.ntmps12
 go_wp2
 rw [← hV] at HB0 ES E6 ⊢
 have HV6 := blk_lt E6.out
 clear hV
 go_loopg [8, 24] (K + 1) (fun kk s8 s24 wr => ∃ i : Nat, i ≤ K ∧ K + 1 - i ≤ kk ∧ s24 = .int .i64 (i : Int) ∧ s8 = .int .i64 (if i = 0 then 4 else 1) ∧ Hid (Below V.heap.size V wr))
 case atStart => exact ⟨0, Nat.zero_le _, Nat.le_refl _, rfl, rfl, Lib.hid (Below.refl _ _)⟩
 case round =>
  obtain ⟨i, hi, hik, rfl, rfl, HB⟩ := hrel
  have HBw := Lib.hid (below_step HB0.out HB.out)
  have ESr := Lib.hid (blk_below ES.out HB.out)
  have g0 := (blk_cell ESr.out 0).trans rfl
  have g1 := (blk_cell ESr.out 1).trans rfl
  have g2 := (blk_cell ESr.out 2).trans rfl
  have g3 := (blk_cell ESr.out 3).trans rfl
  have g4 := (blk_cell ESr.out 4).trans rfl
  by_cases hlt : i < K
  ·have hok1 := (HOK.out i hlt).1
   have hok2 := (HOK.out i hlt).2
   have hil : i < bs.length := by omega
   have hli : (i : Int) < (bs.length : Int) := by omega
   obtain ⟨bd, hB, hbc⟩ := str_get (Kd.C_below HC.out HBw.out) i hil
   subst hB
   have HMi := Lib.hid (HM.out i hi hil wr HBw.out)
   generalize (if i = 0 then (4 : Int) else 1) = md at HMi ⊢
   generalize bs.getD i ⟨#[]⟩ = p at hbc HMi
   go_wp2_with (go_at_call 19; refine (HMi.out).mono ?_; rintro e w2 ⟨A6, c6, A11, c11, he, hb⟩; rw [hok1, hok2] at he; subst he; have HB2 := Lib.hid (below_alloc (below_step HB.out hb) (.cells #[.string (nd i).f0, .bool false, .int .i64 (nd i).f2.f0, .int .i64 (nd i).f2.f1, .int .i64 (nd i).f2.f2, .int .i64 (nd i).f2.f3, .slice A6 (nd i).f3.length c6, .int .i64 (nd i).f4.f0, .int .i64 (nd i).f4.f1, .int .i64 (nd i).f4.f2, .int .i64 (nd i).f4.f3, .slice A11 (nd i).f5.length c11, .int .i64 (nd i).f6.f0, .int .i64 (nd i).f6.f1, .int .i64 (nd i).f6.f2, .int .i64 (nd i).f6.f3] 36)); clear hb)
   go_roundg (K + 1 - (i + 1))
   case measure => omega
   case rel => exact ⟨i + 1, hlt, Nat.le_refl _, by go_num, by rw [if_neg (by omega)], HB2⟩
  ·have hik2 : i = K := by omega
   subst hik2
   have hil : i < bs.length := by omega
   have hli : (i : Int) < (bs.length : Int) := by omega
   obtain ⟨bd, hB, hbc⟩ := str_get (Kd.C_below HC.out HBw.out) i hil
   subst hB
   have HMi := Lib.hid (HM.out i hi hil wr HBw.out)
   generalize (if i = 0 then (4 : Int) else 1) = md at HMi ⊢
   generalize bs.getD i ⟨#[]⟩ = p at hbc HMi
   have hne := HNE.out
   clear HNE
   obtain ⟨x, hx⟩ : ∃ x, ke i = x := ⟨_, rfl⟩
   have HXE := Lib.hid hx
   rw [hx] at hne HMi
   clear hx
   have hx0 : ¬ x = 0 := hne
   go_wp2_with (go_at_call 19; refine (HMi.out).mono ?_; rintro e w2 ⟨A6, c6, A11, c11, rfl, hb⟩; have HB2 := Lib.hid (below_alloc (below_step HB.out hb) (.cells #[.string (nd i).f0, .bool (nd i).f1, .int .i64 (nd i).f2.f0, .int .i64 (nd i).f2.f1, .int .i64 (nd i).f2.f2, .int .i64 (nd i).f2.f3, .slice A6 (nd i).f3.length c6, .int .i64 (nd i).f4.f0, .int .i64 (nd i).f4.f1, .int .i64 (nd i).f4.f2, .int .i64 (nd i).f4.f3, .slice A11 (nd i).f5.length c11, .int .i64 (nd i).f6.f0, .int .i64 (nd i).f6.f1, .int .i64 (nd i).f6.f2, .int .i64 (nd i).f6.f3] 36)); have E6 := Lib.hid (blk_below E6.out HB2.out); have hst := wr47b_blk (cs := #[.slice none 0 0, .int .i64 0, .int .i64 0, .int .i64 0, .int .i64 0, .int .i64 0, .int .i64 0, .int .i64 0, .int .i64 0, .int .i64 0, .int .i64 0, .int .i64 0, .int .i64 0, .int .i64 0, .int .i64 0, .int .i64 0, .int .i64 0, .slice none 0 0, .bool false]) E6.out rfl rfl (by simp [Value.oneCell']); clear hb)
   have hX := setRow_heap _ _ _ (#[.slice none 0 0, .int .i64 0, .int .i64 0, .int .i64 0, .int .i64 0, .int .i64 0, .int .i64 0, .int .i64 0, .int .i64 0, .int .i64 0, .int .i64 0, .int .i64 0, .int .i64 0, .int .i64 0, .int .i64 0, .int .i64 0, .int .i64 0, .slice none 0 0, .bool false] : Array Value) _ _ E6.out
   refine bodyPost_ret (results_ct rfl _ _ (w.heap.size + 1) 47 _ (0, 0) _ rfl hX Tryz.underlying47 rfl (by kernel_rfl)) rfl ?_
   have hV6 := HV6
   exact ⟨by rw [HXE.out]; rfl, below_setRow (below_step HB0.out HB2.out) (by omega) _⟩
end Go.Proofs.YteilkbookcmndaaGreatDoor.C
end
