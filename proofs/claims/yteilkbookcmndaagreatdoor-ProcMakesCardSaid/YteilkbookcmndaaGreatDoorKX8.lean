/- Texts that the claim's law stands on, cut down to what it reaches. -/
import Derived.Test.YteilkbookcmndaaGreatDoorKX5
import Derived.Deep.RegionHeldLaw
import Derived.Deep.RegionHeld3
import Derived.Deep.LoopGhost
import Derived.Recover
import Derived.Defers
set_option linter.unusedVariables false
set_option linter.unusedSimpArgs false
section
namespace Go.Proofs.YteilkbookcmndaaGreatDoor.C
open Go.RowKit Go.Proofs.YteilkbookcmndaaGreatDoor.Q Go.Proofs.YteilkbookcmndaaGreatDoorW.PrintWords Go.Proofs.YteilkbookcmndaaGreatDoorW.PrintLast Go.Proofs.YteilkbookcmndaaGreatDoorW.PrintMore
attribute [local go_sem ↓] rd_at50 wr_at50 al_at50
attribute [local go_sem] rd50_new wr50_new al50
attribute [local go_sem ↓] rd_at45 wr_at45 rd_at150 wr_at150 rd_at47b wr_at47b rd_at77 wr_at77
attribute [local go_sem] rd45_new wr45_new rd150_new wr150_new wr47b_new wr77_new
theorem clone33_nil (w : World) : Calls Tryz.prog 33 #[.slice none 0 0] w fun e w' => e = .returned (.slice none 0 0) ∧ w' = w := by
 have q22 : ∀ (w : World) (a : Option Addr) (n c n' c' : Nat), (binOp .eql 43 (.slice a n c) (.slice none n' c')).run Tryz.prog w = .ok (.bool a.isNone) w := fun w a n c n' c' => Lib.run_eql_slice_nil w _ _ a n c n' c' Tryz.underlying43
 go_enter Tryz.func33, Tryz.ntmps33
 go_wp2
 go_ret
 exact ⟨rfl, rfl⟩
set_option maxHeartbeats 2000000 in
set_option maxRecDepth 100000 in
theorem clone28 (xs : List ByteArray) (A : Option Addr) (c : Nat) (w : World) (hC : Kd.C Kd.string w A xs.length xs) (hbig : xs.length * 16 ≤ 140737488355328) :
  Calls Tryz.prog 28 #[.slice A xs.length c] w (ClonedC Kd.string w xs) := by
 have q22 : ∀ (w : World) (a : Option Addr) (n c n' c' : Nat), (binOp .eql 39 (.slice a n c) (.slice none n' c')).run Tryz.prog w = .ok (.bool a.isNone) w := fun w a n c n' c' => Lib.run_eql_slice_nil w _ _ a n c n' c' Tryz.underlying39
 have hz := Tryz.zeroValue9
 have u22 : ∀ w, Sem.run Tryz.prog (underlying 39) w = .ok (TypeDesc.slice 9) w := run_underlying Tryz.underlying39
 have hinfo : (Tryz.prog.info? 9).map (fun i => (i.zero, i.size, i.bytes)) = some (some (.string (⟨#[]⟩ : ByteArray)), 1, 16) := by kernel_rfl
 cases A with
 | none =>
  have h0 : xs = [] := by
   cases xs with
   | nil => rfl
   | cons x l => obtain ⟨ad, h, _⟩ := hC.2.2 (Nat.succ_pos _); cases h
  subst h0
  go_enter Tryz.func28, Tryz.ntmps28
  go_wp2
  go_ret
  exact ⟨_, _, rfl, Nat.le_refl _, fun _ _ => C_nil _ _ _, Below.refl _ _⟩
 | some ad =>
  obtain ⟨news, hr, hc⟩ := ReadsRow.inner_ hC
  have H1 := Lib.hid (fun u hu => Reps_one (d := Kd.string) hr u hu : ∀ u ∈ news, u.oneCell' = true)
  have HC := Lib.hid hc
  have HR := Lib.hid hr
  have hlen : news.length = xs.length * 1 := hr.1
  have hmax := hC.2.1
  clear hc hr hC
  obtain ⟨i0, hi0, hv⟩ := Option.map_eq_some_iff.1 hinfo
  clear hinfo
  obtain ⟨hz0, hz1, hz2⟩ : i0.zero = some (.string (⟨#[]⟩ : ByteArray)) ∧ i0.size = 1 ∧ i0.bytes = 16 := by simpa using hv
  clear hv
  go_enter Tryz.func28, Tryz.ntmps28
  go_wp2_with (at_builtin; refine wpList_append_own _ rfl _ _ 39 rfl w.heap.size 9 i0 (.string (⟨#[]⟩ : ByteArray)) 1 16 Tryz.underlying39 hi0 hz0 hz1 hz2 rfl (by decide) _ _ _ rfl (World.ownsRow_made w #[] 0 (Nat.le_refl _) (Nat.zero_le _) (by simp)) ad xs.length c news rfl ?qc1 ?qc2 ?qc3 ?qc4 ?qc5 ?qc6 ?_)
  case qc1 => exact hlen
  case qc2 =>
   intro j u hj
   exact Lib.cell?_alloc_some _ (HC.out j u hj)
  case qc3 => exact H1.out
  case qc4 => rw [Nat.zero_add]; exact hmax
  case qc5 => rw [Nat.zero_add]; exact hbig
  case qc6 => simp
  intro v' w1 hown hgrow hnil
  go_wp2
  go_ret
  have hb : Below w.heap.size w w1 := ((Below.refl _ w).alloc (Nat.le_refl _) _).grown hgrow (by simp) (by intro k hk; simp [Value.ownBlock] at hk; omega)
  have hO : OwnRow (Kd.string.M w1 w.heap.size (fun k => w.heap.size ≤ k ∧ some k ≠ v'.ownBlock)) 9 1 w1 w.heap.size v' xs := ⟨news, by simpa using hown, HR.out.imp_ fun _ _ h => h⟩
  have hR : Kd.string.R 9 w1 w.heap.size (fun k => w.heap.size ≤ k) v' xs := ⟨own_base hO.choose_spec.1, hO⟩
  obtain ⟨A', c', rfl, hle, _⟩ := OwnRow.reads hO
  exact ⟨A', c', rfl, hle, Kd.R_F hR, hb⟩
def newC : Nat → Array Value
 | 0 => #[.int .i64 0, .int .i64 0, .int .i64 4, .int .i64 0, .int .i64 0, .int .i64 0, .int .i64 0, .int .i64 0, .int .i64 0, .int .i64 0, .int .i64 0, .int .i64 0, .int .i64 0, .int .i64 0, .int .i64 0, .int .i64 0, .slice none 0 0, .bool false]
 | 1 => #[.int .i64 0, .int .i64 0, .int .i64 4, .int .i64 0, .int .i64 0, .int .i64 0, .int .i64 4, .int .i64 0, .int .i64 0, .int .i64 0, .int .i64 0, .int .i64 0, .int .i64 0, .int .i64 0, .int .i64 0, .int .i64 0, .slice none 0 0, .bool false]
 | 2 => #[.int .i64 0, .int .i64 0, .int .i64 4, .int .i64 0, .int .i64 0, .int .i64 0, .int .i64 4, .int .i64 1, .int .i64 0, .int .i64 4, .int .i64 0, .int .i64 0, .int .i64 0, .int .i64 0, .int .i64 0, .int .i64 0, .slice none 0 0, .bool false]
 | 3 => #[.int .i64 0, .int .i64 0, .int .i64 4, .int .i64 0, .int .i64 0, .int .i64 0, .int .i64 4, .int .i64 1, .int .i64 0, .int .i64 4, .int .i64 2, .int .i64 0, .int .i64 4, .int .i64 0, .int .i64 0, .int .i64 0, .slice none 0 0, .bool false]
 | _ => #[.int .i64 0, .int .i64 0, .int .i64 4, .int .i64 0, .int .i64 0, .int .i64 0, .int .i64 4, .int .i64 1, .int .i64 0, .int .i64 4, .int .i64 2, .int .i64 0, .int .i64 4, .int .i64 3, .int .i64 0, .int .i64 4, .slice none 0 0, .bool false]
set_option maxHeartbeats 16000000 in
set_option maxRecDepth 1000000 in
theorem new_c (w : World) : Calls Tryz.prog 29 #[] w fun e w' => e = .returned (.agg #[.int .i64 0, .int .i64 0, .int .i64 4, .int .i64 0, .int .i64 0, .int .i64 0, .int .i64 4, .int .i64 1, .int .i64 0, .int .i64 4, .int .i64 2, .int .i64 0, .int .i64 4, .int .i64 3, .int .i64 0, .int .i64 4, .slice none 0 0, .bool false]) ∧ Below w.heap.size w w' := by
 have HB0 := Lib.hid (below_alloc (below_alloc (Below.refl w.heap.size w) (.cells #[.int .i64 0, .int .i64 0, .int .i64 0, .int .i64 0, .int .i64 0, .int .i64 0, .int .i64 0, .int .i64 0, .int .i64 0, .int .i64 0, .int .i64 0, .int .i64 0, .int .i64 0, .int .i64 0, .int .i64 0, .int .i64 0, .slice none 0 0, .bool false] 45)) (.cells #[.int .i64 0, .int .i64 0, .int .i64 0, .int .i64 0, .int .i64 0, .int .i64 0, .int .i64 0, .int .i64 0, .int .i64 0, .int .i64 0, .int .i64 0, .int .i64 0, .int .i64 0, .int .i64 0, .int .i64 0, .int .i64 0, .slice none 0 0, .bool false] 45))
 have E0 := Lib.hid (blk_alloc (blk_new w (.cells #[.int .i64 0, .int .i64 0, .int .i64 0, .int .i64 0, .int .i64 0, .int .i64 0, .int .i64 0, .int .i64 0, .int .i64 0, .int .i64 0, .int .i64 0, .int .i64 0, .int .i64 0, .int .i64 0, .int .i64 0, .int .i64 0, .slice none 0 0, .bool false] 45)) (.cells #[.int .i64 0, .int .i64 0, .int .i64 0, .int .i64 0, .int .i64 0, .int .i64 0, .int .i64 0, .int .i64 0, .int .i64 0, .int .i64 0, .int .i64 0, .int .i64 0, .int .i64 0, .int .i64 0, .int .i64 0, .int .i64 0, .slice none 0 0, .bool false] 45))
 have E1 := Lib.hid (show ((w.alloc (.cells #[.int .i64 0, .int .i64 0, .int .i64 0, .int .i64 0, .int .i64 0, .int .i64 0, .int .i64 0, .int .i64 0, .int .i64 0, .int .i64 0, .int .i64 0, .int .i64 0, .int .i64 0, .int .i64 0, .int .i64 0, .int .i64 0, .slice none 0 0, .bool false] 45)).alloc (.cells #[.int .i64 0, .int .i64 0, .int .i64 0, .int .i64 0, .int .i64 0, .int .i64 0, .int .i64 0, .int .i64 0, .int .i64 0, .int .i64 0, .int .i64 0, .int .i64 0, .int .i64 0, .int .i64 0, .int .i64 0, .int .i64 0, .slice none 0 0, .bool false] 45)).heap[w.heap.size + 1]? = some (.cells #[.int .i64 0, .int .i64 0, .int .i64 0, .int .i64 0, .int .i64 0, .int .i64 0, .int .i64 0, .int .i64 0, .int .i64 0, .int .i64 0, .int .i64 0, .int .i64 0, .int .i64 0, .int .i64 0, .int .i64 0, .int .i64 0, .slice none 0 0, .bool false] 45) by have := blk_new (w.alloc (.cells #[.int .i64 0, .int .i64 0, .int .i64 0, .int .i64 0, .int .i64 0, .int .i64 0, .int .i64 0, .int .i64 0, .int .i64 0, .int .i64 0, .int .i64 0, .int .i64 0, .int .i64 0, .int .i64 0, .int .i64 0, .int .i64 0, .slice none 0 0, .bool false] 45)) (.cells #[.int .i64 0, .int .i64 0, .int .i64 0, .int .i64 0, .int .i64 0, .int .i64 0, .int .i64 0, .int .i64 0, .int .i64 0, .int .i64 0, .int .i64 0, .int .i64 0, .int .i64 0, .int .i64 0, .int .i64 0, .int .i64 0, .slice none 0 0, .bool false] 45); rwa [World.size_alloc] at this)
 have hst := wr45_blk (cs := #[.int .i64 0, .int .i64 0, .int .i64 4, .int .i64 0, .int .i64 0, .int .i64 0, .int .i64 0, .int .i64 0, .int .i64 0, .int .i64 0, .int .i64 0, .int .i64 0, .int .i64 0, .int .i64 0, .int .i64 0, .int .i64 0, .slice none 0 0, .bool false]) E1.out rfl rfl (by simp [Value.oneCell'])
 have EX := Lib.hid (setRow_heap _ _ _ (#[.int .i64 0, .int .i64 0, .int .i64 4, .int .i64 0, .int .i64 0, .int .i64 0, .int .i64 0, .int .i64 0, .int .i64 0, .int .i64 0, .int .i64 0, .int .i64 0, .int .i64 0, .int .i64 0, .int .i64 0, .int .i64 0, .slice none 0 0, .bool false] : Array Value) _ _ E1.out)
 have E0 := Lib.hid ((setRow_other _ (w.heap.size + 1) w.heap.size (#[.int .i64 0, .int .i64 0, .int .i64 4, .int .i64 0, .int .i64 0, .int .i64 0, .int .i64 0, .int .i64 0, .int .i64 0, .int .i64 0, .int .i64 0, .int .i64 0, .int .i64 0, .int .i64 0, .int .i64 0, .int .i64 0, .slice none 0 0, .bool false] : Array Value) (by omega)).trans E0.out)
 have HB0 := Lib.hid (below_setRow HB0.out (Nat.le_succ w.heap.size) (#[.int .i64 0, .int .i64 0, .int .i64 4, .int .i64 0, .int .i64 0, .int .i64 0, .int .i64 0, .int .i64 0, .int .i64 0, .int .i64 0, .int .i64 0, .int .i64 0, .int .i64 0, .int .i64 0, .int .i64 0, .int .i64 0, .slice none 0 0, .bool false] : Array Value))
 go_enter Tryz.func29, Tryz.ntmps29
 go_wp2
 obtain ⟨V, hV⟩ : ∃ V, V = ((w.alloc (.cells #[.int .i64 0, .int .i64 0, .int .i64 0, .int .i64 0, .int .i64 0, .int .i64 0, .int .i64 0, .int .i64 0, .int .i64 0, .int .i64 0, .int .i64 0, .int .i64 0, .int .i64 0, .int .i64 0, .int .i64 0, .int .i64 0, .slice none 0 0, .bool false] 45)).alloc (.cells #[.int .i64 0, .int .i64 0, .int .i64 0, .int .i64 0, .int .i64 0, .int .i64 0, .int .i64 0, .int .i64 0, .int .i64 0, .int .i64 0, .int .i64 0, .int .i64 0, .int .i64 0, .int .i64 0, .int .i64 0, .int .i64 0, .slice none 0 0, .bool false] 45)).setRow (w.heap.size + 1) #[.int .i64 0, .int .i64 0, .int .i64 4, .int .i64 0, .int .i64 0, .int .i64 0, .int .i64 0, .int .i64 0, .int .i64 0, .int .i64 0, .int .i64 0, .int .i64 0, .int .i64 0, .int .i64 0, .int .i64 0, .int .i64 0, .slice none 0 0, .bool false] := ⟨_, rfl⟩
 rw [← hV] at HB0 E0 EX ⊢
 clear hV hst E1
 go_loopg [4] 4 (fun kk s4 wr => ∃ i : Nat, i ≤ 4 ∧ 4 - i ≤ kk ∧ s4 = .int .i64 (i : Int) ∧ Hid (wr.heap[w.heap.size + 1]? = some (.cells (newC i) 45 (0, 0))) ∧ Hid (wr.heap[w.heap.size]? = some (.cells #[.int .i64 0, .int .i64 0, .int .i64 0, .int .i64 0, .int .i64 0, .int .i64 0, .int .i64 0, .int .i64 0, .int .i64 0, .int .i64 0, .int .i64 0, .int .i64 0, .int .i64 0, .int .i64 0, .int .i64 0, .int .i64 0, .slice none 0 0, .bool false] 45 (0, 0)) ∧ Below w.heap.size w wr))
 case atStart => exact ⟨0, by omega, by omega, rfl, EX, Lib.hid ⟨E0.out, HB0.out⟩⟩
 case round =>
  obtain ⟨i, hi, hik, rfl, HE, HB⟩ := hrel
  rcases i with _ | _ | _ | _ | _ | i
  ·have hE : wr.heap[w.heap.size + 1]? = some (.cells #[.int .i64 0, .int .i64 0, .int .i64 4, .int .i64 0, .int .i64 0, .int .i64 0, .int .i64 0, .int .i64 0, .int .i64 0, .int .i64 0, .int .i64 0, .int .i64 0, .int .i64 0, .int .i64 0, .int .i64 0, .int .i64 0, .slice none 0 0, .bool false] 45 (0, 0)) := HE.out
   have f0 := blk_frozen hE 4
   have e0 : wr.cell? ⟨w.heap.size + 1, 4, none⟩ = some (.int .i64 0) := (blk_cell hE 4).trans rfl
   have f1 := blk_frozen hE 5
   have e1 : wr.cell? ⟨w.heap.size + 1, 5, none⟩ = some (.int .i64 0) := (blk_cell hE 5).trans rfl
   have f2 := blk_frozen hE 6
   have e2 : wr.cell? ⟨w.heap.size + 1, 6, none⟩ = some (.int .i64 0) := (blk_cell hE 6).trans rfl
   have hX := (blk_put (blk_put (blk_put hE 4 (.int .i64 0) rfl) 5 (.int .i64 0) rfl) 6 (.int .i64 4) rfl)
   have HX := Lib.hid hX
   clear hE hX
   go_wp2
   go_roundg (4 - 1)
   case measure => omega
   case rel => exact ⟨1, by omega, Nat.le_refl _, by go_num, Lib.hid HX.out, Lib.hid ⟨blk_far (blk_far (blk_far HB.out.1 (by show w.heap.size ≠ w.heap.size + 1; omega) _) (by show w.heap.size ≠ w.heap.size + 1; omega) _) (by show w.heap.size ≠ w.heap.size + 1; omega) _, below_put (below_put (below_put HB.out.2 (by omega)) (by omega)) (by omega)⟩⟩
  ·have hE : wr.heap[w.heap.size + 1]? = some (.cells #[.int .i64 0, .int .i64 0, .int .i64 4, .int .i64 0, .int .i64 0, .int .i64 0, .int .i64 4, .int .i64 0, .int .i64 0, .int .i64 0, .int .i64 0, .int .i64 0, .int .i64 0, .int .i64 0, .int .i64 0, .int .i64 0, .slice none 0 0, .bool false] 45 (0, 0)) := HE.out
   have f0 := blk_frozen hE 7
   have e0 : wr.cell? ⟨w.heap.size + 1, 7, none⟩ = some (.int .i64 0) := (blk_cell hE 7).trans rfl
   have f1 := blk_frozen hE 8
   have e1 : wr.cell? ⟨w.heap.size + 1, 8, none⟩ = some (.int .i64 0) := (blk_cell hE 8).trans rfl
   have f2 := blk_frozen hE 9
   have e2 : wr.cell? ⟨w.heap.size + 1, 9, none⟩ = some (.int .i64 0) := (blk_cell hE 9).trans rfl
   have hX := (blk_put (blk_put (blk_put hE 7 (.int .i64 1) rfl) 8 (.int .i64 0) rfl) 9 (.int .i64 4) rfl)
   have HX := Lib.hid hX
   clear hE hX
   go_wp2
   go_roundg (4 - 2)
   case measure => omega
   case rel => exact ⟨2, by omega, Nat.le_refl _, by go_num, Lib.hid HX.out, Lib.hid ⟨blk_far (blk_far (blk_far HB.out.1 (by show w.heap.size ≠ w.heap.size + 1; omega) _) (by show w.heap.size ≠ w.heap.size + 1; omega) _) (by show w.heap.size ≠ w.heap.size + 1; omega) _, below_put (below_put (below_put HB.out.2 (by omega)) (by omega)) (by omega)⟩⟩
  ·have hE : wr.heap[w.heap.size + 1]? = some (.cells #[.int .i64 0, .int .i64 0, .int .i64 4, .int .i64 0, .int .i64 0, .int .i64 0, .int .i64 4, .int .i64 1, .int .i64 0, .int .i64 4, .int .i64 0, .int .i64 0, .int .i64 0, .int .i64 0, .int .i64 0, .int .i64 0, .slice none 0 0, .bool false] 45 (0, 0)) := HE.out
   have f0 := blk_frozen hE 10
   have e0 : wr.cell? ⟨w.heap.size + 1, 10, none⟩ = some (.int .i64 0) := (blk_cell hE 10).trans rfl
   have f1 := blk_frozen hE 11
   have e1 : wr.cell? ⟨w.heap.size + 1, 11, none⟩ = some (.int .i64 0) := (blk_cell hE 11).trans rfl
   have f2 := blk_frozen hE 12
   have e2 : wr.cell? ⟨w.heap.size + 1, 12, none⟩ = some (.int .i64 0) := (blk_cell hE 12).trans rfl
   have hX := (blk_put (blk_put (blk_put hE 10 (.int .i64 2) rfl) 11 (.int .i64 0) rfl) 12 (.int .i64 4) rfl)
   have HX := Lib.hid hX
   clear hE hX
   go_wp2
   go_roundg (4 - 3)
   case measure => omega
   case rel => exact ⟨3, by omega, Nat.le_refl _, by go_num, Lib.hid HX.out, Lib.hid ⟨blk_far (blk_far (blk_far HB.out.1 (by show w.heap.size ≠ w.heap.size + 1; omega) _) (by show w.heap.size ≠ w.heap.size + 1; omega) _) (by show w.heap.size ≠ w.heap.size + 1; omega) _, below_put (below_put (below_put HB.out.2 (by omega)) (by omega)) (by omega)⟩⟩
  ·have hE : wr.heap[w.heap.size + 1]? = some (.cells #[.int .i64 0, .int .i64 0, .int .i64 4, .int .i64 0, .int .i64 0, .int .i64 0, .int .i64 4, .int .i64 1, .int .i64 0, .int .i64 4, .int .i64 2, .int .i64 0, .int .i64 4, .int .i64 0, .int .i64 0, .int .i64 0, .slice none 0 0, .bool false] 45 (0, 0)) := HE.out
   have f0 := blk_frozen hE 13
   have e0 : wr.cell? ⟨w.heap.size + 1, 13, none⟩ = some (.int .i64 0) := (blk_cell hE 13).trans rfl
   have f1 := blk_frozen hE 14
   have e1 : wr.cell? ⟨w.heap.size + 1, 14, none⟩ = some (.int .i64 0) := (blk_cell hE 14).trans rfl
   have f2 := blk_frozen hE 15
   have e2 : wr.cell? ⟨w.heap.size + 1, 15, none⟩ = some (.int .i64 0) := (blk_cell hE 15).trans rfl
   have hX := (blk_put (blk_put (blk_put hE 13 (.int .i64 3) rfl) 14 (.int .i64 0) rfl) 15 (.int .i64 4) rfl)
   have HX := Lib.hid hX
   clear hE hX
   go_wp2
   go_roundg (4 - 4)
   case measure => omega
   case rel => exact ⟨4, by omega, Nat.le_refl _, by go_num, Lib.hid HX.out, Lib.hid ⟨blk_far (blk_far (blk_far HB.out.1 (by show w.heap.size ≠ w.heap.size + 1; omega) _) (by show w.heap.size ≠ w.heap.size + 1; omega) _) (by show w.heap.size ≠ w.heap.size + 1; omega) _, below_put (below_put (below_put HB.out.2 (by omega)) (by omega)) (by omega)⟩⟩
  ·have hE : wr.heap[w.heap.size + 1]? = some (.cells #[.int .i64 0, .int .i64 0, .int .i64 4, .int .i64 0, .int .i64 0, .int .i64 0, .int .i64 4, .int .i64 1, .int .i64 0, .int .i64 4, .int .i64 2, .int .i64 0, .int .i64 4, .int .i64 3, .int .i64 0, .int .i64 4, .slice none 0 0, .bool false] 45 (0, 0)) := HE.out
   have hr := rd45_blk hE rfl
   have hs := wr45_blk (cs := #[.int .i64 0, .int .i64 0, .int .i64 4, .int .i64 0, .int .i64 0, .int .i64 0, .int .i64 4, .int .i64 1, .int .i64 0, .int .i64 4, .int .i64 2, .int .i64 0, .int .i64 4, .int .i64 3, .int .i64 0, .int .i64 4, .slice none 0 0, .bool false]) HB.out.1 rfl rfl (by simp [Value.oneCell'])
   have hX := setRow_heap _ _ _ (#[.int .i64 0, .int .i64 0, .int .i64 4, .int .i64 0, .int .i64 0, .int .i64 0, .int .i64 4, .int .i64 1, .int .i64 0, .int .i64 4, .int .i64 2, .int .i64 0, .int .i64 4, .int .i64 3, .int .i64 0, .int .i64 4, .slice none 0 0, .bool false] : Array Value) _ _ HB.out.1
   clear hE
   go_wp2
   refine bodyPost_ret (results_cell_row rfl _ _ w.heap.size 45 _ (0, 0) _ rfl hX Tryz.underlying45 rfl (by kernel_rfl)) rfl ?_
   exact ⟨rfl, below_setRow HB.out.2 (Nat.le_refl _) _⟩
  ·omega
end Go.Proofs.YteilkbookcmndaaGreatDoor.C
end
section
namespace Go.Proofs.YteilkbookcmndaaGreatDoor.C
open Go.RowKit Go.Proofs.YteilkbookcmndaaGreatDoor.Q Go.Proofs.YteilkbookcmndaaGreatDoorW.PrintWords Go.Proofs.YteilkbookcmndaaGreatDoorW.PrintLast Go.Proofs.YteilkbookcmndaaGreatDoorW.PrintMore
attribute [local go_sem ↓] rd_at50 wr_at50 al_at50
attribute [local go_sem] rd50_new wr50_new al50
attribute [local go_sem ↓] rd_at45 wr_at45 rd_at150 wr_at150 rd_at47b wr_at47b rd_at77 wr_at77
attribute [local go_sem] rd45_new wr45_new rd150_new wr150_new wr47b_new wr77_new
attribute [local go_sem] max_two
theorem ta_nil : ∀ w : World, (Instr.typeAssert .nilIface 20 48 true).run Tryz.prog w = .ok (.tuple #[.int .i64 0, .bool false]) w := fun _ => by kernel_rfl
theorem fr52 (p0 p1 p2 p3 : Addr) : (#[.pointer (some p0), .pointer (some p1), .pointer (some p2), .pointer (some p3)] : Array Value) ++ Array.replicate (Tryz.f52.ntmps - (#[.pointer (some p0), .pointer (some p1), .pointer (some p2), .pointer (some p3)] : Array Value).size) undef = #[.pointer (some p0), .pointer (some p1), .pointer (some p2), .pointer (some p3), undef, undef, undef, undef, undef, undef, undef, undef, undef, undef] := by kernel_rfl
set_option maxRecDepth 100000 in
theorem catch_idle (p0 p1 p2 p3 : Addr) (w : World) :
  CallsD Tryz.prog 52 #[.pointer (some p0), .pointer (some p1), .pointer (some p2), .pointer (some p3)] .returning w fun e u' w' => e = .returned (.tuple #[]) ∧ u' = .returning ∧ w' = w := by
 refine callsD_of_wpS Tryz.func52 rfl fun c₀ cs hu => ?_
 have hta := ta_nil
 rw [fr52]
 apply wpS_seq
 apply wpS_region
 simp [wpOpsS, go_sem, recoverD, hu, hta, Exit.thenS]
 apply wpS_seq
 apply wpS_region
 simp [wpOpsS, go_sem, Exit.thenS]
 refine wpS_cond (t := false) (by simp [Act.eval]) ?_
 simp only [Bool.false_eq_true, if_false]
 refine wpS_of_wp (wp_skip ?_)
 cases c₀
 simp_all [bodyPostS, results, Tryz.results52]
set_option maxHeartbeats 16000000 in
set_option maxRecDepth 1000000 in
theorem st7 (gm gr g1 g2 g3 g4 n0 : Nat) (q0 q1 q2 q3 q4 q5 q6 q7 q8 q9 q10 q11 q12 q13 q14 q15 ov : Int) (qA : Option Addr) (qn qc : Nat) (hl2 tb : Bool) (ds : List Deferred) (u0 u1 u2 u3 u9 u10 u11 u12 u13 u14 u15 u16 u17 u18 u19 u20 u21 u22 u23 u24 u25 u26 u27 u28 u29 u30 u31 u32 u33 u34 u35 u36 : Value) (W : World) (Q : Exit → Act → World → Prop)
  (hr : W.heap[gr]? = some (.cells #[.int .i64 q0, .int .i64 q1, .int .i64 q2, .int .i64 q3, .int .i64 q4, .int .i64 q5, .int .i64 q6, .int .i64 q7, .int .i64 q8, .int .i64 q9, .int .i64 q10, .int .i64 q11, .int .i64 q12, .int .i64 q13, .int .i64 q14, .int .i64 q15, .slice qA qn qc, .bool hl2, .iface 103 (.pointer (some ⟨gm, 0, none⟩)), .bool tb, .int .i64 ov] 134 (0, 0))) (h1 : W.heap[g1]? = some (.cells #[.int .i64 0, .int .i64 0, .int .i64 0, .int .i64 0, .int .i64 0, .int .i64 0, .int .i64 0, .int .i64 0, .int .i64 0, .int .i64 0, .int .i64 0, .int .i64 0, .int .i64 0, .int .i64 0, .int .i64 0, .int .i64 0, .slice none 0 0, .bool false] 45 (0, 0))) (h2 : W.heap[g2]? = some (.cells #[.int .i64 0] 2 (0, 0))) (h3 : W.heap[g3]? = some (.cells #[.bool false] 4 (0, 0))) (h4 : W.heap[g4]? = some (.cells #[.int .i64 0] 48 (0, 0)))
  (hn : gr ≠ g1 ∧ gr ≠ g2 ∧ gr ≠ g3 ∧ gr ≠ g4 ∧ g1 ≠ g2 ∧ g1 ≠ g3 ∧ g1 ≠ g4 ∧ g2 ≠ g3 ∧ g2 ≠ g4 ∧ g3 ≠ g4) (hlo : n0 ≤ g1 ∧ n0 ≤ g2 ∧ n0 ≤ g3 ∧ n0 ≤ g4 ∧ n0 ≤ gr ∧ n0 ≤ W.heap.size)
  (hpost : ∀ (w' : World) (t25 t26 t27 t28 t29 t30 t31 t32 t33 t34 t35 t36 : Value), w'.heap[g1]? = some (.cells #[.int .i64 q0, .int .i64 q1, .int .i64 q2, .int .i64 q3, .int .i64 q4, .int .i64 q5, .int .i64 q6, .int .i64 q7, .int .i64 q8, .int .i64 q9, .int .i64 q10, .int .i64 q11, .int .i64 q12, .int .i64 q13, .int .i64 q14, .int .i64 q15, .slice qA qn qc, .bool hl2] 45 (0, 0)) → w'.heap[g2]? = some (.cells #[.int .i64 ov] 2 (0, 0)) → w'.heap[g3]? = some (.cells #[.bool tb] 4 (0, 0)) → w'.heap[g4]? = some (.cells #[.int .i64 0] 48 (0, 0)) → Below n0 W w' → Q .normal ⟨#[u0, u1, u2, u3, .pointer (some ⟨g1, 0, none⟩), .pointer (some ⟨g2, 0, none⟩), .pointer (some ⟨g3, 0, none⟩), .pointer (some ⟨g4, 0, none⟩), .pointer (some ⟨gr, 0, none⟩), u9, u10, u11, u12, u13, u14, u15, u16, u17, u18, u19, u20, u21, u22, u23, u24, t25, t26, t27, t28, t29, t30, t31, t32, t33, t34, t35, t36], ds⟩ w') :
  Code.wp Tryz.prog (cReg Tryz.f34 7) Q ⟨#[u0, u1, u2, u3, .pointer (some ⟨g1, 0, none⟩), .pointer (some ⟨g2, 0, none⟩), .pointer (some ⟨g3, 0, none⟩), .pointer (some ⟨g4, 0, none⟩), .pointer (some ⟨gr, 0, none⟩), u9, u10, u11, u12, u13, u14, u15, u16, u17, u18, u19, u20, u21, u22, u23, u24, u25, u26, u27, u28, u29, u30, u31, u32, u33, u34, u35, u36], ds⟩ W := by
 have HPO := Lib.hid hpost
 have ER := Lib.hid hr
 have E1 := Lib.hid h1
 have E2 := Lib.hid h2
 have E3 := Lib.hid h3
 have E4 := Lib.hid h4
 clear hr h1 h2 h3 h4 hpost
 have HB := Lib.hid (below_drew1 (Below.refl W.heap.size W))
 have HB := Lib.hid (show Below n0 W W.drew from below_low HB.out hlo.2.2.2.2.2)
 have ER := Lib.hid (blk_drew ER.out)
 have E1 := Lib.hid (blk_drew E1.out)
 have E2 := Lib.hid (blk_drew E2.out)
 have E3 := Lib.hid (blk_drew E3.out)
 have E4 := Lib.hid (blk_drew E4.out)
 conv => arg 2; whnf
 refine wp_region_noPanic ?_
 refine wp_region_held_drew (S := fun W1 => (rdS 45 (.pointer (some ⟨gr, 0, none⟩))).run Tryz.prog W1 = .ok (.agg #[.int .i64 q0, .int .i64 q1, .int .i64 q2, .int .i64 q3, .int .i64 q4, .int .i64 q5, .int .i64 q6, .int .i64 q7, .int .i64 q8, .int .i64 q9, .int .i64 q10, .int .i64 q11, .int .i64 q12, .int .i64 q13, .int .i64 q14, .int .i64 q15, .slice qA qn qc, .bool hl2]) W1 ∧ W1.cell? ⟨gr, 19, none⟩ = some (.bool tb) ∧ W1.cell? ⟨gr, 20, none⟩ = some (.int .i64 ov)) (by kernel_rfl) ?_ (fun hHeld => ?_)
 focus ((try dsimp only); exact ⟨rd_in (t := 45) (k := 18) ER.out Tryz.isAgg45 Tryz.sizeOf45 (by show 0 + 18 ≤ 21; omega), (blk_cell ER.out 19).trans rfl, (blk_cell ER.out 20).trans rfl⟩)
 refine tq 0 25 ?_ (by assumption)
 refine tq 1 26 ?_ (by assumption)
 refine tq 2 27 ?_ (by assumption)
 refine tq 3 28 ?_ (by assumption)
 refine tq 4 29 ?_ (by assumption)
 refine tq 5 30 ?_ (by assumption)
 refine tq 6 31 ?_ (by assumption)
 refine tq 7 32 ?_ (by assumption)
 refine tq 8 33 ?_ (by assumption)
 refine tq 9 34 ?_ (by assumption)
 refine tq 10 35 ?_ (by assumption)
 refine tq 11 36 ?_ (by assumption)
 refine wpAnyH_ready (rs := [12]) (by kernel_rfl) (by simp) ?_
 refine AllReadyH.cons rfl (fun K hK => ?_) ?_
 ·have hst := wr45_blk (cs := #[.int .i64 q0, .int .i64 q1, .int .i64 q2, .int .i64 q3, .int .i64 q4, .int .i64 q5, .int .i64 q6, .int .i64 q7, .int .i64 q8, .int .i64 q9, .int .i64 q10, .int .i64 q11, .int .i64 q12, .int .i64 q13, .int .i64 q14, .int .i64 q15, .slice qA qn qc, .bool hl2]) E1.out rfl rfl (by simp [Value.oneCell'])
  have HB := Lib.hid (below_setRow HB.out hlo.1 (#[.int .i64 q0, .int .i64 q1, .int .i64 q2, .int .i64 q3, .int .i64 q4, .int .i64 q5, .int .i64 q6, .int .i64 q7, .int .i64 q8, .int .i64 q9, .int .i64 q10, .int .i64 q11, .int .i64 q12, .int .i64 q13, .int .i64 q14, .int .i64 q15, .slice qA qn qc, .bool hl2] : Array Value))
  have EX := Lib.hid (setRow_heap _ _ _ (#[.int .i64 q0, .int .i64 q1, .int .i64 q2, .int .i64 q3, .int .i64 q4, .int .i64 q5, .int .i64 q6, .int .i64 q7, .int .i64 q8, .int .i64 q9, .int .i64 q10, .int .i64 q11, .int .i64 q12, .int .i64 q13, .int .i64 q14, .int .i64 q15, .slice qA qn qc, .bool hl2] : Array Value) _ _ E1.out)
  have E2 := Lib.hid ((setRow_other _ g1 g2 (#[.int .i64 q0, .int .i64 q1, .int .i64 q2, .int .i64 q3, .int .i64 q4, .int .i64 q5, .int .i64 q6, .int .i64 q7, .int .i64 q8, .int .i64 q9, .int .i64 q10, .int .i64 q11, .int .i64 q12, .int .i64 q13, .int .i64 q14, .int .i64 q15, .slice qA qn qc, .bool hl2] : Array Value) (by omega)).trans E2.out)
  have E3 := Lib.hid ((setRow_other _ g1 g3 (#[.int .i64 q0, .int .i64 q1, .int .i64 q2, .int .i64 q3, .int .i64 q4, .int .i64 q5, .int .i64 q6, .int .i64 q7, .int .i64 q8, .int .i64 q9, .int .i64 q10, .int .i64 q11, .int .i64 q12, .int .i64 q13, .int .i64 q14, .int .i64 q15, .slice qA qn qc, .bool hl2] : Array Value) (by omega)).trans E3.out)
  have E4 := Lib.hid ((setRow_other _ g1 g4 (#[.int .i64 q0, .int .i64 q1, .int .i64 q2, .int .i64 q3, .int .i64 q4, .int .i64 q5, .int .i64 q6, .int .i64 q7, .int .i64 q8, .int .i64 q9, .int .i64 q10, .int .i64 q11, .int .i64 q12, .int .i64 q13, .int .i64 q14, .int .i64 q15, .slice qA qn qc, .bool hl2] : Array Value) (by omega)).trans E4.out)
  have ER := Lib.hid ((setRow_other _ g1 gr (#[.int .i64 q0, .int .i64 q1, .int .i64 q2, .int .i64 q3, .int .i64 q4, .int .i64 q5, .int .i64 q6, .int .i64 q7, .int .i64 q8, .int .i64 q9, .int .i64 q10, .int .i64 q11, .int .i64 q12, .int .i64 q13, .int .i64 q14, .int .i64 q15, .slice qA qn qc, .bool hl2] : Array Value) (by omega)).trans ER.out)
  go_simp
  refine hK.out _ _ ?_ (fun hHeld => ?_)
  focus ((try dsimp only); exact ⟨rd_in (t := 45) (k := 18) ER.out Tryz.isAgg45 Tryz.sizeOf45 (by show 0 + 18 ≤ 21; omega), (blk_cell ER.out 19).trans rfl, (blk_cell ER.out 20).trans rfl⟩)
  clear hK K
  refine wpAnyH_ready (rs := [13]) (by kernel_rfl) (by simp) ?_
  refine AllReadyH.cons rfl (fun K hK => ?_) ?_
  ·have c1 := (blk_cell E2.out 0).trans rfl
   have z1 := blk_frozen E2.out 0
   have HB := Lib.hid (below_put HB.out (v := .int .i64 ov) (j := 0) (g := g2) (by omega))
   have EX := Lib.hid (blk_far (p := ⟨g2, 0, none⟩) EX.out (by show g1 ≠ g2; omega) (.int .i64 ov))
   have E2 := Lib.hid (blk_put E2.out 0 (.int .i64 ov) rfl)
   have E3 := Lib.hid (blk_far (p := ⟨g2, 0, none⟩) E3.out (by show g3 ≠ g2; omega) (.int .i64 ov))
   have E4 := Lib.hid (blk_far (p := ⟨g2, 0, none⟩) E4.out (by show g4 ≠ g2; omega) (.int .i64 ov))
   have ER := Lib.hid (blk_far (p := ⟨g2, 0, none⟩) ER.out (by show gr ≠ g2; omega) (.int .i64 ov))
   go_simp
   refine hK.out _ _ ?_ (fun hHeld => ?_)
   focus ((try dsimp only); exact ⟨rd_in (t := 45) (k := 18) ER.out Tryz.isAgg45 Tryz.sizeOf45 (by show 0 + 18 ≤ 21; omega), (blk_cell ER.out 19).trans rfl, (blk_cell ER.out 20).trans rfl⟩)
   clear hK K
   refine wpAnyH_ready (rs := [14]) (by kernel_rfl) (by simp) ?_
   refine AllReadyH.cons rfl (fun K hK => ?_) ?_
   ·have c2 := (blk_cell E3.out 0).trans rfl
    have z2 := blk_frozen E3.out 0
    have HB := Lib.hid (below_put HB.out (v := .bool tb) (j := 0) (g := g3) (by omega))
    have EX := Lib.hid (blk_far (p := ⟨g3, 0, none⟩) EX.out (by show g1 ≠ g3; omega) (.bool tb))
    have E2 := Lib.hid (blk_far (p := ⟨g3, 0, none⟩) E2.out (by show g2 ≠ g3; omega) (.bool tb))
    have E3 := Lib.hid (blk_put E3.out 0 (.bool tb) rfl)
    have E4 := Lib.hid (blk_far (p := ⟨g3, 0, none⟩) E4.out (by show g4 ≠ g3; omega) (.bool tb))
    have ER := Lib.hid (blk_far (p := ⟨g3, 0, none⟩) ER.out (by show gr ≠ g3; omega) (.bool tb))
    go_simp
    refine hK.out _ _ ?_ (fun hHeld => ?_)
    focus ((try dsimp only); exact ⟨rd_in (t := 45) (k := 18) ER.out Tryz.isAgg45 Tryz.sizeOf45 (by show 0 + 18 ≤ 21; omega), (blk_cell ER.out 19).trans rfl, (blk_cell ER.out 20).trans rfl⟩)
    clear hK K
    refine wpAnyH_ready (rs := [15]) (by kernel_rfl) (by simp) ?_
    refine AllReadyH.cons rfl (fun K hK => ?_) ?_
    ·have c3 := (blk_cell E4.out 0).trans rfl
     have z3 := blk_frozen E4.out 0
     have HB := Lib.hid (below_put HB.out (v := .int .i64 0) (j := 0) (g := g4) (by omega))
     have EX := Lib.hid (blk_far (p := ⟨g4, 0, none⟩) EX.out (by show g1 ≠ g4; omega) (.int .i64 0))
     have E2 := Lib.hid (blk_far (p := ⟨g4, 0, none⟩) E2.out (by show g2 ≠ g4; omega) (.int .i64 0))
     have E3 := Lib.hid (blk_far (p := ⟨g4, 0, none⟩) E3.out (by show g3 ≠ g4; omega) (.int .i64 0))
     have E4 := Lib.hid (blk_put E4.out 0 (.int .i64 0) rfl)
     have ER := Lib.hid (blk_far (p := ⟨g4, 0, none⟩) ER.out (by show gr ≠ g4; omega) (.int .i64 0))
     go_simp
     refine hK.out _ _ ?_ (fun hHeld => ?_)
     focus ((try dsimp only); exact ⟨rd_in (t := 45) (k := 18) ER.out Tryz.isAgg45 Tryz.sizeOf45 (by show 0 + 18 ≤ 21; omega), (blk_cell ER.out 19).trans rfl, (blk_cell ER.out 20).trans rfl⟩)
     clear hK K
     refine wpAnyH_done (by kernel_rfl) ?_ _
     refine NoPanic.normal ?_
     exact HPO.out _ _ _ _ _ _ _ _ _ _ _ _ _ EX.out E2.out E3.out E4.out HB.out
    exact AllReadyH.nil
   exact AllReadyH.nil
  exact AllReadyH.nil
 exact AllReadyH.nil
theorem res34 (tmps : Array Value) (w : World) (g0 g1 g2 g3 : Nat) (cs : Array Value) (v1 v2 v3 : Value) (hp0 : tmps.getD 4 undef = .pointer (some ⟨g0, 0, none⟩)) (hp1 : tmps.getD 5 undef = .pointer (some ⟨g1, 0, none⟩)) (hp2 : tmps.getD 6 undef = .pointer (some ⟨g2, 0, none⟩)) (hp3 : tmps.getD 7 undef = .pointer (some ⟨g3, 0, none⟩))
  (H0 : w.heap[g0]? = some (.cells cs 45 (0, 0))) (hi : cs.size = 18) (c1 : w.cell? ⟨g1, 0, none⟩ = some v1) (c2 : w.cell? ⟨g2, 0, none⟩ = some v2) (c3 : w.cell? ⟨g3, 0, none⟩ = some v3) :
  (results Tryz.f34 tmps).run Tryz.prog w = .ok (.tuple #[.agg cs, v1, v2, v3]) w := by
 have r0 := run_loadVar_row w g0 45 45 cs (0, 0) _ H0 Tryz.underlying45 rfl (by rw [hi]; kernel_rfl)
 have r1 : (loadVar 2 ⟨g1, 0, none⟩).run Tryz.prog w = .ok v1 w := by
  have i2 := Tryz.isAgg2
  unfold loadVar
  go_simp
 have r2 : (loadVar 4 ⟨g2, 0, none⟩).run Tryz.prog w = .ok v2 w := by
  have i2 := Tryz.isAgg4
  unfold loadVar
  go_simp
 have r3 : (loadVar 48 ⟨g3, 0, none⟩).run Tryz.prog w = .ok v3 w := by
  have i2 := Tryz.isAgg48
  unfold loadVar
  go_simp
 have hq0 : tmps[4]?.getD undef = .pointer (some ⟨g0, 0, none⟩) := by simpa using hp0
 have hq1 : tmps[5]?.getD undef = .pointer (some ⟨g1, 0, none⟩) := by simpa using hp1
 have hq2 : tmps[6]?.getD undef = .pointer (some ⟨g2, 0, none⟩) := by simpa using hp2
 have hq3 : tmps[7]?.getD undef = .pointer (some ⟨g3, 0, none⟩) := by simpa using hp3
 simp [results, Tryz.results34, hq0, hq1, hq2, hq3, asAddr, r0, r1, r2, r3]
set_option maxHeartbeats 16000000 in
set_option maxRecDepth 1000000 in
theorem step_c (gm : Nat) (op p nn : Int) (RC1 : Array Value) (s0 s1 s2 s3 s4 s5 s6 s7 s8 s9 s10 s11 s12 s13 s14 s15 q0 q1 q2 q3 q4 q5 q6 q7 q8 q9 q10 q11 q12 q13 q14 q15 ov : Int) (qA : Option Addr) (qn qc : Nat) (hl2 tb : Bool) (w : World)
  (hF : ∀ (gr : Nat) (w1 : World), Below w.heap.size w w1 → w.heap.size ≤ gr → w1.heap[gr]? = some (.cells #[.int .i64 s0, .int .i64 s1, .int .i64 s2, .int .i64 s3, .int .i64 s4, .int .i64 s5, .int .i64 s6, .int .i64 s7, .int .i64 s8, .int .i64 s9, .int .i64 s10, .int .i64 s11, .int .i64 s12, .int .i64 s13, .int .i64 s14, .int .i64 s15, .slice none 0 0, .bool false, .iface 103 (.pointer (some ⟨gm, 0, none⟩)), .bool false, .int .i64 0] 134 (0, 0)) → Calls Tryz.prog 54 #[.pointer (some ⟨gr, 0, none⟩)] w1 fun e w' => e = .returned (.agg #[.int .i64 op, .int .i64 p, .int .i64 nn]) ∧ w'.heap[gr]? = some (.cells RC1 134 (0, 0)) ∧ Below gr w1 w')
  (hD : ∀ (gr : Nat) (w1 : World), Below w.heap.size w w1 → w.heap.size ≤ gr → w1.heap[gr]? = some (.cells RC1 134 (0, 0)) → Calls Tryz.prog 53 #[.pointer (some ⟨gr, 0, none⟩), .agg #[.int .i64 op, .int .i64 p, .int .i64 nn]] w1 fun e w' => e = .returned (.tuple #[]) ∧ w'.heap[gr]? = some (.cells #[.int .i64 q0, .int .i64 q1, .int .i64 q2, .int .i64 q3, .int .i64 q4, .int .i64 q5, .int .i64 q6, .int .i64 q7, .int .i64 q8, .int .i64 q9, .int .i64 q10, .int .i64 q11, .int .i64 q12, .int .i64 q13, .int .i64 q14, .int .i64 q15, .slice qA qn qc, .bool hl2, .iface 103 (.pointer (some ⟨gm, 0, none⟩)), .bool tb, .int .i64 ov] 134 (0, 0)) ∧ Below gr w1 w') :
  Calls Tryz.prog 34 #[.agg #[.int .i64 s0, .int .i64 s1, .int .i64 s2, .int .i64 s3, .int .i64 s4, .int .i64 s5, .int .i64 s6, .int .i64 s7, .int .i64 s8, .int .i64 s9, .int .i64 s10, .int .i64 s11, .int .i64 s12, .int .i64 s13, .int .i64 s14, .int .i64 s15, .slice none 0 0, .bool false], .iface 103 (.pointer (some ⟨gm, 0, none⟩))] w fun e w' => e = .returned (.tuple #[.agg #[.int .i64 q0, .int .i64 q1, .int .i64 q2, .int .i64 q3, .int .i64 q4, .int .i64 q5, .int .i64 q6, .int .i64 q7, .int .i64 q8, .int .i64 q9, .int .i64 q10, .int .i64 q11, .int .i64 q12, .int .i64 q13, .int .i64 q14, .int .i64 q15, .slice qA qn qc, .bool hl2], .int .i64 ov, .bool tb, .int .i64 0]) ∧ Below w.heap.size w w' := by
 have HF := Lib.hid hF
 have HD := Lib.hid hD
 clear hF hD
 have hmf : ∀ (fn : Fn) (first cap : Array Value) (w : World), (Instr.makeFunc fn first cap).run Tryz.prog w = .ok (.func fn first cap) w := fun _ _ _ _ => rfl
 go_enter_defers Tryz.func34, Tryz.ntmps34
 have hz : (((((w.alloc (.cells #[.int .i64 s0, .int .i64 s1, .int .i64 s2, .int .i64 s3, .int .i64 s4, .int .i64 s5, .int .i64 s6, .int .i64 s7, .int .i64 s8, .int .i64 s9, .int .i64 s10, .int .i64 s11, .int .i64 s12, .int .i64 s13, .int .i64 s14, .int .i64 s15, .slice none 0 0, .bool false] 45)).alloc (.cells #[.int .i64 0, .int .i64 0, .int .i64 0, .int .i64 0, .int .i64 0, .int .i64 0, .int .i64 0, .int .i64 0, .int .i64 0, .int .i64 0, .int .i64 0, .int .i64 0, .int .i64 0, .int .i64 0, .int .i64 0, .int .i64 0, .slice none 0 0, .bool false] 45)).alloc (.cells #[.int .i64 0] 2)).alloc (.cells #[.bool false] 4)).alloc (.cells #[.int .i64 0] 48)).heap.size = w.heap.size + 1 + 1 + 1 + 1 + 1 := by simp only [World.size_alloc]
 have EA := Lib.hid (blk_alloc (blk_alloc (blk_alloc (blk_alloc (blk_new w (.cells #[.int .i64 s0, .int .i64 s1, .int .i64 s2, .int .i64 s3, .int .i64 s4, .int .i64 s5, .int .i64 s6, .int .i64 s7, .int .i64 s8, .int .i64 s9, .int .i64 s10, .int .i64 s11, .int .i64 s12, .int .i64 s13, .int .i64 s14, .int .i64 s15, .slice none 0 0, .bool false] 45)) (.cells #[.int .i64 0, .int .i64 0, .int .i64 0, .int .i64 0, .int .i64 0, .int .i64 0, .int .i64 0, .int .i64 0, .int .i64 0, .int .i64 0, .int .i64 0, .int .i64 0, .int .i64 0, .int .i64 0, .int .i64 0, .int .i64 0, .slice none 0 0, .bool false] 45)) (.cells #[.int .i64 0] 2)) (.cells #[.bool false] 4)) (.cells #[.int .i64 0] 48))
 have E1 := Lib.hid (show (((((w.alloc (.cells #[.int .i64 s0, .int .i64 s1, .int .i64 s2, .int .i64 s3, .int .i64 s4, .int .i64 s5, .int .i64 s6, .int .i64 s7, .int .i64 s8, .int .i64 s9, .int .i64 s10, .int .i64 s11, .int .i64 s12, .int .i64 s13, .int .i64 s14, .int .i64 s15, .slice none 0 0, .bool false] 45)).alloc (.cells #[.int .i64 0, .int .i64 0, .int .i64 0, .int .i64 0, .int .i64 0, .int .i64 0, .int .i64 0, .int .i64 0, .int .i64 0, .int .i64 0, .int .i64 0, .int .i64 0, .int .i64 0, .int .i64 0, .int .i64 0, .int .i64 0, .slice none 0 0, .bool false] 45)).alloc (.cells #[.int .i64 0] 2)).alloc (.cells #[.bool false] 4)).alloc (.cells #[.int .i64 0] 48)).heap[w.heap.size + 1]? = some (.cells #[.int .i64 0, .int .i64 0, .int .i64 0, .int .i64 0, .int .i64 0, .int .i64 0, .int .i64 0, .int .i64 0, .int .i64 0, .int .i64 0, .int .i64 0, .int .i64 0, .int .i64 0, .int .i64 0, .int .i64 0, .int .i64 0, .slice none 0 0, .bool false] 45) from blk_alloc (blk_alloc (blk_alloc (by have h := blk_new (w.alloc (.cells #[.int .i64 s0, .int .i64 s1, .int .i64 s2, .int .i64 s3, .int .i64 s4, .int .i64 s5, .int .i64 s6, .int .i64 s7, .int .i64 s8, .int .i64 s9, .int .i64 s10, .int .i64 s11, .int .i64 s12, .int .i64 s13, .int .i64 s14, .int .i64 s15, .slice none 0 0, .bool false] 45)) (.cells #[.int .i64 0, .int .i64 0, .int .i64 0, .int .i64 0, .int .i64 0, .int .i64 0, .int .i64 0, .int .i64 0, .int .i64 0, .int .i64 0, .int .i64 0, .int .i64 0, .int .i64 0, .int .i64 0, .int .i64 0, .int .i64 0, .slice none 0 0, .bool false] 45); simp only [World.size_alloc] at h; exact h) (.cells #[.int .i64 0] 2)) (.cells #[.bool false] 4)) (.cells #[.int .i64 0] 48))
 have E2 := Lib.hid (show (((((w.alloc (.cells #[.int .i64 s0, .int .i64 s1, .int .i64 s2, .int .i64 s3, .int .i64 s4, .int .i64 s5, .int .i64 s6, .int .i64 s7, .int .i64 s8, .int .i64 s9, .int .i64 s10, .int .i64 s11, .int .i64 s12, .int .i64 s13, .int .i64 s14, .int .i64 s15, .slice none 0 0, .bool false] 45)).alloc (.cells #[.int .i64 0, .int .i64 0, .int .i64 0, .int .i64 0, .int .i64 0, .int .i64 0, .int .i64 0, .int .i64 0, .int .i64 0, .int .i64 0, .int .i64 0, .int .i64 0, .int .i64 0, .int .i64 0, .int .i64 0, .int .i64 0, .slice none 0 0, .bool false] 45)).alloc (.cells #[.int .i64 0] 2)).alloc (.cells #[.bool false] 4)).alloc (.cells #[.int .i64 0] 48)).heap[w.heap.size + 1 + 1]? = some (.cells #[.int .i64 0] 2) from blk_alloc (blk_alloc (by have h := blk_new ((w.alloc (.cells #[.int .i64 s0, .int .i64 s1, .int .i64 s2, .int .i64 s3, .int .i64 s4, .int .i64 s5, .int .i64 s6, .int .i64 s7, .int .i64 s8, .int .i64 s9, .int .i64 s10, .int .i64 s11, .int .i64 s12, .int .i64 s13, .int .i64 s14, .int .i64 s15, .slice none 0 0, .bool false] 45)).alloc (.cells #[.int .i64 0, .int .i64 0, .int .i64 0, .int .i64 0, .int .i64 0, .int .i64 0, .int .i64 0, .int .i64 0, .int .i64 0, .int .i64 0, .int .i64 0, .int .i64 0, .int .i64 0, .int .i64 0, .int .i64 0, .int .i64 0, .slice none 0 0, .bool false] 45)) (.cells #[.int .i64 0] 2); simp only [World.size_alloc] at h; exact h) (.cells #[.bool false] 4)) (.cells #[.int .i64 0] 48))
 have E3 := Lib.hid (show (((((w.alloc (.cells #[.int .i64 s0, .int .i64 s1, .int .i64 s2, .int .i64 s3, .int .i64 s4, .int .i64 s5, .int .i64 s6, .int .i64 s7, .int .i64 s8, .int .i64 s9, .int .i64 s10, .int .i64 s11, .int .i64 s12, .int .i64 s13, .int .i64 s14, .int .i64 s15, .slice none 0 0, .bool false] 45)).alloc (.cells #[.int .i64 0, .int .i64 0, .int .i64 0, .int .i64 0, .int .i64 0, .int .i64 0, .int .i64 0, .int .i64 0, .int .i64 0, .int .i64 0, .int .i64 0, .int .i64 0, .int .i64 0, .int .i64 0, .int .i64 0, .int .i64 0, .slice none 0 0, .bool false] 45)).alloc (.cells #[.int .i64 0] 2)).alloc (.cells #[.bool false] 4)).alloc (.cells #[.int .i64 0] 48)).heap[w.heap.size + 1 + 1 + 1]? = some (.cells #[.bool false] 4) from blk_alloc (by have h := blk_new (((w.alloc (.cells #[.int .i64 s0, .int .i64 s1, .int .i64 s2, .int .i64 s3, .int .i64 s4, .int .i64 s5, .int .i64 s6, .int .i64 s7, .int .i64 s8, .int .i64 s9, .int .i64 s10, .int .i64 s11, .int .i64 s12, .int .i64 s13, .int .i64 s14, .int .i64 s15, .slice none 0 0, .bool false] 45)).alloc (.cells #[.int .i64 0, .int .i64 0, .int .i64 0, .int .i64 0, .int .i64 0, .int .i64 0, .int .i64 0, .int .i64 0, .int .i64 0, .int .i64 0, .int .i64 0, .int .i64 0, .int .i64 0, .int .i64 0, .int .i64 0, .int .i64 0, .slice none 0 0, .bool false] 45)).alloc (.cells #[.int .i64 0] 2)) (.cells #[.bool false] 4); simp only [World.size_alloc] at h; exact h) (.cells #[.int .i64 0] 48))
 have E4 := Lib.hid (show (((((w.alloc (.cells #[.int .i64 s0, .int .i64 s1, .int .i64 s2, .int .i64 s3, .int .i64 s4, .int .i64 s5, .int .i64 s6, .int .i64 s7, .int .i64 s8, .int .i64 s9, .int .i64 s10, .int .i64 s11, .int .i64 s12, .int .i64 s13, .int .i64 s14, .int .i64 s15, .slice none 0 0, .bool false] 45)).alloc (.cells #[.int .i64 0, .int .i64 0, .int .i64 0, .int .i64 0, .int .i64 0, .int .i64 0, .int .i64 0, .int .i64 0, .int .i64 0, .int .i64 0, .int .i64 0, .int .i64 0, .int .i64 0, .int .i64 0, .int .i64 0, .int .i64 0, .slice none 0 0, .bool false] 45)).alloc (.cells #[.int .i64 0] 2)).alloc (.cells #[.bool false] 4)).alloc (.cells #[.int .i64 0] 48)).heap[w.heap.size + 1 + 1 + 1 + 1]? = some (.cells #[.int .i64 0] 48) from by have h := blk_new ((((w.alloc (.cells #[.int .i64 s0, .int .i64 s1, .int .i64 s2, .int .i64 s3, .int .i64 s4, .int .i64 s5, .int .i64 s6, .int .i64 s7, .int .i64 s8, .int .i64 s9, .int .i64 s10, .int .i64 s11, .int .i64 s12, .int .i64 s13, .int .i64 s14, .int .i64 s15, .slice none 0 0, .bool false] 45)).alloc (.cells #[.int .i64 0, .int .i64 0, .int .i64 0, .int .i64 0, .int .i64 0, .int .i64 0, .int .i64 0, .int .i64 0, .int .i64 0, .int .i64 0, .int .i64 0, .int .i64 0, .int .i64 0, .int .i64 0, .int .i64 0, .int .i64 0, .slice none 0 0, .bool false] 45)).alloc (.cells #[.int .i64 0] 2)).alloc (.cells #[.bool false] 4)) (.cells #[.int .i64 0] 48); simp only [World.size_alloc] at h; exact h)
 have HB0 := Lib.hid (below_alloc (below_alloc (below_alloc (below_alloc (below_alloc (Below.refl w.heap.size w) (.cells #[.int .i64 s0, .int .i64 s1, .int .i64 s2, .int .i64 s3, .int .i64 s4, .int .i64 s5, .int .i64 s6, .int .i64 s7, .int .i64 s8, .int .i64 s9, .int .i64 s10, .int .i64 s11, .int .i64 s12, .int .i64 s13, .int .i64 s14, .int .i64 s15, .slice none 0 0, .bool false] 45)) (.cells #[.int .i64 0, .int .i64 0, .int .i64 0, .int .i64 0, .int .i64 0, .int .i64 0, .int .i64 0, .int .i64 0, .int .i64 0, .int .i64 0, .int .i64 0, .int .i64 0, .int .i64 0, .int .i64 0, .int .i64 0, .int .i64 0, .slice none 0 0, .bool false] 45)) (.cells #[.int .i64 0] 2)) (.cells #[.bool false] 4)) (.cells #[.int .i64 0] 48))
 have hrd := rd45_blk EA.out rfl
 have E5 := Lib.hid (show (World.alloc (((((w.alloc (.cells #[.int .i64 s0, .int .i64 s1, .int .i64 s2, .int .i64 s3, .int .i64 s4, .int .i64 s5, .int .i64 s6, .int .i64 s7, .int .i64 s8, .int .i64 s9, .int .i64 s10, .int .i64 s11, .int .i64 s12, .int .i64 s13, .int .i64 s14, .int .i64 s15, .slice none 0 0, .bool false] 45)).alloc (.cells #[.int .i64 0, .int .i64 0, .int .i64 0, .int .i64 0, .int .i64 0, .int .i64 0, .int .i64 0, .int .i64 0, .int .i64 0, .int .i64 0, .int .i64 0, .int .i64 0, .int .i64 0, .int .i64 0, .int .i64 0, .int .i64 0, .slice none 0 0, .bool false] 45)).alloc (.cells #[.int .i64 0] 2)).alloc (.cells #[.bool false] 4)).alloc (.cells #[.int .i64 0] 48)) (.cells #[.int .i64 s0, .int .i64 s1, .int .i64 s2, .int .i64 s3, .int .i64 s4, .int .i64 s5, .int .i64 s6, .int .i64 s7, .int .i64 s8, .int .i64 s9, .int .i64 s10, .int .i64 s11, .int .i64 s12, .int .i64 s13, .int .i64 s14, .int .i64 s15, .slice none 0 0, .bool false, .iface 103 (.pointer (some ⟨gm, 0, none⟩)), .bool false, .int .i64 0] 134)).heap[w.heap.size + 1 + 1 + 1 + 1 + 1]? = some (.cells #[.int .i64 s0, .int .i64 s1, .int .i64 s2, .int .i64 s3, .int .i64 s4, .int .i64 s5, .int .i64 s6, .int .i64 s7, .int .i64 s8, .int .i64 s9, .int .i64 s10, .int .i64 s11, .int .i64 s12, .int .i64 s13, .int .i64 s14, .int .i64 s15, .slice none 0 0, .bool false, .iface 103 (.pointer (some ⟨gm, 0, none⟩)), .bool false, .int .i64 0] 134) from by have h := blk_new (((((w.alloc (.cells #[.int .i64 s0, .int .i64 s1, .int .i64 s2, .int .i64 s3, .int .i64 s4, .int .i64 s5, .int .i64 s6, .int .i64 s7, .int .i64 s8, .int .i64 s9, .int .i64 s10, .int .i64 s11, .int .i64 s12, .int .i64 s13, .int .i64 s14, .int .i64 s15, .slice none 0 0, .bool false] 45)).alloc (.cells #[.int .i64 0, .int .i64 0, .int .i64 0, .int .i64 0, .int .i64 0, .int .i64 0, .int .i64 0, .int .i64 0, .int .i64 0, .int .i64 0, .int .i64 0, .int .i64 0, .int .i64 0, .int .i64 0, .int .i64 0, .int .i64 0, .slice none 0 0, .bool false] 45)).alloc (.cells #[.int .i64 0] 2)).alloc (.cells #[.bool false] 4)).alloc (.cells #[.int .i64 0] 48)) (.cells #[.int .i64 s0, .int .i64 s1, .int .i64 s2, .int .i64 s3, .int .i64 s4, .int .i64 s5, .int .i64 s6, .int .i64 s7, .int .i64 s8, .int .i64 s9, .int .i64 s10, .int .i64 s11, .int .i64 s12, .int .i64 s13, .int .i64 s14, .int .i64 s15, .slice none 0 0, .bool false, .iface 103 (.pointer (some ⟨gm, 0, none⟩)), .bool false, .int .i64 0] 134); rw [hz] at h; exact h)
 have HB5 := Lib.hid (below_alloc HB0.out (.cells #[.int .i64 s0, .int .i64 s1, .int .i64 s2, .int .i64 s3, .int .i64 s4, .int .i64 s5, .int .i64 s6, .int .i64 s7, .int .i64 s8, .int .i64 s9, .int .i64 s10, .int .i64 s11, .int .i64 s12, .int .i64 s13, .int .i64 s14, .int .i64 s15, .slice none 0 0, .bool false, .iface 103 (.pointer (some ⟨gm, 0, none⟩)), .bool false, .int .i64 0] 134))
 have E1 := Lib.hid (blk_alloc E1.out (.cells #[.int .i64 s0, .int .i64 s1, .int .i64 s2, .int .i64 s3, .int .i64 s4, .int .i64 s5, .int .i64 s6, .int .i64 s7, .int .i64 s8, .int .i64 s9, .int .i64 s10, .int .i64 s11, .int .i64 s12, .int .i64 s13, .int .i64 s14, .int .i64 s15, .slice none 0 0, .bool false, .iface 103 (.pointer (some ⟨gm, 0, none⟩)), .bool false, .int .i64 0] 134))
 have E2 := Lib.hid (blk_alloc E2.out (.cells #[.int .i64 s0, .int .i64 s1, .int .i64 s2, .int .i64 s3, .int .i64 s4, .int .i64 s5, .int .i64 s6, .int .i64 s7, .int .i64 s8, .int .i64 s9, .int .i64 s10, .int .i64 s11, .int .i64 s12, .int .i64 s13, .int .i64 s14, .int .i64 s15, .slice none 0 0, .bool false, .iface 103 (.pointer (some ⟨gm, 0, none⟩)), .bool false, .int .i64 0] 134))
 have E3 := Lib.hid (blk_alloc E3.out (.cells #[.int .i64 s0, .int .i64 s1, .int .i64 s2, .int .i64 s3, .int .i64 s4, .int .i64 s5, .int .i64 s6, .int .i64 s7, .int .i64 s8, .int .i64 s9, .int .i64 s10, .int .i64 s11, .int .i64 s12, .int .i64 s13, .int .i64 s14, .int .i64 s15, .slice none 0 0, .bool false, .iface 103 (.pointer (some ⟨gm, 0, none⟩)), .bool false, .int .i64 0] 134))
 have E4 := Lib.hid (blk_alloc E4.out (.cells #[.int .i64 s0, .int .i64 s1, .int .i64 s2, .int .i64 s3, .int .i64 s4, .int .i64 s5, .int .i64 s6, .int .i64 s7, .int .i64 s8, .int .i64 s9, .int .i64 s10, .int .i64 s11, .int .i64 s12, .int .i64 s13, .int .i64 s14, .int .i64 s15, .slice none 0 0, .bool false, .iface 103 (.pointer (some ⟨gm, 0, none⟩)), .bool false, .int .i64 0] 134))
 go_wp2_with (first
  | (go_at_call 33; refine (clone33_nil _).mono ?_; rintro e w1 ⟨rfl, rfl⟩)
  | (go_at_call 54; refine (HF.out (w.heap.size + 1 + 1 + 1 + 1 + 1) _ HB5.out (by omega) E5.out).mono ?_; rintro e w2 ⟨rfl, hR, hb⟩; have E5 := Lib.hid hR; have E1 := Lib.hid ((hb.block _ (by omega)).trans E1.out); have E2 := Lib.hid ((hb.block _ (by omega)).trans E2.out); have E3 := Lib.hid ((hb.block _ (by omega)).trans E3.out); have E4 := Lib.hid ((hb.block _ (by omega)).trans E4.out); have HB6 := Lib.hid (below_join HB5.out hb (by omega)); clear hb hR)
  | (go_at_call 53; refine (HD.out (w.heap.size + 1 + 1 + 1 + 1 + 1) _ HB6.out (by omega) E5.out).mono ?_; rintro e w3 ⟨rfl, hR, hb⟩; have E5 := Lib.hid hR; have E1 := Lib.hid ((hb.block _ (by omega)).trans E1.out); have E2 := Lib.hid ((hb.block _ (by omega)).trans E2.out); have E3 := Lib.hid ((hb.block _ (by omega)).trans E3.out); have E4 := Lib.hid ((hb.block _ (by omega)).trans E4.out); have HB7 := Lib.hid (below_join HB6.out hb (by omega)); clear hb hR))
 refine st7 gm (w.heap.size + 1 + 1 + 1 + 1 + 1) (w.heap.size + 1) (w.heap.size + 1 + 1) (w.heap.size + 1 + 1 + 1) (w.heap.size + 1 + 1 + 1 + 1) w.heap.size q0 q1 q2 q3 q4 q5 q6 q7 q8 q9 q10 q11 q12 q13 q14 q15 ov qA qn qc hl2 tb _ _ _ _ _ _ _ _ _ _ _ _ _ _ _ _ _ _ _ _ _ _ _ _ _ _ _ _ _ _ _ _ _ w3 _ E5.out E1.out E2.out E3.out E4.out (by omega) ⟨by omega, by omega, by omega, by omega, by omega, HB7.out.size⟩ ?_
 intro w4 a25 a26 a27 a28 a29 a30 a31 a32 a33 a34 a35 a36 h1 h2 h3 h4 hb
 have HB8 := Lib.hid (below_join HB7.out hb (Nat.le_refl _))
 have H1 := Lib.hid h1
 have H2 := Lib.hid h2
 have H3 := Lib.hid h3
 have H4 := Lib.hid h4
 clear h1 h2 h3 h4 hb
 go_wp2
 refine leaves_cons (f := 52) (args := #[.pointer (some ⟨w.heap.size + 1, 0, none⟩), .pointer (some ⟨w.heap.size + 1 + 1, 0, none⟩), .pointer (some ⟨w.heap.size + 1 + 1 + 1, 0, none⟩), .pointer (some ⟨w.heap.size + 1 + 1 + 1 + 1, 0, none⟩)]) (by simp) (by simp [go_sem]) ?_
 refine (catch_idle _ _ _ _ _).mono ?_
 rintro e u' w5 ⟨rfl, rfl, rfl⟩
 unfold Leaves
 refine ⟨_, res34 _ w5 (w.heap.size + 1) (w.heap.size + 1 + 1) (w.heap.size + 1 + 1 + 1) (w.heap.size + 1 + 1 + 1 + 1) _ _ _ _ rfl rfl rfl rfl H1.out rfl ((blk_cell H2.out 0).trans rfl) ((blk_cell H3.out 0).trans rfl) ((blk_cell H4.out 0).trans rfl), ?_⟩
 exact ⟨rfl, HB8.out⟩
end Go.Proofs.YteilkbookcmndaaGreatDoor.C
end
