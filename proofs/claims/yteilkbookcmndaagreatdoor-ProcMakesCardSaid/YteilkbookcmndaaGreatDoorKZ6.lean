/- Texts that the claim's law stands on, cut down to what it reaches. -/
import Derived.Test.YteilkbookcmndaaGreatDoorKZ5
import Derived.Deep.RegionHeldLaw
import Derived.Deep.RegionHeld3
import Derived.Deep.LoopGhost
set_option linter.unusedVariables false
set_option linter.unusedSimpArgs false
section
namespace Go.Proofs.YteilkbookcmndaaGreatDoor.C
open Go.RowKit Go.Proofs.YteilkbookcmndaaGreatDoor.Q Go.Proofs.YteilkbookcmndaaGreatDoorW.PrintWords Go.Proofs.YteilkbookcmndaaGreatDoorW.PrintLast Go.Proofs.YteilkbookcmndaaGreatDoorW.PrintMore
attribute [local go_sem ↓] rd_at50 wr_at50 al_at50
attribute [local go_sem] rd50_new wr50_new al50
theorem rd_at55 (x : Value) : Instr.loadAt 55 x = rdS 55 x := rd_at 55 x
theorem wr_at55 (x v : Value) : Instr.storeAt 55 x v = wrS 55 x v := wr_at 55 x v
theorem rd55_blk {W : World} {g : Nat} {cs : Array Value} (hg : W.heap[g]? = some (.cells cs 55 (0, 0))) (hi : cs.size = 18) : (rdS 55 (.pointer (some ⟨g, 0, none⟩))).run Tryz.prog W = .ok (.agg cs) W :=
 rd_row _ hg rfl Tryz.underlying55 (by rw [hi]; kernel_rfl)
theorem wr55_blk {W : World} {g : Nat} {old cs : Array Value} (hg : W.heap[g]? = some (.cells old 55 (0, 0))) (ho : old.size = 18) (hi : cs.size = 18) (h1 : cs.all (·.oneCell') = true) : (wrS 55 (.pointer (some ⟨g, 0, none⟩)) (.agg cs)).run Tryz.prog W = .ok () (W.setRow g cs) :=
 wr_row hg (by rw [hi]; kernel_rfl) (by rw [hi, ho]) h1
theorem rd_at57 (x : Value) : Instr.loadAt 57 x = rdS 57 x := rd_at 57 x
theorem wr_at57 (x v : Value) : Instr.storeAt 57 x v = wrS 57 x v := wr_at 57 x v
theorem rd57_blk {W : World} {g : Nat} {cs : Array Value} (hg : W.heap[g]? = some (.cells cs 57 (0, 0))) (hi : cs.size = 19) : (rdS 57 (.pointer (some ⟨g, 0, none⟩))).run Tryz.prog W = .ok (.agg cs) W :=
 rd_row _ hg rfl Tryz.underlying57 (by rw [hi]; kernel_rfl)
theorem wr57_blk {W : World} {g : Nat} {old cs : Array Value} (hg : W.heap[g]? = some (.cells old 57 (0, 0))) (ho : old.size = 19) (hi : cs.size = 19) (h1 : cs.all (·.oneCell') = true) : (wrS 57 (.pointer (some ⟨g, 0, none⟩)) (.agg cs)).run Tryz.prog W = .ok () (W.setRow g cs) :=
 wr_row hg (by rw [hi]; kernel_rfl) (by rw [hi, ho]) h1
theorem wr57_new (w : World) (p0A : Option Addr) (p0 p0c : Nat) (p1 : Int) (p2 : Int) (p3 : Int) (p4 : Int) (p5 : Int) (p6 : Int) (p7 : Int) (p8 : Int) (p9 : Int) (p10 : Int) (p11 : Int) (p12 : Int) (p13 : Int) (p14 : Int) (p15 : Int) (p16 : Int) (p17A : Option Addr) (p17 p17c : Nat) (p18 : Bool) (q0A : Option Addr) (q0 q0c : Nat) (q1 : Int) (q2 : Int) (q3 : Int) (q4 : Int) (q5 : Int) (q6 : Int) (q7 : Int) (q8 : Int) (q9 : Int) (q10 : Int) (q11 : Int) (q12 : Int) (q13 : Int) (q14 : Int) (q15 : Int) (q16 : Int) (q17A : Option Addr) (q17 q17c : Nat) (q18 : Bool) : (wrS 57 (.pointer (some ⟨w.heap.size, 0, none⟩)) (.agg #[.slice q0A q0 q0c, .int .i64 q1, .int .i64 q2, .int .i64 q3, .int .i64 q4, .int .i64 q5, .int .i64 q6, .int .i64 q7, .int .i64 q8, .int .i64 q9, .int .i64 q10, .int .i64 q11, .int .i64 q12, .int .i64 q13, .int .i64 q14, .int .i64 q15, .int .i64 q16, .slice q17A q17 q17c, .bool q18])).run Tryz.prog (w.alloc (.cells #[.slice p0A p0 p0c, .int .i64 p1, .int .i64 p2, .int .i64 p3, .int .i64 p4, .int .i64 p5, .int .i64 p6, .int .i64 p7, .int .i64 p8, .int .i64 p9, .int .i64 p10, .int .i64 p11, .int .i64 p12, .int .i64 p13, .int .i64 p14, .int .i64 p15, .int .i64 p16, .slice p17A p17 p17c, .bool p18] 57)) = .ok () (w.alloc (.cells #[.slice q0A q0 q0c, .int .i64 q1, .int .i64 q2, .int .i64 q3, .int .i64 q4, .int .i64 q5, .int .i64 q6, .int .i64 q7, .int .i64 q8, .int .i64 q9, .int .i64 q10, .int .i64 q11, .int .i64 q12, .int .i64 q13, .int .i64 q14, .int .i64 q15, .int .i64 q16, .slice q17A q17 q17c, .bool q18] 57)) := by
 rw [← wr_at]
 exact run_storeAt_new w 57 #[.slice p0A p0 p0c, .int .i64 p1, .int .i64 p2, .int .i64 p3, .int .i64 p4, .int .i64 p5, .int .i64 p6, .int .i64 p7, .int .i64 p8, .int .i64 p9, .int .i64 p10, .int .i64 p11, .int .i64 p12, .int .i64 p13, .int .i64 p14, .int .i64 p15, .int .i64 p16, .slice p17A p17 p17c, .bool p18] #[.slice q0A q0 q0c, .int .i64 q1, .int .i64 q2, .int .i64 q3, .int .i64 q4, .int .i64 q5, .int .i64 q6, .int .i64 q7, .int .i64 q8, .int .i64 q9, .int .i64 q10, .int .i64 q11, .int .i64 q12, .int .i64 q13, .int .i64 q14, .int .i64 q15, .int .i64 q16, .slice q17A q17 q17c, .bool q18] (by kernel_rfl) rfl (by simp [Value.oneCell'])
theorem rd_at42 (x : Value) : Instr.loadAt 42 x = rdS 42 x := rd_at 42 x
theorem wr_at42 (x v : Value) : Instr.storeAt 42 x v = wrS 42 x v := wr_at 42 x v
theorem info42 : (Tryz.prog.info? 42).map (·.size) = some 12 := by kernel_rfl
theorem wr42_in {W : World} {g o : Nat} {cur : List Value} {cs : Array Value} {ty : TypeId} (hg : W.heap[g]? = some (.cells cur.toArray ty (0, 0))) (ho : o + 12 ≤ cur.length) (hi : cs.size = 12) (h1 : cs.all (·.oneCell') = true) : (wrS 42 (.pointer (some ⟨g, o, none⟩)) (.agg cs)).run Tryz.prog W = .ok () (W.setRow g (splice cur o cs.toList).toArray) := by
 have hs := run_storeCells_at Tryz.prog g o ty cs.toList 0 cur.toArray W hg (by simp [hi]; omega) (fun v hv => (Array.all_eq_true_iff_forall_mem.1 h1) v (by simpa using hv))
 obtain ⟨i, hq, hz⟩ := Option.map_eq_some_iff.1 info42
 rw [← wr_at]
 simp only [Instr.storeAt, Instr.sureAddr, Sem.run_bind, Sem.run_pure, Result.andThen]
 have hs2 : cs.size = i.size := by omega
 simp only [Nat.add_zero] at hs
 simp [storeVar, sizeOf, typeInfo, hq, Value.cells, hs2, hs, splice, hi]
attribute [local go_sem ↓] rd_at45 wr_at45 rd_at47b wr_at47b rd_at55 wr_at55 rd_at57 wr_at57 rd_at42 wr_at42
attribute [local go_sem] rd45_new wr45_new wr47b_new wr57_new
set_option maxHeartbeats 16000000 in
set_option maxRecDepth 1000000 in
theorem rnew_c (w : World) : Calls Tryz.prog 31 #[] w fun e w' => e = .returned (.agg #[.int .i64 0, .int .i64 0, .int .i64 4, .int .i64 0, .int .i64 0, .int .i64 0, .int .i64 4, .int .i64 1, .int .i64 0, .int .i64 4, .int .i64 2, .int .i64 0, .int .i64 4, .int .i64 3, .int .i64 0, .int .i64 4, .slice none 0 0, .bool false]) ∧ Below w.heap.size w w' := by
 have HB0 := Lib.hid (below_alloc (below_alloc (Below.refl w.heap.size w) (.cells #[.int .i64 0, .int .i64 0, .int .i64 0, .int .i64 0, .int .i64 0, .int .i64 0, .int .i64 0, .int .i64 0, .int .i64 0, .int .i64 0, .int .i64 0, .int .i64 0, .int .i64 0, .int .i64 0, .int .i64 0, .int .i64 0, .slice none 0 0, .bool false] 55)) (.cells #[.int .i64 0, .int .i64 0, .int .i64 0, .int .i64 0, .int .i64 0, .int .i64 0, .int .i64 0, .int .i64 0, .int .i64 0, .int .i64 0, .int .i64 0, .int .i64 0, .int .i64 0, .int .i64 0, .int .i64 0, .int .i64 0, .slice none 0 0, .bool false] 55))
 have E0 := Lib.hid (blk_alloc (blk_new w (.cells #[.int .i64 0, .int .i64 0, .int .i64 0, .int .i64 0, .int .i64 0, .int .i64 0, .int .i64 0, .int .i64 0, .int .i64 0, .int .i64 0, .int .i64 0, .int .i64 0, .int .i64 0, .int .i64 0, .int .i64 0, .int .i64 0, .slice none 0 0, .bool false] 55)) (.cells #[.int .i64 0, .int .i64 0, .int .i64 0, .int .i64 0, .int .i64 0, .int .i64 0, .int .i64 0, .int .i64 0, .int .i64 0, .int .i64 0, .int .i64 0, .int .i64 0, .int .i64 0, .int .i64 0, .int .i64 0, .int .i64 0, .slice none 0 0, .bool false] 55))
 have E1 := Lib.hid (show ((w.alloc (.cells #[.int .i64 0, .int .i64 0, .int .i64 0, .int .i64 0, .int .i64 0, .int .i64 0, .int .i64 0, .int .i64 0, .int .i64 0, .int .i64 0, .int .i64 0, .int .i64 0, .int .i64 0, .int .i64 0, .int .i64 0, .int .i64 0, .slice none 0 0, .bool false] 55)).alloc (.cells #[.int .i64 0, .int .i64 0, .int .i64 0, .int .i64 0, .int .i64 0, .int .i64 0, .int .i64 0, .int .i64 0, .int .i64 0, .int .i64 0, .int .i64 0, .int .i64 0, .int .i64 0, .int .i64 0, .int .i64 0, .int .i64 0, .slice none 0 0, .bool false] 55)).heap[w.heap.size + 1]? = some (.cells #[.int .i64 0, .int .i64 0, .int .i64 0, .int .i64 0, .int .i64 0, .int .i64 0, .int .i64 0, .int .i64 0, .int .i64 0, .int .i64 0, .int .i64 0, .int .i64 0, .int .i64 0, .int .i64 0, .int .i64 0, .int .i64 0, .slice none 0 0, .bool false] 55) by have := blk_new (w.alloc (.cells #[.int .i64 0, .int .i64 0, .int .i64 0, .int .i64 0, .int .i64 0, .int .i64 0, .int .i64 0, .int .i64 0, .int .i64 0, .int .i64 0, .int .i64 0, .int .i64 0, .int .i64 0, .int .i64 0, .int .i64 0, .int .i64 0, .slice none 0 0, .bool false] 55)) (.cells #[.int .i64 0, .int .i64 0, .int .i64 0, .int .i64 0, .int .i64 0, .int .i64 0, .int .i64 0, .int .i64 0, .int .i64 0, .int .i64 0, .int .i64 0, .int .i64 0, .int .i64 0, .int .i64 0, .int .i64 0, .int .i64 0, .slice none 0 0, .bool false] 55); rwa [World.size_alloc] at this)
 have hst := wr55_blk (cs := #[.int .i64 0, .int .i64 0, .int .i64 4, .int .i64 0, .int .i64 0, .int .i64 0, .int .i64 0, .int .i64 0, .int .i64 0, .int .i64 0, .int .i64 0, .int .i64 0, .int .i64 0, .int .i64 0, .int .i64 0, .int .i64 0, .slice none 0 0, .bool false]) E1.out rfl rfl (by simp [Value.oneCell'])
 have EX := Lib.hid (setRow_heap _ _ _ (#[.int .i64 0, .int .i64 0, .int .i64 4, .int .i64 0, .int .i64 0, .int .i64 0, .int .i64 0, .int .i64 0, .int .i64 0, .int .i64 0, .int .i64 0, .int .i64 0, .int .i64 0, .int .i64 0, .int .i64 0, .int .i64 0, .slice none 0 0, .bool false] : Array Value) _ _ E1.out)
 have E0 := Lib.hid ((setRow_other _ (w.heap.size + 1) w.heap.size (#[.int .i64 0, .int .i64 0, .int .i64 4, .int .i64 0, .int .i64 0, .int .i64 0, .int .i64 0, .int .i64 0, .int .i64 0, .int .i64 0, .int .i64 0, .int .i64 0, .int .i64 0, .int .i64 0, .int .i64 0, .int .i64 0, .slice none 0 0, .bool false] : Array Value) (by omega)).trans E0.out)
 have HB0 := Lib.hid (below_setRow HB0.out (Nat.le_succ w.heap.size) (#[.int .i64 0, .int .i64 0, .int .i64 4, .int .i64 0, .int .i64 0, .int .i64 0, .int .i64 0, .int .i64 0, .int .i64 0, .int .i64 0, .int .i64 0, .int .i64 0, .int .i64 0, .int .i64 0, .int .i64 0, .int .i64 0, .slice none 0 0, .bool false] : Array Value))
 go_enter Tryz.func31, Tryz.ntmps31
 go_wp2
 obtain ⟨V, hV⟩ : ∃ V, V = ((w.alloc (.cells #[.int .i64 0, .int .i64 0, .int .i64 0, .int .i64 0, .int .i64 0, .int .i64 0, .int .i64 0, .int .i64 0, .int .i64 0, .int .i64 0, .int .i64 0, .int .i64 0, .int .i64 0, .int .i64 0, .int .i64 0, .int .i64 0, .slice none 0 0, .bool false] 55)).alloc (.cells #[.int .i64 0, .int .i64 0, .int .i64 0, .int .i64 0, .int .i64 0, .int .i64 0, .int .i64 0, .int .i64 0, .int .i64 0, .int .i64 0, .int .i64 0, .int .i64 0, .int .i64 0, .int .i64 0, .int .i64 0, .int .i64 0, .slice none 0 0, .bool false] 55)).setRow (w.heap.size + 1) #[.int .i64 0, .int .i64 0, .int .i64 4, .int .i64 0, .int .i64 0, .int .i64 0, .int .i64 0, .int .i64 0, .int .i64 0, .int .i64 0, .int .i64 0, .int .i64 0, .int .i64 0, .int .i64 0, .int .i64 0, .int .i64 0, .slice none 0 0, .bool false] := ⟨_, rfl⟩
 rw [← hV] at HB0 E0 EX ⊢
 clear hV hst E1
 go_loopg [2] 4 (fun kk s4 wr => ∃ i : Nat, i ≤ 4 ∧ 4 - i ≤ kk ∧ s4 = .int .i64 (i : Int) ∧ Hid (wr.heap[w.heap.size + 1]? = some (.cells (newC i) 55 (0, 0))) ∧ Hid (wr.heap[w.heap.size]? = some (.cells #[.int .i64 0, .int .i64 0, .int .i64 0, .int .i64 0, .int .i64 0, .int .i64 0, .int .i64 0, .int .i64 0, .int .i64 0, .int .i64 0, .int .i64 0, .int .i64 0, .int .i64 0, .int .i64 0, .int .i64 0, .int .i64 0, .slice none 0 0, .bool false] 55 (0, 0)) ∧ Below w.heap.size w wr))
 case atStart => exact ⟨0, by omega, by omega, rfl, EX, Lib.hid ⟨E0.out, HB0.out⟩⟩
 case round =>
  obtain ⟨i, hi, hik, rfl, HE, HB⟩ := hrel
  rcases i with _ | _ | _ | _ | _ | i
  ·have hE : wr.heap[w.heap.size + 1]? = some (.cells #[.int .i64 0, .int .i64 0, .int .i64 4, .int .i64 0, .int .i64 0, .int .i64 0, .int .i64 0, .int .i64 0, .int .i64 0, .int .i64 0, .int .i64 0, .int .i64 0, .int .i64 0, .int .i64 0, .int .i64 0, .int .i64 0, .slice none 0 0, .bool false] 55 (0, 0)) := HE.out
   have f0 := blk_frozen hE 4
   have e0 : wr.cell? ⟨w.heap.size + 1, 4, none⟩ = some (.int .i64 0) := (blk_cell hE 4).trans rfl
   have f1 := blk_frozen hE 5
   have e1 : wr.cell? ⟨w.heap.size + 1, 5, none⟩ = some (.int .i64 0) := (blk_cell hE 5).trans rfl
   have f2 := blk_frozen hE 6
   have e2 : wr.cell? ⟨w.heap.size + 1, 6, none⟩ = some (.int .i64 0) := (blk_cell hE 6).trans rfl
   have hX := (blk_put (blk_put (blk_put hE 4 (.int .i64 0) rfl) 5 (.int .i64 0) rfl) 6 (.int .i64 4) rfl)
   have HX := Lib.hid hX
   clear hE hX
   go_wp2
   go_roundg (4 - 1)
   case measure => omega
   case rel => exact ⟨1, by omega, Nat.le_refl _, by go_num, Lib.hid HX.out, Lib.hid ⟨blk_far (blk_far (blk_far HB.out.1 (by show w.heap.size ≠ w.heap.size + 1; omega) _) (by show w.heap.size ≠ w.heap.size + 1; omega) _) (by show w.heap.size ≠ w.heap.size + 1; omega) _, below_put (below_put (below_put HB.out.2 (by omega)) (by omega)) (by omega)⟩⟩
  ·have hE : wr.heap[w.heap.size + 1]? = some (.cells #[.int .i64 0, .int .i64 0, .int .i64 4, .int .i64 0, .int .i64 0, .int .i64 0, .int .i64 4, .int .i64 0, .int .i64 0, .int .i64 0, .int .i64 0, .int .i64 0, .int .i64 0, .int .i64 0, .int .i64 0, .int .i64 0, .slice none 0 0, .bool false] 55 (0, 0)) := HE.out
   have f0 := blk_frozen hE 7
   have e0 : wr.cell? ⟨w.heap.size + 1, 7, none⟩ = some (.int .i64 0) := (blk_cell hE 7).trans rfl
   have f1 := blk_frozen hE 8
   have e1 : wr.cell? ⟨w.heap.size + 1, 8, none⟩ = some (.int .i64 0) := (blk_cell hE 8).trans rfl
   have f2 := blk_frozen hE 9
   have e2 : wr.cell? ⟨w.heap.size + 1, 9, none⟩ = some (.int .i64 0) := (blk_cell hE 9).trans rfl
   have hX := (blk_put (blk_put (blk_put hE 7 (.int .i64 1) rfl) 8 (.int .i64 0) rfl) 9 (.int .i64 4) rfl)
   have HX := Lib.hid hX
   clear hE hX
   go_wp2
   go_roundg (4 - 2)
   case measure => omega
   case rel => exact ⟨2, by omega, Nat.le_refl _, by go_num, Lib.hid HX.out, Lib.hid ⟨blk_far (blk_far (blk_far HB.out.1 (by show w.heap.size ≠ w.heap.size + 1; omega) _) (by show w.heap.size ≠ w.heap.size + 1; omega) _) (by show w.heap.size ≠ w.heap.size + 1; omega) _, below_put (below_put (below_put HB.out.2 (by omega)) (by omega)) (by omega)⟩⟩
  ·have hE : wr.heap[w.heap.size + 1]? = some (.cells #[.int .i64 0, .int .i64 0, .int .i64 4, .int .i64 0, .int .i64 0, .int .i64 0, .int .i64 4, .int .i64 1, .int .i64 0, .int .i64 4, .int .i64 0, .int .i64 0, .int .i64 0, .int .i64 0, .int .i64 0, .int .i64 0, .slice none 0 0, .bool false] 55 (0, 0)) := HE.out
   have f0 := blk_frozen hE 10
   have e0 : wr.cell? ⟨w.heap.size + 1, 10, none⟩ = some (.int .i64 0) := (blk_cell hE 10).trans rfl
   have f1 := blk_frozen hE 11
   have e1 : wr.cell? ⟨w.heap.size + 1, 11, none⟩ = some (.int .i64 0) := (blk_cell hE 11).trans rfl
   have f2 := blk_frozen hE 12
   have e2 : wr.cell? ⟨w.heap.size + 1, 12, none⟩ = some (.int .i64 0) := (blk_cell hE 12).trans rfl
   have hX := (blk_put (blk_put (blk_put hE 10 (.int .i64 2) rfl) 11 (.int .i64 0) rfl) 12 (.int .i64 4) rfl)
   have HX := Lib.hid hX
   clear hE hX
   go_wp2
   go_roundg (4 - 3)
   case measure => omega
   case rel => exact ⟨3, by omega, Nat.le_refl _, by go_num, Lib.hid HX.out, Lib.hid ⟨blk_far (blk_far (blk_far HB.out.1 (by show w.heap.size ≠ w.heap.size + 1; omega) _) (by show w.heap.size ≠ w.heap.size + 1; omega) _) (by show w.heap.size ≠ w.heap.size + 1; omega) _, below_put (below_put (below_put HB.out.2 (by omega)) (by omega)) (by omega)⟩⟩
  ·have hE : wr.heap[w.heap.size + 1]? = some (.cells #[.int .i64 0, .int .i64 0, .int .i64 4, .int .i64 0, .int .i64 0, .int .i64 0, .int .i64 4, .int .i64 1, .int .i64 0, .int .i64 4, .int .i64 2, .int .i64 0, .int .i64 4, .int .i64 0, .int .i64 0, .int .i64 0, .slice none 0 0, .bool false] 55 (0, 0)) := HE.out
   have f0 := blk_frozen hE 13
   have e0 : wr.cell? ⟨w.heap.size + 1, 13, none⟩ = some (.int .i64 0) := (blk_cell hE 13).trans rfl
   have f1 := blk_frozen hE 14
   have e1 : wr.cell? ⟨w.heap.size + 1, 14, none⟩ = some (.int .i64 0) := (blk_cell hE 14).trans rfl
   have f2 := blk_frozen hE 15
   have e2 : wr.cell? ⟨w.heap.size + 1, 15, none⟩ = some (.int .i64 0) := (blk_cell hE 15).trans rfl
   have hX := (blk_put (blk_put (blk_put hE 13 (.int .i64 3) rfl) 14 (.int .i64 0) rfl) 15 (.int .i64 4) rfl)
   have HX := Lib.hid hX
   clear hE hX
   go_wp2
   go_roundg (4 - 4)
   case measure => omega
   case rel => exact ⟨4, by omega, Nat.le_refl _, by go_num, Lib.hid HX.out, Lib.hid ⟨blk_far (blk_far (blk_far HB.out.1 (by show w.heap.size ≠ w.heap.size + 1; omega) _) (by show w.heap.size ≠ w.heap.size + 1; omega) _) (by show w.heap.size ≠ w.heap.size + 1; omega) _, below_put (below_put (below_put HB.out.2 (by omega)) (by omega)) (by omega)⟩⟩
  ·have hE : wr.heap[w.heap.size + 1]? = some (.cells #[.int .i64 0, .int .i64 0, .int .i64 4, .int .i64 0, .int .i64 0, .int .i64 0, .int .i64 4, .int .i64 1, .int .i64 0, .int .i64 4, .int .i64 2, .int .i64 0, .int .i64 4, .int .i64 3, .int .i64 0, .int .i64 4, .slice none 0 0, .bool false] 55 (0, 0)) := HE.out
   have hr := rd55_blk hE rfl
   have hs := wr55_blk (cs := #[.int .i64 0, .int .i64 0, .int .i64 4, .int .i64 0, .int .i64 0, .int .i64 0, .int .i64 4, .int .i64 1, .int .i64 0, .int .i64 4, .int .i64 2, .int .i64 0, .int .i64 4, .int .i64 3, .int .i64 0, .int .i64 4, .slice none 0 0, .bool false]) HB.out.1 rfl rfl (by simp [Value.oneCell'])
   have hX := setRow_heap _ _ _ (#[.int .i64 0, .int .i64 0, .int .i64 4, .int .i64 0, .int .i64 0, .int .i64 0, .int .i64 4, .int .i64 1, .int .i64 0, .int .i64 4, .int .i64 2, .int .i64 0, .int .i64 4, .int .i64 3, .int .i64 0, .int .i64 4, .slice none 0 0, .bool false] : Array Value) _ _ HB.out.1
   clear hE
   go_wp2
   refine bodyPost_ret (results_cell_row rfl _ _ w.heap.size 55 _ (0, 0) _ rfl hX Tryz.underlying55 rfl (by kernel_rfl)) rfl ?_
   exact ⟨rfl, below_setRow HB.out.2 (Nat.le_refl _) _⟩
  ·omega
set_option maxHeartbeats 16000000 in
set_option maxRecDepth 1000000 in
theorem sta3 (g3 g4 n0 nb cb : Nat) (B : Option Addr) (s0 s1 s2 s3 s4 s5 s6 s7 s8 s9 s10 s11 s12 s13 s14 s15 : Int) (hl : Bool) (u0 u1 u2 u5 u6 u7 u8 u9 u10 u11 u12 u13 u14 u15 u16 u17 u18 u19 u20 u21 u22 u23 u24 u25 u26 u27 u28 u29 u30 u31 u32 u33 u34 u35 u36 u37 u38 u39 u40 u41 u42 u43 u44 u45 u46 u47 u48 u49 u50 u51 u52 u53 u54 u55 u56 u57 u58 u59 u60 u61 u62 u63 u64 u65 u66 u67 u68 : Value) (W : World) (Q : Exit → Act → World → Prop)
  (h3 : W.heap[g3]? = some (.cells #[.slice B nb cb, .int .i64 0, .int .i64 0, .int .i64 0, .int .i64 0, .int .i64 0, .int .i64 0, .int .i64 0, .int .i64 0, .int .i64 0, .int .i64 0, .int .i64 0, .int .i64 0, .int .i64 0, .int .i64 0, .int .i64 0, .int .i64 0, .slice none 0 0, .bool false] 57 (0, 0))) (h4 : W.heap[g4]? = some (.cells #[.int .i64 s0, .int .i64 s1, .int .i64 s2, .int .i64 s3, .int .i64 s4, .int .i64 s5, .int .i64 s6, .int .i64 s7, .int .i64 s8, .int .i64 s9, .int .i64 s10, .int .i64 s11, .int .i64 s12, .int .i64 s13, .int .i64 s14, .int .i64 s15, .slice none 0 0, .bool hl] 45 (0, 0))) (hne : g4 ≠ g3) (hlo : n0 ≤ g3)
  (hpost : ∀ (w' : World) (t11 t12 t13 t14 t15 t16 t17 t18 t19 t20 t21 t22 t23 t24 t25 t26 t27 t28 t29 t30 t31 t32 t33 t34 : Value), w'.heap[g3]? = some (.cells #[.slice B nb cb, .int .i64 s0, .int .i64 s1, .int .i64 s2, .int .i64 s3, .int .i64 s4, .int .i64 s5, .int .i64 s6, .int .i64 s7, .int .i64 s8, .int .i64 s9, .int .i64 s10, .int .i64 s11, .int .i64 s12, .int .i64 s13, .int .i64 s14, .int .i64 s15, .slice none 0 0, .bool hl] 57 (0, 0)) → w'.heap[g4]? = some (.cells #[.int .i64 s0, .int .i64 s1, .int .i64 s2, .int .i64 s3, .int .i64 s4, .int .i64 s5, .int .i64 s6, .int .i64 s7, .int .i64 s8, .int .i64 s9, .int .i64 s10, .int .i64 s11, .int .i64 s12, .int .i64 s13, .int .i64 s14, .int .i64 s15, .slice none 0 0, .bool hl] 45 (0, 0)) → Below n0 W w' → Q .normal ⟨#[u0, u1, u2, .pointer (some ⟨g3, 0, none⟩), .pointer (some ⟨g4, 0, none⟩), u5, u6, u7, u8, u9, u10, t11, t12, t13, t14, t15, t16, t17, t18, t19, t20, t21, t22, t23, t24, t25, t26, t27, t28, t29, t30, t31, t32, t33, t34, u35, u36, u37, u38, u39, u40, u41, u42, u43, u44, u45, u46, u47, u48, u49, u50, u51, u52, u53, u54, u55, u56, u57, u58, u59, u60, u61, u62, u63, u64, u65, u66, u67, u68], []⟩ w') :
  Code.wp Tryz.prog (cReg Tryz.f15 3) Q ⟨#[u0, u1, u2, .pointer (some ⟨g3, 0, none⟩), .pointer (some ⟨g4, 0, none⟩), u5, u6, u7, u8, u9, u10, u11, u12, u13, u14, u15, u16, u17, u18, u19, u20, u21, u22, u23, u24, u25, u26, u27, u28, u29, u30, u31, u32, u33, u34, u35, u36, u37, u38, u39, u40, u41, u42, u43, u44, u45, u46, u47, u48, u49, u50, u51, u52, u53, u54, u55, u56, u57, u58, u59, u60, u61, u62, u63, u64, u65, u66, u67, u68], []⟩ W := by
 have HPO := Lib.hid hpost
 have E3 := Lib.hid h3
 have E4 := Lib.hid h4
 clear h3 h4 hpost
 have HB := Lib.hid (below_drew1 (Below.refl W.heap.size W))
 have HB := Lib.hid (show Below n0 W W.drew from below_drew1 (Below.refl n0 W))
 have E3 := Lib.hid (blk_drew E3.out)
 have E4 := Lib.hid (blk_drew E4.out)
 conv => arg 2; whnf
 refine wp_region_noPanic ?_
 refine wp_region_held_drew (S := fun W1 => W1.cell? ⟨g4, 0, none⟩ = some (.int .i64 s0) ∧ W1.cell? ⟨g4, 1, none⟩ = some (.int .i64 s1) ∧ W1.cell? ⟨g4, 2, none⟩ = some (.int .i64 s2) ∧ W1.cell? ⟨g4, 3, none⟩ = some (.int .i64 s3) ∧ (rdS 42 (.pointer (some ⟨g4, 4, none⟩))).run Tryz.prog W1 = .ok (.agg #[.int .i64 s4, .int .i64 s5, .int .i64 s6, .int .i64 s7, .int .i64 s8, .int .i64 s9, .int .i64 s10, .int .i64 s11, .int .i64 s12, .int .i64 s13, .int .i64 s14, .int .i64 s15]) W1 ∧ W1.cell? ⟨g4, 17, none⟩ = some (.bool hl)) (by kernel_rfl) ?_ (fun hHeld => ?_)
 focus ((try dsimp only); exact ⟨(blk_cell E4.out 0).trans rfl, (blk_cell E4.out 1).trans rfl, (blk_cell E4.out 2).trans rfl, (blk_cell E4.out 3).trans rfl, rd_in (t := 42) (k := 12) E4.out Tryz.isAgg42 Tryz.sizeOf42 (by show 4 + 12 ≤ 18; omega), (blk_cell E4.out 17).trans rfl⟩)
 refine tq 0 11 ?_ (by assumption)
 refine tq 1 12 ?_ (by assumption)
 refine tq 2 13 ?_ (by assumption)
 refine tq 3 14 ?_ (by assumption)
 refine tq 4 15 ?_ (by assumption)
 refine tq 5 16 ?_ (by assumption)
 refine tq 6 17 ?_ (by assumption)
 refine tq 7 18 ?_ (by assumption)
 refine tq 8 19 ?_ (by assumption)
 refine tq 9 20 ?_ (by assumption)
 refine tq 10 21 ?_ (by assumption)
 refine tq 11 22 ?_ (by assumption)
 refine tq 12 23 ?_ (by assumption)
 refine tq 13 24 ?_ (by assumption)
 refine wpAnyH_ready (rs := [14]) (by kernel_rfl) (by simp) ?_
 refine AllReadyH.cons rfl (fun K hK => ?_) ?_
 ·have c0 : (W.drew).cell? ⟨g3, 1, none⟩ = some (.int .i64 0) := (blk_cell E3.out 1).trans rfl
  have z0 : (W.drew).frozen? ⟨g3, 1, none⟩ = false := blk_frozen E3.out 1
  have HB := Lib.hid (below_put HB.out (v := .int .i64 s0) (j := 1) (g := g3) hlo)
  have E4 := Lib.hid (blk_far (p := ⟨g3, 1, none⟩) E4.out (by show g4 ≠ g3; exact hne) (.int .i64 s0))
  have E3 := Lib.hid (blk_put E3.out 1 (.int .i64 s0) rfl)
  go_simp
  refine hK.out _ _ ?_ (fun hHeld => ?_)
  focus ((try dsimp only); exact ⟨(blk_cell E4.out 0).trans rfl, (blk_cell E4.out 1).trans rfl, (blk_cell E4.out 2).trans rfl, (blk_cell E4.out 3).trans rfl, rd_in (t := 42) (k := 12) E4.out Tryz.isAgg42 Tryz.sizeOf42 (by show 4 + 12 ≤ 18; omega), (blk_cell E4.out 17).trans rfl⟩)
  clear hK K
  refine tq 15 25 ?_ (by assumption)
  refine tq 16 26 ?_ (by assumption)
  refine wpAnyH_ready (rs := [17]) (by kernel_rfl) (by simp) ?_
  refine AllReadyH.cons rfl (fun K hK => ?_) ?_
  ·have c1 : ((W.setCell ⟨g3, 1, none⟩ (.int .i64 s0)).drew).cell? ⟨g3, 2, none⟩ = some (.int .i64 0) := (blk_cell E3.out 2).trans rfl
   have z1 : ((W.setCell ⟨g3, 1, none⟩ (.int .i64 s0)).drew).frozen? ⟨g3, 2, none⟩ = false := blk_frozen E3.out 2
   have HB := Lib.hid (below_put HB.out (v := .int .i64 s1) (j := 2) (g := g3) hlo)
   have E4 := Lib.hid (blk_far (p := ⟨g3, 2, none⟩) E4.out (by show g4 ≠ g3; exact hne) (.int .i64 s1))
   have E3 := Lib.hid (blk_put E3.out 2 (.int .i64 s1) rfl)
   go_simp
   refine hK.out _ _ ?_ (fun hHeld => ?_)
   focus ((try dsimp only); exact ⟨(blk_cell E4.out 0).trans rfl, (blk_cell E4.out 1).trans rfl, (blk_cell E4.out 2).trans rfl, (blk_cell E4.out 3).trans rfl, rd_in (t := 42) (k := 12) E4.out Tryz.isAgg42 Tryz.sizeOf42 (by show 4 + 12 ≤ 18; omega), (blk_cell E4.out 17).trans rfl⟩)
   clear hK K
   refine tq 18 27 ?_ (by assumption)
   refine tq 19 28 ?_ (by assumption)
   refine wpAnyH_ready (rs := [20]) (by kernel_rfl) (by simp) ?_
   refine AllReadyH.cons rfl (fun K hK => ?_) ?_
   ·have c2 : (((W.setCell ⟨g3, 1, none⟩ (.int .i64 s0)).setCell ⟨g3, 2, none⟩ (.int .i64 s1)).drew).cell? ⟨g3, 3, none⟩ = some (.int .i64 0) := (blk_cell E3.out 3).trans rfl
    have z2 : (((W.setCell ⟨g3, 1, none⟩ (.int .i64 s0)).setCell ⟨g3, 2, none⟩ (.int .i64 s1)).drew).frozen? ⟨g3, 3, none⟩ = false := blk_frozen E3.out 3
    have HB := Lib.hid (below_put HB.out (v := .int .i64 s2) (j := 3) (g := g3) hlo)
    have E4 := Lib.hid (blk_far (p := ⟨g3, 3, none⟩) E4.out (by show g4 ≠ g3; exact hne) (.int .i64 s2))
    have E3 := Lib.hid (blk_put E3.out 3 (.int .i64 s2) rfl)
    go_simp
    refine hK.out _ _ ?_ (fun hHeld => ?_)
    focus ((try dsimp only); exact ⟨(blk_cell E4.out 0).trans rfl, (blk_cell E4.out 1).trans rfl, (blk_cell E4.out 2).trans rfl, (blk_cell E4.out 3).trans rfl, rd_in (t := 42) (k := 12) E4.out Tryz.isAgg42 Tryz.sizeOf42 (by show 4 + 12 ≤ 18; omega), (blk_cell E4.out 17).trans rfl⟩)
    clear hK K
    refine tq 21 29 ?_ (by assumption)
    refine tq 22 30 ?_ (by assumption)
    refine wpAnyH_ready (rs := [23]) (by kernel_rfl) (by simp) ?_
    refine AllReadyH.cons rfl (fun K hK => ?_) ?_
    ·have c3 : ((((W.setCell ⟨g3, 1, none⟩ (.int .i64 s0)).setCell ⟨g3, 2, none⟩ (.int .i64 s1)).setCell ⟨g3, 3, none⟩ (.int .i64 s2)).drew).cell? ⟨g3, 4, none⟩ = some (.int .i64 0) := (blk_cell E3.out 4).trans rfl
     have z3 : ((((W.setCell ⟨g3, 1, none⟩ (.int .i64 s0)).setCell ⟨g3, 2, none⟩ (.int .i64 s1)).setCell ⟨g3, 3, none⟩ (.int .i64 s2)).drew).frozen? ⟨g3, 4, none⟩ = false := blk_frozen E3.out 4
     have HB := Lib.hid (below_put HB.out (v := .int .i64 s3) (j := 4) (g := g3) hlo)
     have E4 := Lib.hid (blk_far (p := ⟨g3, 4, none⟩) E4.out (by show g4 ≠ g3; exact hne) (.int .i64 s3))
     have E3 := Lib.hid (blk_put E3.out 4 (.int .i64 s3) rfl)
     go_simp
     refine hK.out _ _ ?_ (fun hHeld => ?_)
     focus ((try dsimp only); exact ⟨(blk_cell E4.out 0).trans rfl, (blk_cell E4.out 1).trans rfl, (blk_cell E4.out 2).trans rfl, (blk_cell E4.out 3).trans rfl, rd_in (t := 42) (k := 12) E4.out Tryz.isAgg42 Tryz.sizeOf42 (by show 4 + 12 ≤ 18; omega), (blk_cell E4.out 17).trans rfl⟩)
     clear hK K
     refine tq 24 31 ?_ (by assumption)
     refine tq 25 32 ?_ (by assumption)
     refine wpAnyH_ready (rs := [26]) (by kernel_rfl) (by simp) ?_
     refine AllReadyH.cons rfl (fun K hK => ?_) ?_
     ·have E3L : (((((W.setCell ⟨g3, 1, none⟩ (.int .i64 s0)).setCell ⟨g3, 2, none⟩ (.int .i64 s1)).setCell ⟨g3, 3, none⟩ (.int .i64 s2)).setCell ⟨g3, 4, none⟩ (.int .i64 s3)).drew).heap[g3]? = some (Obj.cells ([.slice B nb cb, .int .i64 s0, .int .i64 s1, .int .i64 s2, .int .i64 s3, .int .i64 0, .int .i64 0, .int .i64 0, .int .i64 0, .int .i64 0, .int .i64 0, .int .i64 0, .int .i64 0, .int .i64 0, .int .i64 0, .int .i64 0, .int .i64 0, .slice none 0 0, .bool false] : List Value).toArray 57 (0, 0)) := E3.out
      have hst := wr42_in (o := 5) (cs := #[.int .i64 s4, .int .i64 s5, .int .i64 s6, .int .i64 s7, .int .i64 s8, .int .i64 s9, .int .i64 s10, .int .i64 s11, .int .i64 s12, .int .i64 s13, .int .i64 s14, .int .i64 s15]) E3L (by show 5 + 12 ≤ 19; omega) rfl (by simp [Value.oneCell'])
      have HB := Lib.hid (below_setRow HB.out hlo (splice ([.slice B nb cb, .int .i64 s0, .int .i64 s1, .int .i64 s2, .int .i64 s3, .int .i64 0, .int .i64 0, .int .i64 0, .int .i64 0, .int .i64 0, .int .i64 0, .int .i64 0, .int .i64 0, .int .i64 0, .int .i64 0, .int .i64 0, .int .i64 0, .slice none 0 0, .bool false] : List Value) 5 ([.int .i64 s4, .int .i64 s5, .int .i64 s6, .int .i64 s7, .int .i64 s8, .int .i64 s9, .int .i64 s10, .int .i64 s11, .int .i64 s12, .int .i64 s13, .int .i64 s14, .int .i64 s15] : List Value)).toArray)
      have E4 := Lib.hid ((setRow_other _ g3 g4 (splice ([.slice B nb cb, .int .i64 s0, .int .i64 s1, .int .i64 s2, .int .i64 s3, .int .i64 0, .int .i64 0, .int .i64 0, .int .i64 0, .int .i64 0, .int .i64 0, .int .i64 0, .int .i64 0, .int .i64 0, .int .i64 0, .int .i64 0, .int .i64 0, .slice none 0 0, .bool false] : List Value) 5 ([.int .i64 s4, .int .i64 s5, .int .i64 s6, .int .i64 s7, .int .i64 s8, .int .i64 s9, .int .i64 s10, .int .i64 s11, .int .i64 s12, .int .i64 s13, .int .i64 s14, .int .i64 s15] : List Value)).toArray hne).trans E4.out)
      have E3 := Lib.hid ((setRow_heap _ _ _ (splice ([.slice B nb cb, .int .i64 s0, .int .i64 s1, .int .i64 s2, .int .i64 s3, .int .i64 0, .int .i64 0, .int .i64 0, .int .i64 0, .int .i64 0, .int .i64 0, .int .i64 0, .int .i64 0, .int .i64 0, .int .i64 0, .int .i64 0, .int .i64 0, .slice none 0 0, .bool false] : List Value) 5 ([.int .i64 s4, .int .i64 s5, .int .i64 s6, .int .i64 s7, .int .i64 s8, .int .i64 s9, .int .i64 s10, .int .i64 s11, .int .i64 s12, .int .i64 s13, .int .i64 s14, .int .i64 s15] : List Value)).toArray _ _ E3L).trans (show _ = some (Obj.cells #[.slice B nb cb, .int .i64 s0, .int .i64 s1, .int .i64 s2, .int .i64 s3, .int .i64 s4, .int .i64 s5, .int .i64 s6, .int .i64 s7, .int .i64 s8, .int .i64 s9, .int .i64 s10, .int .i64 s11, .int .i64 s12, .int .i64 s13, .int .i64 s14, .int .i64 s15, .slice none 0 0, .bool false] 57 (0, 0)) from rfl))
      clear E3L
      go_simp
      refine hK.out _ _ ?_ (fun hHeld => ?_)
      focus ((try dsimp only); exact ⟨(blk_cell E4.out 0).trans rfl, (blk_cell E4.out 1).trans rfl, (blk_cell E4.out 2).trans rfl, (blk_cell E4.out 3).trans rfl, rd_in (t := 42) (k := 12) E4.out Tryz.isAgg42 Tryz.sizeOf42 (by show 4 + 12 ≤ 18; omega), (blk_cell E4.out 17).trans rfl⟩)
      clear hK K
      refine tq 27 33 ?_ (by assumption)
      refine tq 28 34 ?_ (by assumption)
      refine wpAnyH_ready (rs := [29]) (by kernel_rfl) (by simp) ?_
      refine AllReadyH.cons rfl (fun K hK => ?_) ?_
      ·have c5 := (blk_cell E3.out 18).trans rfl
       have z5 := blk_frozen E3.out 18
       have HB := Lib.hid (below_put HB.out (v := .bool hl) (j := 18) (g := g3) hlo)
       have E4 := Lib.hid (blk_far (p := ⟨g3, 18, none⟩) E4.out (by show g4 ≠ g3; exact hne) (.bool hl))
       have E3 := Lib.hid (blk_put E3.out 18 (.bool hl) rfl)
       go_simp
       refine hK.out _ _ ?_ (fun hHeld => ?_)
       focus ((try dsimp only); exact ⟨(blk_cell E4.out 0).trans rfl, (blk_cell E4.out 1).trans rfl, (blk_cell E4.out 2).trans rfl, (blk_cell E4.out 3).trans rfl, rd_in (t := 42) (k := 12) E4.out Tryz.isAgg42 Tryz.sizeOf42 (by show 4 + 12 ≤ 18; omega), (blk_cell E4.out 17).trans rfl⟩)
       clear hK K
       refine wpAnyH_done (by kernel_rfl) ?_ _
       refine NoPanic.normal ?_
       exact HPO.out _ _ _ _ _ _ _ _ _ _ _ _ _ _ _ _ _ _ _ _ _ _ _ _ _ E3.out E4.out HB.out
      exact AllReadyH.nil
     exact AllReadyH.nil
    exact AllReadyH.nil
   exact AllReadyH.nil
  exact AllReadyH.nil
 exact AllReadyH.nil
end Go.Proofs.YteilkbookcmndaaGreatDoor.C
end
